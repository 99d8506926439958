/-
  Joined texts. No condition beyond those that each theorem names. What they say:
  A walk of one call by a computed run over a frame that is a list of slots: what the run asks of memory and arithmetic is laid before it as facts; the kernel reckons the rest. No condition.
  What single operations give, as facts that a walk lays before a run. No condition beyond those that each theorem names.
  Single bit operations as sums and remainders. No condition beyond those that each theorem names.
  Memory in a walk: what reads as a list; what the call may write. No condition beyond those that each theorem names.
  Objects: variables of structs and arrays, and their cells. No condition beyond those that each theorem names.
  Compact steps of a walk: the stack and the slots are not told but reckoned; each step names only what the kernel can't find. No condition.
  From a row's reading of its arguments to what a walk is told of them. No condition.
  Rows lent to a callee, that may write them, and what comes back. No condition.
  A region that draws its order and writes: what yields one value in all worlds of a condition is taken first; of the rest one is ready at a time. No condition.
  Compact steps in a region that draws its order: what stands is not told but reckoned. No condition.
  Slices of structs: lists of records, told by the cells of each. Equality of structs of plain fields. No condition beyond those that each theorem names.
  A function whose results lie in variables. No condition beyond those that each theorem names.
  Characters and their bytes, as plain numbers and lists. No condition.
  The plain laws of layer 5. No condition beyond those that each theorem names.
  Terms of texts, as plain lists. No condition.
  The order of the 64 bits of floats, as plain numbers. No condition; no program in sight.
  The quotient of two whole numbers, rounded to the nearest number of 64 bits, as long division gives it. For numbers from 1 on below 2^53.
  The number of a text: as the program goes over it, and as the document's digits say. No condition beyond those that each theorem names.
  The bodies of five library functions stand in the program, numbered by shR. No condition.
-/
import Derived.WalkKit
import Derived.Orders
import Derived.Scope
import Derived.Deep.Quiet
import Derived.Laws.StructEq
import Derived.Recover
import Derived.KernelRfl
import Derived.IntWalk
import Derived.Below
import Derived.OwnWalk
import Derived.Laws.OwnMore
import Derived.Laws.MakeOwn
import Derived.Laws.Cells
import Derived.Laws.CopyRow
import Derived.ProofKit
import Derived.SizedLaws
import Derived.OpenShut
import Derived.ChangeOld
import Derived.ShutString
import Derived.OrdersHeld
import Derived.StillTail
import Ieee.Arith
import GoSem.Core.Float
import Derived.Laws.FloatArith
import Derived.Shelf.Strings.CaseAny
import Derived.Shelf.Strings.Search3
import Derived.Shelf.Strings.Repeat
import Derived.Shelf.Strconv.Itoa3
import Derived.Shelf.Strconv.Clone
import Derived.Test.YthpodbngljfdmaaGreatDoorChecked
namespace Go.Gw
set_option linter.unusedVariables false
set_option linter.unusedSimpArgs false

/-- it stands ready to leave -/
def endsIn (P : Program) (kd : CallKind) (fr : Frame) (w : World) (e : Ending) : Prop := (kd = .normal ∧ fr.leaving P w e) ∨ (fr.kind = kd ∧ fr.going P w e)
/-- from this stack, frame and world the call comes to an end that R allows -/
def Goes (P : Program) (f : FuncId) (R : Ending → World → Prop) (k : List Item) (a : Act) (w : World) (kd : CallKind := .normal) : Prop :=
  ∀ (b : Frame) (cs : List Frame), b.fn = f → b.kind = kd →
    ∃ e w' fr, R e w' ∧ Comes P (lone (b.at a k) cs w) (lone fr cs w') e ∧ fr.fn = f ∧ endsIn P kd fr w' e
/-- how a frame is called, and what it has put off -/
structure Fx where
  defers : List Deferred := []
  kind : CallKind := .normal
theorem going_leaving {P : Program} {fr : Frame} {w : World} {e : Ending} (hk : fr.kind = .normal) (h : fr.going P w e) : fr.leaving P w e := by
  cases e with
  | returned v => exact ⟨h.1, h.2.1, hk, h.2.2⟩
  | panicked c => exact h
  | outgrown => trivial
theorem endsIn.leaving {P : Program} {fr : Frame} {w : World} {e : Ending} (h : endsIn P .normal fr w e) : fr.leaving P w e := h.elim (fun h => h.2) (fun h => going_leaving h.1 h.2)

section
variable {P : Program} {f : FuncId} {R : Ending → World → Prop} {k k' : List Item} {a a' : Act} {w w' : World} {kd : CallKind}

theorem Goes.calls {fn : Func} {c : Code} {args : Array Value} (hf : P.funcs[f]? = some fn) (hb : fn.body = some c)
    (h : Goes P f R [.code c] { tmps := args ++ Array.replicate (fn.ntmps - args.size) undef, defers := [] } w) : Calls P f args w R := by
  intro cs
  let b : Frame := { (default : Frame) with fn := f, kind := .normal }
  have henter : Frame.enter P f args .normal =
      b.at { tmps := args ++ Array.replicate (fn.ntmps - args.size) undef, defers := [] } [.code c] := by
    simp [Frame.enter, Frame.at, hf, hb, b]
  obtain ⟨e, w', fr, hR, hc, hfn, hl⟩ := h b cs rfl rfl
  exact ⟨e, w', fr, hR, henter ▸ hc, hfn, hl.leaving⟩

theorem Goes.step (hs : ∀ (b : Frame) cs, step P (lone (b.at a k) cs w) = .next (lone (b.at a' k') cs w')) (h : Goes P f R k' a' w' kd) : Goes P f R k a w kd := by
  intro b cs hb hk
  obtain ⟨e, w'', fr, hR, hc, hfn, hl⟩ := h b cs hb hk
  exact ⟨e, w'', fr, hR, hc.of_steps (.one (hs b cs)), hfn, hl⟩

theorem Goes.wp {c : Code} (h : c.wp P (fun e a' w' => e = .normal ∧ Goes P f R k a' w' kd) a w) : Goes P f R (.code c :: k) a w kd := by
  intro b cs hb hk
  obtain ⟨e, a', w', ⟨rfl, hq⟩, harr⟩ := h b k cs
  obtain ⟨e, w'', fr, hR, hc, hfn, hl⟩ := hq b cs hb hk
  exact ⟨e, w'', fr, hR, hc.of_steps harr, hfn, hl⟩

theorem Goes.ret {fn : Func} {v : Value} (hf : P.funcs[f]? = some fn) (hd : a.defers = []) (hr : (results fn a.tmps).run P w = .ok v w) (hR : R (.returned v) w) :
    Goes P f R (.code .ret :: k) a w kd := fun _ _ hb hk =>
  ⟨.returned v, w, _, hR, .one step_ret, hb, .inr ⟨hk, rfl, hd, fn, hb ▸ hf, hr⟩⟩

theorem Goes.fin {fn : Func} {v : Value} (hf : P.funcs[f]? = some fn) (hd : a.defers = []) (hr : (results fn a.tmps).run P w = .ok v w) (hR : R (.returned v) w) :
    Goes P f R [] a w kd := fun _ _ hb hk =>
  ⟨.returned v, w, _, hR, .one step_end, hb, .inr ⟨hk, rfl, hd, fn, hb ▸ hf, hr⟩⟩

/-- one operation, by its weakest precondition -/
theorem Goes.oper {ops : Array Oper} {i : Nat} {rest : List Nat} {o : Oper} (ho : ops[i]? = some o) (hw : Region.wanted o (yielded ops a.tmps) = true)
    (h : o.wp P a w (fun a' w' => Goes P f R (.inRegion ops rest :: k) a' w' kd) (fun _ _ _ => False)) : Goes P f R (.inRegion ops (i :: rest) :: k) a w kd := by
  intro b cs hb hk
  simp only [Oper.wp, Oper.upon] at h
  have hg := stepG_op (P := P) (b := b) (k := k) (cs := cs) (w := w) (rest := rest) ho hw
  have hfin : ∀ v, (b.at a (.inRegion ops (i :: rest) :: k)).finish v = b.at (a.put o.dst v) (.inRegion ops rest :: k) := by
    intro v; rw [Frame.finish_at, ho]; rfl
  split at h
  · rename_i v w' hr
    obtain ⟨e, w'', fr, hR, hc, hfn, hl⟩ := h b cs hb hk
    refine ⟨e, w'', fr, hR, hc.of_steps (.one (step_lone_go ?_)), hfn, hl⟩
    rw [hg, ← hfin]; simp [stepG.apply, hr]
  · rename_i w' hr
    obtain ⟨e, w'', fr, hR, hc, hfn, hl⟩ := h b cs hb hk
    refine ⟨e, w'', fr, hR, hc.of_steps (.one (step_lone_go ?_)), hfn, hl⟩
    rw [hg, ← hfin]; simp [stepG.apply, hr]
  · rename_i d w' hr
    obtain ⟨e, w'', fr, hR, hc, hfn, hl⟩ := h b cs hb hk
    refine ⟨e, w'', fr, hR, hc.of_steps (.one (step_lone_go ?_)), hfn, hl⟩
    have : ({ b.at a (.inRegion ops (i :: rest) :: k) with defers := d :: a.defers } : Frame).finish undef =
        b.at ({ a with defers := d :: a.defers }.put o.dst undef) (.inRegion ops rest :: k) := by
      have := Frame.finish_at b { a with defers := d :: a.defers } ops i rest k undef
      rw [ho] at this; exact this
    rw [hg]; simp only [stepG.apply, Sem.runT_eq, hr, GStep.bare_after]
    exact congrArg (fun fr => GStep.go { frame := fr, callers := cs, status := .running, dying := none } w') this
  · rename_i g args w' hr
    obtain ⟨e, w'', fr, hR, hsteps, hfn, hleave⟩ := h (b.at a (.inRegion ops (i :: rest) :: k) :: cs)
    have henter : Go.step P (lone (b.at a (.inRegion ops (i :: rest) :: k)) cs w) =
        .next (lone (Frame.enter P g args .normal) (b.at a (.inRegion ops (i :: rest) :: k) :: cs) w') :=
      step_lone_go (by rw [hg]; simp [stepG.apply, hr, Frame.at])
    cases e with
    | returned v =>
      obtain ⟨e, w3, fr', hR', hc, hfn', hl⟩ := hR b cs hb hk
      refine ⟨e, w3, fr', hR', hc.of_steps (.head henter (Steps.trans hsteps (.one ?_))), hfn', hl⟩
      rw [← hfin]; exact step_leave_returned hleave
    | panicked chain => exact hR.elim
    | outgrown => exact (let ⟨_, _, h⟩ := hR; h.elim)
  · rename_i row args w' hr
    obtain ⟨v, w'', hR, hsteps⟩ := h (b.at a (.inRegion ops (i :: rest) :: k)) cs
    have henter : Go.step P (lone (b.at a (.inRegion ops (i :: rest) :: k)) cs w) =
        .next (lone (Frame.ofRow P row args .normal) (b.at a (.inRegion ops (i :: rest) :: k) :: cs) w') :=
      step_lone_go (by rw [hg]; simp [stepG.apply, hr, Frame.at])
    obtain ⟨e, w3, fr', hR', hc, hfn', hl⟩ := hR b cs hb hk
    refine ⟨e, w3, fr', hR', hc.of_steps (.head henter ?_), hfn', hl⟩
    rw [← hfin]; exact hsteps
  · exact h.elim
  · exact h.elim
end

/-! ### a frame as a list of the slots that are known -/

abbrev Sl := List (Nat × Value)
def look : Sl → Nat → Option Value
  | [], _ => none
  | (i, v) :: r, t => bif Nat.beq i t then some v else look r t
def evalS (l : Sl) : Operand → Option Value
  | .tmp t => look l t
  | .const v => some v
  | .global g => some (.pointer (some ⟨g, 0, none⟩))
  | .func f => some (.func (.func f) #[] #[])
def rho (l : Sl) (x : Operand) : Value := match evalS l x with | some v => v | none => undef
def putS (l : Sl) (dst : Option Tmp) (v : Value) : Sl := match dst with | some d => (d, v) :: l | none => l
/-- the slots that are kept -/
def keep (l : Sl) : List Nat → Sl
  | [] => []
  | t :: ts => match look l t with | some v => (t, v) :: keep l ts | none => keep l ts

structure Fits (a : Act) (n : Nat) (l : Sl) (D : Fx := {}) : Prop where
  defers : a.defers = D.defers
  size : a.tmps.size = n
  get : ∀ t v, look l t = some v → a.tmps.getD t undef = v

theorem look_keep {l : Sl} {t : Nat} {v : Value} : ∀ {ts : List Nat}, look (keep l ts) t = some v → look l t = some v
  | [], h => by simp [keep, look] at h
  | s :: ts, h => by
    unfold keep at h
    split at h
    · rename_i u hu
      simp only [look] at h
      by_cases e : Nat.beq s t = true
      · simp only [e, cond_true, Option.some.injEq] at h
        have : s = t := Nat.eq_of_beq_eq_true e
        subst this; rw [hu, h]
      · simp only [e, cond_false] at h
        exact look_keep h
    · exact look_keep h

theorem Fits.keep {D : Fx} {a : Act} {n : Nat} {l : Sl} (h : Fits a n l D) (ts : List Nat) : Fits a n (keep l ts) D := ⟨h.defers, h.size, fun t v hv => h.get t v (look_keep hv)⟩

def inB (n : Nat) : Option Tmp → Bool
  | some d => Nat.blt d n
  | none => true

theorem Fits.put {D : Fx} {a : Act} {n : Nat} {l : Sl} (h : Fits a n l D) (dst : Option Tmp) (v : Value) (hd : inB n dst = true) : Fits (a.put dst v) n (putS l dst v) D := by
  cases dst with
  | none => exact h
  | some d =>
    have hd' : d < n := Nat.lt_of_succ_le (Nat.le_of_ble_eq_true hd)
    refine ⟨h.defers, by simp [Act.put, h.size], fun t u hu => ?_⟩
    simp only [putS, look] at hu
    by_cases e : Nat.beq d t = true
    · simp only [e, cond_true, Option.some.injEq] at hu
      have : d = t := Nat.eq_of_beq_eq_true e
      subst this
      simp [Act.put, hu, h.size, hd']
    · simp only [e, cond_false] at hu
      have hne : d ≠ t := fun x => e (by subst x; exact Nat.beq_refl d)
      have := h.get t u hu
      simp only [Act.put, Array.getD_eq_getD_getElem?] at *
      rw [Array.getElem?_setIfInBounds_ne hne]
      exact this

/-- what is known of a stack's end: from every frame that fits -/
def GoS (P : Program) (f : FuncId) (R : Ending → World → Prop) (n : Nat) (k : List Item) (l : Sl) (w : World) (D : Fx := {}) : Prop := ∀ a, Fits a n l D → Goes P f R k a w D.kind

theorem GoS.weak {D : Fx} {P : Program} {f : FuncId} {R : Ending → World → Prop} {n : Nat} {k : List Item} {l : Sl} {w : World} (ts : List Nat) (h : GoS P f R n k (keep l ts) w D) : GoS P f R n k l w D :=
  fun a ha => h a (ha.keep ts)

/-- what an operation is told before it is run: nothing; its value; its value and the world behind it -/
def Cmd : Type := Option (Value × Option World)
def Cmd.n : Cmd := none
def Cmd.h (v : Value) : Cmd := some (v, none)
def Cmd.u (v : Value) (w : World) : Cmd := some (v, some w)

/-- all of them hold -/
def Obs : List Prop → Prop
  | [] => True
  | p :: ps => p ∧ Obs ps
theorem Obs.nil : Obs [] := trivial
theorem Obs.cons {p : Prop} {ps : List Prop} (h : p) (hs : Obs ps) : Obs (p :: ps) := ⟨h, hs⟩

/-- what is owed for an operation of which the value is told -/
def owed (P : Program) (o : Oper) (ρ : Operand → Value) (w : World) (v : Value) (w' : World) : Prop :=
  match o.op with
  | .binOp .add t x y _ => (binOp .add t (ρ x) (ρ y)).run P w = .ok v w'
  | .binOp .sub t x y _ => (binOp .sub t (ρ x) (ρ y)).run P w = .ok v w'
  | .binOp .mul t x y _ => (binOp .mul t (ρ x) (ρ y)).run P w = .ok v w'
  | .binOp .quo t x y _ => (binOp .quo t (ρ x) (ρ y)).run P w = .ok v w'
  | .binOp .rem t x y _ => (binOp .rem t (ρ x) (ρ y)).run P w = .ok v w'
  | .binOp .and t x y _ => (binOp .and t (ρ x) (ρ y)).run P w = .ok v w'
  | .binOp .or t x y _ => (binOp .or t (ρ x) (ρ y)).run P w = .ok v w'
  | .binOp .xor t x y _ => (binOp .xor t (ρ x) (ρ y)).run P w = .ok v w'
  | .binOp .shl t x y _ => (binOp .shl t (ρ x) (ρ y)).run P w = .ok v w'
  | .binOp .shr t x y _ => (binOp .shr t (ρ x) (ρ y)).run P w = .ok v w'
  | .binOp .eql t x y _ => match ρ x, ρ y with
    | .string a, .string b => (binOp .eql t (.string a) (.string b)).run P w = .ok v w'
    | .bool a, .bool b => P.underlying t = some .bool ∧ w' = w ∧ v = .bool (a == b)
    | .int k a, .int k' b => k = k' ∧ w' = w ∧ v = .bool (a == b)
    | .agg a, .agg b => P.eqGuardType P.depth t = false ∧ (binOp .eql t (.agg a) (.agg b)).run P w = .ok v w'
    | .pointer a, .pointer b => (binOp .eql t (.pointer a) (.pointer b)).run P w = .ok v w'
    | _, _ => (execOp ρ o).run P w = .ok (.value v) w'
  | .binOp .neq t x y _ => match ρ x, ρ y with
    | .string a, .string b => (binOp .neq t (.string a) (.string b)).run P w = .ok v w'
    | .bool a, .bool b => P.underlying t = some .bool ∧ w' = w ∧ v = .bool (!(a == b))
    | .int k a, .int k' b => k = k' ∧ w' = w ∧ v = .bool (a != b)
    | .agg a, .agg b => P.eqGuardType P.depth t = false ∧ (binOp .neq t (.agg a) (.agg b)).run P w = .ok v w'
    | .pointer a, .pointer b => (binOp .neq t (.pointer a) (.pointer b)).run P w = .ok v w'
    | _, _ => (execOp ρ o).run P w = .ok (.value v) w'
  | .binOp .lss t x y _ => (binOp .lss t (ρ x) (ρ y)).run P w = .ok v w'
  | .load t x => (Instr.loadAt t (ρ x)).run P w = .ok v w'
  | .indexAddr t x i => (Instr.indexAt t (ρ x) (ρ i)).run P w = .ok v w'
  | .index t x i => (Instr.index t (ρ x) (ρ i)).run P w = .ok v w'
  | .slice t x lo hi mx => (Instr.sliceAt t (ρ x) (lo.map ρ) (hi.map ρ) (mx.map ρ)).run P w = .ok v w'
  | .convert s d x => (convert s d (ρ x)).run P w = .ok v w'
  | .alloc t => (Instr.alloc t true (.tuple #[])).run P w = .ok v w'
  | .box t x => (Instr.box t (ρ x)).run P w = .ok v w'
  | .makeSlice t x y => (Instr.makeSlice t (ρ x) (ρ y)).run P w = .ok v w'
  | .buildSlice t n ps => (Instr.buildSlice t n (ps.map fun (i, x) => (i, ρ x))).run P w = .ok v w'
  | .build t ps => (Instr.build t (ps.map fun (i, x) => (i, ρ x))).run P w = .ok v w'
  | .store t x y => (Instr.storeAt t (ρ x) (ρ y)).run P w = .ok () w' ∧ v = undef
  | .call { callee := .builtin .append, args, argTypes } => (Builtin.append_ argTypes o.type (args.map ρ)).run P w = .ok v w'
  | .call { callee := .builtin .copy, args, argTypes } => (Builtin.copy_ argTypes o.type (args.map ρ)).run P w = .ok v w'
  | .call { callee := .builtin .clear, args, argTypes } => (Builtin.clear_ argTypes o.type (args.map ρ)).run P w = .ok v w'
  | .makeMap t r => (Instr.makeMap t (r.map ρ)).run P w = .ok v w'
  | .lookup t x i c => (Instr.lookup t (ρ x) (ρ i) c).run P w = .ok v w'
  | .mapUpdate t m k x => (Instr.mapUpdate t (ρ m) (ρ k) (ρ x)).run P w = .ok () w' ∧ v = undef
  | .call { callee := .builtin .len, args, argTypes } => (Builtin.len_ argTypes o.type (args.map ρ)).run P w = .ok v w'
  | .call { callee := .builtin .unsafeString, args, argTypes } => (Builtin.unsafeString_ argTypes o.type (args.map ρ)).run P w = .ok v w'
  | .call { callee := .builtin .unsafeSliceData, args, argTypes } => (Builtin.unsafeSliceData_ argTypes o.type (args.map ρ)).run P w = .ok v w'
  | .call { callee := .builtin .min, args, argTypes } => (Builtin.min_ argTypes o.type (args.map ρ)).run P w = .ok v w'
  | .call { callee := .builtin .max, args, argTypes } => (Builtin.max_ argTypes o.type (args.map ρ)).run P w = .ok v w'
  | _ => (execOp ρ o).run P w = .ok (.value v) w'

theorem run_pure_value {P : Program} {s : Sem Value} {w w' : World} {v : Value} (h : s.run P w = .ok v w') : Sem.run P (do pure (Next.value (← s))) w = .ok (.value v) w' := by
  simp [h]

theorem guard_bool {P : Program} (op : BinOp) (t : TypeId) (p q : Operand) (a b : Bool) (w : World) : (eqGuard op t p q (.bool a) (.bool b)).run P w = .ok () w := by
  cases op <;> rfl
theorem guard_ptr {P : Program} (op : BinOp) (t : TypeId) (p q : Operand) (a b : Option Addr) (w : World) : (eqGuard op t p q (.pointer a) (.pointer b)).run P w = .ok () w := by
  cases op <;> rfl
theorem guard_int {P : Program} (op : BinOp) (t : TypeId) (p q : Operand) (k k' : IntKind) (a b : Int) (w : World) : (eqGuard op t p q (.int k a) (.int k' b)).run P w = .ok () w := by
  cases op <;> rfl
def isStore : Op → Bool
  | .store .. => true
  | .mapUpdate .. => true
  | _ => false
theorem owed_run2 {P : Program} {o : Oper} {ρ : Operand → Value} {w w' : World} {v : Value} (h : owed P o ρ w v w') :
    (execOp ρ o).run P w = .ok (.value v) w' ∨ ((execOp ρ o).run P w = .ok .skip w' ∧ v = undef ∧ isStore o.op = true) := by
  have str : ∀ op t x y p (a b : ByteArray), o.op = .binOp op t x y p → ρ x = .string a → ρ y = .string b → (binOp op t (.string a) (.string b)).run P w = .ok v w' → (execOp ρ o).run P w = .ok (.value v) w' := by
    intro op t x y p a b heq hx hy h
    unfold execOp
    rw [heq]
    refine run_pure_value ?_
    rw [hx, hy]
    unfold eqGuard
    cases op <;> simp [h]
  unfold owed at h
  split at h
  all_goals try (rename_i heq; left; unfold execOp; rw [heq]; exact run_pure_value h)
  all_goals try (rename_i heq; left; unfold execOp; rw [heq]; simp [eqGuard, h]; done)
  · rename_i heq
    split at h
    · rename_i hx hy
      exact .inl (str _ _ _ _ _ _ _ heq hx hy h)
    · rename_i hx hy
      obtain ⟨h1, rfl, rfl⟩ := h
      left; unfold execOp; rw [heq]
      refine run_pure_value ?_
      rw [hx, hy]
      simp only [Sem.run_bind, guard_bool, Result.andThen_ok]
      exact run_eql_bool _ _ _ _ h1
    · rename_i hx hy
      obtain ⟨rfl, rfl, rfl⟩ := h
      left; unfold execOp; rw [heq]
      refine run_pure_value ?_
      rw [hx, hy]
      simp only [Sem.run_bind, guard_int, Result.andThen_ok]
      simp [binOp, Op.intCmp]
    · rename_i hx hy
      left; unfold execOp; rw [heq]
      refine run_pure_value ?_
      rw [hx, hy]
      simp only [Sem.run_bind, run_eqGuard_agg _ _ _ _ _ _ _ h.1, Result.andThen_ok]
      exact h.2
    · rename_i hx hy
      left; unfold execOp; rw [heq]
      refine run_pure_value ?_
      rw [hx, hy]
      simp only [Sem.run_bind, guard_ptr, Result.andThen_ok]
      exact h
    · exact .inl h
  · rename_i heq
    split at h
    · rename_i hx hy
      exact .inl (str _ _ _ _ _ _ _ heq hx hy h)
    · rename_i hx hy
      obtain ⟨h1, rfl, rfl⟩ := h
      left; unfold execOp; rw [heq]
      refine run_pure_value ?_
      rw [hx, hy]
      simp only [Sem.run_bind, guard_bool, Result.andThen_ok]
      exact run_neq_bool _ _ _ _ h1
    · rename_i hx hy
      obtain ⟨rfl, rfl, rfl⟩ := h
      left; unfold execOp; rw [heq]
      refine run_pure_value ?_
      rw [hx, hy]
      simp only [Sem.run_bind, guard_int, Result.andThen_ok]
      simp [binOp, Op.intCmp]
    · rename_i hx hy
      left; unfold execOp; rw [heq]
      refine run_pure_value ?_
      rw [hx, hy]
      simp only [Sem.run_bind, run_eqGuard_agg _ _ _ _ _ _ _ h.1, Result.andThen_ok]
      exact h.2
    · rename_i hx hy
      left; unfold execOp; rw [heq]
      refine run_pure_value ?_
      rw [hx, hy]
      simp only [Sem.run_bind, guard_ptr, Result.andThen_ok]
      exact h
    · exact .inl h
  · rename_i heq
    right
    refine ⟨?_, h.2, by rw [heq]; rfl⟩
    unfold execOp
    simp [heq, h.1]
  · rename_i heq
    right
    refine ⟨?_, h.2, by rw [heq]; rfl⟩
    unfold execOp
    simp [heq, h.1]
  · exact .inl h
theorem owed_run {P : Program} {o : Oper} {ρ : Operand → Value} {w w' : World} {v : Value} (h : owed P o ρ w v w') :
    (execOp ρ o).run P w = .ok (.value v) w' ∨ ((execOp ρ o).run P w = .ok .skip w' ∧ v = undef) := (owed_run2 h).imp id fun h => ⟨h.1, h.2.1⟩

/-- every operand is known -/
def known (l : Sl) : List Operand → Bool
  | [] => true
  | x :: xs => match evalS l x with | some _ => known l xs | none => false

def noSel : Op → Bool
  | .select .. => false
  | _ => true

def wantedS (ops : Array Oper) (l : Sl) (o : Oper) : Option Bool :=
  match o.guard with
  | none => some true
  | some (j, b) =>
    match (ops[j]?).bind (·.dst) with
    | none => none
    | some d => match look l d with
      | some (.bool c) => some (match c, b with | true, true => true | false, false => true | _, _ => false)
      | some (.tuple _) => some false
      | _ => none

/-- the result of a run: what is owed, and where it stands -/
structure Rs where
  obs : List Prop
  k : List Item
  l : Sl
  w : World

def opS (P : Program) (n : Nat) (ops : Array Oper) (rest : List Nat) (k : List Item) (l : Sl) (w : World) (o : Oper) (c : Cmd) : Option (Prop × List Item × Sl × World) :=
  match known l o.op.operands.toList, noSel o.op, inB n o.dst with
  | true, true, true =>
    match c with
    | none => match (execOp (rho l) o).run P w with
      | .ok (.value v) w' => some (True, .inRegion ops rest :: k, putS l o.dst v, w')
      | .ok .skip w' => some (True, .inRegion ops rest :: k, putS l o.dst undef, w')
      | _ => none
    | some (v, none) => some (owed P o (rho l) w v w, .inRegion ops rest :: k, putS l o.dst v, w)
    | some (v, some w') => some (owed P o (rho l) w v w', .inRegion ops rest :: k, putS l o.dst v, w')
  | _, _, _ => none

def stepS (P : Program) (n : Nat) (k : List Item) (l : Sl) (w : World) (c : Cmd) : Option (Prop × List Item × Sl × World) :=
  match k with
  | .code .skip :: k => some (True, k, l, w)
  | .code (.seq x y) :: k => some (True, .code x :: .code y :: k, l, w)
  | .code (.block id c) :: k => some (True, .code c :: .inBlock id :: k, l, w)
  | .code (.loop c) :: k => some (True, .code c :: .inLoop c :: k, l, w)
  | .code (.scope c) :: k => some (True, .code c :: .inScope c :: k, l, w)
  | .code (.label _) :: k => some (True, k, l, w)
  | .code (.exit id) :: k => match exitTo id k with | some k' => some (True, k', l, w) | none => none
  | .code (.region _ ops false) :: k => some (True, .inRegion ops (List.range ops.size) :: k, l, w)
  | .code (.cond c x y) :: k => match evalS l c with | some (.bool true) => some (True, .code x :: k, l, w) | some (.bool false) => some (True, .code y :: k, l, w) | _ => none
  | .inBlock _ :: k => some (True, k, l, w)
  | .inScope _ :: k => some (True, k, l, w)
  | .inLoop c :: k => some (True, .code c :: .inLoop c :: k, l, w)
  | .inRegion _ [] :: k => some (True, k, l, w)
  | .inRegion ops (i :: rest) :: k => match ops[i]? with
    | none => none
    | some o => match wantedS ops l o with
      | some true => opS P n ops rest k l w o c
      | some false => match inB n o.dst with | true => some (True, .inRegion ops rest :: k, putS l o.dst undef, w) | false => none
      | none => none
  | _ => none

/-- the run: a command a step -/
def run (P : Program) (n : Nat) : List Cmd → List Item → Sl → World → Option Rs
  | [], k, l, w => some ⟨[], k, l, w⟩
  | c :: cs, k, l, w => match stepS P n k l w c with
    | none => none
    | some (p, k', l', w') => match run P n cs k' l' w' with
      | none => none
      | some r => some ⟨match c with | none => r.obs | _ => p :: r.obs, r.k, r.l, r.w⟩

/-- the same, the slots at its end struck but for those that are kept -/
def runs (P : Program) (n : Nat) (ts : List Nat) (cs : List Cmd) (k : List Item) (l : Sl) (w : World) : Option Rs :=
  match run P n cs k l w with
  | none => none
  | some r => some ⟨r.obs, r.k, keep r.l ts, r.w⟩

section
variable {P : Program} {f : FuncId} {R : Ending → World → Prop} {n : Nat} {k k' : List Item} {l l' : Sl} {w w' : World} {D : Fx}

theorem Fits.eval {a : Act} (h : Fits a n l D) {x : Operand} {v : Value} (hx : evalS l x = some v) : a.eval x = v := by
  cases x with
  | tmp t => exact h.get t v hx
  | const u => simp [evalS] at hx; exact hx
  | global g => simp [evalS] at hx; exact hx
  | func g => simp [evalS] at hx; exact hx

theorem known_spec {xs : List Operand} (h : known l xs = true) : ∀ x ∈ xs, ∃ v, evalS l x = some v := by
  induction xs with
  | nil => intro x hx; cases hx
  | cons y ys ih =>
    intro x hx
    unfold known at h
    split at h
    · rename_i v hv
      cases hx with
      | head => exact ⟨v, hv⟩
      | tail _ hm => exact ih h x hm
    · cases h

theorem noSel_spec {o : Op} (h : noSel o = true) : ∀ cs b, o ≠ .select cs b := by
  intro cs b e; subst e; simp [noSel] at h

theorem exec_eq {a : Act} (h : Fits a n l D) {o : Oper} (hk : known l o.op.operands.toList = true) (hs : noSel o.op = true) : execOp a.eval o = execOp (rho l) o := by
  refine execOp_congr o (noSel_spec hs) fun x hx => ?_
  obtain ⟨v, hv⟩ := known_spec hk x (by simpa using hx)
  rw [h.eval hv, rho, hv]

theorem wanted_eq {a : Act} (h : Fits a n l D) {ops : Array Oper} {o : Oper} {b : Bool} (hw : wantedS ops l o = some b) : Region.wanted o (yielded ops a.tmps) = b := by
  unfold wantedS at hw
  unfold Region.wanted
  split at hw
  · rename_i hg; simp only [hg]; simpa using hw
  · rename_i j c hg
    simp only [hg]
    split at hw
    · cases hw
    · rename_i d hd
      have key : ∀ v, look l d = some v → (∃ b, v = .bool b) ∨ (∃ t, v = .tuple t ∧ t ≠ #[] ∨ v = .tuple t) → a.tmps.getD d undef = v := fun v hv _ => h.get d v hv
      split at hw
      · rename_i x hx
        have hv := h.get d _ hx
        have hy : yielded ops a.tmps j = some x := by
          unfold yielded
          rw [hd]
          simp only [Option.bind_some]
          rw [Array.getD_eq_getD_getElem?] at hv
          cases hq : a.tmps[d]? with
          | none => rw [hq] at hv; simp [undef] at hv
          | some u => rw [hq] at hv; simp at hv; subst hv; rfl
        rw [hy]
        cases x <;> cases c <;> simp_all
      · rename_i x hx
        have hv := h.get d _ hx
        have hy : yielded ops a.tmps j = none := by
          unfold yielded
          rw [hd]
          simp only [Option.bind_some]
          rw [Array.getD_eq_getD_getElem?] at hv
          cases hq : a.tmps[d]? with
          | none => rfl
          | some u => rw [hq] at hv; simp at hv; subst hv; rfl
        rw [hy]
        simp at hw
        subst hw
        rfl
      · cases hw

theorem stepS_goes {c : Cmd} {p : Prop} (h : stepS P n k l w c = some (p, k', l', w')) (hp : p) (hk : GoS P f R n k' l' w' D) : GoS P f R n k l w D := by
  intro a ha
  unfold stepS at h
  split at h
  · simp at h; obtain ⟨-, rfl, rfl, rfl⟩ := h; exact Goes.step (fun _ _ => step_skip) (hk a ha)
  · simp at h; obtain ⟨-, rfl, rfl, rfl⟩ := h; exact Goes.step (fun _ _ => step_seq) (hk a ha)
  · simp at h; obtain ⟨-, rfl, rfl, rfl⟩ := h; exact Goes.step (fun _ _ => step_block) (hk a ha)
  · simp at h; obtain ⟨-, rfl, rfl, rfl⟩ := h; exact Goes.step (fun _ _ => step_loop) (hk a ha)
  · simp at h; obtain ⟨-, rfl, rfl, rfl⟩ := h; exact Goes.step (fun _ _ => step_scope) (hk a ha)
  · simp at h; obtain ⟨-, rfl, rfl, rfl⟩ := h; exact Goes.step (fun _ _ => step_label) (hk a ha)
  · split at h
    · rename_i hx; simp at h; obtain ⟨-, rfl, rfl, rfl⟩ := h; exact Goes.step (fun _ _ => step_exit hx) (hk a ha)
    · cases h
  · simp at h; obtain ⟨-, rfl, rfl, rfl⟩ := h; exact Goes.step (fun _ _ => step_region) (hk a ha)
  · split at h
    · rename_i hx; simp at h; obtain ⟨-, rfl, rfl, rfl⟩ := h
      exact Goes.step (fun _ _ => step_cond (ha.eval hx)) (hk a ha)
    · rename_i hx; simp at h; obtain ⟨-, rfl, rfl, rfl⟩ := h
      exact Goes.step (fun _ _ => step_cond (ha.eval hx)) (hk a ha)
    · cases h
  · simp at h; obtain ⟨-, rfl, rfl, rfl⟩ := h; exact Goes.step (fun _ _ => step_inBlock) (hk a ha)
  · simp at h; obtain ⟨-, rfl, rfl, rfl⟩ := h; exact Goes.step (fun _ _ => step_inScope) (hk a ha)
  · simp at h; obtain ⟨-, rfl, rfl, rfl⟩ := h; exact Goes.step (fun _ _ => step_inLoop) (hk a ha)
  · simp at h; obtain ⟨-, rfl, rfl, rfl⟩ := h; exact Goes.step (fun _ _ => step_region_end) (hk a ha)
  · split at h
    · cases h
    · rename_i ops i rest k0 _ o ho
      split at h
      · rename_i hw
        have hw' := wanted_eq ha hw
        unfold opS at h
        split at h
        · rename_i h1 h2 h3
          have he := exec_eq ha h1 h2
          refine Goes.oper ho hw' ?_
          unfold Oper.wp
          rw [he]
          split at h
          · split at h
            · rename_i v w1 hr
              simp at h; obtain ⟨-, rfl, rfl, rfl⟩ := h
              rw [hr]; exact hk _ (ha.put _ _ h3)
            · rename_i w1 hr
              simp at h; obtain ⟨-, rfl, rfl, rfl⟩ := h
              rw [hr]; exact hk _ (ha.put _ _ h3)
            · cases h
          · rename_i v
            simp only [Option.some.injEq, Prod.mk.injEq] at h; obtain ⟨rfl, rfl, rfl, rfl⟩ := h
            rcases owed_run hp with hr | ⟨hr, rfl⟩ <;> rw [hr] <;> exact hk _ (ha.put _ _ h3)
          · rename_i v w1
            simp only [Option.some.injEq, Prod.mk.injEq] at h; obtain ⟨rfl, rfl, rfl, rfl⟩ := h
            rcases owed_run hp with hr | ⟨hr, rfl⟩ <;> rw [hr] <;> exact hk _ (ha.put _ _ h3)
        · cases h
      · rename_i hw
        have hw' := wanted_eq ha hw
        split at h
        · rename_i h3
          simp at h; obtain ⟨-, rfl, rfl, rfl⟩ := h
          have hs : ∀ (b : Frame) cs, step P (lone (b.at a (.inRegion ops (i :: rest) :: k0)) cs w) = .next (lone (b.at (a.put ((ops[i]?).bind (·.dst)) undef) (.inRegion ops rest :: k0)) cs w) := fun b cs =>
            step_op_skip (by simp [ho, hw'])
          simp only [ho, Option.bind_some] at hs
          exact Goes.step hs (hk _ (ha.put _ _ h3))
        · cases h
      · cases h
  · cases h

theorem run_goes : ∀ {cs : List Cmd} {k : List Item} {l : Sl} {w : World} {r : Rs}, run P n cs k l w = some r → Obs r.obs → GoS P f R n r.k r.l r.w D → GoS P f R n k l w D
  | [], k, l, w, r, h, _, hk => by simp [run] at h; subst h; exact hk
  | c :: cs, k, l, w, r, h, ho, hk => by
    unfold run at h
    split at h
    · cases h
    · rename_i p k1 l1 w1 hs
      split at h
      · cases h
      · rename_i r1 hr
        simp only [Option.some.injEq] at h
        subst h
        have hp : p ∧ Obs r1.obs := by
          rcases c with _ | ⟨v, _ | w2⟩
          ·
            refine ⟨?_, ho⟩
            have : p = True := by
              clear hr ho hk
              unfold stepS at hs
              repeat' split at hs
              all_goals try contradiction
              all_goals try (simp only [Option.some.injEq, Prod.mk.injEq] at hs; exact hs.1.symm)
              unfold opS at hs
              repeat' split at hs
              all_goals try contradiction
              all_goals try (simp only [Option.some.injEq, Prod.mk.injEq] at hs; exact hs.1.symm)
            rw [this]; trivial
          · exact ho
          · exact ho
        exact stepS_goes hs hp.1 (run_goes hr hp.2 hk)

/-- THE STEP OF A PROOF: a run, what it owes, what stands behind it -/
theorem GoS.run (ts : List Nat) (cs : List Cmd) (ps : List Prop) (k' : List Item) (l' : Sl) (w' : World) (h : runs P n ts cs k l w = some ⟨ps, k', l', w'⟩) (ho : Obs ps) (hk : GoS P f R n k' l' w' D) : GoS P f R n k l w D := by
  unfold runs at h
  split at h
  · cases h
  · rename_i r hr
    simp only [Option.some.injEq, Rs.mk.injEq] at h
    obtain ⟨rfl, rfl, rfl, rfl⟩ := h
    exact run_goes hr ho (hk.weak ts)

/-- a function's code; a part of it; a region's operations -/
def cd (fn : Func) : Code := match fn.body with | some c => c | none => .skip
def csub : Code → List Nat → Code
  | c, [] => c
  | .seq a b, i :: r => csub (match i with | 0 => a | _ => b) r
  | .cond _ a b, i :: r => csub (match i with | 0 => a | _ => b) r
  | .block _ a, _ :: r => csub a r
  | .loop a, _ :: r => csub a r
  | .scope a, _ :: r => csub a r
  | c, _ => c
def cops : Code → Array Oper
  | .region _ ops _ => ops
  | _ => #[]

/-- a test -/
def condS (k : List Item) (l : Sl) : Option (Bool × List Item × List Item) :=
  match k with
  | .code (.cond c x y) :: r => match evalS l c with
    | some (.bool b) => some (b, .code x :: r, .code y :: r)
    | _ => none
  | _ => none
theorem GoS.cond (b : Bool) (k1 k2 : List Item) (hc : condS k l = some (b, k1, k2)) (ht : b = true → GoS P f R n k1 l w D) (hf : b = false → GoS P f R n k2 l w D) : GoS P f R n k l w D := by
  intro a ha
  unfold condS at hc
  split at hc
  · split at hc
    · rename_i hx
      simp only [Option.some.injEq, Prod.mk.injEq] at hc
      obtain ⟨rfl, rfl, rfl⟩ := hc
      rename_i b
      cases b with
      | true => exact Goes.step (fun _ _ => step_cond (t := true) (ha.eval hx)) (ht rfl a ha)
      | false => exact Goes.step (fun _ _ => step_cond (t := false) (ha.eval hx)) (hf rfl a ha)
    · cases hc
  · cases hc


theorem GoS.cast {l l' : Sl} (h : l' = l) (hk : GoS P f R n k l w D) : GoS P f R n k l' w D := h ▸ hk
/-- a Bool that a slot holds, parted -/
theorem GoS.fork (t : Nat) (b : Bool) (hc : look l t = some (.bool b)) (ht : b = true → GoS P f R n k ((t, .bool true) :: l) w D) (hf : b = false → GoS P f R n k ((t, .bool false) :: l) w D) :
    GoS P f R n k l w D := by
  have key : ∀ c : Bool, b = c → GoS P f R n k ((t, .bool c) :: l) w D → GoS P f R n k l w D := by
    intro c e h a ha
    subst e
    refine h a ⟨ha.defers, ha.size, fun u v hv => ?_⟩
    unfold look at hv
    by_cases e : Nat.beq t u = true
    · simp only [e, cond_true, Option.some.injEq] at hv
      have : t = u := Nat.eq_of_beq_eq_true e
      subst this; subst hv
      exact ha.get _ _ hc
    · simp only [e, cond_false] at hv
      exact ha.get _ _ hv
  cases b with
  | true => exact key true rfl (ht rfl)
  | false => exact key false rfl (hf rfl)

/-- a call: which function, its arguments, where its value goes -/
structure Cl where
  g : FuncId
  args : Array Value
  dst : Option Tmp
  k : List Item
  l : Sl
  w : World
def callS (P : Program) (n : Nat) (ts : List Nat) (k : List Item) (l : Sl) (w : World) : Option Cl :=
  match k with
  | .inRegion ops (i :: rest) :: k => match ops[i]? with
    | none => none
    | some o => match wantedS ops l o, known l o.op.operands.toList, noSel o.op, inB n o.dst with
      | some true, true, true, true => match (execOp (rho l) o).run P w with
        | .ok (.enter g args) w' => some ⟨g, args, o.dst, .inRegion ops rest :: k, keep l ts, w'⟩
        | _ => none
      | _, _, _, _ => none
  | _ => none

theorem GoS.call (ts : List Nat) (g : FuncId) (args : Array Value) (dst : Option Tmp) (k' : List Item) (l' : Sl) {w' : World} (h : callS P n ts k l w = some ⟨g, args, dst, k', l', w'⟩)
    {S : Ending → World → Prop} (hc : Calls P g args w' S) (hk : ∀ e w'', S e w'' → ∃ v, e = .returned v ∧ GoS P f R n k' (putS l' dst v) w'' D) : GoS P f R n k l w D := by
  intro a ha
  unfold callS at h
  split at h
  · split at h
    · cases h
    · rename_i ops i rest k0 _ o ho
      split at h
      · rename_i h0 h1 h2 h3
        split at h
        · rename_i g' args' w1 hr
          simp only [Option.some.injEq, Cl.mk.injEq] at h
          obtain ⟨rfl, rfl, rfl, rfl, rfl, rfl⟩ := h
          refine Goes.oper ho (wanted_eq ha h0) ?_
          unfold Oper.wp
          rw [exec_eq ha h1 h2, hr]
          show Calls P _ _ _ _
          refine hc.mono fun e w'' hS => ?_
          obtain ⟨v, rfl, hg⟩ := hk e w'' hS
          exact hg _ ((ha.keep ts).put _ _ h3)
        · cases h
      · cases h
  · cases h

def resS : List ResultVar → Sl → Option (List Value)
  | [], _ => some []
  | .tmp t :: r, l => match look l t, resS r l with
    | some v, some vs => some (v :: vs)
    | _, _ => none
  | .cell _ _ :: _, _ => none
def oneOf : List Value → Value
  | [v] => v
  | vs => .tuple vs.toArray
def retS (fn : Func) (l : Sl) : Option Value := match resS fn.results.toList l with | some vs => some (oneOf vs) | none => none

def oneRes (tmps : Array Value) : ResultVar → Sem Value
  | .tmp t => pure (tmps.getD t undef)
  | .cell a t => do loadVar t (← asAddr (tmps.getD a undef))
theorem resS_run {a : Act} (ha : Fits a n l D) : ∀ {rs : List ResultVar} {vs : List Value}, resS rs l = some vs → (rs.mapM (oneRes a.tmps)).run P w = .ok vs w
  | [], vs, h => by simp [resS] at h; subst h; simp
  | .tmp t :: r, vs, h => by
    unfold resS at h
    split at h
    · rename_i v us hv hu
      simp only [Option.some.injEq] at h
      subst h
      have := resS_run ha hu
      have hg := ha.get t v hv
      simp only [List.mapM_cons, oneRes, Sem.run_bind, this, Sem.run_pure, Result.andThen_ok, hg]
    · cases h
  | .cell c t :: r, vs, h => by simp [resS] at h

theorem results_run {fn : Func} {a : Act} (ha : Fits a n l D) {v : Value} (h : retS fn l = some v) : (results fn a.tmps).run P w = .ok v w := by
  unfold retS at h
  split at h
  · rename_i vs hvs
    simp only [Option.some.injEq] at h
    subst h
    have h1 := resS_run (P := P) (w := w) ha hvs
    have h2 : results fn a.tmps = (do let vs ← fn.results.mapM (oneRes a.tmps); pure (if h : vs.size = 1 then vs[0] else .tuple vs)) := rfl
    rw [h2]
    have h3 : fn.results.mapM (oneRes a.tmps) = (do let vs ← fn.results.toList.mapM (oneRes a.tmps); pure vs.toArray) := by
      rw [Array.mapM_eq_mapM_toList]
      rfl
    rw [h3]
    simp only [Sem.run_bind, h1, Result.andThen_ok, Sem.run_pure]
    match vs with
    | [] => rfl
    | [v] => rfl
    | v :: u :: r => simp [oneOf]
  · cases h

theorem GoS.ret {fn : Func} {v : Value} {kd : CallKind} (hf : P.funcs[f]? = some fn) (hr : retS fn l = some v) (hR : R (.returned v) w) : GoS P f R n (.code .ret :: k) l w { kind := kd } :=
  fun _ ha => Goes.ret hf ha.defers (results_run ha hr) hR
theorem GoS.fin {fn : Func} {v : Value} {kd : CallKind} (hf : P.funcs[f]? = some fn) (hr : retS fn l = some v) (hR : R (.returned v) w) : GoS P f R n [] l w { kind := kd } :=
  fun _ ha => Goes.fin hf ha.defers (results_run ha hr) hR

def initS : List Value → Nat → Sl
  | [], _ => []
  | v :: vs, i => (i, v) :: initS vs (i + 1)
theorem look_init : ∀ {vs : List Value} {i t : Nat} {v : Value}, look (initS vs i) t = some v → i ≤ t ∧ vs[t - i]? = some v
  | [], i, t, v, h => by simp [initS, look] at h
  | u :: us, i, t, v, h => by
    simp only [initS, look] at h
    by_cases e : Nat.beq i t = true
    · simp only [e, cond_true, Option.some.injEq] at h
      have : i = t := Nat.eq_of_beq_eq_true e
      subst this; subst h
      simp
    · simp only [e, cond_false] at h
      obtain ⟨h1, h2⟩ := look_init h
      refine ⟨by omega, ?_⟩
      rw [show t - i = (t - (i + 1)) + 1 by omega, List.getElem?_cons_succ]
      exact h2

theorem GoS.enter {fn : Func} {args : Array Value} {n : Nat} (hf : P.funcs[f]? = some fn) (hb : fn.body = some (cd fn)) (hn : fn.ntmps = n) (l : Sl) (hl : initS args.toList 0 = l)
    (hsz : Nat.ble args.size n = true) (h : GoS P f R n [.code (cd fn)] l w) : Calls P f args w R := by
  refine Goes.calls hf hb (h _ ⟨rfl, ?_, fun t v hv => ?_⟩)
  · have := Nat.le_of_ble_eq_true hsz
    simp [hn]; omega
  · subst hl
    obtain ⟨-, h2⟩ := look_init hv
    have h3 : t < args.toList.length := (List.getElem?_eq_some_iff.1 h2).1
    simp only [Array.length_toList] at h3
    simp only [Nat.sub_zero, Array.getElem?_toList] at h2
    rw [Array.getD_eq_getD_getElem?, Array.getElem?_append_left h3, h2]
    rfl

end
/-- the items of a stack, by a function and a path into its code -/
abbrev iC (f : Func) (p : List Nat) : Item := .code (csub (cd f) p)
abbrev iL (f : Func) (p : List Nat) : Item := .inLoop (csub (cd f) p)
end Go.Gw


namespace Go.Gw
set_option linter.unusedVariables false
set_option linter.unusedSimpArgs false

/-- a text by its bytes -/
def sb (l : List UInt8) : ByteArray := ⟨l.toArray⟩
/-- the byte at a place, as a number -/
def bl (l : List UInt8) (i : Nat) : Int := ((l.getD i 0).toNat : Int)
theorem bl_bd (l : List UInt8) (i : Nat) : 0 ≤ bl l i ∧ bl l i ≤ 255 := by
  unfold bl; have := (l.getD i 0).toNat_lt; omega
theorem sb_size (l : List UInt8) : (sb l).size = l.length := by simp [sb, ByteArray.size]
theorem sb_data (l : List UInt8) : (sb l).data.toList = l := by simp [sb]
theorem sb_toList (l : List UInt8) : (sb l).toList = l := by
  rw [ByteArray.toList_eq, sb_data]
theorem sb_extract (l : List UInt8) (a b : Nat) : (sb l).extract a b = sb ((l.take b).drop a) := by
  apply ByteArray.ext
  rw [ByteArray.data_extract]
  simp [sb, List.extract_eq_take_drop, List.drop_take]
theorem sb_from (l : List UInt8) (a : Nat) : (sb l).extract a l.length = sb (l.drop a) := by
  rw [sb_extract, List.take_length]
theorem sb_of (s : ByteArray) : sb s.data.toList = s := by cases s; simp [sb]
section
variable {P : Program} {w : World}

theorem f_add {k : IntKind} {t : TypeId} {x y z : Int} (h : k.wrap (x + y) = z) : (binOp .add t (.int k x) (.int k y)).run P w = .ok (.int k z) w := by
  subst h; simp [binOp, Op.intArith]
theorem f_sub {k : IntKind} {t : TypeId} {x y z : Int} (h : k.wrap (x - y) = z) : (binOp .sub t (.int k x) (.int k y)).run P w = .ok (.int k z) w := by
  subst h; simp [binOp, Op.intArith]
theorem f_mul {k : IntKind} {t : TypeId} {x y z : Int} (h : k.wrap (x * y) = z) : (binOp .mul t (.int k x) (.int k y)).run P w = .ok (.int k z) w := by
  subst h; simp [binOp, Op.intArith]
theorem f_quo {k : IntKind} {t : TypeId} {x y z : Int} (hy : y ≠ 0) (h : k.wrap (x.tdiv y) = z) : (binOp .quo t (.int k x) (.int k y)).run P w = .ok (.int k z) w := by
  subst h; simp [binOp, Op.intDiv, hy]
theorem f_rem {k : IntKind} {t : TypeId} {x y z : Int} (hy : y ≠ 0) (h : x.tmod y = z) : (binOp .rem t (.int k x) (.int k y)).run P w = .ok (.int k z) w := by
  subst h; simp [binOp, Op.intDiv, hy]
theorem f_and {k : IntKind} {t : TypeId} {x y z : Int} (h : k.wrap ((BitVec.ofInt k.bits x &&& BitVec.ofInt k.bits y).toNat : Int) = z) : (binOp .and t (.int k x) (.int k y)).run P w = .ok (.int k z) w := by
  subst h; simp only [binOp, Op.intBits, ne_eq, not_true_eq_false, if_false]; rfl
theorem f_or {k : IntKind} {t : TypeId} {x y z : Int} (h : k.wrap ((BitVec.ofInt k.bits x ||| BitVec.ofInt k.bits y).toNat : Int) = z) : (binOp .or t (.int k x) (.int k y)).run P w = .ok (.int k z) w := by
  subst h; simp only [binOp, Op.intBits, ne_eq, not_true_eq_false, if_false]; rfl
theorem f_shl {k k' : IntKind} {t : TypeId} {x y z : Int} (hy : 0 ≤ y) (h : k.wrap (x * 2 ^ (min y.toNat k.bits)) = z) : (binOp .shl t (.int k x) (.int k' y)).run P w = .ok (.int k z) w := by
  subst h; have : ¬ y < 0 := by omega
  simp [binOp, Op.shift, this]
theorem f_shr {k k' : IntKind} {t : TypeId} {x y z : Int} (hy : 0 ≤ y) (h : x.fdiv (2 ^ (min y.toNat k.bits)) = z) : (binOp .shr t (.int k x) (.int k' y)).run P w = .ok (.int k z) w := by
  subst h; have : ¬ y < 0 := by omega
  simp [binOp, Op.shift, this]

theorem f_conv {s d : TypeId} {u : TypeDesc} {k k' : IntKind} {x z : Int} (hs : P.underlying s = some u) (hd : P.underlying d = some (.int k')) (h : k'.wrap x = z) :
    (convert s d (.int k x)).run P w = .ok (.int k' z) w := by
  subst h
  simp [convert, run_underlying hs, run_underlying hd, Conv.intToInt]

theorem f_index {t : TypeId} {k : IntKind} {l : List UInt8} {i : Int} (j : Nat) (ht : P.underlying t = some .string) (hj : i = (j : Int)) (hlt : j < l.length) :
    (Instr.index t (.string (sb l)) (.int k i)).run P w = .ok (.int .u8 (bl l j)) w := by
  subst hj
  have hs : j < (sb l).size := by rw [sb_size]; exact hlt
  rw [run_index_string _ _ _ _ _ ht, dif_pos ⟨by omega, by omega⟩]
  congr 2
  simp only [bl, Int.toNat_natCast]
  congr 1
  rw [List.getD_eq_getElem?_getD, List.getElem?_eq_getElem hlt]
  simp [sb, ByteArray.getElem_eq_getElem_data]

theorem f_slice_lo {t : TypeId} {k : IntKind} {l : List UInt8} {i : Int} (a : Nat) (ht : P.underlying t = some .string) (ha : i = (a : Int)) (h : a ≤ l.length) :
    (Instr.sliceAt t (.string (sb l)) (some (.int k i)) none none).run P w = .ok (.string (sb (l.drop a))) w := by
  subst ha
  have e := run_slice_string_l (P := P) w t (sb l) ht k a (by omega) (by rw [sb_size]; omega)
  simp only [Instr.sliceAt, Sem.run_bind, run_underlying ht, Result.andThen_ok]
  rw [e, sb_size, Int.toNat_natCast, sb_from]
theorem f_slice_lohi {t : TypeId} {k k' : IntKind} {l : List UInt8} {i j : Int} (a b : Nat) (ht : P.underlying t = some .string) (ha : i = (a : Int)) (hb : j = (b : Int)) (hab : a ≤ b) (h : b ≤ l.length) :
    (Instr.sliceAt t (.string (sb l)) (some (.int k i)) (some (.int k' j)) none).run P w = .ok (.string (sb ((l.take b).drop a))) w := by
  subst ha; subst hb
  have e : (Instr.slice t (.string (sb l)) (some (.int k (a : Int))) (some (.int k' (b : Int))) none).run P w = .ok (.string ((sb l).extract a b)) w := by
    have hs := sb_size l
    simp [Instr.slice, run_underlying ht, Instr.sliceBounds, run_sliceBound, hs, h, hab]
  simp only [Instr.sliceAt, Sem.run_bind, run_underlying ht, Result.andThen_ok]
  rw [e, sb_extract]

theorem f_streq {t : TypeId} {a b : List UInt8} : (binOp .eql t (.string (sb a)) (.string (sb b))).run P w = .ok (.bool (decide (a = b))) w := by
  simp only [binOp, Op.stringOp, sb_toList]
  show Result.ok _ w = _
  congr 2
  exact (Bool.eq_iff_iff.2 (by simp))
theorem f_strneq {t : TypeId} {a b : List UInt8} : (binOp .neq t (.string (sb a)) (.string (sb b))).run P w = .ok (.bool (!decide (a = b))) w := by
  simp only [binOp, Op.stringOp, sb_toList]
  show Result.ok _ w = _
  congr 2
  exact (Bool.eq_iff_iff.2 (by simp))
theorem f_stradd {t : TypeId} {a b : List UInt8} (h : a.length + b.length ≤ 9223372036854775807) : (binOp .add t (.string (sb a)) (.string (sb b))).run P w = .ok (.string (sb (a ++ b))) w := by
  have e : ¬ (((sb a).size + (sb b).size : Nat) : Int) > IntKind.i64.max := by
    rw [sb_size, sb_size]; simp [IntKind.max, IntKind.signed, IntKind.bits]; omega
  have e2 : sb a ++ sb b = sb (a ++ b) := by simp [sb, ByteArray.ext_iff]
  simp only [binOp, Op.stringOp, if_neg e, e2]
  rfl

theorem f_len {t ty : TypeId} {l : List UInt8} (ht : P.underlying t = some .string) : (Builtin.len_ #[t] ty #[.string (sb l)]).run P w = .ok (.int .i64 ((l.length : Nat) : Int)) w := by
  simp [Builtin.len_, run_underlying ht, goInt, sb_size]
theorem f_max {ts : Array TypeId} {ty : TypeId} {k : IntKind} {a b z : Int} (h : (if a < b then b else a) = z) : (Builtin.max_ ts ty #[.int k a, .int k b]).run P w = .ok (.int k z) w := by
  subst h; kernel_rfl
theorem fdiv_pow (x : Int) (n : Nat) (m : Int) (h : (2 : Int) ^ n = m) (hm : 0 ≤ m) : x.fdiv (2 ^ n) = x / m := by
  rw [h]; exact Int.fdiv_eq_ediv_of_nonneg _ hm

theorem p_no {b : Bool} {p : Prop} (i : b = true ↔ p) (h : b = false) : ¬ p := fun z => Bool.noConfusion ((i.2 z).symm.trans h)
theorem p_iand {a b : Bool} {p q : Prop} (i : a = true ↔ p) (j : b = true ↔ q) : (a && b) = true ↔ p ∧ q := by
  rw [Bool.and_eq_true, i, j]
theorem p_ior {a b : Bool} {p q : Prop} (i : a = true ↔ p) (j : b = true ↔ q) : (a || b) = true ↔ p ∨ q := by
  rw [Bool.or_eq_true, i, j]
theorem p_ibif {c a b : Bool} {r p q : Prop} (k : c = true ↔ r) (i : a = true ↔ p) (j : b = true ↔ q) : (bif c then a else b) = true ↔ (r ∧ p) ∨ (¬ r ∧ q) := by
  cases c <;> simp_all
theorem p_nf {b : Bool} (h : (!b) = true) : b = false := by simpa using h
theorem p_nt {b : Bool} (h : (!b) = false) : b = true := by simpa using h
theorem p_andl {a b : Bool} (h : (a && b) = true) : a = true := by simp at h; exact h.1
theorem p_andr {a b : Bool} (h : (a && b) = true) : b = true := by simp at h; exact h.2
theorem p_orl {a b : Bool} (h : (a || b) = false) : a = false := by simp at h; exact h.1
theorem p_orr {a b : Bool} (h : (a || b) = false) : b = false := by simp at h; exact h.2
theorem p_ne {x y : Int} (h : (x == y) = false) : ¬ (x = y) := by simpa using h
theorem p_eq {x y : Int} (h : (x != y) = false) : x = y := by simpa using h
end
theorem ret_bool {a b : Bool} (h : a = b) : Ending.returned (.bool a) = .returned (.bool b) := by rw [h]
theorem ret_int {k : IntKind} {a b : Int} (h : a = b) : Ending.returned (.int k a) = .returned (.int k b) := by rw [h]
theorem ret_str {a b : List UInt8} (h : a = b) : Ending.returned (.string (sb a)) = .returned (.string (sb b)) := by rw [h]
theorem ret_int2 {k k' : IntKind} {a b a' b' : Int} (h : a = a') (h' : b = b') : Ending.returned (.tuple #[.int k a, .int k' b]) = .returned (.tuple #[.int k a', .int k' b']) := by rw [h, h']
theorem ret_str2 {k : IntKind} {a a' : List UInt8} {b b' : Int} (h : a = a') (h' : b = b') : Ending.returned (.tuple #[.string (sb a), .int k b]) = .returned (.tuple #[.string (sb a'), .int k b']) := by rw [h, h']
end Go.Gw


namespace Go.Gw
set_option linter.unusedVariables false
set_option linter.unusedSimpArgs false
theorem ofInt_nat {N : Nat} {x : Int} (h0 : 0 ≤ x) (h1 : x < 2 ^ N) : (BitVec.ofInt N x).toNat = x.toNat := by
  rw [BitVec.toNat_ofInt]
  congr 1
  exact Int.emod_eq_of_lt h0 (by simpa using h1)
theorem ofInt_mod {N : Nat} (x : Int) : ((BitVec.ofInt N x).toNat : Int) = x % 2 ^ N := by
  rw [BitVec.toNat_ofInt]
  have : (0 : Int) ≤ x % ((2 ^ N : Nat) : Int) := Int.emod_nonneg _ (by have := Nat.two_pow_pos N; omega)
  rw [Int.toNat_of_nonneg this]
  simp
theorem and_nat {N : Nat} (x : Int) (n : Nat) (hn : n ≤ N) : ((BitVec.ofInt N x &&& BitVec.ofInt N (2 ^ n - 1)).toNat : Int) = x % 2 ^ n := by
  have hp : 0 < 2 ^ n := Nat.two_pow_pos n
  have hle : 2 ^ n ≤ 2 ^ N := Nat.pow_le_pow_right (by omega) hn
  have hc : (((2 : Nat) ^ n : Nat) : Int) = (2 : Int) ^ n := by simp
  have hc2 : (((2 : Nat) ^ N : Nat) : Int) = (2 : Int) ^ N := by simp
  have e : (BitVec.ofInt N (2 ^ n - 1)).toNat = 2 ^ n - 1 := by
    rw [ofInt_nat (by omega) (by omega)]; omega
  rw [BitVec.toNat_and, e, Nat.and_two_pow_sub_one_eq_mod, Int.natCast_emod, ofInt_mod]
  rw [hc]
  exact Int.emod_emod_of_dvd _ (by rw [← hc, ← hc2]; exact Int.natCast_dvd_natCast.2 (Nat.pow_dvd_pow 2 hn))
theorem or_nat {N : Nat} {a y : Int} (n : Nat) (ha : 0 ≤ a) (hd : a % 2 ^ n = 0) (h0 : 0 ≤ y) (h1 : y < 2 ^ n) (hN : a + y < 2 ^ N) : ((BitVec.ofInt N a ||| BitVec.ofInt N y).toNat : Int) = a + y := by
  have hc : (((2 : Nat) ^ n : Nat) : Int) = (2 : Int) ^ n := by simp
  rw [BitVec.toNat_or, ofInt_nat ha (by omega), ofInt_nat h0 (by omega)]
  obtain ⟨q, hq⟩ : ∃ q : Nat, a.toNat = 2 ^ n * q := by
    have hdv : ((2 ^ n : Nat) : Int) ∣ a := by rw [hc]; exact Int.dvd_of_emod_eq_zero hd
    obtain ⟨z, hz⟩ := hdv
    have hz0 : 0 ≤ z := by
      rcases Int.lt_or_le z 0 with h | h
      · exfalso
        have h2 : (0 : Int) < ((2 ^ n : Nat) : Int) := by have := Nat.two_pow_pos n; omega
        have := Int.mul_neg_of_pos_of_neg h2 h
        omega
      · exact h
    refine ⟨z.toNat, ?_⟩
    rw [hz, Int.toNat_mul (by omega) hz0]
    have : ((2 ^ n : Nat) : Int).toNat = 2 ^ n := Int.toNat_natCast _
    rw [this]
  have hy : y.toNat < 2 ^ n := by omega
  rw [hq, ← Nat.two_pow_add_eq_or_of_lt hy, ← hq]
  omega
theorem and_i64 (x : Int) (n : Nat) (m : Int) (hm : m = 2 ^ n - 1) (hn : n ≤ 62) : IntKind.wrap .i64 ((BitVec.ofInt (IntKind.bits .i64) x &&& BitVec.ofInt (IntKind.bits .i64) m).toNat : Int) = x % (m + 1) := by
  subst hm
  have h := and_nat (N := 64) x n (by omega)
  have hc : (((2 : Nat) ^ n : Nat) : Int) = (2 : Int) ^ n := by simp
  have hp : 0 < 2 ^ n := Nat.two_pow_pos n
  have hle : 2 ^ n ≤ 2 ^ 62 := Nat.pow_le_pow_right (by omega) hn
  have b1 := Int.emod_nonneg x (show ((2 : Int) ^ n) ≠ 0 by omega)
  have b2 := Int.emod_lt_of_pos x (show (0 : Int) < 2 ^ n by omega)
  show IntKind.wrap .i64 ((BitVec.ofInt 64 x &&& BitVec.ofInt 64 (2 ^ n - 1)).toNat : Int) = _
  rw [h, IntWalk.i64_in _ (by omega), Int.sub_add_cancel]
theorem and_u8 (x : Int) (n : Nat) (m : Int) (hm : m = 2 ^ n - 1) (hn : n ≤ 8) : IntKind.wrap .u8 ((BitVec.ofInt (IntKind.bits .u8) x &&& BitVec.ofInt (IntKind.bits .u8) m).toNat : Int) = x % (m + 1) := by
  subst hm
  have h := and_nat (N := 8) x n (by omega)
  have hc : (((2 : Nat) ^ n : Nat) : Int) = (2 : Int) ^ n := by simp
  have hp : 0 < 2 ^ n := Nat.two_pow_pos n
  have hle : 2 ^ n ≤ 2 ^ 8 := Nat.pow_le_pow_right (by omega) hn
  have b1 := Int.emod_nonneg x (show ((2 : Int) ^ n) ≠ 0 by omega)
  have b2 := Int.emod_lt_of_pos x (show (0 : Int) < 2 ^ n by omega)
  show IntKind.wrap .u8 ((BitVec.ofInt 8 x &&& BitVec.ofInt 8 (2 ^ n - 1)).toNat : Int) = _
  rw [h, IntWalk.u8_in _ (by omega), Int.sub_add_cancel]
/-- 0xc0 of a byte -/
theorem and_c0 (x : Int) (h0 : 0 ≤ x) (h1 : x ≤ 255) : IntKind.wrap .u8 ((BitVec.ofInt (IntKind.bits .u8) x &&& BitVec.ofInt (IntKind.bits .u8) 192).toNat : Int) = x / 64 * 64 := by
  obtain ⟨n, rfl⟩ := Int.eq_ofNat_of_zero_le h0
  have hn : n < 256 := by omega
  have key : ∀ n : Fin 256, IntKind.wrap .u8 ((BitVec.ofInt 8 ((n.val : Nat) : Int) &&& BitVec.ofInt 8 192).toNat : Int) = ((n.val : Nat) : Int) / 64 * 64 := by decide +kernel
  exact key ⟨n, hn⟩
theorem or_i64 {a y : Int} (n : Nat) (m : Int) (hm : m = 2 ^ n) (ha : 0 ≤ a) (hd : a % m = 0) (h0 : 0 ≤ y) (h1 : y < m) (hN : a + y < 9223372036854775808) :
    IntKind.wrap .i64 ((BitVec.ofInt (IntKind.bits .i64) a ||| BitVec.ofInt (IntKind.bits .i64) y).toNat : Int) = a + y := by
  subst hm
  show IntKind.wrap .i64 ((BitVec.ofInt 64 a ||| BitVec.ofInt 64 y).toNat : Int) = _
  rw [or_nat n ha hd h0 h1 (by omega), IntWalk.i64_in _ (by omega)]
theorem and_u64 (x : Int) (n : Nat) (m : Int) (hm : m = 2 ^ n - 1) (hn : n ≤ 64) : IntKind.wrap .u64 ((BitVec.ofInt (IntKind.bits .u64) x &&& BitVec.ofInt (IntKind.bits .u64) m).toNat : Int) = x % (m + 1) := by
  subst hm
  show IntKind.wrap .u64 ((BitVec.ofInt 64 x &&& BitVec.ofInt 64 (2 ^ n - 1)).toNat : Int) = _
  rw [and_nat x n hn, show (2 : Int) ^ n - 1 + 1 = 2 ^ n by omega]
  have hp : (0 : Int) < 2 ^ n := Int.pow_pos (by decide)
  have h1 := Int.emod_nonneg x (show (2 : Int) ^ n ≠ 0 by omega)
  have h2 := Int.emod_lt_of_pos x hp
  have h3 : (2 : Int) ^ n ≤ 2 ^ 64 := by exact_mod_cast Nat.pow_le_pow_right (by decide) hn
  exact IntWalk.u64_in _ (by omega)
end Go.Gw


namespace Go.Gw
set_option linter.unusedVariables false
set_option linter.unusedSimpArgs false
open Go.RowKit

/-- a slice's value reads as these cells: n elements of k cells each -/
def Rd (w : World) (k : Nat) (v : Value) (n : Nat) (xs : List Value) : Prop :=
  xs.length = n * k ∧ ∃ a c, v = .slice a n c ∧ n ≤ c ∧ c ≤ maxLen ∧ (a = none → n = 0 ∧ c = 0) ∧
    ∀ ad, a = some ad → (xs = [] ∨ ad.spot = none) ∧ ∀ j u, xs[j]? = some u → w.cell? ⟨ad.block, ad.off + j, none⟩ = some u

/-- blocks that were there and are not in S are as they were -/
structure Kept (S : List Nat) (w w' : World) : Prop where
  os : w'.os = w.os
  tape : w'.tape = w.tape
  output : w'.output = w.output
  size : w.heap.size ≤ w'.heap.size
  block : ∀ b, b < w.heap.size → b ∉ S → w'.heap[b]? = w.heap[b]?

theorem Kept.refl (S : List Nat) (w : World) : Kept S w w := ⟨rfl, rfl, rfl, Nat.le_refl _, fun _ _ _ => rfl⟩
theorem Kept.trans {S : List Nat} {a b c : World} (h : Kept S a b) (k : Kept S b c) : Kept S a c :=
  ⟨k.os.trans h.os, k.tape.trans h.tape, k.output.trans h.output, Nat.le_trans h.size k.size, fun i hi hs => (k.block i (Nat.lt_of_lt_of_le hi h.size) hs).trans (h.block i hi hs)⟩
theorem Kept.below {w w' : World} (h : Kept [] w w') : Below w.heap.size w w' := ⟨h.os, h.tape, h.output, h.size, fun k hk => h.block k hk (by simp)⟩
theorem Kept.of_below {w w' : World} (h : Below w.heap.size w w') : Kept [] w w' := ⟨h.os, h.tape, h.output, h.size, fun k hk _ => h.block k hk⟩
theorem Kept.drewN (S : List Nat) (w : World) (m : Nat) : Kept S w (w.drewN m) := ⟨rfl, rfl, rfl, Nat.le_refl _, fun _ _ _ => rfl⟩
theorem Kept.mono {S T : List Nat} {w w' : World} (h : Kept S w w') (hs : ∀ b, b ∈ S → b ∈ T) : Kept T w w' :=
  ⟨h.os, h.tape, h.output, h.size, fun b hb ht => h.block b hb (fun x => ht (hs b x))⟩

theorem Rd.kept {S : List Nat} {w w' : World} {k n : Nat} {v : Value} {xs : List Value} (h : Rd w k v n xs) (hk : Kept S w w') (hb : ∀ b, v.ownBlock = some b → b ∉ S) : Rd w' k v n xs := by
  obtain ⟨hl, a, c, rfl, h1, h2, h3, h4⟩ := h
  refine ⟨hl, a, c, rfl, h1, h2, h3, fun ad e => ⟨(h4 ad e).1, fun j u hu => ?_⟩⟩
  have hc := (h4 ad e).2 j u hu
  have hlt := World.block_lt_of_cell? w _ hc
  have := hk.block ad.block hlt (hb _ (by subst e; rfl))
  rw [World.cell?_of_block (w := w) (a := ⟨ad.block, ad.off + j, none⟩) this]
  exact hc
theorem Rd.kept0 {w w' : World} {k n : Nat} {v : Value} {xs : List Value} (h : Rd w k v n xs) (hk : Kept [] w w') : Rd w' k v n xs := h.kept hk (fun _ _ => by simp)
theorem Rd.drewN {w : World} {k n : Nat} {v : Value} {xs : List Value} (h : Rd w k v n xs) (m : Nat) : Rd (w.drewN m) k v n xs := h

theorem Rd.nil (w : World) (k : Nat) : Rd w k (.slice none 0 0) 0 [] := ⟨by simp, none, 0, rfl, Nat.le_refl _, by simp, fun _ => ⟨rfl, rfl⟩, fun _ e => by cases e⟩

/-- a row of the call's own: the element's type, its cells, the value, how many, what they hold -/
structure Row where
  E : TypeId
  k : Nat
  v : Value
  n : Nat
  xs : List Value

def apartFrom (v : Value) (L : List Row) : Prop := ∀ r ∈ L, v.ownBlock = none ∨ v.ownBlock ≠ r.v.ownBlock
def Apart : List Row → Prop
  | [] => True
  | r :: L => apartFrom r.v L ∧ Apart L

/-- what the call may write: the rows L, apart from one another, in blocks of S or new since w0; all else that was there is as it was -/
structure Mem (S : List Nat) (w0 w : World) (L : List Row) : Prop where
  kept : Kept S w0 w
  owns : ∀ r ∈ L, w.ownsRow 0 r.E r.k r.v r.n r.xs
  apart : Apart L
  mine : ∀ r ∈ L, ∀ b, r.v.ownBlock = some b → b ∈ S ∨ w0.heap.size ≤ b

theorem Mem.start (w : World) : Mem [] w w [] := ⟨Kept.refl _ _, (fun _ h => by cases h), trivial, (fun _ h => by cases h)⟩
theorem Mem.below {w0 w : World} {L : List Row} (h : Mem [] w0 w L) : Below w0.heap.size w0 w := h.kept.below
theorem Mem.drewN {S : List Nat} {w0 w : World} {L : List Row} (h : Mem S w0 w L) (m : Nat) : Mem S w0 (w.drewN m) L := ⟨h.kept.trans (Kept.drewN S w m), h.owns, h.apart, h.mine⟩

theorem apart_iff {L : List Row} : Apart L ↔ ∀ (i j : Nat) r s, i < j → L[i]? = some r → L[j]? = some s → (r.v.ownBlock = none ∨ r.v.ownBlock ≠ s.v.ownBlock) := by
  induction L with
  | nil => simp [Apart]
  | cons x L ih =>
    simp only [Apart, ih]
    constructor
    · rintro ⟨h1, h2⟩ i j r s hij hr hs
      cases j with
      | zero => omega
      | succ j =>
        simp only [List.getElem?_cons_succ] at hs
        cases i with
        | zero =>
          simp only [List.getElem?_cons_zero, Option.some.injEq] at hr
          subst hr
          exact h1 s (List.mem_of_getElem? hs)
        | succ i =>
          simp only [List.getElem?_cons_succ] at hr
          exact h2 i j r s (by omega) hr hs
    · intro h
      refine ⟨fun r hr => ?_, fun i j r s hij hr hs => h (i + 1) (j + 1) r s (by omega) (by simpa using hr) (by simpa using hs)⟩
      obtain ⟨j, hj⟩ := List.mem_iff_getElem?.1 hr
      exact h 0 (j + 1) x r (by omega) (by simp) (by simpa using hj)

/-- a part of the rows -/
theorem Mem.sub {S : List Nat} {w0 w : World} {L M : List Row} (h : Mem S w0 w L) (hs : M.Sublist L) : Mem S w0 w M := by
  refine ⟨h.kept, fun r hr => h.owns r (hs.subset hr), ?_, fun r hr => h.mine r (hs.subset hr)⟩
  have := h.apart
  clear h
  induction hs with
  | slnil => trivial
  | cons a _ ih => exact ih this.2
  | cons_cons a hs' ih => exact ⟨fun r hr => this.1 r (hs'.subset hr), ih this.2⟩

/-- the row at a place, told anew (its value the same) -/
theorem Mem.get {S : List Nat} {w0 w : World} {L : List Row} (h : Mem S w0 w L) (i : Nat) {r : Row} (hr : L[i]? = some r) : w.ownsRow 0 r.E r.k r.v r.n r.xs := h.owns r (List.mem_of_getElem? hr)

theorem own_rd {w : World} {e : TypeId} {k n : Nat} {v : Value} {xs : List Value} (h : w.ownsRow 0 e k v n xs) : Rd w k v n xs := by
  refine ⟨h.1, ?_⟩
  rcases h.2 with ⟨rfl, rfl⟩ | ⟨g, cap, cur, rfl, _, hg, hn, hc, _, ht⟩
  · exact ⟨none, 0, rfl, Nat.le_refl _, by simp [maxLen], fun _ => ⟨rfl, rfl⟩, fun _ e => by cases e⟩
  · refine ⟨some ⟨g, 0, none⟩, cap, rfl, hn, hc, fun e => (by cases e), fun ad e => ?_⟩
    simp only [Option.some.injEq] at e
    subst e
    refine ⟨.inr rfl, fun j u hu => ?_⟩
    have := h.cells (g := g) rfl j u hu
    have hadd : (⟨g, 0, none⟩ : Addr).add j = ⟨g, 0 + j, none⟩ := by unfold Addr.add; split <;> simp_all
    rwa [hadd] at this
theorem Mem.rd {S : List Nat} {w0 w : World} {L : List Row} (h : Mem S w0 w L) (i : Nat) {r : Row} (hr : L[i]? = some r) : Rd w r.k r.v r.n r.xs := own_rd (h.get i hr)

theorem own_lt {w : World} {e : TypeId} {k n : Nat} {v : Value} {xs : List Value} (h : w.ownsRow 0 e k v n xs) : ∀ b, v.ownBlock = some b → b < w.heap.size := fun b hb => (h.lt b hb).2

/-- the world grows, writing at most to row i's block: the row at i is told anew, the others stay -/
theorem Mem.grow {S : List Nat} {w0 w w' : World} {L : List Row} (h : Mem S w0 w L) (i : Nat) {r : Row} (hr : L[i]? = some r) {row : Option Nat} (hrow : row = none ∨ row = r.v.ownBlock) (hg : w.grownBy w' row)
    (v' : Value) (n' : Nat) (xs' : List Value) (hown : w'.ownsRow 0 r.E r.k v' n' xs') (hv : ∀ b, v'.ownBlock = some b → r.v.ownBlock = some b ∨ w.heap.size ≤ b) :
    Mem S w0 w' (L.set i ⟨r.E, r.k, v', n', xs'⟩) := by
  have hi : i < L.length := (List.getElem?_eq_some_iff.1 hr).1
  have old : ∀ b, r.v.ownBlock = some b → b ∈ S ∨ w0.heap.size ≤ b := h.mine r (List.mem_of_getElem? hr)
  have others : ∀ j s, j ≠ i → L[j]? = some s → (s.v.ownBlock = none ∨ s.v.ownBlock ≠ r.v.ownBlock) := by
    intro j s hj hs
    have ap := apart_iff.1 h.apart
    rcases Nat.lt_or_gt_of_ne hj with hlt | hlt
    · exact ap j i s r hlt hs hr
    · have := ap i j r s hlt hr hs
      rcases this with h1 | h1
      · cases hsb : s.v.ownBlock with
        | none => exact .inl rfl
        | some b => exact .inr (by rw [h1]; simp)
      · exact .inr (Ne.symm h1)
  have hne : ∀ b, b ∉ S → b < w0.heap.size → some b ≠ row := by
    intro b hbs hb0 e
    rcases hrow with e' | e'
    · rw [e'] at e; cases e
    · rw [e'] at e
      rcases old b e.symm with hs | hs
      · exact hbs hs
      · omega
  refine ⟨⟨hg.os.trans h.kept.os, hg.tape.trans h.kept.tape, hg.output.trans h.kept.output, Nat.le_trans h.kept.size hg.size, fun b hb hbs => ?_⟩, ?_, ?_, ?_⟩
  · rw [hg.block b (Nat.lt_of_lt_of_le hb h.kept.size) (hne b hbs hb)]
    exact h.kept.block b hb hbs
  · intro s hs
    obtain ⟨j, hj⟩ := List.mem_iff_getElem?.1 hs
    rw [List.getElem?_set] at hj
    split at hj
    · rename_i e
      subst e
      try rw [if_pos hi] at hj
      simp only [Option.some.injEq] at hj
      subst hj
      exact hown
    · rename_i e
      have ho := h.owns s (List.mem_of_getElem? hj)
      refine ho.kept hg ?_
      rcases others j s (fun x => e x.symm) hj with hb | hb
      · exact .inl hb
      · rcases hrow with er | er
        · rw [er]
          cases hsb : s.v.ownBlock with
          | none => exact .inl rfl
          | some b => exact .inr (by simp)
        · rw [er]; exact .inr hb
  · rw [apart_iff]
    intro a b x y hab hx hy
    rw [List.getElem?_set] at hx hy
    -- the value at place i lies in its old block or in a new one
    have far : ∀ j s, j ≠ i → L[j]? = some s → v'.ownBlock = none ∨ s.v.ownBlock = none ∨ v'.ownBlock ≠ s.v.ownBlock := by
      intro j s hj hs
      cases hvb : v'.ownBlock with
      | none => exact .inl rfl
      | some c =>
        right
        rcases hv c hvb with e | e
        · rcases others j s hj hs with h1 | h1
          · exact .inl h1
          · exact .inr (by rw [← e]; exact Ne.symm h1)
        · cases hsb : s.v.ownBlock with
          | none => exact .inl rfl
          | some d =>
            have := own_lt (h.owns s (List.mem_of_getElem? hs)) d hsb
            exact .inr (by simp only [ne_eq, Option.some.injEq]; omega)
    split at hx
    · rename_i e
      subst e
      try rw [if_pos hi] at hx
      simp only [Option.some.injEq] at hx
      subst hx
      rw [if_neg (by omega)] at hy
      rcases far b y (by omega) hy with h1 | h1 | h1
      · exact .inl h1
      · cases hvb : v'.ownBlock with
        | none => exact .inl rfl
        | some c => exact .inr (by simp [h1])
      · exact .inr h1
    · rename_i e
      split at hy
      · rename_i e2
        subst e2
        try rw [if_pos hi] at hy
        simp only [Option.some.injEq] at hy
        subst hy
        rcases far a x (by omega) hx with h1 | h1 | h1
        · cases hxb : x.v.ownBlock with
          | none => exact .inl rfl
          | some c => exact .inr (by simp [h1])
        · exact .inl h1
        · exact .inr (Ne.symm h1)
      · exact apart_iff.1 h.apart a b x y hab hx hy
  · intro s hs b hb
    obtain ⟨j, hj⟩ := List.mem_iff_getElem?.1 hs
    rw [List.getElem?_set] at hj
    split at hj
    · rename_i e
      subst e
      try rw [if_pos hi] at hj
      simp only [Option.some.injEq] at hj
      subst hj
      rcases hv b hb with e | e
      · exact old b e
      · exact .inr (Nat.le_trans h.kept.size e)
    · exact h.mine s (List.mem_of_getElem? hj) b hb

/-- a new row -/
theorem Mem.push {S : List Nat} {w0 w w' : World} {L : List Row} (h : Mem S w0 w L) (hg : w.grownBy w' none) (r : Row) (hown : w'.ownsRow 0 r.E r.k r.v r.n r.xs) (hv : ∀ b, r.v.ownBlock = some b → w.heap.size ≤ b) :
    Mem S w0 w' (r :: L) := by
  refine ⟨h.kept.trans ⟨hg.os, hg.tape, hg.output, hg.size, fun b hb _ => hg.block b hb (by simp)⟩, ?_, ⟨?_, h.apart⟩, ?_⟩
  · intro s hs
    cases hs with
    | head => exact hown
    | tail _ hs =>
      refine (h.owns s hs).kept hg ?_
      cases hsb : s.v.ownBlock with
      | none => exact .inl rfl
      | some b => exact .inr (by simp)
  · intro s hs
    cases hrb : r.v.ownBlock with
    | none => exact .inl rfl
    | some b =>
      right
      have h1 := hv b hrb
      intro e
      have := own_lt (h.owns s hs) b e.symm
      omega
  · intro s hs b hb
    cases hs with
    | head => exact .inr (Nat.le_trans h.kept.size (hv b hb))
    | tail _ hs => exact h.mine s hs b hb

/-- the world grows and writes to none of the rows -/
theorem Mem.same {S : List Nat} {w0 w w' : World} {L : List Row} (h : Mem S w0 w L) (hg : w.grownBy w' none) : Mem S w0 w' L := by
  refine ⟨h.kept.trans ⟨hg.os, hg.tape, hg.output, hg.size, fun b hb _ => hg.block b hb (by simp)⟩, fun s hs => ?_, h.apart, h.mine⟩
  refine (h.owns s hs).kept hg ?_
  cases hsb : s.v.ownBlock with
  | none => exact .inl rfl
  | some b => exact .inr (by simp)
theorem Mem.ext {S : List Nat} {w0 w w' : World} {L : List Row} (h : Mem S w0 w L) (hk : Kept [] w w') : Mem S w0 w' L :=
  h.same ⟨hk.os, hk.tape, hk.output, hk.size, fun b hb _ => hk.block b hb (by simp)⟩

/-! ### slices' types -/
structure SliceT (P : Program) (t E : TypeId) (k b : Nat) (z : Value) : Prop where
  under : P.underlying t = some (.slice E)
  info : ∃ i, P.info? E = some i ∧ i.zero = some z ∧ i.size = k ∧ i.bytes = b
  cells : z.cells.size = k
  pos : 0 < k

section
variable {P : Program} {t E : TypeId} {k b : Nat} {z : Value} {w w0 : World} {S : List Nat} {L : List Row}

theorem SliceT.size (h : SliceT P t E k b z) (W : World) : (sizeOf E).run P W = .ok k W := by
  obtain ⟨i, hi, _, hk, _⟩ := h.info
  simp [sizeOf, typeInfo, hi, hk]

theorem ownsRow_old {w : World} {cs : Array Value} {e : TypeId} {k n : Nat} (hs : cs.size = n * k) (hm : n ≤ maxLen) :
    (w.alloc (.cells cs e)).ownsRow 0 e k (.slice (some ⟨w.heap.size, 0, none⟩) n n) n cs.toList := by
  refine ⟨by simp [hs], .inr ⟨w.heap.size, n, cs, rfl, Nat.zero_le _, heap_alloc_new w _, Nat.le_refl _, hm, hs, ?_⟩⟩
  rw [List.take_of_length_le (by simp [hs])]

/-- a slice written out -/
theorem m_lit (hT : SliceT P t E k b z) (hM : Mem S w0 w L) {n : Nat} {parts : Array (Nat × Value)} {cs : List Value} (hbig : n * k ≤ 16777216)
    (hf : Instr.fill (fun i => some (i * k, k)) ((Array.range (n * k)).map (z.cells[· % z.cells.size]!)) parts.toList = some cs.toArray) (hl : cs.length = n * k) :
    ∃ v w', (Instr.buildSlice t n parts).run P w = .ok v w' ∧ Mem S w0 w' (⟨E, k, v, n, cs⟩ :: L) := by
  obtain ⟨i, hi, hz, hk, _⟩ := hT.info
  have hrun : (Instr.buildSlice t n parts).run P w = .ok (.slice (some ⟨w.heap.size, 0, none⟩) n n) (w.alloc (.cells cs.toArray E)) := by
    have hbig' : ¬ 16777216 < n * k := by omega
    by_cases h0 : n * k = 0
    · have hf' := hf
      rw [h0] at hf'
      have e1 : ∀ f : Nat → Value, (Array.range 0).map f = #[] := fun f => by simp
      rw [e1] at hf'
      simp [Instr.buildSlice, run_underlying hT.under, sizeOf, typeInfo, hi, hk, h0, Array.range_zero', hf', newRow]
    · simp [Instr.buildSlice, run_underlying hT.under, sizeOf, typeInfo, hi, hk, hbig', h0, zeroValue, hz, hf, newRow]
  have hn : n ≤ maxLen := by
    have : n ≤ n * k := Nat.le_mul_of_pos_right _ hT.pos
    simp only [maxLen]; omega
  refine ⟨_, _, hrun, hM.push (World.grownBy_alloc w _ none) ⟨E, k, _, n, cs⟩ ?_ ?_⟩
  · have := ownsRow_old (w := w) (cs := cs.toArray) (e := E) (k := k) (n := n) (by simpa using hl) hn
    simpa using this
  · intro c hc
    simp [Value.ownBlock] at hc
    omega

theorem rd_len {v : Value} {n : Nat} {xs : List Value} (h : Rd w k v n xs) : n ≤ maxLen := by
  obtain ⟨_, a, c, _, h1, h2, _⟩ := h; omega

theorem append_place (hT : SliceT P t E k b z) {v : Value} {n : Nat} {xs : List Value} (hown : w.ownsRow 0 E k v n xs) {ad : Addr} {m c : Nat} {news : List Value} (hl : news.length = m * k)
    (hnews : ∀ j u, news[j]? = some u → w.cell? (ad.add j) = some u) (h1 : ∀ u ∈ news, u.oneCell' = true) (hbytes : (n + m) * b ≤ 140737488355328) (hlen : n + m ≤ 9223372036854775807) {ty : TypeId} {v' : Value} {w' : World}
    (hrun : (Builtin.append_ #[t, t] ty #[v, .slice (some ad) m c]).run P w = .ok v' w') : v'.ownBlock = v.ownBlock ∨ ∀ d, v'.ownBlock = some d → w.heap.size ≤ d := by
  obtain ⟨ti, hi, hz, hk, hby⟩ := hT.info
  subst hk
  subst hby
  rcases hown.2 with ⟨rfl, rfl⟩ | ⟨g, cap, cur, rfl, _, hg, hnc, hcm, hsz, htake⟩
  · by_cases hm : m = 0
    · subst hm
      have hn : news = [] := List.eq_nil_of_length_eq_zero (by simpa using hl)
      subst hn
      have e : (Builtin.append_ #[t, t] ty #[.slice none 0 0, .slice (some ad) 0 c]).run P w = .ok (.slice none 0 0) w := by
        simp [Builtin.append_, run_underlying hT.under, sizeOf, typeInfo, hi, Builtin.lenOf, Builtin.firstCells, loadCells, loadCellsFrom]
      rw [e] at hrun
      simp only [Result.ok.injEq] at hrun
      exact .inl (by rw [← hrun.1])
    · have hr := run_append_nil (P := P) w t ty E ti z hT.under hi hz ad m c news hl hnews (by omega) (by omega) (by simp only [Nat.zero_add] at hbytes; omega)
      rw [hr] at hrun
      simp only [Result.ok.injEq] at hrun
      refine .inr fun d hd => ?_
      rw [← hrun.1] at hd
      simp [Value.ownBlock] at hd
      omega
  · by_cases hroom : n + m ≤ cap
    · have hfit : n * ti.size + news.length ≤ cur.size := by rw [hl, hsz, ← Nat.add_mul]; exact Nat.mul_le_mul_right _ hroom
      have hr := run_append_room (P := P) w t ty E ti hT.under hi g n cap cur hg ad m c news hl hnews h1 hroom hfit
      rw [hr] at hrun
      simp only [Result.ok.injEq] at hrun
      exact .inl (by rw [← hrun.1]; rfl)
    · have holds : ∀ j u, xs[j]? = some u → w.cell? ((⟨g, 0, none⟩ : Addr).add j) = some u := hown.cells (g := g) rfl
      have hr := run_append_grow (P := P) w t ty E ti z hT.under hi hz ⟨g, 0, none⟩ n cap xs hown.1 holds ad m c news hl hnews (by omega) (by omega) (growslice_fits (by omega) hbytes)
      rw [hr] at hrun
      simp only [Result.ok.injEq] at hrun
      refine .inr fun d hd => ?_
      rw [← hrun.1] at hd
      simp [Value.ownBlock] at hd
      omega

/-- append to a row of the call's own -/
theorem m_append (hT : SliceT P t E k b z) (hM : Mem S w0 w L) (i : Nat) {v : Value} {n : Nat} {xs : List Value} (hr : L[i]? = some ⟨E, k, v, n, xs⟩) {x : Value} {m : Nat} {news : List Value}
    (hx : Rd w k x m news) (h1 : ∀ u ∈ news, u.oneCell' = true) (hbytes : (n + m) * b ≤ 140737488355328) (hlen : n + m ≤ 9223372036854775807) (ty : TypeId) :
    ∃ v' w', (Builtin.append_ #[t, t] ty #[v, x]).run P w = .ok v' w' ∧ Mem S w0 w' (L.set i ⟨E, k, v', n + m, xs ++ news⟩) := by
  obtain ⟨ti, hi, hz, hk, hby⟩ := hT.info
  have hown : w.ownsRow 0 E k v n xs := hM.get i hr
  obtain ⟨hl, a, c, rfl, hmc, hc, hnil, hcell⟩ := hx
  have blk : ∀ {v' : Value} {w' : World}, w.grownBy w' v.ownBlock → w'.ownsRow 0 E k v' (n + m) (xs ++ news) → (∀ c, v'.ownBlock = some c → v.ownBlock = some c ∨ w.heap.size ≤ c) → Mem S w0 w' (L.set i ⟨E, k, v', n + m, xs ++ news⟩) :=
    fun hg ho hv => hM.grow i hr (.inr rfl) hg _ _ _ ho hv
  cases a with
  | none =>
    obtain ⟨rfl, rfl⟩ := hnil rfl
    have hn0 : news = [] := List.eq_nil_of_length_eq_zero (by simpa using hl)
    subst hn0
    have hrun : (Builtin.append_ #[t, t] ty #[v, .slice none 0 0]).run P w = .ok v w := by
      rcases hown.2 with ⟨rfl, _⟩ | ⟨g, cap, cur, rfl, _, hg, hn, _, _, _⟩
      · simp [Builtin.append_, run_underlying hT.under, sizeOf, typeInfo, hi, Builtin.lenOf, Builtin.firstCells]
      · simp [Builtin.append_, run_underlying hT.under, sizeOf, typeInfo, hi, Builtin.lenOf, Builtin.firstCells, hn, storeCells]
    refine ⟨_, _, hrun, ?_⟩
    rw [List.append_nil, Nat.add_zero]
    exact hM.grow i hr (.inl rfl) ⟨rfl, rfl, rfl, Nat.le_refl _, fun _ _ _ => rfl⟩ _ _ _ hown (fun c hc => .inl hc)
  | some ad =>
    obtain ⟨hsp, hcs⟩ := hcell ad rfl
    have hnews : ∀ j u, news[j]? = some u → w.cell? (ad.add j) = some u := by
      intro j u hu
      rcases hsp with rfl | hsp
      · cases hu
      · have hadd : ad.add j = ⟨ad.block, ad.off + j, none⟩ := by obtain ⟨x, y, zz⟩ := ad; simp only at hsp; subst hsp; unfold Addr.add; split <;> simp_all
        rw [hadd]; exact hcs j u hu
    obtain ⟨v', w', hrun, ho, hg, _⟩ := run_append_own (P := P) w 0 t ty E ti z k b hT.under hi hz hk hby hT.cells hT.pos v n xs hown ad m c news hl
      hnews h1 (by simp only [maxLen]; omega) hbytes (Nat.zero_le _)
    refine ⟨v', w', hrun, blk hg ho (fun d hd => ?_)⟩
    have hd2 := own_lt ho d hd
    by_cases e : v.ownBlock = some d
    · exact .inl e
    · right
      -- a block below that is not v's own is as it was: so the new row would have been there
      rcases Nat.lt_or_ge d w.heap.size with hlt | hge
      · exfalso
        rcases append_place hT hown hl hnews h1 hbytes hlen hrun with h | h
        · exact e (h ▸ hd)
        · have := h d hd; omega
      · exact hge

/-- the address of element j -/
def At (v : Value) (k j : Nat) (p : Addr) : Prop := ∃ bl off n c, v = .slice (some ⟨bl, off, none⟩) n c ∧ p = ⟨bl, off + j * k, none⟩

theorem rd_at (hT : SliceT P t E k b z) {v : Value} {n : Nat} {xs : List Value} (h : Rd w k v n xs) {i : Int} (j : Nat) (hi : i = (j : Int)) (hj : j < n) :
    ∃ p, At v k j p ∧ ∀ (W : World) (kk : IntKind), (Instr.indexAt t v (.int kk i)).run P W = .ok (.pointer (some p)) W := by
  subst hi
  obtain ⟨hxl, a, c, rfl, hnc, hc, hnil, hcell⟩ := h
  cases a with
  | none => have := hnil rfl; omega
  | some ad =>
    obtain ⟨hsp, _⟩ := hcell ad rfl
    have hsp := hsp.resolve_left (by intro e; rw [e] at hxl; have := Nat.mul_pos (show 0 < n by omega) hT.pos; simp at hxl; omega)
    obtain ⟨bl, off, sp⟩ := ad
    simp only at hsp
    subst hsp
    refine ⟨⟨bl, off + j * k, none⟩, ⟨bl, off, n, c, rfl, rfl⟩, fun W kk => ?_⟩
    have hadd : (⟨bl, off, none⟩ : Addr).add (j * k) = ⟨bl, off + j * k, none⟩ := by unfold Addr.add; split <;> simp_all
    simp [Instr.indexAt, asIntOf, run_underlying hT.under, hT.size, hadd, hj]

/-- no struct, no array -/
def Plain (P : Program) (E : TypeId) : Prop := ∃ d, P.underlying E = some d ∧ (∀ fs, d ≠ .struct fs) ∧ (∀ m e, d ≠ .array m e)
theorem plain_agg (h : Plain P E) (W : World) : (isAgg E).run P W = .ok false W := by
  obtain ⟨d, hd, h1, h2⟩ := h
  unfold isAgg
  rw [Sem.run_bind, run_underlying hd]
  simp only [Result.andThen_ok]
  cases d <;> first | rfl | exact absurd rfl (h1 _) | exact absurd rfl (h2 _ _)
theorem cell_load (hE : Plain P E) {p : Addr} {u : Value} (h : w.cell? p = some u) : (Instr.loadAt E (.pointer (some p))).run P w = .ok u w := by
  simp [Instr.loadAt, Instr.sureAddr, loadVar, plain_agg hE, h]
theorem at_load {v : Value} {n : Nat} {xs : List Value} (hE : Plain P E) (h : Rd w 1 v n xs) {j : Nat} {p : Addr} (hp : At v 1 j p) {u : Value} (hu : xs[j]? = some u) : (Instr.loadAt E (.pointer (some p))).run P w = .ok u w := by
  obtain ⟨bl, off, n', c', rfl, rfl⟩ := hp
  obtain ⟨_, a, c, e, _, _, _, hcell⟩ := h
  simp only [Value.slice.injEq] at e
  obtain ⟨rfl, rfl, rfl⟩ := e
  have := (hcell _ rfl).2 j u hu
  simp only [Nat.mul_one]
  exact cell_load hE this

theorem at_store (hE1 : P.cellsOf E = 1) (hM : Mem S w0 w L) (i : Nat) {v : Value} {n : Nat} {xs : List Value} (hr : L[i]? = some ⟨E, 1, v, n, xs⟩) {j : Nat} {p : Addr} (hp : At v 1 j p) (hj : j < n) {u : Value} (hu : u.oneCell' = true) (hc : u.cells = #[u]) :
    ∃ w', (Instr.storeAt E (.pointer (some p)) u).run P w = .ok () w' ∧ Mem S w0 w' (L.set i ⟨E, 1, v, n, xs.set j u⟩) := by
  have hown : w.ownsRow 0 E 1 v n xs := hM.get i hr
  obtain ⟨bl, off, n', c', rfl, rfl⟩ := hp
  rcases hown.2 with ⟨e, _⟩ | ⟨g, cap, cur, e, _, hg, hn, _, hsz, ht⟩
  · cases e
  · simp only [Value.slice.injEq, Option.some.injEq, Addr.mk.injEq, and_true] at e
    obtain ⟨⟨rfl, rfl⟩, rfl, rfl⟩ := e
    have hst := hown.stored j u
    have hcell := hown.cellAt j (by omega)
    have hfr := hown.frozenAt j
    have hxs : xs[j]? = some (xs[j]'(by rw [hown.1]; omega)) := List.getElem?_eq_getElem _
    rw [hxs] at hcell
    have hsz : (sizeOf E).run P w = .ok 1 w := by
      have : ∃ i, P.info? E = some i ∧ i.size = 1 := by
        unfold Program.cellsOf at hE1
        cases hq : P.info? E with
        | none => rw [hq] at hE1; simp at hE1
        | some q => rw [hq] at hE1; exact ⟨q, rfl, by simpa using hE1⟩
      obtain ⟨i, hi, hk⟩ := this
      simp [sizeOf, typeInfo, hi, hk]
    refine ⟨_, ?_, hM.grow i hr (.inr rfl) (row := (Value.slice (some ⟨bl, 0, none⟩) n' c').ownBlock) ?_ _ _ _ hst.1 (fun b hb => .inl hb)⟩
    · simp only [Nat.mul_one, Nat.zero_add]
      simp [Instr.storeAt, Instr.sureAddr, storeVar, hsz, hc, storeCells, Addr.add, run_store, hu, hcell, hfr]
    · exact hst.2

theorem f_slen (hT : SliceT P t E k b z) {v : Value} {n : Nat} {xs : List Value} (h : Rd w k v n xs) (ty : TypeId) (W : World) : (Builtin.len_ #[t] ty #[v]).run P W = .ok (.int .i64 ((n : Nat) : Int)) W := by
  obtain ⟨_, a, c, rfl, _⟩ := h
  simp [Builtin.len_, run_underlying hT.under, goInt]

/-- the first m elements, the room kept -/
def cut (v : Value) (m : Nat) : Value := match v with | .slice a _ c => .slice a m c | v => v
theorem rd_self {v : Value} {n : Nat} {xs : List Value} (h : Rd w k v n xs) : cut v n = v := by
  obtain ⟨_, a, c, rfl, _⟩ := h; rfl
/-- v[:m], with m up to the number that is known to lie there -/
theorem f_cut (hT : SliceT P t E k b z) {v : Value} {n : Nat} {xs : List Value} (h : Rd w k v n xs) {i : Int} (q m : Nat) (hi : i = (m : Int)) (hm : m ≤ n) (kk : IntKind) (W : World) :
    (Instr.sliceAt t (cut v q) none (some (.int kk i)) none).run P W = .ok (cut v m) W := by
  subst hi
  obtain ⟨hl, a, c, rfl, hnc, hc, hnil, hcell⟩ := h
  have h1 : (m : Int) ≤ (c : Int) := by omega
  have e : (Instr.slice t (.slice a q c) none (some (.int kk (m : Int))) none).run P W = .ok (.slice a m c) W := by
    have hsb := run_sliceBound (P := P) W kk (m : Int) c .sliceAcap (by omega) h1
    cases a with
    | none => simp [Instr.slice, run_underlying hT.under, Instr.sliceBounds, hsb, hT.size]
    | some ad =>
      have hadd : ad.add 0 = ad := by simp [Addr.add]
      simp [Instr.slice, run_underlying hT.under, Instr.sliceBounds, hsb, hT.size, hadd]
  simp only [Instr.sliceAt, Sem.run_bind, run_underlying hT.under, Result.andThen_ok]
  exact e

/-! ### lists of plain things -/
def ivals (k : IntKind) (l : List Int) : List Value := l.map (Value.int k)
def u8s (l : List UInt8) : List Value := l.map fun c => Value.int .u8 (c.toNat : Int)
def svals (l : List (List UInt8)) : List Value := l.map fun s => Value.string (sb s)
def bvals (l : List Bool) : List Value := l.map Value.bool
theorem u8s_len (l : List UInt8) : (u8s l).length = l.length := by simp [u8s]
theorem svals_len (l : List (List UInt8)) : (svals l).length = l.length := by simp [svals]
theorem ivals_at {kk : IntKind} {l : List Int} {j : Nat} (h : j < l.length) : (ivals kk l)[j]? = some (.int kk (l.getD j 0)) := by
  simp [ivals, List.getElem?_eq_getElem h, List.getD_eq_getElem?_getD]
theorem ivals_one (kk : IntKind) (l : List Int) : ∀ u ∈ ivals kk l, u.oneCell' = true := by
  intro u hu; obtain ⟨x, _, rfl⟩ := List.mem_map.1 hu; rfl
theorem svals_one (l : List (List UInt8)) : ∀ u ∈ svals l, u.oneCell' = true := by
  intro u hu; obtain ⟨x, _, rfl⟩ := List.mem_map.1 hu; rfl
/-- bytes as a text -/
theorem f_string {d : TypeId} (hT : SliceT P t E 1 1 (.int .u8 0)) (he : P.underlying E = some (.int .u8)) (hd : P.underlying d = some .string) {v : Value} {n : Nat} {l : List UInt8} (h : Rd w 1 v n (u8s l)) :
    (convert t d v).run P w = .ok (.string (sb l)) w := by
  obtain ⟨hl, a, c, rfl, hnc, hc, hnil, hcell⟩ := h
  rw [u8s_len] at hl
  rw [run_convert_bytes_string w t d E a n c hT.under he hd]
  cases a with
  | none =>
    obtain ⟨rfl, rfl⟩ := hnil rfl
    have : l = [] := List.eq_nil_of_length_eq_zero (by omega)
    subst this
    simp [Conv.bytesToString, sb]
    rfl
  | some ad =>
    obtain ⟨hsp, hcs⟩ := hcell ad rfl
    have hload : (loadCells ad n).run P w = .ok ((l.map fun c => (c.toNat : Int)).map (Value.int .u8)).toArray w := by
      have e : (l.map fun c => (c.toNat : Int)).map (Value.int .u8) = u8s l := by simp [u8s]
      rw [e]
      have := run_loadCells_list (P := P) w ad (u8s l) (fun j u hj => by
        rcases hsp with h0 | hsp
        · rw [h0] at hj; cases hj
        · have hplain : ad.add j = ⟨ad.block, ad.off + j, none⟩ := by obtain ⟨x, y, zz⟩ := ad; simp only at hsp; subst hsp; unfold Addr.add; split <;> simp_all
          rw [hplain]; exact hcs j u hj)
      rw [u8s_len] at this
      rw [show n = l.length by omega]
      exact this
    rw [run_bytesToString w _ n c _ hload]
    congr 2
    have key : ∀ (l : List UInt8) (r : ByteArray), (l.map fun c => (c.toNat : Int)).foldl (fun r n => r.push (UInt8.ofNat n.toNat)) r = ⟨r.data ++ l.toArray⟩ := by
      intro l
      induction l with
      | nil => intro r; simp
      | cons x xs ih =>
        intro r
        simp only [List.map_cons, List.foldl_cons, ih]
        simp [ByteArray.push]
    rw [key]
    simp [sb]

/-- make([]T, n) -/
theorem m_make (hT : SliceT P t E 1 b z) (hz1 : z.cells = #[z]) (hM : Mem S w0 w L) {x y : Int} (n : Nat) (hx : x = (n : Int)) (hy : y = (n : Int)) (hbytes : b * n ≤ 281474976710656) (hn : n ≤ 9223372036854775807) (kl kc : IntKind) :
    ∃ v w', (Instr.makeSlice t (.int kl x) (.int kc y)).run P w = .ok v w' ∧ Mem S w0 w' (⟨E, 1, v, n, List.replicate n z⟩ :: L) := by
  subst hx; subst hy
  obtain ⟨i, hi, hz, hk, hb⟩ := hT.info
  obtain ⟨w', hrun, hown, hg⟩ := run_make_full (P := P) w 0 t E i z 1 hT.under hi hz hk kl kc n (by rw [hb]; exact hbytes) (by simp only [maxLen]; omega) (Nat.zero_le _)
  rw [hz1, Nat.mul_one, toList_madeCells_one] at hown
  refine ⟨_, w', hrun, hM.push hg ⟨E, 1, _, n, _⟩ hown (fun c hc => ?_)⟩
  simp [Value.ownBlock] at hc
  omega

theorem f_cut0 (hT : SliceT P t E k b z) {v : Value} {n : Nat} {xs : List Value} (h : Rd w k v n xs) {i : Int} (m : Nat) (hi : i = (m : Int)) (hm : m ≤ n) (kk : IntKind) (W : World) :
    (Instr.sliceAt t v none (some (.int kk i)) none).run P W = .ok (cut v m) W := by
  have := f_cut hT h n m hi hm kk W
  rwa [rd_self h] at this

/-- what a callee made is laid beside the caller's own -/
theorem Mem.join {w' : World} {R : List Row} (h : Mem S w0 w L) (c : Mem [] w w' R) : Mem S w0 w' (R ++ L) := by
  have hg : w.grownBy w' none := ⟨c.kept.os, c.kept.tape, c.kept.output, c.kept.size, fun b hb _ => c.kept.block b hb (by simp)⟩
  have h' := h.same hg
  refine ⟨h'.kept, fun r hr => ?_, ?_, fun r hr b hb => ?_⟩
  · rcases List.mem_append.1 hr with hr | hr
    · exact c.owns r hr
    · exact h'.owns r hr
  · have hlow : ∀ s ∈ L, ∀ b, s.v.ownBlock = some b → b < w.heap.size := fun s hs b hb => own_lt (h.owns s hs) b hb
    have hhigh : ∀ r ∈ R, ∀ b, r.v.ownBlock = some b → w.heap.size ≤ b := fun r hr b hb => (c.mine r hr b hb).resolve_left (by simp)
    have ha := c.apart
    clear c h'
    induction R with
    | nil => exact h.apart
    | cons r R ih =>
      refine ⟨fun s hs => ?_, ih (fun r' hr' => hhigh r' (List.mem_cons_of_mem _ hr')) ha.2⟩
      rcases List.mem_append.1 hs with hs | hs
      · exact ha.1 s hs
      · cases hrb : r.v.ownBlock with
        | none => exact .inl rfl
        | some b =>
          right
          intro e
          have h1 := hhigh r (List.mem_cons_self ..) b hrb
          have h2 := hlow s hs b e.symm
          omega
  · rcases List.mem_append.1 hr with hr | hr
    · right
      have := (c.mine r hr b hb).resolve_left (by simp)
      exact Nat.le_trans h.kept.size this
    · exact h'.mine r hr b hb
theorem Mem.cast {M : List Row} (h : Mem S w0 w L) (e : L = M) : Mem S w0 w M := e ▸ h

def nvals (kk : IntKind) (l : List Nat) : List Value := l.map fun (n : Nat) => Value.int kk (n : Int)
/-- bytes of numbers -/
def bytesOf (l : List Int) : List UInt8 := l.map fun x => UInt8.ofNat x.toNat
theorem u8s_bytesOf {l : List Int} (h : ∀ x ∈ l, 0 ≤ x ∧ x ≤ 255) : u8s (bytesOf l) = ivals .u8 l := by
  unfold u8s bytesOf ivals
  rw [List.map_map]
  apply List.map_congr_left
  intro x hx
  obtain ⟨h1, h2⟩ := h x hx
  simp only [Function.comp]
  congr 1
  rw [UInt8.toNat_ofNat', Nat.mod_eq_of_lt (by omega)]
  omega
theorem f_string_i {d : TypeId} (hT : SliceT P t E 1 1 (.int .u8 0)) (he : P.underlying E = some (.int .u8)) (hd : P.underlying d = some .string) {v : Value} {n : Nat} {l : List Int} (h : Rd w 1 v n (ivals .u8 l)) (hl : ∀ x ∈ l, 0 ≤ x ∧ x ≤ 255) :
    (convert t d v).run P w = .ok (.string (sb (bytesOf l))) w := f_string hT he hd (by rw [u8s_bytesOf hl]; exact h)

/-- a world that is another but for draws -/
def Dr (w w' : World) : Prop := ∃ m, w' = w.drewN m
theorem Dr.refl (w : World) : Dr w w := ⟨0, rfl⟩
theorem Dr.trans {a b c : World} (h : Dr a b) (k : Dr b c) : Dr a c := by
  obtain ⟨m, rfl⟩ := h; obtain ⟨m', rfl⟩ := k
  exact ⟨m + m', World.drewN_drewN _ _ _⟩
theorem Rd.dr {w w' : World} {k n : Nat} {v : Value} {xs : List Value} (h : Rd w k v n xs) (d : Dr w w') : Rd w' k v n xs := by
  obtain ⟨m, rfl⟩ := d; exact h.drewN m
theorem Mem.dr {w' : World} (h : Mem S w0 w L) (d : Dr w w') : Mem S w0 w' L := by
  obtain ⟨m, rfl⟩ := d; exact h.drewN m
theorem Dr.mem {w w' : World} (d : Dr w w') : Mem [] w w' [] := (Mem.start w).dr d
theorem Mem.nilrow (h : Mem S w0 w L) (E : TypeId) (k : Nat) : Mem S w0 w (⟨E, k, .slice none 0 0, 0, []⟩ :: L) :=
  h.push ⟨rfl, rfl, rfl, Nat.le_refl _, fun _ _ _ => rfl⟩ _ (World.ownsRow_nil w 0 E k) (fun b hb => by simp [Value.ownBlock] at hb)
end
theorem pR {α : Type} {l : List α} : l.Perm l := .refl l
theorem pS {α : Type} {a b : α} {l m : List α} (h : l.Perm (a :: m)) : (b :: l).Perm (a :: b :: m) := (List.Perm.cons b h).trans (List.Perm.swap a b m)
theorem sK {α : Type} {a : α} {l m : List α} (h : l.Sublist m) : (a :: l).Sublist (a :: m) := .cons_cons a h
theorem sD {α : Type} {a : α} {l m : List α} (h : l.Sublist m) : l.Sublist (a :: m) := .cons a h
theorem sN {α : Type} {l : List α} : ([] : List α).Sublist l := List.nil_sublist l
theorem sR {α : Type} {l : List α} : l.Sublist l := .refl l
theorem mS {α : Type} {a b : α} {l : List α} (h : a ∈ l) : a ∈ b :: l := List.mem_cons_of_mem b h
abbrev iN (n : Nat) : Value := .int .i64 ((n : Nat) : Int)
abbrev sS (s : List UInt8) : Value := .string (sb s)
abbrev pq (b : Nat) : Value := .pointer (some ⟨b, 0, none⟩)
end Go.Gw


namespace Go.Gw
set_option linter.unusedVariables false
set_option linter.unusedSimpArgs false
open Go.RowKit

/-- a variable's block, told as a row of one -/
def obj (b : Nat) : Value := .slice (some ⟨b, 0, none⟩) 1 1
/-- the address of a cell of a row -/
def Cel (v : Value) (c : Nat) (p : Addr) : Prop := ∃ bl off n m, v = .slice (some ⟨bl, off, none⟩) n m ∧ p = ⟨bl, off + c, none⟩
theorem cel_obj (b c : Nat) : Cel (obj b) c ⟨b, c, none⟩ := ⟨b, 0, 1, 1, rfl, by simp⟩
theorem At.cel {v : Value} {k j : Nat} {p : Addr} (h : At v k j p) : Cel v (j * k) p := h
theorem Cel.add {v : Value} {c : Nat} {p : Addr} (h : Cel v c p) (d : Nat) : Cel v (c + d) (p.add d) := by
  obtain ⟨bl, off, n, m, rfl, rfl⟩ := h
  refine ⟨bl, off, n, m, rfl, ?_⟩
  unfold Addr.add
  split
  · subst_vars; simp
  · simp [Nat.add_assoc]
theorem Cel.cast {v : Value} {c d : Nat} {p : Addr} (h : Cel v c p) (e : c = d) : Cel v d p := e ▸ h
/-- a slice's value is a slice -/
theorem rd_form {w : World} {k n : Nat} {v : Value} {xs : List Value} (h : Rd w k v n xs) : ∃ a m c, v = .slice a m c := by
  obtain ⟨_, a, c, hv, _⟩ := h; exact ⟨a, n, c, hv⟩
theorem rd_one {w : World} {k n : Nat} {v : Value} {xs : List Value} (h : Rd w k v n xs) : v.oneCell' = true := by
  obtain ⟨a, m, c, rfl⟩ := rd_form h; rfl
theorem rd_cells {w : World} {k n : Nat} {v : Value} {xs : List Value} (h : Rd w k v n xs) : v.cells = #[v] := by
  obtain ⟨a, m, c, rfl⟩ := rd_form h; rfl
theorem rd_cellsl {w : World} {k n : Nat} {v : Value} {xs : List Value} (h : Rd w k v n xs) : v.cells.toList = [v] := by rw [rd_cells h]
structure ObjT (P : Program) (T : TypeId) (k : Nat) (z : Value) : Prop where
  info : ∃ i, P.info? T = some i ∧ i.zero = some z ∧ i.size = k
  cells : z.cells.size = k

section
variable {P : Program} {T E : TypeId} {k : Nat} {z : Value} {w w0 : World} {S : List Nat} {L : List Row}

theorem ownsRow_var {cs : Array Value} (hs : cs.size = k) : (w.alloc (.cells cs E)).ownsRow 0 E k (obj w.heap.size) 1 cs.toList :=
  ownsRow_old (n := 1) (by simpa using hs) (by decide)

theorem m_alloc (hT : ObjT P T k z) (hM : Mem S w0 w L) :
    ∃ b w', (Instr.alloc T true (.tuple #[])).run P w = .ok (.pointer (some ⟨b, 0, none⟩)) w' ∧ Mem S w0 w' (⟨T, k, obj b, 1, z.cells.toList⟩ :: L) := by
  obtain ⟨i, hi, hz, hk⟩ := hT.info
  refine ⟨w.heap.size, w.alloc (.cells z.cells T), ?_, hM.push (World.grownBy_alloc w _ none) ⟨T, k, _, 1, _⟩ (ownsRow_var hT.cells) ?_⟩
  · simp [Instr.alloc, zeroValue, typeInfo, hi, hz, newVar, newRow]
  · intro c hc
    simp [obj, Value.ownBlock] at hc
    omega
theorem m_box {u : Value} {cs : List Value} (hcs : u.cells.toList = cs) (hk : cs.length = k) (hM : Mem S w0 w L) :
    ∃ b w', (Instr.box T u).run P w = .ok (.pointer (some ⟨b, 0, none⟩)) w' ∧ Mem S w0 w' (⟨T, k, obj b, 1, cs⟩ :: L) := by
  refine ⟨w.heap.size, w.alloc (.cells u.cells T), ?_, hM.push (World.grownBy_alloc w _ none) ⟨T, k, _, 1, _⟩ ?_ ?_⟩
  · simp [Instr.box, newVar, newRow]
  · subst hcs
    exact ownsRow_var (by simpa using hk)
  · intro c hc
    simp [obj, Value.ownBlock] at hc
    omega

theorem cel_cell {v : Value} {n : Nat} {xs : List Value} (h : Rd w k v n xs) {c : Nat} {p : Addr} (hp : Cel v c p) {u : Value} (hu : xs[c]? = some u) : w.cell? p = some u := by
  obtain ⟨bl, off, n', c', rfl, rfl⟩ := hp
  obtain ⟨_, a, m, e, _, _, _, hcell⟩ := h
  simp only [Value.slice.injEq] at e
  obtain ⟨rfl, rfl, rfl⟩ := e
  exact (hcell _ rfl).2 c u hu
theorem c_load (hE : Plain P E) {v : Value} {n : Nat} {xs : List Value} (h : Rd w k v n xs) {c : Nat} {p : Addr} (hp : Cel v c p) {u : Value} (hu : xs[c]? = some u) :
    (Instr.loadAt E (.pointer (some p))).run P w = .ok u w := cell_load hE (cel_cell h hp hu)
/-- a struct, an array -/
def Agged (P : Program) (E : TypeId) (m : Nat) : Prop := (∃ d, P.underlying E = some d ∧ ((∃ fs, d = .struct fs) ∨ (∃ q e, d = .array q e))) ∧ ∃ i, P.info? E = some i ∧ i.size = m
theorem agged_agg {m : Nat} (h : Agged P E m) (W : World) : (isAgg E).run P W = .ok true W := by
  obtain ⟨⟨d, hd, h1⟩, _⟩ := h
  unfold isAgg
  rw [Sem.run_bind, run_underlying hd]
  simp only [Result.andThen_ok]
  rcases h1 with ⟨fs, rfl⟩ | ⟨q, e, rfl⟩ <;> rfl
theorem agged_size {m : Nat} (h : Agged P E m) (W : World) : (sizeOf E).run P W = .ok m W := by
  obtain ⟨_, i, hi, hk⟩ := h
  simp [sizeOf, typeInfo, hi, hk]
theorem c_loads {m : Nat} (hE : Agged P E m) {v : Value} {n : Nat} {xs : List Value} (h : Rd w k v n xs) {c : Nat} {p : Addr} (hp : Cel v c p) {ys : List Value} (hy : ys.length = m)
    (hu : ∀ j u, ys[j]? = some u → xs[c + j]? = some u) : (Instr.loadAt E (.pointer (some p))).run P w = .ok (.agg ys.toArray) w := by
  subst hy
  have := run_loadCells_list (P := P) w p ys (fun j u hj => cel_cell h (hp.add j) (hu j u hj))
  simp [Instr.loadAt, Instr.sureAddr, loadVar, agged_agg hE, agged_size hE, this]

theorem size_one (hE1 : P.cellsOf E = 1) (W : World) : (sizeOf E).run P W = .ok 1 W := by
  have : ∃ i, P.info? E = some i ∧ i.size = 1 := by
    unfold Program.cellsOf at hE1
    cases hq : P.info? E with
    | none => rw [hq] at hE1; simp at hE1
    | some q => rw [hq] at hE1; exact ⟨q, rfl, by simpa using hE1⟩
  obtain ⟨i, hi, hk⟩ := this
  simp [sizeOf, typeInfo, hi, hk]

theorem c_store (hE1 : P.cellsOf E = 1) (hM : Mem S w0 w L) (i : Nat) {v : Value} {n : Nat} {xs : List Value} (hr : L[i]? = some ⟨T, k, v, n, xs⟩) {c : Nat} {p : Addr} (hp : Cel v c p) (hj : c < n * k)
    {u : Value} (hu : u.oneCell' = true) (hc : u.cells = #[u]) :
    ∃ w', (Instr.storeAt E (.pointer (some p)) u).run P w = .ok () w' ∧ Mem S w0 w' (L.set i ⟨T, k, v, n, xs.set c u⟩) := by
  have hown : w.ownsRow 0 T k v n xs := hM.get i hr
  obtain ⟨bl, off, n', c', rfl, rfl⟩ := hp
  rcases hown.2 with ⟨e, _⟩ | ⟨g, cap, cur, e, _, hg, hn, _, hsz, ht⟩
  · cases e
  · simp only [Value.slice.injEq, Option.some.injEq, Addr.mk.injEq, and_true] at e
    obtain ⟨⟨rfl, rfl⟩, rfl, rfl⟩ := e
    have hst := hown.stored c u
    have hcell := hown.cellAt c (by omega)
    have hfr := hown.frozenAt c
    have hxs : xs[c]? = some (xs[c]'(by rw [hown.1]; omega)) := List.getElem?_eq_getElem _
    rw [hxs] at hcell
    refine ⟨_, ?_, hM.grow i hr (.inr rfl) (row := (Value.slice (some ⟨bl, 0, none⟩) n' c').ownBlock) ?_ _ _ _ hst.1 (fun b hb => .inl hb)⟩
    · simp only [Nat.zero_add]
      simp [Instr.storeAt, Instr.sureAddr, storeVar, size_one hE1, hc, storeCells, Addr.add, run_store, hu, hcell, hfr]
    · exact hst.2

/-- a list of which a stretch is written anew -/
def splice (xs : List Value) (c : Nat) (ys : List Value) : List Value := xs.take c ++ ys ++ xs.drop (c + ys.length)
theorem c_stores {m : Nat} (hE : Agged P E m) (hM : Mem S w0 w L) (i : Nat) {v : Value} {n : Nat} {xs : List Value} (hr : L[i]? = some ⟨T, k, v, n, xs⟩) {c : Nat} {p : Addr} (hp : Cel v c p) {ys : List Value} (hy : ys.length = m) (hj : c + m ≤ n * k)
    (hu : ∀ u ∈ ys, u.oneCell' = true) :
    ∃ w', (Instr.storeAt E (.pointer (some p)) (.agg ys.toArray)).run P w = .ok () w' ∧ Mem S w0 w' (L.set i ⟨T, k, v, n, splice xs c ys⟩) := by
  have hown : w.ownsRow 0 T k v n xs := hM.get i hr
  obtain ⟨bl, off, n', c', rfl, rfl⟩ := hp
  rcases hown.2 with ⟨e, _⟩ | ⟨g, cap, cur, e, hb, hg, hn, hcm, hsz, ht⟩
  · cases e
  · simp only [Value.slice.injEq, Option.some.injEq, Addr.mk.injEq, and_true] at e
    obtain ⟨⟨rfl, rfl⟩, rfl, rfl⟩ := e
    have hnk : n' * k ≤ c' * k := Nat.mul_le_mul_right k hn
    have hst := run_storeCells_at (P := P) bl c T ys 0 cur w hg (by omega) hu
    refine ⟨w.setRow bl (cur.toList.take (c + 0) ++ ys ++ cur.toList.drop (c + 0 + ys.length)).toArray, ?_, hM.grow i hr (.inr rfl) (row := (Value.slice (some ⟨bl, 0, none⟩) n' c').ownBlock) ?_ _ _ _ ?_ (fun b hb => .inl hb)⟩
    · simp only [Nat.zero_add]
      have e1 : (Value.agg ys.toArray).cells.size = m := by simpa [Value.cells] using hy
      have e2 : (Value.agg ys.toArray).cells.toList = ys := by simp [Value.cells]
      simp only [Instr.storeAt, Instr.sureAddr, storeVar, Sem.run_bind, Sem.run_pure, Result.andThen_ok, agged_size hE, e1, e2, ne_eq, not_true_eq_false, if_false]
      exact hst
    · exact ⟨rfl, rfl, rfl, by simp, fun q _ hq => setRow_other w bl q _ (fun e => hq (by simp [Value.ownBlock, e]))⟩
    · have hlen : (cur.toList.take (c + 0) ++ ys ++ cur.toList.drop (c + 0 + ys.length)).length = c' * k := by
        simp [hsz]; omega
      refine ⟨?_, .inr ⟨bl, c', _, rfl, Nat.zero_le _, setRow_heap w bl cur _ T _ hg, hn, hcm, by simpa using hlen, ?_⟩⟩
      · have := hown.1
        simp only [splice, List.length_append, List.length_take, List.length_drop]
        omega
      · rw [← ht]
        simp only [Nat.add_zero, splice, List.take_append, List.length_append, List.length_take, List.drop_take, List.take_take, Array.length_toList]
        have a1 : min (n' * k) c = c := by omega
        have a2 : min c (n' * k) = c := by omega
        have a3 : min c cur.size = c := by omega
        have a4 : List.take (n' * k - c) ys = ys := List.take_of_length_le (by omega)
        rw [a1, a2, a3, a4]

/-- the address of an array's element -/
theorem f_arrAt {n m : Nat} (hA : P.underlying T = some (.array n E)) (hm : ∀ W, (sizeOf E).run P W = .ok m W) {i : Int} (j : Nat) (hi : i = (j : Int)) (hj : j < n) (p : Addr) (kk : IntKind) (W : World) :
    (Instr.indexAt T (.pointer (some p)) (.int kk i)).run P W = .ok (.pointer (some (p.add (j * m)))) W := by
  subst hi
  simp [Instr.indexAt, asIntOf, run_underlying hA, Instr.sureAddr, hm, hj]
end
end Go.Gw


namespace Go.Gw
set_option linter.unusedVariables false
set_option linter.unusedSimpArgs false

/-- where a walk stands -/
structure St where
  k : List Item
  l : Sl
structure GoX (P : Program) (f : FuncId) (R : Ending → World → Prop) (n : Nat) (s : St) (w : World) (D : Fx := {}) : Prop where
  of ::
  go : GoS P f R n s.k s.l w D

/-- so many plain steps -/
def nn : Nat → List Cmd
  | 0 => []
  | i + 1 => Cmd.n :: nn i
def adv (P : Program) (n i : Nat) (s : St) (w : World) : Option Rs := run P n (nn i) s.k s.l w
/-- the operation behind them has yielded v -/
def nx (P : Program) (n : Nat) (w : World) (i : Nat) (v : Value) (s : St) : St :=
  match adv P n i s w with
  | some r => match r.k with
    | .inRegion ops (j :: rest) :: k => match ops[j]? with
      | some o => ⟨.inRegion ops rest :: k, putS r.l o.dst v⟩
      | none => s
    | _ => s
  | none => s
/-- the operation behind them: what is reckoned of it -/
def opOf (P : Program) (n : Nat) (w : World) (i : Nat) (s : St) : Option (List Prop × World × Oper × Sl) :=
  match adv P n i s w with
  | some r => match r.k with
    | .inRegion ops (j :: _) :: _ => match ops[j]? with
      | some o => match wantedS ops r.l o, known r.l o.op.operands.toList, noSel o.op, inB n o.dst with
        | some true, true, true, true => some (r.obs, r.w, o, r.l)
        | _, _, _, _ => none
      | none => none
    | _ => none
  | none => none
/-- what is owed -/
def ck (P : Program) (n : Nat) (w : World) (i : Nat) (v : Value) (w' : World) (s : St) : Option (List Prop × World × Prop) :=
  match opOf P n w i s with
  | some (ps, w1, o, l) => some (ps, w1, owed P o (rho l) w1 v w')
  | none => none

section
variable {P : Program} {f : FuncId} {R : Ending → World → Prop} {n : Nat} {s : St} {w w' : World} {D : Fx}

theorem opOf_spec {i : Nat} {ps : List Prop} {w1 : World} {o : Oper} {l : Sl} (h : opOf P n w i s = some (ps, w1, o, l)) (hps : ps = []) :
    ∃ ops j rest k, ops[j]? = some o ∧ wantedS ops l o = some true ∧ known l o.op.operands.toList = true ∧ noSel o.op = true ∧ inB n o.dst = true ∧
      (∀ v, nx P n w i v s = ⟨.inRegion ops rest :: k, putS l o.dst v⟩) ∧
      ∀ {f : FuncId} {R : Ending → World → Prop} {D : Fx}, GoS P f R n (.inRegion ops (j :: rest) :: k) l w1 D → GoX P f R n s w D := by
  unfold opOf at h
  split at h
  · rename_i r hr
    split at h
    · rename_i ops j rest k hk
      split at h
      · rename_i o' ho
        split at h
        · rename_i h0 h1 h2 h3
          simp only [Option.some.injEq, Prod.mk.injEq] at h
          obtain ⟨rfl, rfl, rfl, rfl⟩ := h
          refine ⟨ops, j, rest, k, ho, h0, h1, h2, h3, fun v => ?_, fun {f R D} hg => ?_⟩
          · unfold nx
            rw [hr]
            simp only [hk, ho]
          · unfold adv at hr
            refine ⟨run_goes hr (by rw [hps]; exact trivial) ?_⟩
            rw [hk]; exact hg
        · cases h
      · cases h
    · cases h
  · cases h

theorem op_goes {i : Nat} {o : Oper} {l : Sl} {v : Value} (h : opOf P n w i s = some ([], w, o, l))
    (hr : (execOp (rho l) o).run P w = .ok (.value v) w' ∨ ((execOp (rho l) o).run P w = .ok .skip w' ∧ v = undef)) (hk : GoX P f R n (nx P n w i v s) w' D) : GoX P f R n s w D := by
  obtain ⟨ops, j, rest, k, ho, h0, h1, h2, h3, hn, hg⟩ := opOf_spec h rfl
  refine hg (fun a ha => ?_)
  rw [hn v] at hk
  refine Goes.oper ho (wanted_eq ha h0) ?_
  unfold Oper.wp
  rw [exec_eq ha h1 h2]
  rcases hr with hr | ⟨hr, rfl⟩
  · rw [hr]; exact hk.go _ (ha.put _ _ h3)
  · rw [hr]; exact hk.go _ (ha.put _ _ h3)

theorem ck_goes {i : Nat} {v : Value} {p : Prop} (h : ck P n w i v w' s = some ([], w, p)) (hp : p) (hk : GoX P f R n (nx P n w i v s) w' D) : GoX P f R n s w D := by
  unfold ck at h
  split at h
  · rename_i ps w1 o l ho
    simp only [Option.some.injEq, Prod.mk.injEq] at h
    obtain ⟨rfl, rfl, rfl⟩ := h
    exact op_goes ho (owed_run hp) hk
  · cases h

/-- an operation, by what it is known to give -/
theorem xv (i : Nat) {sem : Sem Value} {v : Value} (hp : sem.run P w = .ok v w') (hk : GoX P f R n (nx P n w i v s) w' D) (h : ck P n w i v w' s = some ([], w, sem.run P w = .ok v w') := by kernel_rfl) : GoX P f R n s w D := ck_goes h hp hk
theorem xp (i : Nat) (v : Value) {p : Prop} (hp : p) (hk : GoX P f R n (nx P n w i v s) w' D) (h : ck P n w i v w' s = some ([], w, p) := by kernel_rfl) : GoX P f R n s w D := ck_goes h hp hk
/-- a store -/
theorem xst (i : Nat) {sem : Sem Unit} {Q : World → Prop} (hp : ∃ w', sem.run P w = .ok () w' ∧ Q w') (hk : ∀ w', Q w' → GoX P f R n (nx P n w i undef s) w' D)
    (h : ∀ w', ck P n w i undef w' s = some ([], w, (sem.run P w = .ok () w' ∧ undef = undef)) := by intro _; kernel_rfl) : GoX P f R n s w D := by
  obtain ⟨w', h1, h2⟩ := hp
  exact ck_goes (h w') ⟨h1, rfl⟩ (hk w' h2)
/-- an operation that makes memory -/
theorem xx (i : Nat) {α : Sort _} {sem : Sem Value} {F : α → Value} {Q : α → World → Prop} (hp : ∃ x w', sem.run P w = .ok (F x) w' ∧ Q x w') (hk : ∀ x w', Q x w' → GoX P f R n (nx P n w i (F x) s) w' D)
    (h : ∀ x w', ck P n w i (F x) w' s = some ([], w, sem.run P w = .ok (F x) w') := by intro _ _; kernel_rfl) : GoX P f R n s w D := by
  obtain ⟨x, w', h1, h2⟩ := hp
  exact ck_goes (h x w') h1 (hk x w' h2)

/-- a test -/
def brS (b : Bool) (r : Rs) : St := match r.k with
  | .code (.cond _ x y) :: k => ⟨.code (bif b then x else y) :: k, r.l⟩
  | k => ⟨k, r.l⟩
def br (P : Program) (n : Nat) (w : World) (i : Nat) (b : Bool) (s : St) : St := match adv P n i s w with
  | some r => brS b r
  | none => s
def cnd (P : Program) (n : Nat) (w : World) (i : Nat) (s : St) : Option (List Prop × World × Bool) :=
  match adv P n i s w with
  | some r => match condS r.k r.l with
    | some (b, _, _) => some (r.obs, r.w, b)
    | none => none
  | none => none
theorem xb (i : Nat) (b : Bool) (ht : b = true → GoX P f R n (br P n w i true s) w D) (hf : b = false → GoX P f R n (br P n w i false s) w D) (h : cnd P n w i s = some ([], w, b) := by kernel_rfl) : GoX P f R n s w D := by
  unfold cnd at h
  split at h
  · rename_i r hr
    split at h
    · rename_i b' k1 k2 hc
      simp only [Option.some.injEq, Prod.mk.injEq] at h
      obtain ⟨ho, rfl, rfl⟩ := h
      have h' := hr
      unfold adv at h'
      refine ⟨run_goes h' (by rw [ho]; exact trivial) ?_⟩
      have e : ∀ c, br P n r.w i c s = brS c r := fun c => by unfold br; rw [hr]
      refine GoS.cond b' k1 k2 hc (fun hb => ?_) (fun hb => ?_)
      · have := (ht hb).go
        rw [e] at this
        unfold condS at hc
        unfold brS at this
        split at hc
        · rename_i hk
          split at hc
          · simp only [Option.some.injEq, Prod.mk.injEq] at hc
            obtain ⟨-, rfl, -⟩ := hc
            rw [hk] at this; exact this
          · cases hc
        · cases hc
      · have := (hf hb).go
        rw [e] at this
        unfold condS at hc
        unfold brS at this
        split at hc
        · rename_i hk
          split at hc
          · simp only [Option.some.injEq, Prod.mk.injEq] at hc
            obtain ⟨-, -, rfl⟩ := hc
            rw [hk] at this; exact this
          · cases hc
        · cases hc
    · cases h
  · cases h
theorem xc (i : Nat) (p : Prop) [Decidable p] (ht : p → GoX P f R n (br P n w i true s) w D) (hf : ¬ p → GoX P f R n (br P n w i false s) w D) (h : cnd P n w i s = some ([], w, decide p) := by kernel_rfl) : GoX P f R n s w D :=
  xb i (decide p) (fun e => ht (of_decide_eq_true e)) (fun e => hf (of_decide_eq_false e)) h
theorem xcn (i : Nat) (p : Prop) [Decidable p] (ht : ¬ p → GoX P f R n (br P n w i true s) w D) (hf : p → GoX P f R n (br P n w i false s) w D) (h : cnd P n w i s = some ([], w, !decide p) := by kernel_rfl) : GoX P f R n s w D :=
  xb i (!decide p) (fun e => ht (by simpa using e)) (fun e => hf (by simpa using e)) h

/-- a Bool that a slot holds, parted -/
def fkS (P : Program) (n : Nat) (w : World) (i t : Nat) (b : Bool) (s : St) : St := match adv P n i s w with
  | some r => ⟨r.k, (t, .bool b) :: r.l⟩
  | none => s
def fkC (P : Program) (n : Nat) (w : World) (i t : Nat) (s : St) : Option (List Prop × World × Option Value) := match adv P n i s w with
  | some r => some (r.obs, r.w, look r.l t)
  | none => none
theorem xf (i t : Nat) (b : Bool) (ht : b = true → GoX P f R n (fkS P n w i t true s) w D) (hf : b = false → GoX P f R n (fkS P n w i t false s) w D) (h : fkC P n w i t s = some ([], w, some (.bool b)) := by kernel_rfl) : GoX P f R n s w D := by
  unfold fkC at h
  split at h
  · rename_i r hr
    simp only [Option.some.injEq, Prod.mk.injEq] at h
    obtain ⟨ho, rfl, hl⟩ := h
    have h' := hr
    unfold adv at h'
    refine ⟨run_goes h' (by rw [ho]; exact trivial) ?_⟩
    have e : ∀ c, fkS P n r.w i t c s = ⟨r.k, (t, .bool c) :: r.l⟩ := fun c => by unfold fkS; rw [hr]
    refine GoS.fork t b hl (fun hb => ?_) (fun hb => ?_)
    · have := (ht hb).go; rw [e] at this; exact this
    · have := (hf hb).go; rw [e] at this; exact this
  · cases h

theorem xfc (i t : Nat) (p : Prop) [Decidable p] (ht : p → GoX P f R n (fkS P n w i t true s) w D) (hf : ¬ p → GoX P f R n (fkS P n w i t false s) w D) (h : fkC P n w i t s = some ([], w, some (.bool (decide p))) := by kernel_rfl) : GoX P f R n s w D :=
  xf i t (decide p) (fun e => ht (of_decide_eq_true e)) (fun e => hf (of_decide_eq_false e)) h
theorem xfn (i t : Nat) (p : Prop) [Decidable p] (ht : ¬ p → GoX P f R n (fkS P n w i t true s) w D) (hf : p → GoX P f R n (fkS P n w i t false s) w D) (h : fkC P n w i t s = some ([], w, some (.bool (!decide p))) := by kernel_rfl) : GoX P f R n s w D :=
  xf i t (!decide p) (fun e => ht (by simpa using e)) (fun e => hf (by simpa using e)) h

/-- a call -/
def cl (P : Program) (n : Nat) (w : World) (i : Nat) (s : St) : Option (List Prop × World × FuncId × Array Value × World) :=
  match opOf P n w i s with
  | some (ps, w1, o, l) => match (execOp (rho l) o).run P w1 with
    | .ok (.enter g args) w2 => some (ps, w1, g, args, w2)
    | _ => none
  | none => none
theorem xcg (i : Nat) {g : FuncId} {args : Array Value} {T : Ending → World → Prop} (hc : Calls P g args w T) (hk : ∀ e w', T e w' → ∃ v, e = .returned v ∧ GoX P f R n (nx P n w i v s) w' D)
    (h : cl P n w i s = some ([], w, g, args, w) := by kernel_rfl) : GoX P f R n s w D := by
  unfold cl at h
  split at h
  · rename_i ps w1 o l hop
    split at h
    · rename_i g' args' w2 hr
      simp only [Option.some.injEq, Prod.mk.injEq] at h
      obtain ⟨rfl, rfl, rfl, rfl, rfl⟩ := h
      obtain ⟨ops, j, rest, k, ho, h0, h1, h2, h3, hn, hg⟩ := opOf_spec hop rfl
      refine hg (fun a ha => ?_)
      refine Goes.oper ho (wanted_eq ha h0) ?_
      unfold Oper.wp
      rw [exec_eq ha h1 h2, hr]
      show Calls P _ _ _ _
      refine hc.mono fun e w'' hS => ?_
      obtain ⟨v, rfl, hG⟩ := hk e w'' hS
      rw [hn v] at hG
      exact hG.go _ (ha.put _ _ h3)
    · cases h
  · cases h
theorem xk (i : Nat) {g : FuncId} {args : Array Value} {v : Value} {Q : World → Prop} (hc : Calls P g args w (fun e w' => e = .returned v ∧ Q w')) (hk : ∀ w', Q w' → GoX P f R n (nx P n w i v s) w' D)
    (h : cl P n w i s = some ([], w, g, args, w) := by kernel_rfl) : GoX P f R n s w D :=
  xcg i hc (fun e w' hT => ⟨v, hT.1, hk w' hT.2⟩) h
theorem xka (i : Nat) {g : FuncId} {args : Array Value} {v : Value} (hc : Calls P g args w (fun e w' => e = .returned v ∧ w = w')) (hk : GoX P f R n (nx P n w i v s) w D)
    (h : cl P n w i s = some ([], w, g, args, w) := by kernel_rfl) : GoX P f R n s w D :=
  xcg i hc (fun e w' hT => ⟨v, hT.1, hT.2 ▸ hk⟩) h
/-- a call that yields a value of its own -/
theorem xkv (i : Nat) {g : FuncId} {args : Array Value} {α : Sort _} {F : α → Value} {Q : α → World → Prop} (hc : Calls P g args w (fun e w' => ∃ v, e = .returned (F v) ∧ Q v w')) (hk : ∀ v w', Q v w' → GoX P f R n (nx P n w i (F v) s) w' D)
    (h : cl P n w i s = some ([], w, g, args, w) := by kernel_rfl) : GoX P f R n s w D :=
  xcg i hc (fun e w' ⟨v, h1, h2⟩ => ⟨F v, h1, hk v w' h2⟩) h

/-- the end -/
def rt (P : Program) (n : Nat) (w : World) (i : Nat) (fn : Func) (s : St) : Option (List Prop × World × Option Value) :=
  match adv P n i s w with
  | some r => match r.k with
    | .code .ret :: _ => some (r.obs, r.w, retS fn r.l)
    | [] => some (r.obs, r.w, retS fn r.l)
    | _ => none
  | none => none
theorem xr0 (i : Nat) {fn : Func} {v : Value} (hf : P.funcs[f]? = some fn) (hR : R (.returned v) w) (h : rt P n w i fn s = some ([], w, some v) := by kernel_rfl) : GoX P f R n s w := by
  unfold rt at h
  split at h
  · rename_i r hr
    unfold adv at hr
    split at h
    · rename_i k hk
      simp only [Option.some.injEq, Prod.mk.injEq] at h
      obtain ⟨ho, rfl, hv⟩ := h
      refine ⟨run_goes hr (by rw [ho]; exact trivial) ?_⟩
      rw [hk]
      exact GoS.ret hf hv hR
    · rename_i hk
      simp only [Option.some.injEq, Prod.mk.injEq] at h
      obtain ⟨ho, rfl, hv⟩ := h
      refine ⟨run_goes hr (by rw [ho]; exact trivial) ?_⟩
      rw [hk]
      exact GoS.fin hf hv hR
    · cases h
  · cases h

theorem xr (i : Nat) {fn : Func} {v : Value} {post : Ending → World → Prop} (hf : P.funcs[f]? = some fn) (hR : R = post) (hp : post (.returned v) w) (h : rt P n w i fn s = some ([], w, some v) := by kernel_rfl) : GoX P f R n s w :=
  xr0 i hf (hR ▸ hp) h

/-- where it arrives, told -/
def fsts : Sl → List Nat
  | [] => []
  | (t, _) :: r => t :: fsts r
def ar (P : Program) (n : Nat) (w : World) (i : Nat) (l : Sl) (s : St) : Option (List Prop × World × List Item × Sl) :=
  match adv P n i s w with
  | some r => some (r.obs, r.w, r.k, keep r.l (fsts l))
  | none => none
theorem xl (i : Nat) {k : List Item} {l : Sl} (hk : GoS P f R n k l w D) (h : ar P n w i l s = some ([], w, k, l) := by kernel_rfl) : GoX P f R n s w D := by
  unfold ar at h
  split at h
  · rename_i r hr
    unfold adv at hr
    simp only [Option.some.injEq, Prod.mk.injEq] at h
    obtain ⟨ho, rfl, rfl, hl⟩ := h
    refine ⟨run_goes hr (by rw [ho]; exact trivial) (GoS.weak (fsts l) ?_)⟩
    rw [hl]; exact hk
  · cases h
theorem xs {k : List Item} {l : Sl} (h : GoX P f R n ⟨k, l⟩ w D) : GoS P f R n k l w D := h.go
theorem xe {fn : Func} {args : Array Value} {post : Ending → World → Prop} (n : Nat) (hf : P.funcs[f]? = some fn) (h : ∀ R, R = post → GoX P f R n ⟨[.code (cd fn)], initS args.toList 0⟩ w)
    (hb : fn.body = some (cd fn) := by kernel_rfl) (hn : fn.ntmps = n := by kernel_rfl) (hsz : Nat.ble args.size n = true := by kernel_rfl) : Calls P f args w post :=
  GoS.enter hf hb hn _ rfl hsz (h post rfl).go

/-! ### families of operations that need no text of their own -/
/-- an operation on two operands -/
def bv (P : Program) (n : Nat) (w : World) (i : Nat) (s : St) : Option (List Prop × World × BinOp × Value × Value) :=
  match opOf P n w i s with
  | some (ps, w1, o, l) => match o.op with
    | .binOp op _ x y _ => some (ps, w1, op, rho l x, rho l y)
    | _ => none
  | none => none
def noEq : BinOp → Bool
  | .eql => false
  | .neq => false
  | _ => true
theorem bin_goes {i : Nat} {op : BinOp} {x y v : Value} (h : bv P n w i s = some ([], w, op, x, y)) (he : noEq op = true ∨ ∃ a b, x = .string a ∧ y = .string b) (hr : ∀ t, (binOp op t x y).run P w = .ok v w)
    (hk : GoX P f R n (nx P n w i v s) w D) : GoX P f R n s w D := by
  unfold bv at h
  split at h
  · rename_i ps w1 o l hop
    split at h
    · rename_i op' t a b pos heq
      simp only [Option.some.injEq, Prod.mk.injEq] at h
      obtain ⟨rfl, rfl, rfl, hx, hy⟩ := h
      refine op_goes hop (.inl ?_) hk
      unfold execOp
      rw [heq]
      refine run_pure_value ?_
      rw [hx, hy]
      have hg : ∀ p q, (eqGuard op' t p q x y).run P w1 = .ok () w1 := by
        intro p q
        rcases he with he | ⟨c, d, rfl, rfl⟩
        · unfold eqGuard
          cases op' <;> first | rfl | (simp [noEq] at he)
        · unfold eqGuard
          cases op' <;> rfl
      simp only [Sem.run_bind, hg, Result.andThen_ok]
      exact hr t
    · cases h
  · cases h
theorem xadd (i : Nat) (kd : IntKind) (a b z : Int) (hz : kd.wrap (a + b) = z) (hk : GoX P f R n (nx P n w i (.int kd z) s) w D) (h : bv P n w i s = some ([], w, .add, .int kd a, .int kd b) := by kernel_rfl) : GoX P f R n s w D :=
  bin_goes h (.inl rfl) (fun t => f_add hz) hk
theorem xsub (i : Nat) (kd : IntKind) (a b z : Int) (hz : kd.wrap (a - b) = z) (hk : GoX P f R n (nx P n w i (.int kd z) s) w D) (h : bv P n w i s = some ([], w, .sub, .int kd a, .int kd b) := by kernel_rfl) : GoX P f R n s w D :=
  bin_goes h (.inl rfl) (fun t => f_sub hz) hk
theorem xmul (i : Nat) (kd : IntKind) (a b z : Int) (hz : kd.wrap (a * b) = z) (hk : GoX P f R n (nx P n w i (.int kd z) s) w D) (h : bv P n w i s = some ([], w, .mul, .int kd a, .int kd b) := by kernel_rfl) : GoX P f R n s w D :=
  bin_goes h (.inl rfl) (fun t => f_mul hz) hk
theorem w64 {a z : Int} (h : a = z) (h1 : -9223372036854775808 ≤ z) (h2 : z ≤ 9223372036854775807) : IntKind.i64.wrap a = z := by rw [h]; exact IntWalk.i64_in _ ⟨h1, h2⟩
/-- int's sums, differences, products -/
theorem xa (i : Nat) (a b z : Int) (hk : GoX P f R n (nx P n w i (.int .i64 z) s) w D) (h0 : a + b = z := by omega) (h1 : -9223372036854775808 ≤ z := by omega) (h2 : z ≤ 9223372036854775807 := by omega)
    (h : bv P n w i s = some ([], w, .add, .int .i64 a, .int .i64 b) := by kernel_rfl) : GoX P f R n s w D := xadd i .i64 a b z (w64 h0 h1 h2) hk h
theorem xm (i : Nat) (a b z : Int) (hk : GoX P f R n (nx P n w i (.int .i64 z) s) w D) (h0 : a - b = z := by omega) (h1 : -9223372036854775808 ≤ z := by omega) (h2 : z ≤ 9223372036854775807 := by omega)
    (h : bv P n w i s = some ([], w, .sub, .int .i64 a, .int .i64 b) := by kernel_rfl) : GoX P f R n s w D := xsub i .i64 a b z (w64 h0 h1 h2) hk h
theorem xt (i : Nat) (a b z : Int) (hk : GoX P f R n (nx P n w i (.int .i64 z) s) w D) (h0 : a * b = z := by omega) (h1 : -9223372036854775808 ≤ z := by omega) (h2 : z ≤ 9223372036854775807 := by omega)
    (h : bv P n w i s = some ([], w, .mul, .int .i64 a, .int .i64 b) := by kernel_rfl) : GoX P f R n s w D := xmul i .i64 a b z (w64 h0 h1 h2) hk h
/-- any other: what it gives told by a law over all types' numbers -/
theorem xo (i : Nat) (op : BinOp) (x y : Value) {v : Value} (hr : ∀ t, (binOp op t x y).run P w = .ok v w) (hk : GoX P f R n (nx P n w i v s) w D) (he : noEq op = true := by rfl) (h : bv P n w i s = some ([], w, op, x, y) := by kernel_rfl) : GoX P f R n s w D :=
  bin_goes h (.inl he) hr hk
/-- texts held against one another -/
theorem xq (i : Nat) (a b : List UInt8) (hk : GoX P f R n (nx P n w i (.bool (decide (a = b))) s) w D) (h : bv P n w i s = some ([], w, .eql, .string (sb a), .string (sb b)) := by kernel_rfl) : GoX P f R n s w D :=
  bin_goes h (.inr ⟨_, _, rfl, rfl⟩) (fun t => f_streq) hk
theorem xqn (i : Nat) (a b : List UInt8) (hk : GoX P f R n (nx P n w i (.bool (!decide (a = b))) s) w D) (h : bv P n w i s = some ([], w, .neq, .string (sb a), .string (sb b)) := by kernel_rfl) : GoX P f R n s w D :=
  bin_goes h (.inr ⟨_, _, rfl, rfl⟩) (fun t => f_strneq) hk
theorem xqa (i : Nat) (a b : List UInt8) (hk : GoX P f R n (nx P n w i (.string (sb (a ++ b))) s) w D) (hl : a.length + b.length ≤ 9223372036854775807 := by omega) (h : bv P n w i s = some ([], w, .add, .string (sb a), .string (sb b)) := by kernel_rfl) : GoX P f R n s w D :=
  bin_goes h (.inl rfl) (fun t => f_stradd hl) hk

/-- a number told in another kind -/
def cvV (P : Program) (n : Nat) (w : World) (i : Nat) (s : St) : Option (List Prop × World × Value × Option TypeDesc × Option TypeDesc) :=
  match opOf P n w i s with
  | some (ps, w1, o, l) => match o.op with
    | .convert a b x => some (ps, w1, rho l x, P.underlying a, P.underlying b)
    | _ => none
  | none => none
theorem xcv (i : Nat) (k k' : IntKind) (x z : Int) (hz : k'.wrap x = z) (hk : GoX P f R n (nx P n w i (.int k' z) s) w D) (h : cvV P n w i s = some ([], w, .int k x, some (.int k), some (.int k')) := by kernel_rfl) : GoX P f R n s w D := by
  unfold cvV at h
  split at h
  · rename_i ps w1 o l hop
    split at h
    · rename_i a b y heq
      simp only [Option.some.injEq, Prod.mk.injEq] at h
      obtain ⟨rfl, rfl, hx, ha, hb⟩ := h
      refine op_goes hop (.inl ?_) hk
      unfold execOp
      rw [heq]
      refine run_pure_value ?_
      rw [hx]
      exact f_conv ha hb hz
    · cases h
  · cases h
/-- a text's byte -/
def ixV (P : Program) (n : Nat) (w : World) (i : Nat) (s : St) : Option (List Prop × World × Value × Value × Option TypeDesc) :=
  match opOf P n w i s with
  | some (ps, w1, o, l) => match o.op with
    | .index t x y => some (ps, w1, rho l x, rho l y, P.underlying t)
    | _ => none
  | none => none
theorem xi (i : Nat) (l : List UInt8) (x : Int) (j : Nat) (hk : GoX P f R n (nx P n w i (.int .u8 (bl l j)) s) w D) (hx : x = (j : Int) := by omega) (hlt : j < l.length := by omega)
    (h : ixV P n w i s = some ([], w, .string (sb l), .int .i64 x, some .string) := by kernel_rfl) : GoX P f R n s w D := by
  unfold ixV at h
  split at h
  · rename_i ps w1 o sl hop
    split at h
    · rename_i t y z heq
      simp only [Option.some.injEq, Prod.mk.injEq] at h
      obtain ⟨rfl, rfl, h1, h2, h3⟩ := h
      refine op_goes hop (.inl ?_) hk
      unfold execOp
      rw [heq]
      refine run_pure_value ?_
      rw [h1, h2]
      exact f_index j h3 hx hlt
    · cases h
  · cases h
/-- a text's length -/
def lnV (P : Program) (n : Nat) (w : World) (i : Nat) (s : St) : Option (List Prop × World × List Value × Option TypeDesc) :=
  match opOf P n w i s with
  | some (ps, w1, o, l) => match o.op with
    | .call { callee := .builtin .len, args, argTypes } => match argTypes.toList with
      | [t] => some (ps, w1, (args.map (rho l)).toList, P.underlying t)
      | _ => none
    | _ => none
  | none => none
theorem xn (i : Nat) (l : List UInt8) (hk : GoX P f R n (nx P n w i (.int .i64 ((l.length : Nat) : Int)) s) w D) (h : lnV P n w i s = some ([], w, [.string (sb l)], some .string) := by kernel_rfl) : GoX P f R n s w D := by
  unfold lnV at h
  split at h
  · rename_i ps w1 o sl hop
    split at h
    · rename_i args argTypes heq
      split at h
      · rename_i t ht
        simp only [Option.some.injEq, Prod.mk.injEq] at h
        obtain ⟨rfl, rfl, h1, h2⟩ := h
        refine op_goes hop (owed_run ?_) hk
        unfold owed
        rw [heq]
        have e1 : argTypes = #[t] := by rw [← Array.toArray_toList (xs := argTypes), ht]
        have e2 : args.map (rho sl) = #[.string (sb l)] := by rw [← Array.toArray_toList (xs := args.map (rho sl)), h1]
        simp only [e1, e2]
        exact f_len h2
      · cases h
    · cases h
  · cases h
/-- a part of a text -/
def slV (P : Program) (n : Nat) (w : World) (i : Nat) (s : St) : Option (List Prop × World × Value × Option Value × Option Value × Option Value × Option TypeDesc) :=
  match opOf P n w i s with
  | some (ps, w1, o, l) => match o.op with
    | .slice t x a b c => some (ps, w1, rho l x, a.map (rho l), b.map (rho l), c.map (rho l), P.underlying t)
    | _ => none
  | none => none
theorem sl_goes {i : Nat} {x : Value} {a b c : Option Value} {u : Option TypeDesc} {v : Value} (h : slV P n w i s = some ([], w, x, a, b, c, u)) (hr : ∀ t, P.underlying t = u → (Instr.sliceAt t x a b c).run P w = .ok v w) (hk : GoX P f R n (nx P n w i v s) w D) : GoX P f R n s w D := by
  unfold slV at h
  split at h
  · rename_i ps w1 o sl hop
    split at h
    · rename_i t y a' b' c' heq
      simp only [Option.some.injEq, Prod.mk.injEq] at h
      obtain ⟨rfl, rfl, h1, h2, h3, h4, h5⟩ := h
      refine op_goes hop (owed_run ?_) hk
      unfold owed
      rw [heq]
      simp only [h1, h2, h3, h4]
      exact hr t h5
    · cases h
  · cases h
theorem xsl (i : Nat) (l : List UInt8) (x : Int) (a : Nat) (hk : GoX P f R n (nx P n w i (.string (sb (l.drop a))) s) w D) (hx : x = (a : Int) := by omega) (hlt : a ≤ l.length := by omega)
    (h : slV P n w i s = some ([], w, .string (sb l), some (.int .i64 x), none, none, some .string) := by kernel_rfl) : GoX P f R n s w D := sl_goes h (fun t ht => f_slice_lo a ht hx hlt) hk
theorem xsb (i : Nat) (l : List UInt8) (x y : Int) (a b : Nat) (hk : GoX P f R n (nx P n w i (.string (sb ((l.take b).drop a))) s) w D) (hx : x = (a : Int) := by omega) (hy : y = (b : Int) := by omega) (hab : a ≤ b := by omega) (hlt : b ≤ l.length := by omega)
    (h : slV P n w i s = some ([], w, .string (sb l), some (.int .i64 x), some (.int .i64 y), none, some .string) := by kernel_rfl) : GoX P f R n s w D := sl_goes h (fun t ht => f_slice_lohi a b ht hx hy hab hlt) hk
/-- the address of a slice's element -/
theorem xat (i : Nat) {t E : TypeId} {k b : Nat} {z v : Value} {m : Nat} {xs : List Value} (hT : SliceT P t E k b z) (hr : Rd w k v m xs) (x : Int) (j : Nat) (hk : ∀ p, At v k j p → GoX P f R n (nx P n w i (.pointer (some p)) s) w D)
    (hx : x = (j : Int) := by omega) (hj : j < m := by first | omega | (dsimp only; omega)) (h : ∀ p, ck P n w i (.pointer (some p)) w s = some ([], w, (Instr.indexAt t v (.int .i64 x)).run P w = .ok (.pointer (some p)) w) := by intro _; kernel_rfl) : GoX P f R n s w D := by
  obtain ⟨p, h1, h2⟩ := rd_at hT hr (i := x) j hx hj
  exact ck_goes (h p) (h2 w .i64) (hk p h1)
end

section
variable {P : Program} {S : List Nat} {w0 w w' : World} {L M : List Row}
/-- a callee that made nothing -/
theorem Mem.j {w1 : World} (h : Mem S w0 w L) (c : Mem [] w w1 []) : Mem S w0 w1 L := h.join c
end
theorem oneL {ys : List Value} (h : ys.all (fun u => u.oneCell') = true) : ∀ u ∈ ys, u.oneCell' = true := List.all_eq_true.1 h
theorem lq {ys xs : List Value} {c : Nat} (h : (xs.drop c).take ys.length = ys) : ∀ (j : Nat) (u : Value), ys[j]? = some u → xs[c + j]? = some u := by
  intro j u hj
  rw [← h, List.getElem?_take] at hj
  split at hj
  · rwa [List.getElem?_drop] at hj
  · cases hj
end Go.Gw


namespace Go.Gw
set_option linter.unusedVariables false
set_option linter.unusedSimpArgs false
open Go.ChangeShapes Go.WideShapes Go.ChangeAt Go.RowKit
section
variable {H : Type} {enc : TypeId × Value → H} {P : Program} {W : World} {t e : TypeId} {ts : List TypeId} {ds : List (DataW H)}

theorem arg_string {j : Nat} (hsz : (DataW.weightsEach P ts ds).all (· ≤ reachBytes) = true) (ht : ts[j]? = some t) {s : ByteArray} (hd : ds[j]? = some (.lit (.string s.data.toList))) : s.data.toList.length ≤ 140737488351232 :=
  sized_string hsz ht hd
end
end Go.Gw


namespace Go.Gw
set_option linter.unusedVariables false
set_option linter.unusedSimpArgs false
open Go.RowKit

def ownl (v : Value) : List Nat := match v.ownBlock with | some b => [b] | none => []
def blocks (R : List Row) : List Nat := R.flatMap fun r => ownl r.v
theorem mem_ownl {v : Value} {b : Nat} : b ∈ ownl v ↔ v.ownBlock = some b := by
  unfold ownl
  cases h : v.ownBlock with
  | none => simp
  | some c => simp [eq_comm]
theorem mem_blocks {R : List Row} {b : Nat} : b ∈ blocks R ↔ ∃ r ∈ R, r.v.ownBlock = some b := by
  simp [blocks, mem_ownl]
section
variable {w w0 w' : World} {S : List Nat} {L R R' : List Row}
theorem apart_left (h : Apart (R ++ L)) : Apart R := by
  induction R with
  | nil => trivial
  | cons r R ih => exact ⟨fun s hs => h.1 s (List.mem_append_left _ hs), ih h.2⟩
theorem apart_right (h : Apart (R ++ L)) : Apart L := by
  induction R with
  | nil => exact h
  | cons r R ih => exact ih h.2
theorem apart_cross (h : Apart (R ++ L)) : ∀ r ∈ R, ∀ s ∈ L, r.v.ownBlock = none ∨ r.v.ownBlock ≠ s.v.ownBlock := by
  induction R with
  | nil => intro r hr; cases hr
  | cons q R ih =>
    intro r hr s hs
    cases hr with
    | head => exact h.1 s (List.mem_append_right _ hs)
    | tail _ hr => exact ih h.2 r hr s hs
theorem apart_join (h1 : Apart R) (h2 : Apart L) (h : ∀ r ∈ R, ∀ s ∈ L, r.v.ownBlock = none ∨ r.v.ownBlock ≠ s.v.ownBlock) : Apart (R ++ L) := by
  induction R with
  | nil => exact h2
  | cons q R ih =>
    refine ⟨fun s hs => ?_, ih h1.2 (fun r hr => h r (List.mem_cons_of_mem _ hr))⟩
    rcases List.mem_append.1 hs with hs | hs
    · exact h1.1 s hs
    · exact h q (List.mem_cons_self ..) s hs
/-- the first rows are lent -/
theorem Mem.lend (h : Mem S w0 w (R ++ L)) : Mem (blocks R) w w R :=
  ⟨Kept.refl _ _, fun r hr => h.owns r (List.mem_append_left _ hr), apart_left h.apart, fun r hr b hb => .inl (mem_blocks.2 ⟨r, hr, hb⟩)⟩
/-- they come back changed -/
theorem Mem.back (h : Mem S w0 w (R ++ L)) (c : Mem (blocks R) w w' R') : Mem S w0 w' (R' ++ L) := by
  have hcross := apart_cross h.apart
  have hnot : ∀ s ∈ L, ∀ b, s.v.ownBlock = some b → b ∉ blocks R := by
    intro s hs b hb hbR
    obtain ⟨r, hr, hrb⟩ := mem_blocks.1 hbR
    rcases hcross r hr s hs with e | e
    · rw [e] at hrb; cases hrb
    · exact e (hrb.trans hb.symm)
  refine ⟨⟨c.kept.os.trans h.kept.os, c.kept.tape.trans h.kept.tape, c.kept.output.trans h.kept.output, Nat.le_trans h.kept.size c.kept.size, ?_⟩, ?_, ?_, ?_⟩
  · intro b hb hbS
    have hb2 := Nat.lt_of_lt_of_le hb h.kept.size
    rw [c.kept.block b hb2 ?_, h.kept.block b hb hbS]
    intro hbR
    obtain ⟨r, hr, hrb⟩ := mem_blocks.1 hbR
    rcases h.mine r (List.mem_append_left _ hr) b hrb with e | e
    · exact hbS e
    · omega
  · intro r hr
    rcases List.mem_append.1 hr with hr | hr
    · exact c.owns r hr
    · have ho := h.owns r (List.mem_append_right _ hr)
      have hlt := own_lt ho
      cases hv : r.v.ownBlock with
      | none =>
        obtain ⟨hl, hh⟩ := ho
        refine ⟨hl, ?_⟩
        rcases hh with hh | ⟨g, cap, cur, e, _⟩
        · exact .inl hh
        · rw [e] at hv; cases hv
      | some b =>
        obtain ⟨hl, hh⟩ := ho
        refine ⟨hl, ?_⟩
        rcases hh with hh | ⟨g, cap, cur, e, hb, hg, h1, h2, h3, h4⟩
        · exact .inl hh
        · refine .inr ⟨g, cap, cur, e, hb, ?_, h1, h2, h3, h4⟩
          rw [c.kept.block g ?_ ?_]
          · exact hg
          · exact hlt g (by rw [e]; rfl)
          · exact hnot r hr g (by rw [e]; rfl)
  · refine apart_join c.apart (apart_right h.apart) ?_
    intro r hr s hs
    cases hrb : r.v.ownBlock with
    | none => exact .inl rfl
    | some b =>
      right
      intro e
      rcases c.mine r hr b hrb with e2 | e2
      · exact hnot s hs b e.symm e2
      · have := own_lt (h.owns s (List.mem_append_right _ hs)) b e.symm
        omega
  · intro r hr b hb
    rcases List.mem_append.1 hr with hr | hr
    · rcases c.mine r hr b hb with e | e
      · obtain ⟨q, hq, hqb⟩ := mem_blocks.1 e
        exact h.mine q (List.mem_append_left _ hq) b hqb
      · exact .inr (Nat.le_trans h.kept.size e)
    · exact h.mine r (List.mem_append_right _ hr) b hb
/-- a row is moved to the front -/
theorem Mem.perm (h : Mem S w0 w L) (hp : L.Perm R) : Mem S w0 w R := by
  refine ⟨h.kept, fun r hr => h.owns r (hp.mem_iff.2 hr), ?_, fun r hr => h.mine r (hp.mem_iff.2 hr)⟩
  have := h.apart
  clear h
  induction hp with
  | nil => trivial
  | cons x hp ih => exact ⟨fun s hs => this.1 s (hp.mem_iff.2 hs), ih this.2⟩
  | swap x y l =>
    obtain ⟨h1, h2, h3⟩ := this
    refine ⟨fun s hs => ?_, fun s hs => h1 s (List.mem_cons_of_mem _ hs), h3⟩
    rcases List.mem_cons.1 hs with rfl | hs
    · rcases h1 x (List.mem_cons_self ..) with e | e
      · cases hx : x.v.ownBlock with
        | none => exact .inl rfl
        | some b => right; rw [e]; simp
      · exact .inr (Ne.symm e)
    · exact h2 s hs
  | trans _ _ ih1 ih2 => exact ih2 (ih1 this)
end
end Go.Gw


namespace Go.Gw
set_option linter.unusedVariables false
set_option linter.unusedSimpArgs false
section
variable {P : Program} {D : Fx} {f : FuncId} {R : Ending → World → Prop} {n : Nat} {k : List Item} {l : Sl} {w : World} {ops : Array Oper} {S : World → Prop} {Wr : List Nat}

/-- whatever order is picked from here on; S holds behind each operation but the writes -/
def AnyW (P : Program) (ops : Array Oper) (Q : Exit → Act → World → Prop) (S : World → Prop) (Wr : List Nat) : Nat → Array Bool → Act → World → Prop
  | 0, listed, a, w => Region.ready .any ops listed = [] ∧ Q .normal a w
  | fuel + 1, listed, a, w =>
    (Region.ready .any ops listed = [] → Q .normal a w) ∧
    ∀ i ∈ Region.ready .any ops listed, wpOp P ops Q i (fun a' w' => (Wr.contains i = true ∨ S w') ∧ AnyW P ops Q S Wr fuel (listed.setIfInBounds i true) a' w') a w
theorem AnyW.any {Q : Exit → Act → World → Prop} {Wr : List Nat} : ∀ (fuel : Nat) (listed : Array Bool) (a : Act) (w : World), AnyW P ops Q S Wr fuel listed a w → wpAny P .any ops Q fuel listed a w
  | 0, _, _, _, h => h
  | fuel + 1, _, _, _, h => ⟨h.1, fun i hi => wpOp_mono (fun a' w' h' => AnyW.any fuel _ a' w' h'.2) (h.2 i hi)⟩
/-- every write waits for number i -/
def allWait (ops : Array Oper) (Wr : List Nat) (i : Nat) : Bool := Wr.all fun j => Region.waitsFor .any ops j i
theorem AnyW.first {Q : Exit → Act → World → Prop} {Wr : List Nat} {i : Nat} {oi : Oper} {v : Value} (hi : ops[i]? = some oi) (hsel : ∀ (j : Nat) (o : Oper) cs b, ops[j]? = some o → o.op ≠ .select cs b)
    (hQ : ∀ c a w, Q (.panic c) (a.put oi.dst v) w → Q (.panic c) a w) (hWr : allWait ops Wr i = true) :
    ∀ (fuel : Nat) (listed : Array Bool) (a : Act) (w : World),
      (∀ j oj, ops[j]? = some oj → j ≠ i → listed.getD j true = false → (∀ e ∈ oj.after, Region.binds .any e = true → e.on ≠ i) → oi.apart ops oj = true) →
      i ∈ Region.ready .any ops listed → YieldsIf P ops S oi v a → S w →
      AnyW P ops Q S Wr fuel (listed.setIfInBounds i true) (a.put oi.dst v) w → AnyW P ops Q S Wr (fuel + 1) listed a w := by
  intro fuel
  induction fuel with
  | zero =>
    intro listed a w _ hr hy hS H
    refine ⟨fun h => (by rw [h] at hr; cases hr), fun j hj => ?_⟩
    rcases Decidable.em (j = i) with rfl | hji
    · exact hy.wpOp hi hS ⟨.inr hS, H⟩
    · have h1 := ready_mono hj hji
      rw [H.1] at h1; cases h1
  | succ fuel ih =>
    intro listed a w hfree hr hy hS H
    refine ⟨fun h => (by rw [h] at hr; cases hr), fun j hj => ?_⟩
    rcases Decidable.em (j = i) with rfl | hji
    · exact hy.wpOp hi hS ⟨.inr hS, H⟩
    · have h1 := H.2 j (ready_mono hj hji)
      obtain ⟨hjun, oj, hoj, hall⟩ := mem_ready.1 hj
      have hnot : ∀ e ∈ oj.after, Region.binds .any e = true → e.on ≠ i := fun e he hb heq => by
        have h1 := hall e he hb
        have h0 := (mem_ready.1 hr).1
        rw [heq] at h1
        rw [getD_both h0] at h1; cases h1
      have hjW : Wr.contains j = false := by
        cases hq : Wr.contains j with
        | false => rfl
        | true =>
          have hm : j ∈ Wr := by simpa using hq
          obtain ⟨oj', hoj', e, he, hb, hon⟩ := Region.waitsFor_spec (List.all_eq_true.1 hWr j hm)
          obtain rfl : oj' = oj := Option.some.inj (hoj'.symm.trans hoj)
          exact absurd hon (hnot e he hb)
      have h2 := wpOp_putIf hoj (hfree j oj hoj hji hjun hnot) (fun cs b => hsel i oi cs b hi) (fun cs b => hsel j oj cs b hoj) hQ hy h1
      refine wpOp_mono (fun a' w' h3 => ?_) h2
      have hS' : S w' := h3.2.1.resolve_left (by rw [hjW]; simp)
      refine ⟨.inr hS', ih (listed.setIfInBounds j true) a' w' (fun k ok hk hki hun hno => ?_) (ready_mono hr (Ne.symm hji)) h3.1 hS' ?_⟩
      · refine hfree k ok hk hki ?_ hno
        rcases Decidable.em (j = k) with rfl | hjk
        · exact hjun
        · rw [getD_set_ne true hjk] at hun; exact hun
      · rw [Array.setIfInBounds_comm _ _ hji]
        exact h3.2.2

/-- in the midst of a region: these have come up, whatever comes next -/
def GoH (P : Program) (f : FuncId) (R : Ending → World → Prop) (n : Nat) (ops : Array Oper) (S : World → Prop) (Wr : List Nat) (k : List Item) (fuel : Nat) (listed : Array Bool) (l : Sl) (w : World) (D : Fx := {}) : Prop :=
  ∀ a, Fits a n l D → AnyW P ops (fun e a' w' => e = .normal ∧ Goes P f R k a' w' D.kind) S Wr fuel listed a w

theorem GoS.held {c : Code} (S : World → Prop) (Wr : List Nat) (id : Nat) (hc : c = .region id (cops c) true) (hm : P.follows .mixedOrders = true) (m : Nat) (hsz : (cops c).size = m)
    (h : GoH P f R n (cops c) S Wr k m (Array.replicate m false) l (w.drewN 1) D) : GoS P f R n (.code c :: k) l w D := by
  intro a ha
  have : Goes P f R (.code (.region id (cops c) true) :: k) a w D.kind := by
    refine Goes.wp (wp_region_any hm (AnyW.any (S := S) (Wr := Wr) _ _ _ _ ?_))
    rw [hsz]
    exact h a ha
  rwa [← hc] at this

/-- the same as one Bool -/
def takeB (n : Nat) (ops : Array Oper) (Wr : List Nat) (listed : Array Bool) (i : Nat) : Bool :=
  match ops[i]? with
  | some o => Region.free .any ops listed i && (Region.ready .any ops listed).contains i && inB n o.dst && allWait ops Wr i
  | none => false

theorem GoH.take {fuel : Nat} {listed : Array Bool} (i : Nat) (v : Value) (o : Oper) (ho : ops[i]? = some o) (hs : Region.noSelect ops = true) (hB : takeB n ops Wr listed i = true)
    (hw : wantedS ops l o = some true) (hk : known l o.op.operands.toList = true) (hn : (noSel o.op && !isStore o.op) = true)
    (hv : ∀ W, S W → owed P o (rho l) W v W) (hS : S w) (h : GoH P f R n ops S Wr k fuel (listed.setIfInBounds i true) (putS l o.dst v) w D) : GoH P f R n ops S Wr k (fuel + 1) listed l w D := by
  intro a ha
  unfold takeB at hB
  rw [ho] at hB
  simp only [Bool.and_eq_true] at hB hn
  obtain ⟨⟨⟨h1, h2⟩, h3⟩, h4⟩ := hB
  refine AnyW.first (v := v) ho (Region.noSelect_spec hs) (fun c a w hq => by cases hq.1) h4 _ _ _ _ (Region.free_spec ho h1) (by simpa using h2) (.inl ⟨wanted_eq ha hw, fun W hW => ?_⟩) hS (h _ (ha.put _ _ h3))
  rw [exec_eq ha hk hn.1]
  rcases owed_run2 (hv W hW) with e | ⟨_, _, e⟩
  · exact e
  · rw [e] at hn; cases hn.2
/-- one whose value the kernel reckons, in whatever world -/
theorem GoH.takeN {fuel : Nat} {listed : Array Bool} (i : Nat) (v : Value) (o : Oper) (ho : ops[i]? = some o) (hs : Region.noSelect ops = true) (hB : takeB n ops Wr listed i = true)
    (hw : wantedS ops l o = some true) (hk : known l o.op.operands.toList = true) (hn : noSel o.op = true)
    (hv : ∀ W, (execOp (rho l) o).run P W = .ok (.value v) W) (hS : S w) (h : GoH P f R n ops S Wr k fuel (listed.setIfInBounds i true) (putS l o.dst v) w D) : GoH P f R n ops S Wr k (fuel + 1) listed l w D := by
  intro a ha
  unfold takeB at hB
  rw [ho] at hB
  simp only [Bool.and_eq_true] at hB
  obtain ⟨⟨⟨h1, h2⟩, h3⟩, h4⟩ := hB
  refine AnyW.first (v := v) ho (Region.noSelect_spec hs) (fun c a w hq => by cases hq.1) h4 _ _ _ _ (Region.free_spec ho h1) (by simpa using h2) (.inl ⟨wanted_eq ha hw, fun W hW => ?_⟩) hS (h _ (ha.put _ _ h3))
  rw [exec_eq ha hk hn]
  exact hv W
/-- one that isn't wanted -/
theorem GoH.skip {fuel : Nat} {listed : Array Bool} (i : Nat) (o : Oper) (ho : ops[i]? = some o) (hs : Region.noSelect ops = true) (hB : takeB n ops Wr listed i = true)
    (hw : wantedS ops l o = some false) (hS : S w) (h : GoH P f R n ops S Wr k fuel (listed.setIfInBounds i true) (putS l o.dst undef) w D) : GoH P f R n ops S Wr k (fuel + 1) listed l w D := by
  intro a ha
  unfold takeB at hB
  rw [ho] at hB
  simp only [Bool.and_eq_true] at hB
  obtain ⟨⟨⟨h1, h2⟩, h3⟩, h4⟩ := hB
  exact AnyW.first (v := undef) ho (Region.noSelect_spec hs) (fun c a w hq => by cases hq.1) h4 _ _ _ _ (Region.free_spec ho h1) (by simpa using h2) (.inr ⟨wanted_eq ha hw, rfl⟩) hS (h _ (ha.put _ _ h3))
/-- the only one that may come up: run as the world stands -/
theorem GoH.step {fuel : Nat} {listed : Array Bool} (i : Nat) (v : Value) (w1 : World) (o : Oper) (ho : ops[i]? = some o) (hr : Region.ready .any ops listed = [i])
    (hd : inB n o.dst = true) (hw : wantedS ops l o = some true) (hk : known l o.op.operands.toList = true) (hn : noSel o.op = true)
    (hv : owed P o (rho l) w v w1) (hS : Wr.contains i = true ∨ S w1) (h : GoH P f R n ops S Wr k fuel (listed.setIfInBounds i true) (putS l o.dst v) w1 D) : GoH P f R n ops S Wr k (fuel + 1) listed l w D := by
  intro a ha
  refine ⟨fun h0 => by (rw [hr] at h0; cases h0), fun j hj => ?_⟩
  rw [hr, List.mem_singleton] at hj
  subst hj
  unfold wpOp
  simp only [ho, wanted_eq ha hw, if_true]
  left
  unfold Oper.wp
  rw [exec_eq ha hk hn]
  rcases owed_run2 hv with e | ⟨e, rfl, _⟩
  · rw [e]; exact ⟨hS, h _ (ha.put _ _ hd)⟩
  · rw [e]; exact ⟨hS, h _ (ha.put _ _ hd)⟩
/-- a call, the only one that may come up -/
theorem GoH.call {fuel : Nat} {listed : Array Bool} (i : Nat) (g : FuncId) (args : Array Value) (o : Oper) (ho : ops[i]? = some o) (hr : Region.ready .any ops listed = [i])
    (hd : inB n o.dst = true) (hw : wantedS ops l o = some true) (hk : known l o.op.operands.toList = true) (hn : noSel o.op = true)
    (hv : (execOp (rho l) o).run P w = .ok (.enter g args) w) {T : Ending → World → Prop} (hc : Calls P g args w T)
    (h : ∀ e w1, T e w1 → ∃ v, e = .returned v ∧ (Wr.contains i = true ∨ S w1) ∧ GoH P f R n ops S Wr k fuel (listed.setIfInBounds i true) (putS l o.dst v) w1 D) : GoH P f R n ops S Wr k (fuel + 1) listed l w D := by
  intro a ha
  refine ⟨fun h0 => by (rw [hr] at h0; cases h0), fun j hj => ?_⟩
  rw [hr, List.mem_singleton] at hj
  subst hj
  unfold wpOp
  simp only [ho, wanted_eq ha hw, if_true]
  left
  unfold Oper.wp
  rw [exec_eq ha hk hn, hv]
  show Calls P _ _ _ _
  refine hc.mono fun e w1 hT => ?_
  obtain ⟨v, rfl, hS, hg⟩ := h e w1 hT
  exact ⟨hS, hg _ (ha.put _ _ hd)⟩
theorem GoH.done {fuel : Nat} {listed : Array Bool} (ts : List Nat) (l' : Sl) (hr : Region.ready .any ops listed = []) (hk : keep l ts = l') (h : GoS P f R n k l' w D) : GoH P f R n ops S Wr k fuel listed l w D := by
  intro a ha
  have h1 := ha.keep ts
  rw [hk] at h1
  have h2 := h a h1
  cases fuel with
  | zero => exact ⟨hr, rfl, h2⟩
  | succ m => exact ⟨fun _ => ⟨rfl, h2⟩, by rw [hr]; simp⟩

/-! ### the same, told by what is reckoned -/
def takeS (P : Program) (n : Nat) (ops : Array Oper) (Wr : List Nat) (listed : Array Bool) (l : Sl) (i : Nat) (v : Value) (W : World) : Option (Prop × Option Tmp) :=
  match ops[i]? with
  | none => none
  | some o => match Region.noSelect ops && takeB n ops Wr listed i && known l o.op.operands.toList && (noSel o.op && !isStore o.op), wantedS ops l o with
    | true, some true => some (owed P o (rho l) W v W, o.dst)
    | _, _ => none
theorem GoH.takeF {fuel : Nat} {listed : Array Bool} (i : Nat) (v : Value) (p : World → Prop) (dst : Option Tmp) (h : ∀ W, takeS P n ops Wr listed l i v W = some (p W, dst)) (hv : ∀ W, S W → p W) (hS : S w)
    (hn : GoH P f R n ops S Wr k fuel (listed.setIfInBounds i true) (putS l dst v) w D) : GoH P f R n ops S Wr k (fuel + 1) listed l w D := by
  have h0 := h w
  unfold takeS at h0
  split at h0
  · cases h0
  · rename_i o ho
    split at h0
    · rename_i hb hw
      simp only [Bool.and_eq_true] at hb
      obtain ⟨⟨⟨b1, b2⟩, b3⟩, b4⟩ := hb
      simp only [Option.some.injEq, Prod.mk.injEq] at h0
      refine GoH.take i v o ho b1 b2 hw b3 (by simpa using b4) (fun W hW => ?_) hS (h0.2 ▸ hn)
      have hW2 := h W
      unfold takeS at hW2
      simp only [ho, b1, b2, b3, b4, hw, Bool.and_self, Bool.and_true, Bool.true_and] at hW2
      simp only [Option.some.injEq, Prod.mk.injEq] at hW2
      rw [hW2.1]; exact hv W hW
    · cases h0
def takeNS (P : Program) (n : Nat) (ops : Array Oper) (Wr : List Nat) (listed : Array Bool) (l : Sl) (i : Nat) (v : Value) (W : World) : Option (Result Next × Option Tmp) :=
  match ops[i]? with
  | none => none
  | some o => match Region.noSelect ops && takeB n ops Wr listed i && known l o.op.operands.toList && noSel o.op, wantedS ops l o with
    | true, some true => some ((execOp (rho l) o).run P W, o.dst)
    | _, _ => none
theorem GoH.takeV {fuel : Nat} {listed : Array Bool} (i : Nat) (v0 v : Value) (dst : Option Tmp) (h : ∀ W, takeNS P n ops Wr listed l i v W = some (.ok (.value v0) W, dst)) (e : v0 = v) (hS : S w)
    (hn : GoH P f R n ops S Wr k fuel (listed.setIfInBounds i true) (putS l dst v) w D) : GoH P f R n ops S Wr k (fuel + 1) listed l w D := by
  subst e
  have h0 := h w
  unfold takeNS at h0
  split at h0
  · cases h0
  · rename_i o ho
    split at h0
    · rename_i hb hw
      simp only [Bool.and_eq_true] at hb
      obtain ⟨⟨⟨b1, b2⟩, b3⟩, b4⟩ := hb
      simp only [Option.some.injEq, Prod.mk.injEq] at h0
      refine GoH.takeN i v0 o ho b1 b2 hw b3 b4 (fun W => ?_) hS (h0.2 ▸ hn)
      have hW2 := h W
      unfold takeNS at hW2
      simp only [ho, b1, b2, b3, b4, hw, Bool.and_self, Bool.and_true, Bool.true_and] at hW2
      simp only [Option.some.injEq, Prod.mk.injEq] at hW2
      exact hW2.1
    · cases h0
def stepHS (P : Program) (n : Nat) (ops : Array Oper) (listed : Array Bool) (l : Sl) (i : Nat) (v : Value) (w w1 : World) : Option (Prop × Option Tmp) :=
  match ops[i]? with
  | none => none
  | some o => match decide (Region.ready .any ops listed = [i]) && inB n o.dst && known l o.op.operands.toList && noSel o.op, wantedS ops l o with
    | true, some true => some (owed P o (rho l) w v w1, o.dst)
    | _, _ => none
theorem GoH.stepF {fuel : Nat} {listed : Array Bool} (i : Nat) (v : Value) (w1 : World) (p : Prop) (dst : Option Tmp) (h : stepHS P n ops listed l i v w w1 = some (p, dst)) (hv : p) (hS : Wr.contains i = true ∨ S w1)
    (hn : GoH P f R n ops S Wr k fuel (listed.setIfInBounds i true) (putS l dst v) w1 D) : GoH P f R n ops S Wr k (fuel + 1) listed l w D := by
  unfold stepHS at h
  split at h
  · cases h
  · rename_i o ho
    split at h
    · rename_i hb hw
      simp only [Bool.and_eq_true, decide_eq_true_eq] at hb
      obtain ⟨⟨⟨b1, b2⟩, b3⟩, b4⟩ := hb
      simp only [Option.some.injEq, Prod.mk.injEq] at h
      exact GoH.step i v w1 o ho b1 b2 hw b3 b4 (h.1 ▸ hv) hS (h.2 ▸ hn)
    · cases h
def callHS (P : Program) (n : Nat) (ops : Array Oper) (listed : Array Bool) (l : Sl) (i : Nat) (w : World) : Option (Result Next × Option Tmp) :=
  match ops[i]? with
  | none => none
  | some o => match decide (Region.ready .any ops listed = [i]) && inB n o.dst && known l o.op.operands.toList && noSel o.op, wantedS ops l o with
    | true, some true => some ((execOp (rho l) o).run P w, o.dst)
    | _, _ => none
theorem GoH.callF {fuel : Nat} {listed : Array Bool} (i : Nat) (g : FuncId) (args : Array Value) (dst : Option Tmp) (h : callHS P n ops listed l i w = some (.ok (.enter g args) w, dst)) {T : Ending → World → Prop} (hc : Calls P g args w T)
    (hn : ∀ e w1, T e w1 → ∃ v, e = .returned v ∧ (Wr.contains i = true ∨ S w1) ∧ GoH P f R n ops S Wr k fuel (listed.setIfInBounds i true) (putS l dst v) w1 D) : GoH P f R n ops S Wr k (fuel + 1) listed l w D := by
  unfold callHS at h
  split at h
  · cases h
  · rename_i o ho
    split at h
    · rename_i hb hw
      simp only [Bool.and_eq_true, decide_eq_true_eq] at hb
      obtain ⟨⟨⟨b1, b2⟩, b3⟩, b4⟩ := hb
      simp only [Option.some.injEq, Prod.mk.injEq] at h
      obtain ⟨h1, rfl⟩ := h
      exact GoH.call i g args o ho b1 b2 hw b3 b4 h1 hc hn
    · cases h

/-! ### more than one may come up: each is gone -/
def GoI (P : Program) (f : FuncId) (R : Ending → World → Prop) (n : Nat) (ops : Array Oper) (S : World → Prop) (Wr : List Nat) (k : List Item) (fuel : Nat) (listed : Array Bool) (l : Sl) (w : World) (i : Nat) (D : Fx := {}) : Prop :=
  ∀ a, Fits a n l D → wpOp P ops (fun e a' w' => e = .normal ∧ Goes P f R k a' w' D.kind) i (fun a' w' => (Wr.contains i = true ∨ S w') ∧ AnyW P ops (fun e a' w' => e = .normal ∧ Goes P f R k a' w' D.kind) S Wr fuel (listed.setIfInBounds i true) a' w') a w
def AllI (p : Nat → Prop) : List Nat → Prop
  | [] => True
  | i :: is => p i ∧ AllI p is
theorem AllI.mem {p : Nat → Prop} : ∀ {is : List Nat}, AllI p is → ∀ i ∈ is, p i
  | _ :: _, h, _, .head _ => h.1
  | _ :: _, h, i, .tail _ hi => h.2.mem i hi
theorem GoH.each {fuel : Nat} {listed : Array Bool} (is : List Nat) (hr : Region.ready .any ops listed = is) (hne : is.isEmpty = false) (h : AllI (fun i_ => GoI P f R n ops S Wr k fuel listed l w i_ D) is) : GoH P f R n ops S Wr k (fuel + 1) listed l w D := by
  intro a ha
  refine ⟨fun h0 => ?_, fun j hj => ?_⟩
  · rw [hr] at h0; subst h0; cases hne
  · rw [hr] at hj; exact h.mem j hj a ha
theorem GoI.step {fuel : Nat} {listed : Array Bool} (i : Nat) (v : Value) (w1 : World) (o : Oper) (ho : ops[i]? = some o)
    (hd : inB n o.dst = true) (hw : wantedS ops l o = some true) (hk : known l o.op.operands.toList = true) (hn : noSel o.op = true)
    (hv : owed P o (rho l) w v w1) (hS : Wr.contains i = true ∨ S w1) (h : GoH P f R n ops S Wr k fuel (listed.setIfInBounds i true) (putS l o.dst v) w1 D) : GoI P f R n ops S Wr k fuel listed l w i D := by
  intro a ha
  unfold wpOp
  simp only [ho, wanted_eq ha hw, if_true]
  left
  unfold Oper.wp
  rw [exec_eq ha hk hn]
  rcases owed_run2 hv with e | ⟨e, rfl, _⟩
  · rw [e]; exact ⟨hS, h _ (ha.put _ _ hd)⟩
  · rw [e]; exact ⟨hS, h _ (ha.put _ _ hd)⟩
theorem GoI.call {fuel : Nat} {listed : Array Bool} (i : Nat) (g : FuncId) (args : Array Value) (o : Oper) (ho : ops[i]? = some o)
    (hd : inB n o.dst = true) (hw : wantedS ops l o = some true) (hk : known l o.op.operands.toList = true) (hn : noSel o.op = true)
    (hv : (execOp (rho l) o).run P w = .ok (.enter g args) w) {T : Ending → World → Prop} (hc : Calls P g args w T)
    (h : ∀ e w1, T e w1 → ∃ v, e = .returned v ∧ (Wr.contains i = true ∨ S w1) ∧ GoH P f R n ops S Wr k fuel (listed.setIfInBounds i true) (putS l o.dst v) w1 D) : GoI P f R n ops S Wr k fuel listed l w i D := by
  intro a ha
  unfold wpOp
  simp only [ho, wanted_eq ha hw, if_true]
  left
  unfold Oper.wp
  rw [exec_eq ha hk hn, hv]
  show Calls P _ _ _ _
  refine hc.mono fun e w1 hT => ?_
  obtain ⟨v, rfl, hS, hg⟩ := h e w1 hT
  exact ⟨hS, hg _ (ha.put _ _ hd)⟩
def stepIS (P : Program) (n : Nat) (ops : Array Oper) (l : Sl) (i : Nat) (v : Value) (w w1 : World) : Option (Prop × Option Tmp) :=
  match ops[i]? with
  | none => none
  | some o => match inB n o.dst && known l o.op.operands.toList && noSel o.op, wantedS ops l o with
    | true, some true => some (owed P o (rho l) w v w1, o.dst)
    | _, _ => none
theorem GoI.stepF {fuel : Nat} {listed : Array Bool} (i : Nat) (v : Value) (w1 : World) (p : Prop) (dst : Option Tmp) (h : stepIS P n ops l i v w w1 = some (p, dst)) (hv : p) (hS : Wr.contains i = true ∨ S w1)
    (hn : GoH P f R n ops S Wr k fuel (listed.setIfInBounds i true) (putS l dst v) w1 D) : GoI P f R n ops S Wr k fuel listed l w i D := by
  unfold stepIS at h
  split at h
  · cases h
  · rename_i o ho
    split at h
    · rename_i hb hw
      simp only [Bool.and_eq_true] at hb
      obtain ⟨⟨b2, b3⟩, b4⟩ := hb
      simp only [Option.some.injEq, Prod.mk.injEq] at h
      exact GoI.step i v w1 o ho b2 hw b3 b4 (h.1 ▸ hv) hS (h.2 ▸ hn)
    · cases h
/-- one whose value the kernel reckons -/
def stepNS (P : Program) (n : Nat) (ops : Array Oper) (l : Sl) (i : Nat) (w : World) : Option (Result Next × Option Tmp) :=
  match ops[i]? with
  | none => none
  | some o => match inB n o.dst && known l o.op.operands.toList && noSel o.op, wantedS ops l o with
    | true, some true => some ((execOp (rho l) o).run P w, o.dst)
    | _, _ => none
theorem GoI.callF {fuel : Nat} {listed : Array Bool} (i : Nat) (g : FuncId) (args : Array Value) (dst : Option Tmp) (h : stepNS P n ops l i w = some (.ok (.enter g args) w, dst)) {T : Ending → World → Prop} (hc : Calls P g args w T)
    (hn : ∀ e w1, T e w1 → ∃ v, e = .returned v ∧ (Wr.contains i = true ∨ S w1) ∧ GoH P f R n ops S Wr k fuel (listed.setIfInBounds i true) (putS l dst v) w1 D) : GoI P f R n ops S Wr k fuel listed l w i D := by
  unfold stepNS at h
  split at h
  · cases h
  · rename_i o ho
    split at h
    · rename_i hb hw
      simp only [Bool.and_eq_true] at hb
      obtain ⟨⟨b2, b3⟩, b4⟩ := hb
      simp only [Option.some.injEq, Prod.mk.injEq] at h
      obtain ⟨h1, rfl⟩ := h
      exact GoI.call i g args o ho b2 hw b3 b4 h1 hc hn
    · cases h
end
end Go.Gw


namespace Go.Gw
set_option linter.unusedVariables false
set_option linter.unusedSimpArgs false

/-- in the midst of a region -/
structure Hs where
  ops : Array Oper
  k : List Item
  listed : Array Bool
  l : Sl
  fuel : Nat
structure GoY (P : Program) (f : FuncId) (R : Ending → World → Prop) (n : Nat) (S : World → Prop) (Wr : List Nat) (t : Hs) (w : World) (D : Fx := {}) : Prop where
  of ::
  go : GoH P f R n t.ops S Wr t.k t.fuel t.listed t.l w D

/-- what each of these yields in whatever world: as reckoned in W, as told by w -/
def hadv (P : Program) (n : Nat) (Wr : List Nat) (w W : World) : List Nat → Hs → Option (List (Result Next) × List (Result Next) × Hs)
  | [], t => some ([], [], t)
  | i :: is, t => match t.fuel with
    | 0 => none
    | fuel + 1 => match t.ops[i]? with
      | none => none
      | some o => match wantedS t.ops t.l o with
        | none => none
        | some false => match Region.noSelect t.ops && takeB n t.ops Wr t.listed i with
          | true => hadv P n Wr w W is ⟨t.ops, t.k, t.listed.setIfInBounds i true, putS t.l o.dst undef, fuel⟩
          | false => none
        | some true => match Region.noSelect t.ops && takeB n t.ops Wr t.listed i && known t.l o.op.operands.toList && noSel o.op with
          | false => none
          | true => match (execOp (rho t.l) o).run P w with
            | .ok (.value v) _ => match hadv P n Wr w W is ⟨t.ops, t.k, t.listed.setIfInBounds i true, putS t.l o.dst v, fuel⟩ with
              | some (a, b, t') => some ((execOp (rho t.l) o).run P W :: a, .ok (.value v) W :: b, t')
              | none => none
            | _ => none
def ht (P : Program) (n : Nat) (Wr : List Nat) (w : World) (is : List Nat) (t : Hs) : Hs := match hadv P n Wr w w is t with
  | some (_, _, t') => t'
  | none => t
/-- one more is behind -/
def hput (t : Hs) (i : Nat) (v : Value) : Hs := match t.ops[i]? with
  | some o => ⟨t.ops, t.k, t.listed.setIfInBounds i true, putS t.l o.dst v, t.fuel - 1⟩
  | none => t
def hx (P : Program) (n : Nat) (Wr : List Nat) (w : World) (is : List Nat) (i : Nat) (v : Value) (t : Hs) : Hs := hput (ht P n Wr w is t) i v

section
variable {P : Program} {D : Fx} {f : FuncId} {R : Ending → World → Prop} {n : Nat} {s : St} {w w' : World} {S : World → Prop} {Wr : List Nat} {t : Hs}

theorem hadv_same {w W W' : World} : ∀ (is : List Nat) (t : Hs) (a b : List (Result Next)) (t' : Hs), hadv P n Wr w W is t = some (a, b, t') → ∃ a' b', hadv P n Wr w W' is t = some (a', b', t')
  | [], t, a, b, t', h => by
    simp only [hadv, Option.some.injEq, Prod.mk.injEq] at h
    obtain ⟨-, -, rfl⟩ := h
    exact ⟨[], [], rfl⟩
  | i :: is, t, a, b, t', h => by
    unfold hadv at h ⊢
    split at h
    · cases h
    · rename_i fuel hf
      split at h
      · cases h
      · rename_i o ho
        split at h
        · cases h
        · rename_i hw
          split at h
          · rename_i hb
            exact hadv_same is _ _ _ _ h
          · cases h
        · rename_i hw
          split at h
          · cases h
          · rename_i hb
            split at h
            · rename_i v w2 hr
              split at h
              · rename_i a1 b1 t1 h1
                simp only [Option.some.injEq, Prod.mk.injEq] at h
                obtain ⟨-, -, rfl⟩ := h
                obtain ⟨a', b', h2⟩ := hadv_same is _ _ _ _ h1
                rw [h2]
                exact ⟨_, _, rfl⟩
              · cases h
            · cases h

theorem hadv_goes' : ∀ (is : List Nat) (t : Hs) (t' : Hs), (∀ W, ∃ a, hadv P n Wr w W is t = some (a, a, t')) → S w → GoY P f R n S Wr t' w D → GoY P f R n S Wr t w D
  | [], t, t', h, hS, hk => by
    obtain ⟨a, ha⟩ := h w
    simp only [hadv, Option.some.injEq, Prod.mk.injEq] at ha
    obtain ⟨-, -, rfl⟩ := ha
    exact hk
  | i :: is, t, t', h, hS, hk => by
    obtain ⟨ops, k, listed, l, fuel⟩ := t
    obtain ⟨a0, h0⟩ := h w
    unfold hadv at h0
    simp only at h0
    cases fuel with
    | zero => cases h0
    | succ fuel =>
      simp only at h0
      split at h0
      · cases h0
      · rename_i o ho
        split at h0
        · cases h0
        · rename_i hw
          split at h0
          · rename_i hb
            simp only [Bool.and_eq_true] at hb
            refine ⟨GoH.skip i o ho hb.1 hb.2 hw hS ?_⟩
            refine (hadv_goes' is ⟨ops, k, listed.setIfInBounds i true, putS l o.dst undef, fuel⟩ t' (fun W => ?_) hS hk).go
            obtain ⟨a, hW⟩ := h W
            unfold hadv at hW
            simp only [ho, hw, hb.1, hb.2, Bool.and_self] at hW
            exact ⟨a, hW⟩
          · cases h0
        · rename_i hw
          split at h0
          · cases h0
          · rename_i hb
            have hb' := hb
            simp only [Bool.and_eq_true] at hb
            obtain ⟨⟨⟨b1, b2⟩, b3⟩, b4⟩ := hb
            split at h0
            · rename_i v w2 hr
              split at h0
              · rename_i a1 b1' t1 h1
                simp only [Option.some.injEq, Prod.mk.injEq] at h0
                obtain ⟨e1, e2, rfl⟩ := h0
                have key : ∀ W, ∃ a, hadv P n Wr w W is ⟨ops, k, listed.setIfInBounds i true, putS l o.dst v, fuel⟩ = some (a, a, t1) ∧ (execOp (rho l) o).run P W = .ok (.value v) W := by
                  intro W
                  obtain ⟨a, hW⟩ := h W
                  unfold hadv at hW
                  simp only [ho, hw, hb', hr] at hW
                  obtain ⟨a2, b2, h2⟩ := hadv_same (W' := W) is _ _ _ _ h1
                  simp only [h2, Option.some.injEq, Prod.mk.injEq] at hW
                  obtain ⟨q1, q2, -⟩ := hW
                  rw [← q2] at q1
                  simp only [List.cons.injEq] at q1
                  exact ⟨a2, by rw [h2, q1.2], q1.1⟩
                refine ⟨GoH.takeN i v o ho b1 b2 hw b3 b4 (fun W => (key W).choose_spec.2) hS ?_⟩
                exact (hadv_goes' is ⟨ops, k, listed.setIfInBounds i true, putS l o.dst v, fuel⟩ t1 (fun W => ⟨_, (key W).choose_spec.1⟩) hS hk).go
              · cases h0
            · cases h0

theorem hadv_goes {is : List Nat} {t t' : Hs} (h : ∀ W, ∃ a, hadv P n Wr w W is t = some (a, a, t')) (hS : S w) (hk : GoY P f R n S Wr t' w D) : GoY P f R n S Wr t w D := hadv_goes' is t t' h hS hk

/-- what is checked of them -/
def hA (P : Program) (n : Nat) (Wr : List Nat) (w W : World) (is : List Nat) (t : Hs) {α : Type} (g : Hs → Option α) : Option (List (Result Next) × α) :=
  match hadv P n Wr w W is t with
  | some (a, _, t') => match g t' with
    | some x => some (a, x)
    | none => none
  | none => none
def hB (P : Program) (n : Nat) (Wr : List Nat) (w W : World) (is : List Nat) (t : Hs) {α : Type} (x : α) : Option (List (Result Next) × α) :=
  match hadv P n Wr w W is t with
  | some (_, b, _) => some (b, x)
  | none => some ([], x)
theorem hAB {is : List Nat} {α : Type} {g : World → Hs → Option α} {x : World → α} (h : ∀ W, hA P n Wr w W is t (g W) = hB P n Wr w W is t (x W)) :
    (∀ W, ∃ a, hadv P n Wr w W is t = some (a, a, ht P n Wr w is t)) ∧ ∀ W, g W (ht P n Wr w is t) = some (x W) := by
  have h0 : ∃ a b t', hadv P n Wr w w is t = some (a, b, t') := by
    have := h w
    unfold hA hB at this
    cases hq : hadv P n Wr w w is t with
    | none => rw [hq] at this; simp at this
    | some r => exact ⟨r.1, r.2.1, r.2.2, rfl⟩
  obtain ⟨a0, b0, t', h0⟩ := h0
  have et : ht P n Wr w is t = t' := by unfold ht; rw [h0]
  rw [et]
  have key : ∀ W, (∃ a, hadv P n Wr w W is t = some (a, a, t')) ∧ g W t' = some (x W) := by
    intro W
    obtain ⟨a, b, hW⟩ := hadv_same (W' := W) _ _ _ _ _ h0
    have := h W
    unfold hA hB at this
    rw [hW] at this
    simp only at this
    cases hg : g W t' with
    | none => rw [hg] at this; simp at this
    | some y =>
      rw [hg] at this
      simp only [Option.some.injEq, Prod.mk.injEq] at this
      exact ⟨⟨a, by rw [hW, ← this.1]⟩, by rw [this.2]⟩
  exact ⟨fun W => (key W).1, fun W => (key W).2⟩

/-- the region begins -/
def hst (P : Program) (n : Nat) (w : World) (i : Nat) (s : St) : Hs := match adv P n i s w with
  | some r => match r.k with
    | .code (.region _ ops true) :: k => ⟨ops, k, Array.replicate ops.size false, r.l, ops.size⟩
    | k => ⟨#[], k, #[], r.l, 0⟩
  | none => ⟨#[], s.k, #[], s.l, 0⟩
def hck (P : Program) (n : Nat) (w : World) (i : Nat) (s : St) : Option (List Prop × World × Bool) := match adv P n i s w with
  | some r => match r.k with
    | .code (.region _ _ true) :: _ => some (r.obs, r.w, P.follows .mixedOrders)
    | _ => none
  | none => none
theorem xh0 (S : World → Prop) (i : Nat) (Wr : List Nat) (hk : GoY P f R n S Wr (hst P n w i s) (w.drewN 1) D) (hc : hck P n w i s = some ([], w, true) := by kernel_rfl) : GoX P f R n s w D := by
  unfold hck at hc
  split at hc
  · rename_i r hr
    split at hc
    · rename_i id ops k hk'
      simp only [Option.some.injEq, Prod.mk.injEq] at hc
      obtain ⟨ho, rfl, hm⟩ := hc
      have h' := hr
      unfold adv at h'
      refine ⟨run_goes h' (by rw [ho]; exact trivial) ?_⟩
      rw [hk']
      have e : hst P n r.w i s = ⟨ops, k, Array.replicate ops.size false, r.l, ops.size⟩ := by
        unfold hst; rw [hr]; simp only [hk']
      rw [e] at hk
      exact GoS.held (c := .region id ops true) S Wr id rfl hm ops.size rfl hk.go
    · cases hc
  · cases hc
/-- what is one's own and stays alike, among all -/
theorem xh {S0 : List Nat} {w0 : World} {L M : List Row} (i : Nat) (Wr : List Nat) (hM : Mem S0 w0 w L) (hs : M.Sublist L) (hk : ∀ w', Mem S0 w0 w' L → Mem S0 w0 w' M → GoY P f R n (fun W => Mem S0 w0 W M) Wr (hst P n w i s) w' D)
    (hc : hck P n w i s = some ([], w, true) := by kernel_rfl) : GoX P f R n s w D :=
  have h := hM.ext (Kept.drewN [] w 1)
  xh0 (fun W => Mem S0 w0 W M) i Wr (hk _ h (h.sub hs)) hc
/-- one whose value is told -/
def tkP (P : Program) (n : Nat) (Wr : List Nat) (W : World) (i : Nat) (v : Value) (t : Hs) : Option (Prop × Bool) := match t.fuel with
  | 0 => none
  | _ + 1 => match takeS P n t.ops Wr t.listed t.l i v W with
    | some (p, _) => some (p, true)
    | none => none
theorem take_goes {is : List Nat} {i : Nat} {v : Value} {p : World → Prop} (h : ∀ W, hA P n Wr w W is t (tkP P n Wr W i v) = hB P n Wr w W is t (p W, true)) (hv : ∀ W, S W → p W) (hS : S w) (hk : GoY P f R n S Wr (hx P n Wr w is i v t) w D) : GoY P f R n S Wr t w D := by
  obtain ⟨h1, h2⟩ := hAB h
  refine hadv_goes h1 hS ?_
  unfold hx at hk
  generalize ht P n Wr w is t = t' at h2 hk
  obtain ⟨ops, k, listed, l, fuel⟩ := t'
  cases fuel with
  | zero => have := h2 w; simp [tkP] at this
  | succ fuel =>
    have h3 : ∀ W, ∃ d, takeS P n ops Wr listed l i v W = some (p W, d) := by
      intro W
      have := h2 W
      unfold tkP at this
      simp only at this
      split at this
      · rename_i q d hq
        simp only [Option.some.injEq, Prod.mk.injEq] at this
        exact ⟨d, by rw [hq, this.1]⟩
      · cases this
    obtain ⟨d, h4⟩ := h3 w
    have hd : ∃ o, ops[i]? = some o ∧ o.dst = d := by
      unfold takeS at h4
      split at h4
      · cases h4
      · rename_i o ho
        split at h4
        · simp only [Option.some.injEq, Prod.mk.injEq] at h4
          exact ⟨o, ho, h4.2⟩
        · cases h4
    obtain ⟨o, ho, rfl⟩ := hd
    refine ⟨GoH.takeF i v p o.dst (fun W => ?_) hv hS ?_⟩
    · obtain ⟨d', h5⟩ := h3 W
      have : d' = o.dst := by
        unfold takeS at h5
        rw [ho] at h5
        simp only at h5
        split at h5
        · simp only [Option.some.injEq, Prod.mk.injEq] at h5; exact h5.2.symm
        · cases h5
      rw [h5, this]
    · have hk := hk.go
      unfold hput at hk
      simp only [ho] at hk
      exact hk
theorem yv (is : List Nat) (i : Nat) {sem : Sem Value} {v : Value} (hp : ∀ W, S W → sem.run P W = .ok v W) (hS : S w) (hk : GoY P f R n S Wr (hx P n Wr w is i v t) w D)
    (h : ∀ W, hA P n Wr w W is t (tkP P n Wr W i v) = hB P n Wr w W is t (sem.run P W = .ok v W, true) := by intro _; kernel_rfl) : GoY P f R n S Wr t w D := take_goes h hp hS hk
theorem yp (is : List Nat) (i : Nat) (v : Value) {p : World → Prop} (hp : ∀ W, S W → p W) (hS : S w) (hk : GoY P f R n S Wr (hx P n Wr w is i v t) w D)
    (h : ∀ W, hA P n Wr w W is t (tkP P n Wr W i v) = hB P n Wr w W is t (p W, true) := by intro _; kernel_rfl) : GoY P f R n S Wr t w D := take_goes h hp hS hk
/-- a cell of one's own; of what came in -/
theorem yl {S0 : List Nat} {w0 : World} {M : List Row} (is : List Nat) (i : Nat) (hS : Mem S0 w0 w M) {E : TypeId} (hE : Plain P E) (j : Nat) {r : Row} (hj : M[j]? = some r) {c : Nat} {p : Addr} (hp : Cel r.v c p) {u : Value} (hu : r.xs[c]? = some u)
    (hk : GoY P f R n (fun W => Mem S0 w0 W M) Wr (hx P n Wr w is i u t) w D)
    (h : ∀ W, hA P n Wr w W is t (tkP P n Wr W i u) = hB P n Wr w W is t ((Instr.loadAt E (.pointer (some p))).run P W = .ok u W, true) := by intro _; kernel_rfl) : GoY P f R n (fun W => Mem S0 w0 W M) Wr t w D :=
  take_goes h (fun W hW => c_load hE (hW.rd j hj) hp hu) hS hk
theorem yla {S0 : List Nat} {w0 : World} {M : List Row} (is : List Nat) (i : Nat) (hS : Mem S0 w0 w M) {E : TypeId} (hE : Plain P E) {k m : Nat} {v : Value} {xs : List Value} (h0 : Rd w0 k v m xs) (h1 : ∀ {W}, Rd w0 k v m xs → Mem S0 w0 W M → Rd W k v m xs) {c : Nat} {p : Addr} (hp : Cel v c p) {u : Value} (hu : xs[c]? = some u)
    (hk : GoY P f R n (fun W => Mem S0 w0 W M) Wr (hx P n Wr w is i u t) w D)
    (h : ∀ W, hA P n Wr w W is t (tkP P n Wr W i u) = hB P n Wr w W is t ((Instr.loadAt E (.pointer (some p))).run P W = .ok u W, true) := by intro _; kernel_rfl) : GoY P f R n (fun W => Mem S0 w0 W M) Wr t w D :=
  take_goes h (fun W hW => c_load hE (h1 h0 hW) hp hu) hS hk
theorem ya {S0 : List Nat} {w0 : World} {M : List Row} (is : List Nat) (i : Nat) (hS : Mem S0 w0 w M) {E : TypeId} (hE : Plain P E) (j : Nat) {r : Row} (hj : M[j]? = some r) (hr : r.k = 1) {c : Nat} {p : Addr} (hp : At r.v 1 c p) {u : Value} (hu : r.xs[c]? = some u)
    (hk : GoY P f R n (fun W => Mem S0 w0 W M) Wr (hx P n Wr w is i u t) w D)
    (h : ∀ W, hA P n Wr w W is t (tkP P n Wr W i u) = hB P n Wr w W is t ((Instr.loadAt E (.pointer (some p))).run P W = .ok u W, true) := by intro _; kernel_rfl) : GoY P f R n (fun W => Mem S0 w0 W M) Wr t w D :=
  take_goes h (fun W hW => at_load hE (hr ▸ hW.rd j hj) hp hu) hS hk
theorem kp0 {w0 W : World} {M : List Row} {k m : Nat} {v : Value} {xs : List Value} (h : Rd w0 k v m xs) (hM : Mem [] w0 W M) : Rd W k v m xs := h.kept0 hM.kept
/-- one whose value is reckoned, told anew -/
def tkV (P : Program) (n : Nat) (Wr : List Nat) (W : World) (i : Nat) (t : Hs) : Option (Result Next × Bool) := match t.fuel with
  | 0 => none
  | _ + 1 => match takeNS P n t.ops Wr t.listed t.l i undef W with
    | some (r, _) => some (r, true)
    | none => none
theorem ye (is : List Nat) (i : Nat) (b c : Bool) (e : b = c) (hS : S w) (hk : GoY P f R n S Wr (hx P n Wr w is i (.bool c) t) w D)
    (h : ∀ W, hA P n Wr w W is t (tkV P n Wr W i) = hB P n Wr w W is t (.ok (.value (.bool b)) W, true) := by intro _; kernel_rfl) : GoY P f R n S Wr t w D := by
  obtain ⟨h1, h2⟩ := hAB h
  refine hadv_goes h1 hS ?_
  unfold hx at hk
  generalize ht P n Wr w is t = t' at h2 hk
  obtain ⟨ops, k, listed, l, fuel⟩ := t'
  cases fuel with
  | zero => have := h2 w; simp [tkV] at this
  | succ fuel =>
    have h3 : ∀ W, ∃ o, ops[i]? = some o ∧ takeNS P n ops Wr listed l i undef W = some (.ok (.value (.bool b)) W, o.dst) := by
      intro W
      have := h2 W
      unfold tkV at this
      simp only at this
      split at this
      · rename_i q d hq
        simp only [Option.some.injEq, Prod.mk.injEq] at this
        obtain ⟨rfl, -⟩ := this
        have hq' := hq
        unfold takeNS at hq'
        split at hq'
        · cases hq'
        · rename_i o ho
          split at hq'
          · simp only [Option.some.injEq, Prod.mk.injEq] at hq'
            exact ⟨o, ho, by rw [hq, hq'.2]⟩
          · cases hq'
      · cases this
    obtain ⟨o, ho, _⟩ := h3 w
    refine ⟨GoH.takeV i (.bool b) (.bool c) o.dst (fun W => ?_) (by rw [e]) hS ?_⟩
    · obtain ⟨o', ho', h5⟩ := h3 W
      obtain rfl : o' = o := Option.some.inj (ho'.symm.trans ho)
      exact h5
    · have hk := hk.go
      unfold hput at hk
      simp only [ho] at hk
      exact hk

/-- the only one that may come up: run as the world stands -/
def stP (P : Program) (n : Nat) (i : Nat) (v : Value) (w w1 : World) (t : Hs) : Option (Prop × Bool) := match t.fuel with
  | 0 => none
  | _ + 1 => match stepHS P n t.ops t.listed t.l i v w w1 with
    | some (p, _) => some (p, true)
    | none => none
theorem step_goes {is : List Nat} {i : Nat} {v : Value} {w1 : World} {p : Prop} (h : ∀ W, hA P n Wr w W is t (stP P n i v w w1) = hB P n Wr w W is t (p, true)) (hv : p) (hS : S w) (hS1 : Wr.contains i = true ∨ S w1)
    (hk : GoY P f R n S Wr (hx P n Wr w is i v t) w1 D) : GoY P f R n S Wr t w D := by
  obtain ⟨h1, h2⟩ := hAB (g := fun _ => stP P n i v w w1) (x := fun _ => (p, true)) h
  refine hadv_goes h1 hS ?_
  unfold hx at hk
  generalize ht P n Wr w is t = t' at h2 hk
  obtain ⟨ops, k, listed, l, fuel⟩ := t'
  have h3 := h2 w
  cases fuel with
  | zero => simp [stP] at h3
  | succ fuel =>
    unfold stP at h3
    simp only at h3
    split at h3
    · rename_i q d hq
      simp only [Option.some.injEq, Prod.mk.injEq] at h3
      obtain ⟨rfl, -⟩ := h3
      have hq' := hq
      unfold stepHS at hq'
      split at hq'
      · cases hq'
      · rename_i o ho
        split at hq'
        · simp only [Option.some.injEq, Prod.mk.injEq] at hq'
          obtain ⟨-, rfl⟩ := hq'
          refine ⟨GoH.stepF i v w1 q o.dst hq hv hS1 ?_⟩
          have hk := hk.go
          unfold hput at hk
          simp only [ho] at hk
          exact hk
        · cases hq'
    · cases h3
theorem yst (is : List Nat) (i : Nat) {sem : Sem Unit} {Q : World → Prop} (hp : ∃ w', sem.run P w = .ok () w' ∧ Q w') (hS : S w) (hq : ∀ w', Q w' → S w') (hk : ∀ w', Q w' → S w' → GoY P f R n S Wr (hx P n Wr w is i undef t) w' D)
    (h : ∀ w' W, hA P n Wr w W is t (stP P n i undef w w') = hB P n Wr w W is t ((sem.run P w = .ok () w' ∧ undef = undef), true) := by intro _ _; kernel_rfl) : GoY P f R n S Wr t w D := by
  obtain ⟨w', h1, h2⟩ := hp
  exact step_goes (h w') ⟨h1, rfl⟩ hS (.inr (hq _ h2)) (hk w' h2 (hq _ h2))
/-- a write behind which S need not hold -/
theorem ysw (is : List Nat) (i : Nat) {sem : Sem Unit} {Q : World → Prop} (hp : ∃ w', sem.run P w = .ok () w' ∧ Q w') (hS : S w) (hk : ∀ w', Q w' → GoY P f R n S Wr (hx P n Wr w is i undef t) w' D) (hc : Wr.contains i = true := by rfl)
    (h : ∀ w' W, hA P n Wr w W is t (stP P n i undef w w') = hB P n Wr w W is t ((sem.run P w = .ok () w' ∧ undef = undef), true) := by intro _ _; kernel_rfl) : GoY P f R n S Wr t w D := by
  obtain ⟨w', h1, h2⟩ := hp
  exact step_goes (h w') ⟨h1, rfl⟩ hS (.inl hc) (hk w' h2)
theorem yx (is : List Nat) (i : Nat) {α : Sort _} {sem : Sem Value} {F : α → Value} {Q : α → World → Prop} (hp : ∃ x w', sem.run P w = .ok (F x) w' ∧ Q x w') (hS : S w) (hq : ∀ x w', Q x w' → S w') (hk : ∀ x w', Q x w' → S w' → GoY P f R n S Wr (hx P n Wr w is i (F x) t) w' D)
    (h : ∀ x w' W, hA P n Wr w W is t (stP P n i (F x) w w') = hB P n Wr w W is t ((sem.run P w = .ok (F x) w'), true) := by intro _ _ _; kernel_rfl) : GoY P f R n S Wr t w D := by
  obtain ⟨x, w', h1, h2⟩ := hp
  exact step_goes (h x w') h1 hS (.inr (hq _ _ h2)) (hk x w' h2 (hq _ _ h2))
/-- a call -/
def clP (P : Program) (n : Nat) (i : Nat) (w : World) (t : Hs) : Option (Result Next × Bool) := match t.fuel with
  | 0 => none
  | _ + 1 => match callHS P n t.ops t.listed t.l i w with
    | some (r, _) => some (r, true)
    | none => none
theorem ycg (is : List Nat) (i : Nat) {g : FuncId} {args : Array Value} {T : Ending → World → Prop} (hc : Calls P g args w T) (hS : S w) (hk : ∀ e w', T e w' → ∃ v, e = .returned v ∧ S w' ∧ GoY P f R n S Wr (hx P n Wr w is i v t) w' D)
    (h : ∀ W, hA P n Wr w W is t (clP P n i w) = hB P n Wr w W is t (.ok (.enter g args) w, true) := by intro _; kernel_rfl) : GoY P f R n S Wr t w D := by
  obtain ⟨h1, h2⟩ := hAB (g := fun _ => clP P n i w) (x := fun _ => (.ok (.enter g args) w, true)) h
  refine hadv_goes h1 hS ?_
  unfold hx at hk
  generalize ht P n Wr w is t = t' at h2 hk
  obtain ⟨ops, k, listed, l, fuel⟩ := t'
  have h3 := h2 w
  cases fuel with
  | zero => simp [clP] at h3
  | succ fuel =>
    unfold clP at h3
    simp only at h3
    split at h3
    · rename_i q d hq
      simp only [Option.some.injEq, Prod.mk.injEq] at h3
      obtain ⟨rfl, -⟩ := h3
      have hq' := hq
      unfold callHS at hq'
      split at hq'
      · cases hq'
      · rename_i o ho
        split at hq'
        · simp only [Option.some.injEq, Prod.mk.injEq] at hq'
          obtain ⟨-, rfl⟩ := hq'
          refine ⟨GoH.callF i g args o.dst hq hc (fun e w' hT => ?_)⟩
          obtain ⟨v, rfl, hs, hg⟩ := hk e w' hT
          refine ⟨v, rfl, .inr hs, ?_⟩
          have hg := hg.go
          unfold hput at hg
          simp only [ho] at hg
          exact hg
        · cases hq'
    · cases h3
theorem yck (is : List Nat) (i : Nat) {g : FuncId} {args : Array Value} {v : Value} {Q : World → Prop} (hc : Calls P g args w (fun e w' => e = .returned v ∧ Q w')) (hS : S w) (hk : ∀ w', Q w' → S w' ∧ GoY P f R n S Wr (hx P n Wr w is i v t) w' D)
    (h : ∀ W, hA P n Wr w W is t (clP P n i w) = hB P n Wr w W is t (.ok (.enter g args) w, true) := by intro _; kernel_rfl) : GoY P f R n S Wr t w D :=
  ycg is i hc hS (fun e w' hT => ⟨v, hT.1, (hk _ hT.2).1, (hk _ hT.2).2⟩) h
/-- whatever else comes up alone, told -/
theorem yg (is : List Nat) (i : Nat) (v : Value) {w1 : World} {p : Prop} (hv : p) (hS : S w) (hS1 : Wr.contains i = true ∨ S w1) (hk : GoY P f R n S Wr (hx P n Wr w is i v t) w1 D)
    (h : ∀ W, hA P n Wr w W is t (stP P n i v w w1) = hB P n Wr w W is t (p, true) := by intro _; kernel_rfl) : GoY P f R n S Wr t w D := step_goes h hv hS hS1 hk
/-- a call that leaves the world as it is -/
theorem yca (is : List Nat) (i : Nat) {g : FuncId} {args : Array Value} {v : Value} (hc : Calls P g args w (fun e w' => e = .returned v ∧ w = w')) (hS : S w) (hk : GoY P f R n S Wr (hx P n Wr w is i v t) w D)
    (h : ∀ W, hA P n Wr w W is t (clP P n i w) = hB P n Wr w W is t (.ok (.enter g args) w, true) := by intro _; kernel_rfl) : GoY P f R n S Wr t w D :=
  ycg is i hc hS (fun e w' hT => ⟨v, hT.1, hT.2 ▸ hS, hT.2 ▸ hk⟩) h
theorem AllI.map {p q : Nat → Prop} (h : ∀ i, p i → q i) : ∀ {is : List Nat}, AllI p is → AllI q is
  | [], _ => trivial
  | _ :: _, hh => ⟨h _ hh.1, AllI.map h hh.2⟩
/-- all are behind -/
def dnS (t : Hs) : St := ⟨t.k, t.l⟩
def dnC (t : Hs) : Option (List Nat × Bool) := some (Region.ready .any t.ops t.listed, true)
theorem GoH.done0 {ops : Array Oper} {k : List Item} {l : Sl} {fuel : Nat} {listed : Array Bool} (hr : Region.ready .any ops listed = []) (h : GoS P f R n k l w D) : GoH P f R n ops S Wr k fuel listed l w D := by
  intro a ha
  have h2 := h a ha
  cases fuel with
  | zero => exact ⟨hr, rfl, h2⟩
  | succ m => exact ⟨fun _ => ⟨rfl, h2⟩, by rw [hr]; simp⟩
theorem yd (hk : GoX P f R n (dnS t) w D) (h : dnC t = some ([], true) := by kernel_rfl) : GoY P f R n S Wr t w D := by
  unfold dnC at h
  simp only [Option.some.injEq, Prod.mk.injEq, and_true] at h
  exact ⟨GoH.done0 h hk.go⟩
theorem ydp (is : List Nat) (hS : S w) (hk : GoX P f R n (dnS (ht P n Wr w is t)) w D) (h : ∀ W, hA P n Wr w W is t dnC = hB P n Wr w W is t ([], true) := by intro _; kernel_rfl) : GoY P f R n S Wr t w D := by
  obtain ⟨h1, h2⟩ := hAB (g := fun _ => dnC) (x := fun _ => ([], true)) h
  exact hadv_goes h1 hS (yd hk (h2 w))
end
end Go.Gw


namespace Go.Gw
set_option linter.unusedVariables false
set_option linter.unusedSimpArgs false
open Go.RowKit

/-- the cells of a list of records -/
def recs {α : Type} (f : α → List Value) (l : List α) : List Value := l.flatMap f
section
variable {α : Type} {f : α → List Value} {k : Nat}
theorem recs_len (hf : ∀ x, (f x).length = k) (l : List α) : (recs f l).length = l.length * k := by
  induction l with
  | nil => simp [recs]
  | cons x l ih =>
    have : recs f (x :: l) = f x ++ recs f l := by simp [recs]
    rw [this, List.length_append, hf, ih, List.length_cons, Nat.succ_mul, Nat.add_comm]
theorem recs_take (hf : ∀ x, (f x).length = k) (l : List α) (m : Nat) : (recs f l).take (m * k) = recs f (l.take m) := by
  induction l generalizing m with
  | nil => simp [recs]
  | cons x l ih =>
    have e : recs f (x :: l) = f x ++ recs f l := by simp [recs]
    cases m with
    | zero => simp [recs]
    | succ m =>
      have e2 : recs f ((x :: l).take (m + 1)) = f x ++ recs f (l.take m) := by simp [recs]
      rw [e, e2, List.take_append, List.take_of_length_le (by rw [hf]; have := Nat.le_mul_of_pos_left k (Nat.succ_pos m); omega), hf, Nat.succ_mul, Nat.add_sub_cancel, ih]
theorem recs_drop (hf : ∀ x, (f x).length = k) (l : List α) (m : Nat) : (recs f l).drop (m * k) = recs f (l.drop m) := by
  induction l generalizing m with
  | nil => simp [recs]
  | cons x l ih =>
    have e : recs f (x :: l) = f x ++ recs f l := by simp [recs]
    cases m with
    | zero => simp
    | succ m =>
      have e2 : (x :: l).drop (m + 1) = l.drop m := rfl
      rw [e, e2, List.drop_append, List.drop_of_length_le (by rw [hf]; have := Nat.le_mul_of_pos_left k (Nat.succ_pos m); omega), hf, Nat.succ_mul, Nat.add_sub_cancel, ih]; simp
theorem recs_at (hf : ∀ x, (f x).length = k) {l : List α} {j i : Nat} (d : α) (hj : j < l.length) {u : Value} (hi : (f (l.getD j d))[i]? = some u) : (recs f l)[j * k + i]? = some u := by
  have hi' : i < k := by have := (List.getElem?_eq_some_iff.1 hi).1; rwa [hf] at this
  have e : l.drop j = l.getD j d :: l.drop (j + 1) := by
    rw [List.drop_eq_getElem_cons hj, List.getD_eq_getElem?_getD, List.getElem?_eq_getElem hj]; rfl
  have h1 : ((recs f l).drop (j * k))[i]? = some u := by
    rw [recs_drop hf, e]
    have : recs f (l.getD j d :: l.drop (j + 1)) = f (l.getD j d) ++ recs f (l.drop (j + 1)) := by simp [recs]
    rw [this, List.getElem?_append_left (by rw [hf]; exact hi')]
    exact hi
  rwa [List.getElem?_drop] at h1
theorem recs_set (hf : ∀ x, (f x).length = k) {l : List α} {j : Nat} (hj : j < l.length) (x : α) : splice (recs f l) (j * k) (f x) = recs f (l.set j x) := by
  unfold splice
  rw [recs_take hf, hf, ← Nat.succ_mul, recs_drop hf]
  rw [List.set_eq_take_append_cons_drop, if_pos hj]
  simp [recs]
end

/-! ### equal structs -/
/-- structs of plain fields: are they alike? -/
def flatEq (P : Program) (xs ys : List Value) : List Field → Option Bool
  | [] => some true
  | f :: fs => match decide (f.name = "_"), P.underlying f.type, xs[f.offset]?, ys[f.offset]?, flatEq P xs ys fs with
    | false, some (.int _), some (.int k a), some (.int k' b), some r => if k = k' then some ((a == b) && r) else none
    | false, some .bool, some (.bool a), some (.bool b), some r => some ((a == b) && r)
    | false, some .string, some (.string a), some (.string b), some r => some ((a.toList == b.toList) && r)
    | _, _, _, _, _ => none
section
variable {P : Program} {w : World}
theorem part_plain {t : TypeId} (hE : Plain P t) {cs : Array Value} {off : Nat} {v : Value} (h : cs.toList[off]? = some v) : (part t cs off).run P w = .ok v w := by
  have h' : cs[off]? = some v := by simpa using h
  unfold part
  rw [Sem.run_bind, plain_agg hE]
  simp only [Result.andThen_ok, Bool.false_eq_true, if_false, h']
  rfl
theorem flatEq_run (d : Nat) (xs ys : Array Value) : ∀ (fs : List Field) (r : Bool), flatEq P xs.toList ys.toList fs = some r → (Op.eqFields (d + 1) xs ys fs).run P w = .ok r w
  | [], r, h => by simp only [flatEq, Option.some.injEq] at h; subst h; simp [Op.eqFields]
  | f :: fs, r, h => by
    have ints : ∀ {d : TypeDesc}, P.underlying f.type = some d → (∀ fs, d ≠ .struct fs) → (∀ m e, d ≠ .array m e) → Plain P f.type := fun h a b => ⟨_, h, a, b⟩
    unfold flatEq at h
    split at h
    · rename_i hn ht hx hy hr
      have hn' : f.name ≠ "_" := by simpa using hn
      split at h
      case isFalse => cases h
      rename_i hk
      subst hk
      simp only [Option.some.injEq] at h
      subst h
      have hp := ints ht (fun _ => by simp) (fun _ _ => by simp)
      have ih := flatEq_run d xs ys fs _ hr
      unfold Op.eqFields
      rw [if_pos hn']
      simp only [Sem.run_bind, part_plain hp hx, part_plain hp hy, Result.andThen_ok]
      rename_i k a b r
      have e : (Op.equalIn (d + 1) f.type (.int k a) (.int k b)).run P w = .ok (a == b) w := by simp [Op.equalIn, run_underlying ht]
      rw [e]
      simp only [Result.andThen_ok]
      cases hab : (a == b) <;> simp [ih]
    · rename_i hn ht hx hy hr
      have hn' : f.name ≠ "_" := by simpa using hn
      simp only [Option.some.injEq] at h
      subst h
      have hp := ints ht (fun _ => by simp) (fun _ _ => by simp)
      have ih := flatEq_run d xs ys fs _ hr
      unfold Op.eqFields
      rw [if_pos hn']
      simp only [Sem.run_bind, part_plain hp hx, part_plain hp hy, Result.andThen_ok]
      rename_i a b r
      rw [run_equalIn_bool w d f.type a b ht]
      simp only [Result.andThen_ok]
      cases hab : (a == b) <;> simp [ih]
    · rename_i hn ht hx hy hr
      have hn' : f.name ≠ "_" := by simpa using hn
      simp only [Option.some.injEq] at h
      subst h
      have hp := ints ht (fun _ => by simp) (fun _ _ => by simp)
      have ih := flatEq_run d xs ys fs _ hr
      unfold Op.eqFields
      rw [if_pos hn']
      simp only [Sem.run_bind, part_plain hp hx, part_plain hp hy, Result.andThen_ok]
      rename_i a b r
      rw [run_equalIn_string w d f.type a b ht]
      simp only [Result.andThen_ok]
      cases hab : (a.toList == b.toList) <;> simp [ih]
    · cases h

structure EqT (P : Program) (t : TypeId) : Prop where
  under : P.underlying t = some (.struct (P.fieldsOf t))
  held : P.stoodInHeld t = false
  guard : P.eqGuardType P.depth t = false

theorem f_ageq {t : TypeId} (hT : EqT P t) {xs ys : List Value} {r b : Bool} (h : flatEq P xs ys (P.fieldsOf t).toList = some r) (e : r = b) :
    P.eqGuardType P.depth t = false ∧ (binOp .eql t (.agg xs.toArray) (.agg ys.toArray)).run P w = .ok (.bool b) w := by
  subst e
  refine ⟨hT.guard, ?_⟩
  rw [run_eql_struct, run_equalIn_struct w 9999 t _ _ hT.under hT.held, flatEq_run 9998 _ _ _ r (by simpa using h)]
  rfl
/-! ### records in memory -/
theorem r_loads {α : Type} {f : α → List Value} {l : List α} {E : TypeId} {k : Nat} (hE : Agged P E k) {v : Value} {n : Nat} (h : Rd w k v n (recs f l)) (hf : ∀ x, (f x).length = k) {j : Nat} {p : Addr} (hp : At v k j p) (hj : j < l.length) (d : α) :
    (Instr.loadAt E (.pointer (some p))).run P w = .ok (.agg (f (l.getD j d)).toArray) w :=
  c_loads hE h hp.cel (hf _) (fun i u hu => recs_at hf d hj hu)
/-- a row of the call's own is cut to its first m elements -/
theorem Mem.cutrow {w0 : World} {S : List Nat} {L : List Row} (h : Mem S w0 w L) (i : Nat) {r : Row} (hr : L[i]? = some r) (m : Nat) (hm : m ≤ r.n) : Mem S w0 w (L.set i ⟨r.E, r.k, cut r.v m, m, r.xs.take (m * r.k)⟩) := by
  have ho := h.get i hr
  refine h.grow i hr (.inl rfl) ⟨rfl, rfl, rfl, Nat.le_refl _, fun _ _ _ => rfl⟩ _ _ _ ?_ (fun b hb => .inl ?_)
  · have hmk : m * r.k ≤ r.n * r.k := Nat.mul_le_mul_right _ hm
    refine ⟨by rw [List.length_take, ho.1]; omega, ?_⟩
    rcases ho.2 with ⟨e1, e2⟩ | ⟨g, cap, cur, e, hb, hg, hn, hc, hsz, ht⟩
    · left
      have hm0 : m = 0 := by omega
      subst hm0
      rw [e1]
      exact ⟨rfl, rfl⟩
    · right
      refine ⟨g, cap, cur, by rw [e]; rfl, hb, hg, by omega, hc, hsz, ?_⟩
      rw [← ht, List.take_take, Nat.min_eq_left hmk]
  · cases hv : r.v with
    | slice a n c => rw [hv] at hb; cases a <;> exact hb
    | _ => rw [hv] at hb; exact hb
end
end Go.Gw


namespace Go.Gw
set_option linter.unusedVariables false
set_option linter.unusedSimpArgs false
inductive ResC (P : Program) (w : World) (l : Sl) : List ResultVar → List Value → Prop
  | nil : ResC P w l [] []
  | tmp {t : Nat} {v : Value} {r : List ResultVar} {vs : List Value} : look l t = some v → ResC P w l r vs → ResC P w l (.tmp t :: r) (v :: vs)
  | cell {c : Nat} {t : TypeId} {p : Addr} {v : Value} {r : List ResultVar} {vs : List Value} : look l c = some (.pointer (some p)) → (Instr.loadAt t (.pointer (some p))).run P w = .ok v w → ResC P w l r vs → ResC P w l (.cell c t :: r) (v :: vs)
section
variable {P : Program} {f : FuncId} {R : Ending → World → Prop} {n : Nat} {k : List Item} {l : Sl} {w : World}
theorem resC_run {a : Act} {D : Fx} (ha : Fits a n l D) {rs : List ResultVar} {vs : List Value} (h : ResC P w l rs vs) : (rs.mapM (oneRes a.tmps)).run P w = .ok vs w := by
  induction h with
  | nil => simp
  | tmp hv _ ih =>
    have hg := ha.get _ _ hv
    simp only [List.mapM_cons, oneRes, Sem.run_bind, ih, Sem.run_pure, Result.andThen_ok, hg]
  | cell hv hl _ ih =>
    have hg := ha.get _ _ hv
    simp only [Instr.loadAt, Instr.sureAddr, Sem.run_bind, Sem.run_pure, Result.andThen_ok] at hl
    simp only [List.mapM_cons, oneRes, asAddr, Sem.run_bind, ih, Sem.run_pure, Result.andThen_ok, hg, hl]
theorem resultsC_run {fn : Func} {a : Act} {D : Fx} (ha : Fits a n l D) {rs : List ResultVar} (he : fn.results.toList = rs) {vs : List Value} (h : ResC P w l rs vs) : (results fn a.tmps).run P w = .ok (oneOf vs) w := by
  have h1 := resC_run ha h
  rw [← he] at h1
  have h2 : results fn a.tmps = (do let vs ← fn.results.mapM (oneRes a.tmps); pure (if h : vs.size = 1 then vs[0] else .tuple vs)) := rfl
  rw [h2]
  have h3 : fn.results.mapM (oneRes a.tmps) = (do let vs ← fn.results.toList.mapM (oneRes a.tmps); pure vs.toArray) := by
    rw [Array.mapM_eq_mapM_toList]
    rfl
  rw [h3]
  simp only [Sem.run_bind, h1, Result.andThen_ok, Sem.run_pure]
  match vs with
  | [] => rfl
  | [v] => rfl
  | v :: u :: r => simp [oneOf]
theorem GoS.retC {fn : Func} {rs : List ResultVar} (vs : List Value) {v : Value} (hf : P.funcs[f]? = some fn) (he : fn.results.toList = rs) (h : ResC P w l rs vs) (hv : v = oneOf vs) (hR : R (.returned v) w) : GoS P f R n (.code .ret :: k) l w := by
  subst hv
  exact fun _ ha => Goes.ret hf ha.defers (resultsC_run ha he h) hR
theorem GoS.finC {fn : Func} {rs : List ResultVar} (vs : List Value) {v : Value} (hf : P.funcs[f]? = some fn) (he : fn.results.toList = rs) (h : ResC P w l rs vs) (hv : v = oneOf vs) (hR : R (.returned v) w) : GoS P f R n [] l w := by
  subst hv
  exact fun _ ha => Goes.fin hf ha.defers (resultsC_run ha he h) hR
end
end Go.Gw


namespace Go.UtfP
open Go.Gw
set_option linter.unusedVariables false
set_option linter.unusedSimpArgs false

def whole (c : Int) : Bool := decide (0 ≤ c ∧ c ≤ 1114111 ∧ (c < 55296 ∨ c > 57343))
theorem whole_iff {c : Int} : whole c = true ↔ 0 ≤ c ∧ c ≤ 1114111 ∧ (c < 55296 ∨ c > 57343) := by simp [whole]
/-- the bytes of a character -/
def one (c : Int) : List Int :=
  if c < 128 then [c]
  else if c < 2048 then [192 + c / 64, 128 + c % 64]
  else if c < 65536 then [224 + c / 4096, 128 + c / 64 % 64, 128 + c % 64]
  else [240 + c / 262144, 128 + c / 4096 % 64, 128 + c / 64 % 64, 128 + c % 64]
theorem one_len (c : Int) : 1 ≤ (one c).length ∧ (one c).length ≤ 4 := by
  unfold one; repeat' split
  all_goals simp
theorem one_bd {c : Int} (h : whole c = true) : ∀ x ∈ one c, 0 ≤ x ∧ x ≤ 255 := by
  have h := whole_iff.1 h
  unfold one
  repeat' split
  all_goals (intro x hx; simp at hx; omega)
def enc (l : List Int) : List Int := l.flatMap one
theorem enc_snoc (l : List Int) (c : Int) : enc (l ++ [c]) = enc l ++ one c := by simp [enc]
theorem enc_app (l m : List Int) : enc (l ++ m) = enc l ++ enc m := by simp [enc]
theorem enc_cons (c : Int) (l : List Int) : enc (c :: l) = one c ++ enc l := by simp [enc]
theorem enc_len (l : List Int) : (enc l).length ≤ 4 * l.length := by
  induction l with
  | nil => simp [enc]
  | cons c l ih => rw [enc_cons, List.length_append, List.length_cons]; have := one_len c; omega
theorem enc_bd {l : List Int} (h : ∀ c ∈ l, whole c = true) : ∀ x ∈ enc l, 0 ≤ x ∧ x ≤ 255 := by
  intro x hx
  obtain ⟨c, hc, hx⟩ := List.mem_flatMap.1 hx
  exact one_bd (h c hc) x hx
theorem bytesOf_app (a b : List Int) : bytesOf (a ++ b) = bytesOf a ++ bytesOf b := by simp [bytesOf]
theorem bytesOf_len (a : List Int) : (bytesOf a).length = a.length := by simp [bytesOf]
theorem take_snoc (l : List Int) {k : Nat} (h : k < l.length) : l.take (k + 1) = l.take k ++ [l.getD k 0] := by
  rw [List.take_succ_eq_append_getElem h, List.getD_eq_getElem?_getD, List.getElem?_eq_getElem h]; rfl

def allW (l : List Int) : Bool := l.all whole
theorem allW_iff {l : List Int} : allW l = true ↔ ∀ c ∈ l, whole c = true := by simp [allW]
theorem allW_upto {l : List Int} {k : Nat} (h : ∀ j, j < k → whole (l.getD j 0) = true) : ∀ c ∈ l.take k, whole c = true := by
  intro c hc
  obtain ⟨j, hj⟩ := List.mem_iff_getElem?.1 hc
  rw [List.getElem?_take] at hj
  split at hj
  · rename_i hlt
    have := h j hlt
    rw [List.getD_eq_getElem?_getD, hj] at this
    exact this
  · cases hj
theorem allW_all {l : List Int} (h : ∀ j, j < l.length → whole (l.getD j 0) = true) : allW l = true := by
  rw [allW_iff]
  have := allW_upto (k := l.length) h
  rwa [List.take_length] at this
theorem allW_no {l : List Int} {k : Nat} (hk : k < l.length) (h : whole (l.getD k 0) = false) : allW l = false := by
  cases hq : allW l
  · rfl
  · have := allW_iff.1 hq (l.getD k 0) (by rw [List.getD_eq_getElem?_getD, List.getElem?_eq_getElem hk]; exact List.getElem_mem hk)
    rw [this] at h; cases h

/-- the text and the error of a list -/
def encT (l : List Int) : List UInt8 := if allW l then bytesOf (enc l) else []
def encE (l : List Int) : Int := if allW l then 0 else 1

def LetterP (c : Int) : Prop := (97 ≤ c ∧ c ≤ 122) ∨ (65 ≤ c ∧ c ≤ 90) ∨ (48 ≤ c ∧ c ≤ 57) ∨ (192 ≤ c ∧ c ≤ 214) ∨ (216 ≤ c ∧ c ≤ 246) ∨ (248 ≤ c ∧ c ≤ 591) ∨ (880 ≤ c ∧ c ≤ 893) ∨ (895 ≤ c ∧ c ≤ 1153) ∨ (1155 ≤ c ∧ c ≤ 1327) ∨ (19968 ≤ c ∧ c ≤ 40959)
instance (c : Int) : Decidable (LetterP c) := by unfold LetterP; infer_instance
def letter (c : Int) : Bool := decide (LetterP c)
theorem letter_iff {c : Int} : letter c = true ↔ LetterP c := by simp [letter]
theorem letter_t {c : Int} (h : LetterP c) : true = letter c := (letter_iff.2 h).symm
theorem letter_f {c : Int} (h : ¬ LetterP c) : false = letter c := by
  cases hq : letter c
  · rfl
  · exact absurd (letter_iff.1 hq) h
def UpP (c : Int) : Prop := (65 ≤ c ∧ c ≤ 90) ∨ (192 ≤ c ∧ c ≤ 214) ∨ (216 ≤ c ∧ c ≤ 222) ∨ (913 ≤ c ∧ c ≤ 929) ∨ (931 ≤ c ∧ c ≤ 937) ∨ (1040 ≤ c ∧ c ≤ 1071)
instance (c : Int) : Decidable (UpP c) := by unfold UpP; infer_instance
def fold (c : Int) : Int := if UpP c then c + 32 else if 1024 ≤ c ∧ c ≤ 1039 then c + 80 else if c = 962 then 963 else c

/-- is a number in one of the ranges? -/
def among (c : Int) : List Int → Bool
  | a :: b :: r => (decide (c ≥ a) && decide (c ≤ b)) || among c r
  | _ => false
theorem drop_two {l : List Int} {i : Nat} (h : i + 1 < l.length) : l.drop i = l.getD i 0 :: l.getD (i + 1) 0 :: l.drop (i + 2) := by
  rw [List.drop_eq_getElem_cons (by omega), List.drop_eq_getElem_cons h]
  simp [List.getD_eq_getElem?_getD, List.getElem?_eq_getElem h, List.getElem?_eq_getElem (show i < l.length by omega)]
theorem among_step {c : Int} {l : List Int} {i : Nat} (h : i + 1 < l.length) : among c (l.drop i) = ((decide (c ≥ l.getD i 0) && decide (c ≤ l.getD (i + 1) 0)) || among c (l.drop (i + 2))) := by
  rw [drop_two h]; rfl
theorem p_nf2 {b : Bool} (h : (!b) = false) : b = true := by simpa using h
/-- the first character of bytes, and how many it has; (0, 0): there is none -/
def firstP (s : List UInt8) : Int × Int :=
  if bl s 0 < 128 then (bl s 0, 1)
  else if bl s 0 < 192 then (0, 0)
  else if bl s 0 < 224 then
    if s.length < 2 ∨ bl s 1 / 64 * 64 ≠ 128 ∨ bl s 0 % 32 * 64 + bl s 1 % 64 < 128 ∨ whole (bl s 0 % 32 * 64 + bl s 1 % 64) = false then (0, 0) else (bl s 0 % 32 * 64 + bl s 1 % 64, 2)
  else if bl s 0 < 240 then
    if s.length < 3 ∨ bl s 1 / 64 * 64 ≠ 128 ∨ bl s 2 / 64 * 64 ≠ 128 ∨ (bl s 0 % 16 * 64 + bl s 1 % 64) * 64 + bl s 2 % 64 < 2048 ∨ whole ((bl s 0 % 16 * 64 + bl s 1 % 64) * 64 + bl s 2 % 64) = false then (0, 0)
    else ((bl s 0 % 16 * 64 + bl s 1 % 64) * 64 + bl s 2 % 64, 3)
  else if bl s 0 < 248 then
    if s.length < 4 ∨ bl s 1 / 64 * 64 ≠ 128 ∨ bl s 2 / 64 * 64 ≠ 128 ∨ bl s 3 / 64 * 64 ≠ 128 ∨ ((bl s 0 % 8 * 64 + bl s 1 % 64) * 64 + bl s 2 % 64) * 64 + bl s 3 % 64 < 65536 ∨ whole (((bl s 0 % 8 * 64 + bl s 1 % 64) * 64 + bl s 2 % 64) * 64 + bl s 3 % 64) = false then (0, 0)
    else (((bl s 0 % 8 * 64 + bl s 1 % 64) * 64 + bl s 2 % 64) * 64 + bl s 3 % 64, 4)
  else (0, 0)

/-- which character as many bytes would be -/
def guessF (c : Int) : List UInt8 → Int
  | [] => c
  | b :: r => guessF (64 * c + (b.toNat : Int) - 128) r
def leadP (n : Nat) : Int := ([0, 0, 192, 224, 240] : List Int).getD n 0
theorem lead_bd (j : Nat) : 0 ≤ (([0, 0, 192, 224, 240] : List Int).getD j 0) ∧ (([0, 0, 192, 224, 240] : List Int).getD j 0) ≤ 240 := by
  match j with
  | 0 => decide
  | 1 => decide
  | 2 => decide
  | 3 => decide
  | 4 => decide
  | n + 5 => simp
def guessP (s : List UInt8) : Int := guessF (bl s 0 - leadP s.length) (s.drop 1)
theorem guessF_step {c : Int} {s : List UInt8} {i : Nat} (h : i < s.length) : guessF c (s.drop i) = guessF (64 * c + bl s i - 128) (s.drop (i + 1)) := by
  rw [List.drop_eq_getElem_cons h]
  simp [guessF, bl, List.getD_eq_getElem?_getD, List.getElem?_eq_getElem h]
theorem guessF_end {c : Int} {s : List UInt8} {i : Nat} (h : ¬ i < s.length) : guessF c (s.drop i) = c := by
  rw [List.drop_eq_nil_of_le (by omega)]; rfl

/-- the characters of bytes: by a bound on how many there are -/
def decF : Nat → List Int → List UInt8 → Option (List Int)
  | 0, l, s => if s = [] then some l else none
  | n + 1, l, s => if s = [] then some l else if (firstP s).2 = 0 then none else decF n (l ++ [(firstP s).1]) (s.drop (firstP s).2.toNat)
def dec (s : List UInt8) : Option (List Int) := decF s.length [] s
def decL (s : List UInt8) : List Int := (dec s).getD []
def decE (s : List UInt8) : Int := if (dec s).isSome then 0 else 7

theorem firstP_n {s : List UInt8} (h : 0 < s.length) : 0 ≤ (firstP s).2 ∧ (firstP s).2 ≤ 4 ∧ (firstP s).2 ≤ (s.length : Int) := by
  unfold firstP
  repeat' split
  all_goals (dsimp only; omega)
theorem u8_nat (x : Int) (h : 0 ≤ x ∧ x ≤ 255) : ((UInt8.ofNat x.toNat).toNat : Int) = x := by
  rw [UInt8.toNat_ofNat']; omega
theorem take_bl {s : List UInt8} {n : Nat} (h : n ≤ s.length) : s.take n = bytesOf ((List.range n).map (bl s)) := by
  apply List.ext_getElem
  · simp [bytesOf]; omega
  · intro j h1 h2
    have : j < s.length := by simp at h1; omega
    simp [bytesOf, bl, List.getD_eq_getElem?_getD, List.getElem?_eq_getElem this]
theorem bl_of_take {s : List UInt8} {L : List Int} (h : s.take L.length = bytesOf L) (hL : ∀ x ∈ L, 0 ≤ x ∧ x ≤ 255) {j : Nat} (hj : j < L.length) : bl s j = L.getD j 0 := by
  have h1 : (s.take L.length)[j]? = (bytesOf L)[j]? := by rw [h]
  rw [List.getElem?_take, if_pos hj] at h1
  simp only [bytesOf, List.getElem?_map, List.getElem?_eq_getElem hj, Option.map_some] at h1
  rw [bl, List.getD_eq_getElem?_getD, h1, List.getD_eq_getElem?_getD, List.getElem?_eq_getElem hj]
  exact u8_nat _ (hL _ (List.getElem_mem hj))
theorem len_of_take {s : List UInt8} {L : List Int} (h : s.take L.length = bytesOf L) : L.length ≤ s.length := by
  have := congrArg List.length h
  rw [List.length_take, bytesOf_len] at this; omega

theorem one_one {c : Int} (h : c < 128) : one c = [c] := by unfold one; rw [if_pos h]
theorem one_two {c : Int} (h : ¬ c < 128) (h2 : c < 2048) : one c = [192 + c / 64, 128 + c % 64] := by unfold one; rw [if_neg h, if_pos h2]
theorem one_three {c : Int} (h : ¬ c < 2048) (h2 : c < 65536) : one c = [224 + c / 4096, 128 + c / 64 % 64, 128 + c % 64] := by unfold one; rw [if_neg (by omega), if_neg h, if_pos h2]
theorem one_four {c : Int} (h : ¬ c < 65536) : one c = [240 + c / 262144, 128 + c / 4096 % 64, 128 + c / 64 % 64, 128 + c % 64] := by unfold one; rw [if_neg (by omega), if_neg (by omega), if_neg h]

/-- bytes that begin with a character's -/
theorem firstP_of {s : List UInt8} {c : Int} (hc : whole c = true) (h : s.take (one c).length = bytesOf (one c)) : firstP s = (c, ((one c).length : Int)) := by
  have hl := len_of_take h
  have hb := one_bd hc
  have hw := whole_iff.1 hc
  by_cases h1 : c < 128
  · rw [one_one h1] at h hl hb ⊢
    have b0 := bl_of_take h hb (j := 0) (by simp)
    simp at b0
    unfold firstP
    rw [if_pos (by omega), b0]; rfl
  · by_cases h2 : c < 2048
    · rw [one_two h1 h2] at h hl hb ⊢
      have b0 := bl_of_take h hb (j := 0) (by simp)
      have b1 := bl_of_take h hb (j := 1) (by simp)
      simp at b0 b1 hl
      have e : bl s 0 % 32 * 64 + bl s 1 % 64 = c := by omega
      unfold firstP
      rw [if_neg (by omega), if_neg (by omega), if_pos (by omega), e, if_neg (by rintro (h | h | h | h); omega; omega; omega; rw [hc] at h; cases h)]; rfl
    · by_cases h3 : c < 65536
      · rw [one_three h2 h3] at h hl hb ⊢
        have b0 := bl_of_take h hb (j := 0) (by simp)
        have b1 := bl_of_take h hb (j := 1) (by simp)
        have b2 := bl_of_take h hb (j := 2) (by simp)
        simp at b0 b1 b2 hl
        have e : (bl s 0 % 16 * 64 + bl s 1 % 64) * 64 + bl s 2 % 64 = c := by omega
        unfold firstP
        rw [if_neg (by omega), if_neg (by omega), if_neg (by omega), if_pos (by omega), e, if_neg (by rintro (h | h | h | h | h); omega; omega; omega; omega; rw [hc] at h; cases h)]; rfl
      · rw [one_four h3] at h hl hb ⊢
        have b0 := bl_of_take h hb (j := 0) (by simp)
        have b1 := bl_of_take h hb (j := 1) (by simp)
        have b2 := bl_of_take h hb (j := 2) (by simp)
        have b3 := bl_of_take h hb (j := 3) (by simp)
        simp at b0 b1 b2 b3 hl
        have e : ((bl s 0 % 8 * 64 + bl s 1 % 64) * 64 + bl s 2 % 64) * 64 + bl s 3 % 64 = c := by omega
        unfold firstP
        rw [if_neg (by omega), if_neg (by omega), if_neg (by omega), if_neg (by omega), if_pos (by omega), e, if_neg (by rintro (h | h | h | h | h | h); omega; omega; omega; omega; omega; rw [hc] at h; cases h)]; rfl
/-- what is read stands there -/
theorem firstP_yes {s : List UInt8} (hs : 0 < s.length) {n : Nat} (h : (firstP s).2 = (n : Int)) (hn : 0 < n) : whole (firstP s).1 = true ∧ bytesOf (one (firstP s).1) = s.take n ∧ (one (firstP s).1).length = n := by
  have b0 := bl_bd s 0
  have b1 := bl_bd s 1
  have b2 := bl_bd s 2
  have b3 := bl_bd s 3
  unfold firstP at h ⊢
  split at h
  · rename_i q
    dsimp only at h
    obtain rfl : n = 1 := by omega
    rw [if_pos q, take_bl (by omega)]
    dsimp only
    refine ⟨whole_iff.2 (by omega), ?_, ?_⟩ <;> rw [one_one q] <;> simp [List.range_succ]
  · split at h
    · dsimp only at h; omega
    · split at h
      · split at h
        · dsimp only at h; omega
        · rename_i q0 q1 q2 q
          dsimp only at h
          obtain rfl : n = 2 := by omega
          have q' := q
          simp only [not_or, ne_eq, Decidable.not_not] at q
          have q4 : whole (bl s 0 % 32 * 64 + bl s 1 % 64) = true := by simpa using q.2.2.2
          rw [if_neg q0, if_neg q1, if_pos q2, if_neg q', take_bl (by omega)]
          dsimp only
          have e : one (bl s 0 % 32 * 64 + bl s 1 % 64) = [bl s 0, bl s 1] := by
            rw [one_two (by omega) (by omega)]
            congr 1
            · omega
            · congr 1; omega
          refine ⟨q4, ?_, ?_⟩ <;> rw [e] <;> simp [List.range_succ]
      · split at h
        · split at h
          · dsimp only at h; omega
          · rename_i q0 q1 q2 q3 q
            dsimp only at h
            obtain rfl : n = 3 := by omega
            have q' := q
            simp only [not_or, ne_eq, Decidable.not_not] at q
            have q4 : whole ((bl s 0 % 16 * 64 + bl s 1 % 64) * 64 + bl s 2 % 64) = true := by simpa using q.2.2.2.2
            rw [if_neg q0, if_neg q1, if_neg q2, if_pos q3, if_neg q', take_bl (by omega)]
            dsimp only
            have e : one ((bl s 0 % 16 * 64 + bl s 1 % 64) * 64 + bl s 2 % 64) = [bl s 0, bl s 1, bl s 2] := by
              rw [one_three (by omega) (by omega)]
              congr 1
              · omega
              · congr 1
                · omega
                · congr 1; omega
            refine ⟨q4, ?_, ?_⟩ <;> rw [e] <;> simp [List.range_succ]
        · split at h
          · split at h
            · dsimp only at h; omega
            · rename_i q0 q1 q2 q3 qq q
              dsimp only at h
              obtain rfl : n = 4 := by omega
              have q' := q
              simp only [not_or, ne_eq, Decidable.not_not] at q
              have q4 : whole (((bl s 0 % 8 * 64 + bl s 1 % 64) * 64 + bl s 2 % 64) * 64 + bl s 3 % 64) = true := by simpa using q.2.2.2.2.2
              rw [if_neg q0, if_neg q1, if_neg q2, if_neg q3, if_pos qq, if_neg q', take_bl (by omega)]
              dsimp only
              have e : one (((bl s 0 % 8 * 64 + bl s 1 % 64) * 64 + bl s 2 % 64) * 64 + bl s 3 % 64) = [bl s 0, bl s 1, bl s 2, bl s 3] := by
                rw [one_four (by omega)]
                congr 1
                · omega
                · congr 1
                  · omega
                  · congr 1
                    · omega
                    · congr 1; omega
              refine ⟨q4, ?_, ?_⟩ <;> rw [e] <;> simp [List.range_succ]
          · dsimp only at h; omega

theorem bl_bytesOf {L : List Int} (hL : ∀ x ∈ L, 0 ≤ x ∧ x ≤ 255) {j : Nat} (hj : j < L.length) : bl (bytesOf L) j = L.getD j 0 :=
  bl_of_take (by rw [List.take_of_length_le (by rw [bytesOf_len]; omega)]) hL hj
theorem guess_one {c : Int} (hc : whole c = true) : guessP (bytesOf (one c)) = c := by
  have hb := one_bd hc
  have hw := whole_iff.1 hc
  by_cases h1 : c < 128
  · rw [one_one h1] at hb ⊢
    have b0 := bl_bytesOf hb (j := 0) (by simp)
    unfold guessP
    rw [guessF_end (by simp [bytesOf]), b0, bytesOf_len]
    simp [leadP]
  · by_cases h2 : c < 2048
    · rw [one_two h1 h2] at hb ⊢
      have b0 := bl_bytesOf hb (j := 0) (by simp)
      have b1 := bl_bytesOf hb (j := 1) (by simp)
      unfold guessP
      rw [guessF_step (by simp [bytesOf]), guessF_end (by simp [bytesOf]), b0, b1, bytesOf_len]
      simp [leadP]; omega
    · by_cases h3 : c < 65536
      · rw [one_three h2 h3] at hb ⊢
        have b0 := bl_bytesOf hb (j := 0) (by simp)
        have b1 := bl_bytesOf hb (j := 1) (by simp)
        have b2 := bl_bytesOf hb (j := 2) (by simp)
        unfold guessP
        rw [guessF_step (by simp [bytesOf]), guessF_step (by simp [bytesOf]), guessF_end (by simp [bytesOf]), b0, b1, b2, bytesOf_len]
        simp [leadP]; omega
      · rw [one_four h3] at hb ⊢
        have b0 := bl_bytesOf hb (j := 0) (by simp)
        have b1 := bl_bytesOf hb (j := 1) (by simp)
        have b2 := bl_bytesOf hb (j := 2) (by simp)
        have b3 := bl_bytesOf hb (j := 3) (by simp)
        unfold guessP
        rw [guessF_step (by simp [bytesOf]), guessF_step (by simp [bytesOf]), guessF_step (by simp [bytesOf]), guessF_end (by simp [bytesOf]), b0, b1, b2, b3, bytesOf_len]
        simp [leadP]; omega

theorem decF_fuel : ∀ (n m : Nat) (l : List Int) (s : List UInt8), s.length ≤ n → s.length ≤ m → decF n l s = decF m l s
  | 0, 0, _, _, _, _ => rfl
  | 0, m + 1, l, s, h, _ => by obtain rfl : s = [] := List.eq_nil_of_length_eq_zero (by omega); rfl
  | n + 1, 0, l, s, _, h => by obtain rfl : s = [] := List.eq_nil_of_length_eq_zero (by omega); rfl
  | n + 1, m + 1, l, s, h, h' => by
    unfold decF
    by_cases hs : s = []
    · rw [if_pos hs, if_pos hs]
    · rw [if_neg hs, if_neg hs]
      by_cases hz : (firstP s).2 = 0
      · rw [if_pos hz, if_pos hz]
      · rw [if_neg hz, if_neg hz]
        have hp := List.length_pos_iff.2 hs
        have := firstP_n hp
        exact decF_fuel n m _ _ (by rw [List.length_drop]; omega) (by rw [List.length_drop]; omega)
theorem dec_step {l : List Int} {r : List UInt8} {c : Int} {n : Nat} (hr : r ≠ []) (h : firstP r = (c, (n : Int))) (hn : 0 < n) : decF r.length l r = decF (r.drop n).length (l ++ [c]) (r.drop n) := by
  have hp := List.length_pos_iff.2 hr
  obtain ⟨m, hm⟩ : ∃ m, r.length = m + 1 := ⟨r.length - 1, by omega⟩
  rw [hm]
  show (if r = [] then some l else if (firstP r).2 = 0 then none else decF m (l ++ [(firstP r).1]) (r.drop (firstP r).2.toNat)) = _
  rw [if_neg hr, h]
  dsimp only
  rw [if_neg (by omega)]
  simp only [Int.toNat_natCast]
  exact decF_fuel _ _ _ _ (by rw [List.length_drop]; omega) (Nat.le_refl _)
theorem dec_step2 {l : List Int} {r : List UInt8} {n : Nat} (hr : r ≠ []) (h : (firstP r).2 = (n : Int)) (hn : 0 < n) : decF r.length l r = decF (r.drop n).length (l ++ [(firstP r).1]) (r.drop n) :=
  dec_step hr (by rw [← h]) hn
theorem dec_yes {s r : List UInt8} {l : List Int} (hd : decF r.length l r = dec s) (h : r = []) : decL s = l ∧ decE s = 0 := by
  subst h
  have : dec s = some l := hd.symm
  simp [decL, decE, this]
theorem dec_no {s r : List UInt8} {l : List Int} (hd : decF r.length l r = dec s) (hr : r ≠ []) (h : (firstP r).2 = 0) : decL s = [] ∧ decE s = 7 := by
  have hp := List.length_pos_iff.2 hr
  obtain ⟨m, hm⟩ : ∃ m, r.length = m + 1 := ⟨r.length - 1, by omega⟩
  rw [hm] at hd
  have : dec s = none := by
    rw [← hd]
    show (if r = [] then some l else if (firstP r).2 = 0 then none else decF m (l ++ [(firstP r).1]) (r.drop (firstP r).2.toNat)) = _
    rw [if_neg hr, if_pos h]
  simp [decL, decE, this]
/-- the guess that fits is the first character -/
theorem guess_fits {s t : List UInt8} {a n : Nat} (ht : t = (s.drop a).take n) (hl : a + n ≤ s.length) (hw : whole (guessP t) = true) (h : bytesOf (one (guessP t)) = t) : firstP (s.drop a) = (guessP t, (n : Int)) := by
  have hn : (one (guessP t)).length = n := by
    have := congrArg List.length h
    rw [bytesOf_len] at this
    rw [this, ht, List.length_take, List.length_drop]; omega
  have := firstP_of (s := s.drop a) hw (by rw [hn, h]; exact ht.symm)
  rw [this, hn]
theorem guess_no {s t : List UInt8} {a n : Nat} (ht : t = (s.drop a).take n) (hl : a + n ≤ s.length) (hn : 0 < n) (h : whole (guessP t) = false ∨ ¬ (bytesOf (one (guessP t)) = t)) : (firstP (s.drop a)).2 ≠ (n : Int) := by
  intro e
  obtain ⟨h1, h2, h3⟩ := firstP_yes (s := s.drop a) (by rw [List.length_drop]; omega) e hn
  rw [← ht] at h2
  have : guessP t = (firstP (s.drop a)).1 := by rw [← h2]; exact guess_one h1
  rw [this] at h
  rcases h with h | h
  · rw [h1] at h; cases h
  · exact h h2
theorem first_none {s : List UInt8} {a n : Nat} (ha : a < s.length) (hn : 4 < n ∨ s.length < a + n) (hno : ∀ m : Nat, 0 < m → m < n → m ≤ 4 → a + m ≤ s.length → (firstP (s.drop a)).2 ≠ (m : Int)) : (firstP (s.drop a)).2 = 0 := by
  have h := firstP_n (s := s.drop a) (by rw [List.length_drop]; omega)
  rw [List.length_drop] at h
  by_cases hz : (firstP (s.drop a)).2 = 0
  · exact hz
  · exact absurd (show (firstP (s.drop a)).2 = (((firstP (s.drop a)).2.toNat : Nat) : Int) by omega) (hno _ (by omega) (by omega) (by omega) (by omega))

theorem among_letter (c : Int) : among c [97, 122, 65, 90, 48, 57, 192, 214, 216, 246, 248, 591, 880, 893, 895, 1153, 1155, 1327, 19968, 40959] = letter c := by
  rw [Bool.eq_iff_iff, letter_iff]
  unfold LetterP
  simp [among]
theorem among_up (c : Int) : among c [65, 90, 192, 214, 216, 222, 913, 929, 931, 937, 1040, 1071] = true ↔ UpP c := by
  unfold UpP
  simp [among]
theorem among_up_no (c : Int) (h : among c [65, 90, 192, 214, 216, 222, 913, 929, 931, 937, 1040, 1071] = false) : ¬ UpP c := by
  intro hu
  rw [(among_up c).2 hu] at h; cases h

end Go.UtfP


namespace Go.UtfP
open Go.Gw
set_option linter.unusedVariables false
set_option linter.unusedSimpArgs false

theorem letter_whole {c : Int} (h : letter c = true) : whole c = true := by
  have h := letter_iff.1 h
  unfold LetterP at h
  exact whole_iff.2 (by omega)
theorem getD_mem {l : List Int} {i : Nat} (h : i < l.length) : l.getD i 0 ∈ l := by
  rw [List.getD_eq_getElem?_getD, List.getElem?_eq_getElem h]; exact List.getElem_mem h
theorem encT_len (l : List Int) : (encT l).length ≤ 4 * l.length := by
  unfold encT
  split
  · rw [bytesOf_len]; exact enc_len l
  · simp
theorem dec_none {s : List UInt8} (h : (decE s != 0) = true) : decL s = [] := by
  unfold decE at h
  unfold decL
  cases hq : dec s with
  | none => rfl
  | some r => rw [hq] at h; cases h
theorem decL_len {s : List UInt8} : (decL s).length ≤ s.length := by
  have : ∀ (n : Nat) (s : List UInt8) (m r : List Int), s.length ≤ n → decF s.length m s = some r → r.length ≤ m.length + s.length := by
    intro n
    induction n with
    | zero =>
      intro s m r hn h
      obtain rfl : s = [] := List.eq_nil_of_length_eq_zero (by omega)
      simp only [List.length_nil, decF, if_true, Option.some.injEq] at h
      subst h; omega
    | succ n ih =>
      intro s m r hn h
      by_cases hs : s = []
      · subst hs
        simp only [List.length_nil, decF, if_true, Option.some.injEq] at h
        subst h; omega
      · have hp := List.length_pos_iff.2 hs
        have hf := firstP_n hp
        by_cases hz : (firstP s).2 = 0
        · obtain ⟨k, hk⟩ : ∃ k, s.length = k + 1 := ⟨s.length - 1, by omega⟩
          rw [hk] at h
          have h' : (if s = [] then some m else if (firstP s).2 = 0 then none else decF k (m ++ [(firstP s).1]) (s.drop (firstP s).2.toNat)) = some r := h
          rw [if_neg hs, if_pos hz] at h'
          cases h'
        · obtain ⟨q, hq⟩ : ∃ q : Nat, (firstP s).2 = (q : Int) := ⟨(firstP s).2.toNat, by omega⟩
          rw [dec_step2 hs hq (by omega)] at h
          have := ih _ _ _ (by rw [List.length_drop]; omega) h
          rw [List.length_append, List.length_drop, List.length_singleton] at this
          omega
  unfold decL
  cases hq : dec s with
  | none => simp
  | some r =>
    have := this s.length s [] r (Nat.le_refl _) hq
    simpa using this

end Go.UtfP


namespace Go.TokP
open Go.Gw Go.UtfP
set_option linter.unusedVariables false
set_option linter.unusedSimpArgs false

/-- a term at its place -/
structure Tok where
  t : List UInt8
  a : Int
def tokc (x : Tok) : List Value := [.string (sb x.t), .int .i64 x.a]
theorem tokc_len (x : Tok) : (tokc x).length = 2 := rfl
/-- the words that end in a list, w lies open -/
def wordsG (w : List Int) : List Int → List (List Int)
  | [] => []
  | c :: r => if letter c = true then wordsG (w ++ [fold c]) r else if w = [] then wordsG [] r else w :: wordsG [] r
def words (l : List Int) : List (List Int) := wordsG [] (l ++ [32])
def termB (w : List Int) : List UInt8 := bytesOf (enc w)
def fits (ws : List (List Int)) : Bool := ws.all fun w => decide ((termB w).length ≤ 64)
def toksF (n : Nat) : List (List Int) → List Tok
  | [] => []
  | w :: ws => ⟨termB w, (n : Int)⟩ :: toksF (n + 1) ws
theorem toksF_snoc (w : List Int) : ∀ (n : Nat) (ws : List (List Int)), toksF n (ws ++ [w]) = toksF n ws ++ [⟨termB w, ((n + ws.length : Nat) : Int)⟩]
  | n, [] => rfl
  | n, x :: ws => by
    have := toksF_snoc w (n + 1) ws
    simp only [List.cons_append, toksF, this, List.length_cons]
    rw [show n + 1 + ws.length = n + (ws.length + 1) by omega]
theorem toksF_len : ∀ (n : Nat) (ws : List (List Int)), (toksF n ws).length = ws.length
  | _, [] => rfl
  | n, _ :: ws => by simp [toksF, toksF_len (n + 1) ws]
def toks (ws : List (List Int)) : List Tok := toksF 0 ws
theorem toks_snoc (ws : List (List Int)) (w : List Int) : toks (ws ++ [w]) = toks ws ++ [⟨termB w, (ws.length : Int)⟩] := by
  have := toksF_snoc w 0 ws
  rwa [Nat.zero_add] at this
theorem toks_len (ws : List (List Int)) : (toks ws).length = ws.length := toksF_len 0 ws

/-- a text's terms and the error -/
def tokL (s : List UInt8) : List Tok := if 4096 < s.length then [] else if fits (words (decL s)) = true then toks (words (decL s)) else []
def tokE (s : List UInt8) : Int := if 4096 < s.length then 4 else if decE s ≠ 0 then decE s else if fits (words (decL s)) = true then 0 else 4
theorem dec_err {s : List UInt8} (h : decE s ≠ 0) : decL s = [] := by
  unfold decE at h; unfold decL
  cases hd : dec s with
  | none => rfl
  | some l => rw [hd] at h; simp at h
theorem tok_long {s : List UInt8} (h : 4096 < s.length) : tokL s = [] ∧ tokE s = 4 := by unfold tokL tokE; rw [if_pos h, if_pos h]; exact ⟨rfl, rfl⟩
theorem tok_bad {s : List UInt8} (h : ¬ 4096 < s.length) (hd : decE s ≠ 0) : tokL s = [] ∧ tokE s = decE s := by
  unfold tokL tokE; rw [if_neg h, if_neg h, if_pos hd, dec_err hd]; exact ⟨rfl, rfl⟩
theorem tok_yes {s : List UInt8} (h : ¬ 4096 < s.length) (hd : decE s = 0) {ws : List (List Int)} (hw : words (decL s) = ws) (hf : fits ws = true) : tokL s = toks ws ∧ tokE s = 0 := by
  subst hw
  unfold tokL tokE; simp [h, hd, hf]
theorem tok_no {s : List UInt8} (h : ¬ 4096 < s.length) (hd : decE s = 0) (hf : fits (words (decL s)) = false) : tokL s = [] ∧ tokE s = 4 := by
  unfold tokL tokE; simp [h, hd, hf]
theorem fits_snoc {ws : List (List Int)} {w : List Int} (h : fits ws = true) (hw : (termB w).length ≤ 64) : fits (ws ++ [w]) = true := by
  unfold fits at *; rw [List.all_append, h]; simp [hw]
theorem fits_no {ws rs : List (List Int)} {w : List Int} (hw : 64 < (termB w).length) : fits (ws ++ w :: rs) = false := by
  unfold fits; rw [List.all_append, List.all_cons]; simp only [decide_eq_false (show ¬ (termB w).length ≤ 64 by omega), Bool.false_and, Bool.and_false]

/-- at place k of a list: what came, what lies open -/
theorem drop_cons {l : List Int} {k : Nat} (h : k < l.length) : l.drop k = l.getD k 0 :: l.drop (k + 1) := by
  rw [List.drop_eq_getElem_cons h, List.getD_eq_getElem?_getD, List.getElem?_eq_getElem h]; rfl
theorem words_letter {m w : List Int} {k : Nat} (h : k < m.length) (hl : letter (m.getD k 0) = true) : wordsG w (m.drop k) = wordsG (w ++ [fold (m.getD k 0)]) (m.drop (k + 1)) := by
  rw [drop_cons h, wordsG, if_pos hl]
theorem words_blank {m : List Int} {k : Nat} (h : k < m.length) (hl : letter (m.getD k 0) = false) : wordsG [] (m.drop k) = wordsG [] (m.drop (k + 1)) := by
  rw [drop_cons h, wordsG, if_neg (by rw [hl]; simp), if_pos rfl]
theorem words_end {m w : List Int} {k : Nat} (h : k < m.length) (hl : letter (m.getD k 0) = false) (hw : w ≠ []) : wordsG w (m.drop k) = w :: wordsG [] (m.drop (k + 1)) := by
  rw [drop_cons h, wordsG, if_neg (by rw [hl]; simp), if_neg hw]

theorem letter_whole {c : Int} (h : letter c = true) : whole c = true := by
  have := letter_iff.1 h; unfold LetterP at this; exact whole_iff.2 (by omega)
theorem fold_letter {c : Int} (h : letter c = true) : letter (fold c) = true := by
  have := letter_iff.1 h
  unfold LetterP at this
  rw [letter_iff]; unfold fold UpP LetterP
  repeat' split
  all_goals omega
theorem allW_snoc {w : List Int} {c : Int} (h : allW w = true) (hc : letter c = true) : allW (w ++ [fold c]) = true := by
  rw [allW_iff] at *
  intro x hx
  rcases List.mem_append.1 hx with hx | hx
  · exact h x hx
  · rw [List.mem_singleton] at hx; subst hx; exact letter_whole (fold_letter hc)
theorem encT_of {w : List Int} (h : allW w = true) : encT w = termB w := by unfold encT termB; rw [if_pos h]
theorem encT_one {c : Int} (h : letter c = true) : encT [fold c] = bytesOf (one (fold c)) := by
  rw [encT_of (by have := allW_snoc (w := []) (by simp [allW]) h; exact this)]; simp [termB, enc]

/-! ### by the places at which words begin -/
def restG (b : Bool) (r : List Int) : List (List Int) := if b = true then wordsG [] (r.dropWhile letter ++ [32]) else wordsG [] (r ++ [32])
theorem letter32 : letter 32 = false := by decide +kernel
theorem restG_nil (b : Bool) : restG b [] = [] := by cases b <;> decide +kernel
theorem restG_blank {b : Bool} {c : Int} {r : List Int} (h : letter c = false) : restG b (c :: r) = restG false r := by
  unfold restG
  cases b with
  | true => rw [if_pos rfl, List.dropWhile_cons_of_neg (by simp [h]), List.cons_append, wordsG, if_neg (by rw [h]; simp), if_pos rfl]; rfl
  | false => rw [if_neg (by simp), List.cons_append, wordsG, if_neg (by rw [h]; simp), if_pos rfl]; rfl
theorem restG_in {c : Int} {r : List Int} (h : letter c = true) : restG true (c :: r) = restG true r := by
  unfold restG; rw [if_pos rfl, if_pos rfl, List.dropWhile_cons_of_pos h]
theorem wordsG_open : ∀ (r w : List Int), w ≠ [] → wordsG w (r ++ [32]) = (w ++ (r.takeWhile letter).map fold) :: restG true r
  | [], w, hw => by simp [wordsG, letter32, hw, restG_nil]
  | c :: r, w, hw => by
    cases h : letter c with
    | true =>
      have ih := wordsG_open r (w ++ [fold c]) (by simp)
      rw [List.cons_append, wordsG, if_pos h, ih, restG_in h, List.takeWhile_cons_of_pos h, List.map_cons, List.append_assoc]; rfl
    | false =>
      rw [List.cons_append, wordsG, if_neg (by rw [h]; simp), if_neg hw, restG_blank h, List.takeWhile_cons_of_neg (by simp [h])]
      simp [restG]
theorem restG_begin {c : Int} {r : List Int} (h : letter c = true) : restG false (c :: r) = ((c :: r).takeWhile letter).map fold :: restG true r := by
  have h0 : restG false (c :: r) = wordsG [] (c :: (r ++ [32])) := rfl
  rw [h0, wordsG, if_pos h, List.nil_append, wordsG_open r [fold c] (by simp), List.takeWhile_cons_of_pos h]; rfl
/-- was the character ahead of place i a letter? -/
def bef (l : List Int) (i : Nat) : Bool := if i = 0 then false else letter (l.getD (i - 1) 0)
theorem bef_succ (l : List Int) (i : Nat) : bef l (i + 1) = letter (l.getD i 0) := by simp [bef]
theorem rest_step {l : List Int} {i : Nat} (h : i < l.length) (hs : letter (l.getD i 0) = false ∨ bef l i = true) : restG (bef l i) (l.drop i) = restG (bef l (i + 1)) (l.drop (i + 1)) := by
  rw [drop_cons h, bef_succ]
  cases hl : letter (l.getD i 0) with
  | false => exact restG_blank hl
  | true =>
    have hb := hs.resolve_left (by rw [hl]; simp)
    rw [hb]; exact restG_in hl
theorem take_while_eq {l : List Int} : ∀ {n : Nat}, n ≤ l.length → (∀ j, j < n → letter (l.getD j 0) = true) → (n = l.length ∨ letter (l.getD n 0) = false) → l.takeWhile letter = l.take n := by
  induction l with
  | nil => intro n _ _ _; simp
  | cons c l ih =>
    intro n hn ha hs
    cases n with
    | zero =>
      have : letter c = false := by rcases hs with h | h; cases h; simpa using h
      rw [List.takeWhile_cons_of_neg (by simp [this])]; rfl
    | succ n =>
      have h0 : letter c = true := by have := ha 0 (by omega); simpa using this
      rw [List.takeWhile_cons_of_pos h0, List.take_succ_cons, ih (by simpa using hn) (fun j hj => by have := ha (j + 1) (by omega); simpa using this) (by rcases hs with h | h; left; simpa using h; right; simpa using h)]
theorem rest_word {l : List Int} {i k : Nat} (hik : i ≤ k) (hk : k ≤ l.length) (hi : i < l.length) (hb : bef l i = false) (ha : ∀ j, i ≤ j → j < k → letter (l.getD j 0) = true) (h0 : letter (l.getD i 0) = true) (hs : k = l.length ∨ letter (l.getD k 0) = false) :
    restG (bef l i) (l.drop i) = ((l.drop i).take (k - i)).map fold :: restG (bef l (i + 1)) (l.drop (i + 1)) := by
  have e : (l.drop i).takeWhile letter = (l.drop i).take (k - i) := by
    refine take_while_eq (by rw [List.length_drop]; omega) (fun j hj => ?_) ?_
    · have := ha (i + j) (by omega) (by omega)
      simpa [List.getD_eq_getElem?_getD, List.getElem?_drop] using this
    · rcases hs with h | h
      · left; rw [List.length_drop]; omega
      · right
        rw [show k = i + (k - i) by omega] at h
        simpa [List.getD_eq_getElem?_getD, List.getElem?_drop] using h
  rw [hb, bef_succ, h0, ← e]
  have := drop_cons hi
  rw [this]
  exact restG_begin h0
theorem part_snoc {l : List Int} {i k : Nat} (hik : i ≤ k) (hk : k < l.length) : (l.drop i).take (k + 1 - i) = (l.drop i).take (k - i) ++ [l.getD k 0] := by
  rw [show k + 1 - i = k - i + 1 by omega, List.take_succ_eq_append_getElem (by rw [List.length_drop]; omega), List.getElem_drop, List.getD_eq_getElem?_getD]
  simp only [show i + (k - i) = k by omega]
  rw [List.getElem?_eq_getElem hk]; rfl
theorem termB_snoc (w : List Int) (c : Int) : termB (w ++ [c]) = termB w ++ bytesOf (one c) := by simp [termB, enc_app, bytesOf_app, enc]
theorem termB_part {l : List Int} {i k : Nat} (hik : i ≤ k) (hk : k < l.length) (hl : letter (l.getD k 0) = true) :
    termB (((l.drop i).take (k + 1 - i)).map fold) = termB (((l.drop i).take (k - i)).map fold) ++ encT [fold (l.getD k 0)] := by
  rw [part_snoc hik hk, List.map_append, List.map_singleton, termB_snoc, encT_one hl]
theorem termB_len (w : List Int) : (termB w).length ≤ 4 * w.length := by unfold termB; rw [bytesOf_len]; exact enc_len w
theorem wordsG_len : ∀ (r w : List Int), (wordsG w r).length ≤ r.length
  | [], w => by simp [wordsG]
  | c :: r, w => by
    unfold wordsG
    have h1 := wordsG_len r (w ++ [fold c])
    have h2 := wordsG_len r []
    split
    · simp only [List.length_cons]; omega
    · split
      · simp only [List.length_cons]; omega
      · simp only [List.length_cons]; omega
theorem words_count {l : List Int} {ws rs : List (List Int)} (h : words l = ws ++ rs) : ws.length ≤ l.length + 1 := by
  have h1 := wordsG_len (l ++ [32]) []
  have h2 := congrArg List.length h
  unfold words at h2
  rw [List.length_append] at h2 h1
  simp only [List.length_singleton] at h1
  omega
theorem ne_of_len {w : List Int} (h : (((List.length w : Nat) : Int) == 0) = false) : w ≠ [] := by
  rintro rfl; simp at h
instance : DecidableEq Tok := fun a b => decidable_of_iff (a.t = b.t ∧ a.a = b.a) (by cases a; cases b; simp)
def foldK (k : Nat) (l : List Int) : List Int := (l.take k).map fold ++ l.drop k
def foldL (s : List UInt8) : List Int := (decL s).map fold
theorem foldK_zero (l : List Int) : foldK 0 l = l := by simp [foldK]
theorem foldK_len (k : Nat) (l : List Int) : (foldK k l).length = l.length := by simp [foldK]; omega
theorem foldK_get {k : Nat} {l : List Int} (h : k < l.length) : (foldK k l).getD k 0 = l.getD k 0 := by
  unfold foldK
  rw [List.getD_eq_getElem?_getD, List.getD_eq_getElem?_getD, List.getElem?_append_right (by simp; omega)]
  simp [Nat.min_eq_left (Nat.le_of_lt h)]
theorem foldK_set {k : Nat} {l : List Int} (h : k < l.length) : (foldK k l).set k (fold (l.getD k 0)) = foldK (k + 1) l := by
  unfold foldK
  rw [take_snoc l h, List.map_append, List.map_singleton, List.append_assoc, drop_cons h, List.set_append_right _ _ (by simp; omega)]
  simp [Nat.min_eq_left (Nat.le_of_lt h)]
theorem foldK_all {k : Nat} {l : List Int} (h : l.length ≤ k) : foldK k l = l.map fold := by
  unfold foldK; rw [List.take_of_length_le h, List.drop_of_length_le h, List.append_nil]
def termE (s : List UInt8) : Int := if tokE s ≠ 0 then tokE s else if (tokL s).length ≠ 1 then 20 else 0
def termS (s : List UInt8) : List UInt8 := if termE s = 0 then ((tokL s).getD 0 (Tok.mk [] 0)).t else []
theorem term_bad {s : List UInt8} (h : tokE s ≠ 0) : termS s = [] ∧ termE s = tokE s := by
  have : termE s = tokE s := by unfold termE; rw [if_pos h]
  exact ⟨by unfold termS; rw [this, if_neg h], this⟩
theorem term_many {s : List UInt8} (h : tokE s = 0) (hl : (tokL s).length ≠ 1) : termS s = [] ∧ termE s = 20 := by
  have : termE s = 20 := by unfold termE; rw [if_neg (fun z => z h), if_pos hl]
  exact ⟨by unfold termS; rw [this, if_neg (by decide)], this⟩
theorem term_one {s : List UInt8} (h : tokE s = 0) (hl : (tokL s).length = 1) : termS s = ((tokL s).getD 0 (Tok.mk [] 0)).t ∧ termE s = 0 := by
  have : termE s = 0 := by unfold termE; rw [if_neg (fun z => z h), if_neg (fun z => z hl)]
  exact ⟨by unfold termS; rw [if_pos this], this⟩
end Go.TokP


namespace Go.RealP
set_option linter.unusedVariables false
set_option linter.unusedSimpArgs false
open Ieee

def W63 : Nat := 9223372036854775808
def neg (n : Nat) : Bool := n / W63 % 2 == 1
/-- the value of a rung, in the least unit -/
def val (r : Nat) : Nat := if r < 4503599627370496 then r else (4503599627370496 + r % 4503599627370496) * 2 ^ (r / 4503599627370496 - 1)

theorem val_lt {r s : Nat} (h : r < s) : val r < val s := by
  unfold val
  have pos : ∀ k, 0 < 2 ^ k := fun k => Nat.two_pow_pos k
  split
  · rename_i hr
    split
    · exact h
    · rename_i hs
      have : 4503599627370496 + s % 4503599627370496 ≤ (4503599627370496 + s % 4503599627370496) * 2 ^ (s / 4503599627370496 - 1) := Nat.le_mul_of_pos_right _ (pos _)
      omega
  · rename_i hr
    rw [if_neg (by omega)]
    by_cases e : r / 4503599627370496 = s / 4503599627370496
    · rw [e]
      exact Nat.mul_lt_mul_of_pos_right (by omega) (pos _)
    · have hlt : r / 4503599627370496 < s / 4503599627370496 := by omega
      obtain ⟨d, hd⟩ : ∃ d, s / 4503599627370496 - 1 = (r / 4503599627370496 - 1) + 1 + d := ⟨s / 4503599627370496 - 1 - (r / 4503599627370496 - 1) - 1, by omega⟩
      rw [hd, Nat.pow_add, Nat.pow_add]
      have h1 : (4503599627370496 + r % 4503599627370496) * 2 ^ (r / 4503599627370496 - 1) < 9007199254740992 * 2 ^ (r / 4503599627370496 - 1) := Nat.mul_lt_mul_of_pos_right (by omega) (pos _)
      have h2 : 9007199254740992 * 2 ^ (r / 4503599627370496 - 1) = 4503599627370496 * (2 ^ (r / 4503599627370496 - 1) * 2 ^ 1) := by
        rw [Nat.pow_one, ← Nat.mul_assoc, Nat.mul_right_comm]
      have h3 : 4503599627370496 * (2 ^ (r / 4503599627370496 - 1) * 2 ^ 1) ≤ (4503599627370496 + s % 4503599627370496) * (2 ^ (r / 4503599627370496 - 1) * 2 ^ 1 * 2 ^ d) := by
        refine Nat.mul_le_mul (by omega) (Nat.le_mul_of_pos_right _ (pos _))
      omega

end Go.RealP


namespace Go.RealQ
set_option linter.unusedVariables false
set_option linter.unusedSimpArgs false
theorem log2_eq {n k : Nat} (h1 : 2 ^ k ≤ n) (h2 : n < 2 ^ (k + 1)) : n.log2 = k := by
  have hn : n ≠ 0 := by have := Nat.two_pow_pos k; omega
  have a := (Nat.le_log2 hn).2 h1
  have b := (Nat.log2_lt hn).2 h2
  omega
theorem log2_bd {n : Nat} (h : 0 < n) : 2 ^ n.log2 ≤ n ∧ n < 2 ^ (n.log2 + 1) := ⟨Nat.log2_self_le (by omega), Nat.lt_log2_self⟩
theorem d_binade : Ieee.double.binade = 4503599627370496 := by decide +kernel
theorem d_inf : Ieee.double.infRung = 9218868437227405312 := by decide +kernel
theorem d_sign : Ieee.double.signWeight = 9223372036854775808 := by decide +kernel
theorem d_least : Ieee.double.leastPlace = -1074 := by decide +kernel
theorem d_frac : Ieee.double.fractionBits = 52 := rfl
abbrev near (x : Nat) : Nat := FloatKind.nearest .f64 ((x : Nat) : Int)
theorem near_eq (x : Nat) : near x = Ieee.double.nearest false x 0 := by
  show Ieee.double.write (.number (decide (((x : Nat) : Int) < 0)) ((x : Nat) : Int).natAbs 0) = _
  rw [decide_eq_false (by omega), Int.natAbs_natCast]; rfl
theorem word_false (f : Ieee.Format) (r : Nat) : f.word false r = r := rfl
theorem cut0 (n : Nat) : Ieee.Toward.even.cut false n 0 = n := by
  simp [Ieee.Toward.cut, Nat.mod_one]
theorem read_of {f : Ieee.Format} {w : Nat} (h1 : w < f.signWeight) (h2 : ¬ w < f.binade) (h3 : w < f.infRung) : f.read w = .number false (f.binade + w % f.binade) (f.leastPlace + ((w / f.binade - 1 : Nat) : Int)) := by
  unfold Ieee.Format.read
  simp only [Nat.div_eq_of_lt h1, Nat.mod_eq_of_lt h1]
  rw [if_neg h2, if_pos h3]
  rfl
theorem nearest_of {f : Ieee.Format} {mag kept : Nat} {place last : Int} (hm : mag ≠ 0) (hl : max (place + mag.log2 - f.fractionBits) f.leastPlace = last) (hk : Ieee.Toward.even.cut false (mag <<< (place - last).toNat) (last - place).toNat = kept)
    (hi : (last - f.leastPlace).toNat * f.binade + kept ≤ f.infRung) : f.nearest false mag place = (last - f.leastPlace).toNat * f.binade + kept := by
  unfold Ieee.Format.nearest
  rw [if_neg hm]
  simp only [hl, hk]
  rw [word_false, Nat.min_eq_left hi]
theorem cut_of {n drop gap : Nat} (h : 1 <<< min drop (n.log2 + 2) = gap) : Ieee.Toward.even.cut false n drop = n / gap + (decide (gap < 2 * (n % gap)) || (gap == 2 * (n % gap) && n / gap % 2 == 1)).toNat := by
  unfold Ieee.Toward.cut
  simp only [h]
theorem quotient_of {digits m n : Nat} {s t : Bool} {i j : Int} (hn : n ≠ 0) : (Ieee.Datum.number s m i).quotient digits (.number t n j) = some (.number (s ^^ t) (2 * ((m <<< (digits + n.log2 - m.log2)) / n) + ((m <<< (digits + n.log2 - m.log2)) % n != 0).toNat) (i - j - ((digits + n.log2 - m.log2 : Nat) : Int) - 1)) := by
  show (if n = 0 then _ else _) = _
  rw [if_neg hn]
theorem toNat_if {q : Nat} (b : Bool) (p : Prop) [Decidable p] (h : b = true ↔ p) : q + b.toNat = q + if p then 1 else 0 := by
  cases b with
  | true => rw [if_pos (h.1 rfl)]; rfl
  | false => rw [if_neg (fun z => Bool.noConfusion (h.2 z))]; rfl
theorem mant {x : Nat} (h : 0 < x) (h2 : x < 9007199254740992) : x.log2 ≤ 52 ∧ 4503599627370496 ≤ x * 2 ^ (52 - x.log2) ∧ x * 2 ^ (52 - x.log2) < 9007199254740992 := by
  have hb := log2_bd h
  have hl : x.log2 ≤ 52 := by
    have := (Nat.log2_lt (show x ≠ 0 by omega)).2 (show x < 2 ^ 53 by omega)
    omega
  refine ⟨hl, ?_, ?_⟩
  · calc 4503599627370496 = 2 ^ x.log2 * 2 ^ (52 - x.log2) := by rw [← Nat.pow_add, show x.log2 + (52 - x.log2) = 52 by omega]
      _ ≤ _ := Nat.mul_le_mul_right _ hb.1
  · calc x * 2 ^ (52 - x.log2) < 2 ^ (x.log2 + 1) * 2 ^ (52 - x.log2) := Nat.mul_lt_mul_of_pos_right hb.2 (Nat.two_pow_pos _)
      _ = 9007199254740992 := by rw [← Nat.pow_add, show x.log2 + 1 + (52 - x.log2) = 53 by omega]
theorem near_word {x : Nat} (h : 0 < x) (h2 : x < 9007199254740992) : near x = (x.log2 + 1022) * 4503599627370496 + x * 2 ^ (52 - x.log2) := by
  obtain ⟨hl, h3, h4⟩ := mant h h2
  have e1 : max ((0 : Int) + ((x.log2 : Nat) : Int) - ((Ieee.double.fractionBits : Nat) : Int)) Ieee.double.leastPlace = ((x.log2 : Nat) : Int) - 52 := by rw [d_least, d_frac]; omega
  have e2 : ((0 : Int) - (((x.log2 : Nat) : Int) - 52)).toNat = 52 - x.log2 := by omega
  have e3 : ((((x.log2 : Nat) : Int) - 52) - 0).toNat = 0 := by omega
  have e4 : ((((x.log2 : Nat) : Int) - 52) - Ieee.double.leastPlace).toNat = x.log2 + 1022 := by rw [d_least]; omega
  have key := nearest_of (f := Ieee.double) (mag := x) (place := 0) (last := ((x.log2 : Nat) : Int) - 52) (kept := x * 2 ^ (52 - x.log2)) (by omega) e1 (by rw [e2, e3, cut0, Nat.shiftLeft_eq]) (by rw [e4, d_binade, d_inf]; omega)
  rw [near_eq, key, e4, d_binade]
theorem near_read {x : Nat} (h : 0 < x) (h2 : x < 9007199254740992) : Ieee.double.read (near x) = .number false (x * 2 ^ (52 - x.log2)) (((x.log2 : Nat) : Int) - 52) := by
  obtain ⟨hl, h3, h4⟩ := mant h h2
  rw [near_word h h2]
  generalize x * 2 ^ (52 - x.log2) = m at *
  generalize x.log2 = l at *
  rw [read_of (by rw [d_sign]; omega) (by rw [d_binade]; omega) (by rw [d_inf]; omega), d_binade, d_least]
  have e1 : ((l + 1022) * 4503599627370496 + m) / 4503599627370496 = l + 1023 := by omega
  have e2 : ((l + 1022) * 4503599627370496 + m) % 4503599627370496 = m - 4503599627370496 := by omega
  have e3 : 4503599627370496 + (m - 4503599627370496) = m := by omega
  have e4 : (-1074 : Int) + ((l + 1023 - 1 : Nat) : Int) = ((l : Nat) : Int) - 52 := by omega
  rw [e1, e2, e3, e4]
/-- a half above, to the even one where it is just a half -/
def rndQ (q : Nat) (s : Bool) : Nat := q / 2 + (if q % 2 = 1 ∧ (s = true ∨ q / 2 % 2 = 1) then 1 else 0)
theorem rndQ_le {q : Nat} {s : Bool} (h : q < 18014398509481984) : rndQ q s ≤ 9007199254740992 := by unfold rndQ; split <;> omega
theorem cut_two {q t : Nat} (ht : t ≤ 1) (h1 : 9007199254740992 ≤ q) (h2 : q < 18014398509481984) : (2 * q + t).log2 = 54 ∧ Ieee.Toward.even.cut false (2 * q + t) 2 = rndQ q (decide (t = 1)) := by
  have p1 : (2 : Nat) ^ 54 = 18014398509481984 := by decide
  have p2 : (2 : Nat) ^ (54 + 1) = 36028797018963968 := by decide
  have hl : (2 * q + t).log2 = 54 := log2_eq (by rw [p1]; omega) (by rw [p2]; omega)
  refine ⟨hl, ?_⟩
  rw [cut_of (gap := 4) (by rw [hl]; decide)]
  have e1 : (2 * q + t) / 4 = q / 2 := by omega
  have e2 : (2 * q + t) % 4 = 2 * (q % 2) + t := by omega
  rw [e1, e2]
  unfold rndQ
  refine toNat_if _ _ ?_
  simp only [Bool.or_eq_true, Bool.and_eq_true, decide_eq_true_eq, beq_iff_eq]
  omega
theorem cut_three {q t : Nat} (ht : t ≤ 1) (h1 : 18014398509481984 ≤ q) (h2 : q < 36028797018963968) : (2 * q + t).log2 = 55 ∧ Ieee.Toward.even.cut false (2 * q + t) 3 = rndQ (q / 2) (decide (t = 1) || q % 2 == 1) := by
  have p1 : (2 : Nat) ^ 55 = 36028797018963968 := by decide
  have p2 : (2 : Nat) ^ (55 + 1) = 72057594037927936 := by decide
  have hl : (2 * q + t).log2 = 55 := log2_eq (by rw [p1]; omega) (by rw [p2]; omega)
  refine ⟨hl, ?_⟩
  rw [cut_of (gap := 8) (by rw [hl]; decide)]
  have e1 : (2 * q + t) / 8 = q / 2 / 2 := by omega
  have e2 : (2 * q + t) % 8 = 2 * (q % 4) + t := by omega
  rw [e1, e2]
  unfold rndQ
  refine toNat_if _ _ ?_
  simp only [Bool.or_eq_true, Bool.and_eq_true, decide_eq_true_eq, beq_iff_eq]
  omega
theorem write_of {mag j drop kept : Nat} (hm : 0 < mag) (hlog : mag.log2 = 52 + drop) (hj : j + 1 ≤ 1000) (hd : drop ≤ 10) (hk : Ieee.Toward.even.cut false mag drop = kept) (hk2 : kept ≤ 9007199254740992) :
    Ieee.double.write (.number false mag (-((j : Nat) : Int) - 1)) = (1073 + drop - j) * 4503599627370496 + kept := by
  have e1 : max ((-((j : Nat) : Int) - 1) + ((mag.log2 : Nat) : Int) - ((Ieee.double.fractionBits : Nat) : Int)) Ieee.double.leastPlace = ((drop : Nat) : Int) - ((j : Nat) : Int) - 1 := by rw [d_least, d_frac, hlog]; omega
  have e2 : ((-((j : Nat) : Int) - 1) - (((drop : Nat) : Int) - ((j : Nat) : Int) - 1)).toNat = 0 := by omega
  have e3 : ((((drop : Nat) : Int) - ((j : Nat) : Int) - 1) - (-((j : Nat) : Int) - 1)).toNat = drop := by omega
  have e4 : ((((drop : Nat) : Int) - ((j : Nat) : Int) - 1) - Ieee.double.leastPlace).toNat = 1073 + drop - j := by rw [d_least]; omega
  have key := nearest_of (f := Ieee.double) (mag := mag) (place := -((j : Nat) : Int) - 1) (last := ((drop : Nat) : Int) - ((j : Nat) : Int) - 1) (kept := kept) (by omega) e1 (by rw [e2, e3, Nat.shiftLeft_zero]; exact hk) (by rw [e4, d_binade, d_inf]; omega)
  rw [e4, d_binade] at key
  exact key
theorem div_up {a b k : Nat} (hb : 0 < b) (d : Nat) : (a * 2 ^ k / b) * 2 ^ d ≤ a * 2 ^ (k + d) / b := by
  rw [Nat.le_div_iff_mul_le hb, Nat.pow_add, ← Nat.mul_assoc]
  calc a * 2 ^ k / b * 2 ^ d * b = (a * 2 ^ k / b * b) * 2 ^ d := by rw [Nat.mul_right_comm]
    _ ≤ _ := Nat.mul_le_mul_right _ (Nat.div_mul_le_self _ _)
theorem div_half {a b k : Nat} (hb : 0 < b) : a * 2 ^ (k + 1) / b / 2 = a * 2 ^ k / b ∧ (decide (0 < a * 2 ^ k % b) = (decide (0 < a * 2 ^ (k + 1) % b) || a * 2 ^ (k + 1) / b % 2 == 1)) := by
  rw [Nat.pow_succ, ← Nat.mul_assoc]
  generalize a * 2 ^ k = z
  have h1 := Nat.div_add_mod z b
  have h2 := Nat.mod_lt z hb
  generalize hq : z / b = q at *
  generalize hr : z % b = r at *
  have hz : z * 2 = b * (2 * q) + 2 * r := by rw [← h1, Nat.add_mul, Nat.mul_comm 2 q, ← Nat.mul_assoc, Nat.mul_comm r 2]
  rcases Nat.lt_or_ge (2 * r) b with h | h
  · have e1 : z * 2 / b = 2 * q := by rw [hz, Nat.mul_add_div hb, Nat.div_eq_of_lt h]; rfl
    have e2 : z * 2 % b = 2 * r := by rw [hz, Nat.mul_add_mod, Nat.mod_eq_of_lt h]
    rw [e1, e2]
    refine ⟨by omega, ?_⟩
    have : (2 * q) % 2 = 0 := by omega
    rw [this]
    rcases Nat.eq_zero_or_pos r with e | e
    · simp [e]
    · simp [e]
  · have e1 : z * 2 / b = 2 * q + 1 := by
      rw [hz, show b * (2 * q) + 2 * r = b * (2 * q + 1) + (2 * r - b) by rw [Nat.mul_add]; omega, Nat.mul_add_div hb, Nat.div_eq_of_lt (by omega)]
    rw [e1]
    refine ⟨by omega, ?_⟩
    have : (2 * q + 1) % 2 = 1 := by omega
    rw [this]
    have hr0 : 0 < r := by omega
    simp [hr0]
theorem lo_bd {a b c la lb j : Nat} (hA : 2 ^ la ≤ a) (hB : b < 2 ^ (lb + 1)) (e : c + (lb + 1) = la + j) : 2 ^ c * b ≤ a * 2 ^ j :=
  calc 2 ^ c * b ≤ 2 ^ c * 2 ^ (lb + 1) := Nat.mul_le_mul (Nat.le_refl _) (Nat.le_of_lt hB)
    _ = 2 ^ la * 2 ^ j := by rw [← Nat.pow_add, ← Nat.pow_add, e]
    _ ≤ a * 2 ^ j := Nat.mul_le_mul hA (Nat.le_refl _)
theorem hi_bd {a b c la lb j : Nat} (hA : a < 2 ^ (la + 1)) (hB : 2 ^ lb ≤ b) (e : la + 1 + j = c + lb) : a * 2 ^ j < 2 ^ c * b :=
  calc a * 2 ^ j < 2 ^ (la + 1) * 2 ^ j := Nat.mul_lt_mul_of_pos_right hA (Nat.two_pow_pos _)
    _ = 2 ^ c * 2 ^ lb := by rw [← Nat.pow_add, ← Nat.pow_add, e]
    _ ≤ 2 ^ c * b := Nat.mul_le_mul (Nat.le_refl _) hB
theorem p53 : 9007199254740992 = 2 ^ 53 := by decide
theorem p55 : 36028797018963968 = 2 ^ 55 := by decide
/-- what the division gives -/
theorem div_ratio {a b k : Nat} (ha : 0 < a) (ha2 : a < 9007199254740992) (hb : 0 < b) (hb2 : b < 9007199254740992) (h1 : 9007199254740992 ≤ a * 2 ^ k / b) (h2 : a * 2 ^ k / b < 18014398509481984) (hk : k ≤ 500) :
    Ieee.double.div (near a) (near b) = some ((1075 - k) * 4503599627370496 + rndQ (a * 2 ^ k / b) (decide (0 < a * 2 ^ k % b))) := by
  obtain ⟨la, ma1, ma2⟩ := mant ha ha2
  obtain ⟨lb, mb1, mb2⟩ := mant hb hb2
  have lga : (a * 2 ^ (52 - a.log2)).log2 = 52 := log2_eq ma1 ma2
  have lgb : (b * 2 ^ (52 - b.log2)).log2 = 52 := log2_eq mb1 mb2
  obtain ⟨j, hj⟩ : ∃ j, j = 54 + b.log2 - a.log2 := ⟨_, rfl⟩
  have e0 : (a * 2 ^ (52 - a.log2)) <<< 54 = (a * 2 ^ j) * 2 ^ (52 - b.log2) := by
    rw [Nat.shiftLeft_eq, Nat.mul_assoc, Nat.mul_assoc, ← Nat.pow_add, ← Nat.pow_add]; congr 2; omega
  have c0 := Nat.two_pow_pos (52 - b.log2)
  have eq1 : (a * 2 ^ j) * 2 ^ (52 - b.log2) / (b * 2 ^ (52 - b.log2)) = a * 2 ^ j / b := Nat.mul_div_mul_right _ _ c0
  have eq2 : (a * 2 ^ j) * 2 ^ (52 - b.log2) % (b * 2 ^ (52 - b.log2)) = (a * 2 ^ j % b) * 2 ^ (52 - b.log2) := Nat.mul_mod_mul_right _ _ _
  have es : ((a * 2 ^ j % b) * 2 ^ (52 - b.log2) != 0) = decide (0 < a * 2 ^ j % b) := by
    rcases Nat.eq_zero_or_pos (a * 2 ^ j % b) with e | e
    · rw [e]; simp
    · have : 0 < (a * 2 ^ j % b) * 2 ^ (52 - b.log2) := Nat.mul_pos e c0
      rw [decide_eq_true e, bne_iff_ne]; omega
  have hA := log2_bd ha
  have hB := log2_bd hb
  have lo : 9007199254740992 ≤ a * 2 ^ j / b := by
    rw [Nat.le_div_iff_mul_le hb]
    rw [p53]
    exact lo_bd hA.1 hB.2 (by omega)
  have hi : a * 2 ^ j / b < 36028797018963968 := by
    rw [Nat.div_lt_iff_lt_mul hb, p55]
    exact hi_bd hA.2 hB.1 (by omega)
  have hjk : j = k ∨ j = k + 1 := by
    rcases Nat.lt_or_ge j k with h | h
    · have := div_up (a := a) (k := j) hb (k - j)
      rw [show j + (k - j) = k by omega] at this
      have h3 : 2 ^ 1 ≤ 2 ^ (k - j) := Nat.pow_le_pow_right (by decide) (by omega)
      have h4 : 9007199254740992 * 2 ≤ a * 2 ^ j / b * 2 ^ (k - j) := Nat.mul_le_mul lo h3
      omega
    · rcases Nat.lt_or_ge (k + 1) j with h' | h'
      · have := div_up (a := a) (k := k) hb (j - k)
        rw [show k + (j - k) = j by omega] at this
        have h3 : 2 ^ 2 ≤ 2 ^ (j - k) := Nat.pow_le_pow_right (by decide) (by omega)
        have h4 : 9007199254740992 * 4 ≤ a * 2 ^ k / b * 2 ^ (j - k) := Nat.mul_le_mul h1 h3
        omega
      · omega
  unfold Ieee.Format.div
  rw [near_read ha ha2, near_read hb hb2, quotient_of (by omega), lga, lgb, d_frac]
  have em : 52 + 2 + 52 - 52 = 54 := by decide
  rw [em, e0, eq1, eq2, es]
  have ep : (((a.log2 : Nat) : Int) - 52 - (((b.log2 : Nat) : Int) - 52) - ((54 : Nat) : Int) - 1) = -((j : Nat) : Int) - 1 := by omega
  rw [ep, Option.map_some]
  have ef : (false ^^ false) = false := rfl
  rw [ef]
  have et : (decide (0 < a * 2 ^ j % b)).toNat ≤ 1 := Bool.toNat_le _
  have ed : decide ((decide (0 < a * 2 ^ j % b)).toNat = 1) = decide (0 < a * 2 ^ j % b) := by cases decide (0 < a * 2 ^ j % b) <;> rfl
  rcases hjk with e | e
  · subst e
    obtain ⟨c1, c2⟩ := cut_two et h1 h2
    rw [ed] at c2
    rw [write_of (drop := 2) (by omega) c1 (by omega) (by omega) c2 (rndQ_le h2)]
  · have ek : k = j - 1 := by omega
    obtain ⟨d1, d2⟩ := div_half (a := a) (b := b) (k := k) hb
    rw [← e] at d1 d2
    obtain ⟨c1, c2⟩ := cut_three et (by omega) hi
    rw [ed, ← d2, d1] at c2
    rw [write_of (drop := 3) (by omega) c1 (by omega) (by omega) c2 (rndQ_le h2), show 1073 + 3 - j = 1075 - k by omega]
theorem div_zero {b : Nat} (hb : 0 < b) (hb2 : b < 9007199254740992) : Ieee.double.div (near 0) (near b) = some 0 := by
  obtain ⟨lb, mb1, mb2⟩ := mant hb hb2
  unfold Ieee.Format.div
  have e : Ieee.double.read (near 0) = .number false 0 (-1074) := by decide +kernel
  rw [near_read hb hb2, e, quotient_of (by omega), Option.map_some, Nat.zero_shiftLeft, Nat.zero_div, Nat.zero_mod]
  have e2 : 2 * 0 + ((0 : Nat) != 0).toNat = 0 := by decide
  rw [e2]
  have e3 : ∀ p, Ieee.double.write (.number (false ^^ false) 0 p) = 0 := by
    intro p
    show Ieee.double.nearest _ 0 p = 0
    unfold Ieee.Format.nearest
    rw [if_pos rfl]; rfl
  rw [e3]
def ratN (a b : Nat) : Nat := (Ieee.double.div (near a) (near b)).getD 0
theorem ratN_k {a b : Nat} (ha : 0 < a) (ha2 : a < 9007199254740992) (hb : 0 < b) (hb2 : b < 9007199254740992) : ∃ k, 9007199254740992 ≤ a * 2 ^ k / b ∧ a * 2 ^ k / b < 18014398509481984 ∧ k ≤ 500 := by
  have hA := log2_bd ha
  have hB := log2_bd hb
  obtain ⟨la, _, _⟩ := mant ha ha2
  obtain ⟨lb, _, _⟩ := mant hb hb2
  have lo : 9007199254740992 ≤ a * 2 ^ (54 + b.log2 - a.log2) / b := by
    rw [Nat.le_div_iff_mul_le hb]
    rw [p53]
    exact lo_bd hA.1 hB.2 (by omega)
  have hi : a * 2 ^ (54 + b.log2 - a.log2) / b < 36028797018963968 := by
    rw [Nat.div_lt_iff_lt_mul hb, p55]
    exact hi_bd hA.2 hB.1 (by omega)
  rcases Nat.lt_or_ge (a * 2 ^ (54 + b.log2 - a.log2) / b) 18014398509481984 with h | h
  · exact ⟨_, lo, h, by omega⟩
  · obtain ⟨d1, _⟩ := div_half (a := a) (b := b) (k := 53 + b.log2 - a.log2) hb
    rw [show 53 + b.log2 - a.log2 + 1 = 54 + b.log2 - a.log2 by omega] at d1
    exact ⟨53 + b.log2 - a.log2, by omega, by omega, by omega⟩
theorem ratN_some {a b : Nat} (ha2 : a < 9007199254740992) (hb : 0 < b) (hb2 : b < 9007199254740992) : Ieee.double.div (near a) (near b) = some (ratN a b) := by
  rcases Nat.eq_zero_or_pos a with rfl | ha
  · unfold ratN; rw [div_zero hb hb2]; rfl
  · obtain ⟨k, h1, h2, h3⟩ := ratN_k ha ha2 hb hb2
    unfold ratN; rw [div_ratio ha ha2 hb hb2 h1 h2 h3]; rfl
theorem ratN_of {a b k : Nat} (ha : 0 < a) (ha2 : a < 9007199254740992) (hb : 0 < b) (hb2 : b < 9007199254740992) (h1 : 9007199254740992 ≤ a * 2 ^ k / b) (h2 : a * 2 ^ k / b < 18014398509481984) (hk : k ≤ 500) :
    ratN a b = (1075 - k) * 4503599627370496 + rndQ (a * 2 ^ k / b) (decide (0 < a * 2 ^ k % b)) := by
  unfold ratN; rw [div_ratio ha ha2 hb hb2 h1 h2 hk]; rfl
theorem ratN_zero {b : Nat} (hb : 0 < b) (hb2 : b < 9007199254740992) : ratN 0 b = 0 := by unfold ratN; rw [div_zero hb hb2]; rfl
end Go.RealQ


namespace Go.RealQ
open Go.Gw
set_option linter.unusedVariables false
set_option linter.unusedSimpArgs false
def most (p : Bool) : Nat := bif p then 3 else 12
/-- what stands in the text: a number and how many places it has; none: no number -/
def scan (p : Bool) (n d : Nat) : List UInt8 → Option (Nat × Nat)
  | [] => if d = 0 then none else some (n, bif p then d else 0)
  | c :: t =>
    if c.toNat = 46 ∧ p = false ∧ 0 < d then scan true n 0 t
    else if 48 ≤ c.toNat ∧ c.toNat ≤ 57 ∧ d < most p then scan p (10 * n + (c.toNat - 48)) (d + 1) t
    else none
theorem drop_at {s : List UInt8} {k : Nat} (h : k < s.length) : ∃ c, s.drop k = c :: s.drop (k + 1) ∧ bl s k = ((c.toNat : Nat) : Int) := by
  refine ⟨s[k], List.drop_eq_getElem_cons h, ?_⟩
  unfold bl
  rw [List.getD_eq_getElem?_getD, List.getElem?_eq_getElem h]; rfl
section
variable {s : List UInt8} {p : Bool} {n d k : Nat}
theorem scan_end (h : ¬ k < s.length) : scan p n d (s.drop k) = if d = 0 then none else some (n, bif p then d else 0) := by
  rw [List.drop_eq_nil_of_le (by omega)]; rfl
theorem scan_point (h : k < s.length) (h1 : bl s k = 46) (h2 : 0 < d) : scan false n d (s.drop k) = scan true n 0 (s.drop (k + 1)) := by
  obtain ⟨c, e, hc⟩ := drop_at h
  rw [e, scan, if_pos ⟨by omega, rfl, h2⟩]
theorem scan_digit (h : k < s.length) (h1 : 48 ≤ bl s k) (h2 : bl s k ≤ 57) (h3 : d < most p) : scan p n d (s.drop k) = scan p (10 * n + ((bl s k).toNat - 48)) (d + 1) (s.drop (k + 1)) := by
  obtain ⟨c, e, hc⟩ := drop_at h
  rw [e, scan, if_neg (by omega), if_pos ⟨by omega, by omega, h3⟩, hc]; rfl
theorem scan_none (h : k < s.length) (h1 : ¬ (bl s k = 46 ∧ p = false ∧ 0 < d)) (h2 : ¬ (48 ≤ bl s k ∧ bl s k ≤ 57 ∧ d < most p)) : scan p n d (s.drop k) = none := by
  obtain ⟨c, e, hc⟩ := drop_at h
  rw [e, scan, if_neg (fun z => h1 ⟨by omega, z.2⟩), if_neg (fun z => h2 ⟨by omega, by omega, z.2.2⟩)]
end
def valP (r : Option (Nat × Nat)) (neg : Bool) : Nat := match r with | none => 0 | some (n, j) => ratN n (10 ^ j) + (bif neg then 9223372036854775808 else 0)
def errP (r : Option (Nat × Nat)) : Int := match r with | none => 3 | some _ => 0
def minus (s : List UInt8) : Bool := decide (0 < s.length) && bl s 0 == 45
def parseV (s : List UInt8) : Nat :=
  if s = [110, 97, 110] then 9221120237041090560 else if s = [105, 110, 102] then 9218868437227405312 else if s = [45, 105, 110, 102] then 18442240474082181120
  else valP (scan false 0 0 (bif minus s then s.drop 1 else s)) (minus s)
def parseE (s : List UInt8) : Int :=
  if s = [110, 97, 110] then 0 else if s = [105, 110, 102] then 0 else if s = [45, 105, 110, 102] then 0
  else errP (scan false 0 0 (bif minus s then s.drop 1 else s))
section
variable {s : List UInt8} (h1 : ¬ s = [110, 97, 110]) (h2 : ¬ s = [105, 110, 102]) (h3 : ¬ s = [45, 105, 110, 102])
theorem parse_nan (h : s = [110, 97, 110]) : parseV s = 9221120237041090560 ∧ parseE s = 0 := by unfold parseV parseE; rw [if_pos h, if_pos h]; exact ⟨rfl, rfl⟩
include h1 in
theorem parse_inf (h : s = [105, 110, 102]) : parseV s = 9218868437227405312 ∧ parseE s = 0 := by unfold parseV parseE; rw [if_neg h1, if_neg h1, if_pos h, if_pos h]; exact ⟨rfl, rfl⟩
include h1 h2 in
theorem parse_ninf (h : s = [45, 105, 110, 102]) : parseV s = 18442240474082181120 ∧ parseE s = 0 := by unfold parseV parseE; rw [if_neg h1, if_neg h1, if_neg h2, if_neg h2, if_pos h, if_pos h]; exact ⟨rfl, rfl⟩
include h1 h2 h3 in
theorem parse_neg (h : minus s = true) : parseV s = valP (scan false 0 0 ((s.drop 1).drop 0)) true ∧ parseE s = errP (scan false 0 0 ((s.drop 1).drop 0)) := by
  unfold parseV parseE; rw [if_neg h1, if_neg h1, if_neg h2, if_neg h2, if_neg h3, if_neg h3, h]; exact ⟨rfl, rfl⟩
include h1 h2 h3 in
theorem parse_pos (h : minus s = false) : parseV s = valP (scan false 0 0 (s.drop 0)) false ∧ parseE s = errP (scan false 0 0 (s.drop 0)) := by
  unfold parseV parseE; rw [if_neg h1, if_neg h1, if_neg h2, if_neg h2, if_neg h3, if_neg h3, h]; exact ⟨rfl, rfl⟩
end
theorem sc0 : near (10 ^ 0) = 4607182418800017408 := by decide +kernel
theorem sc_up : ∀ d : Fin 3, Ieee.double.mul (near (10 ^ d.val)) 4621819117588971520 = some (near (10 ^ (d.val + 1))) := by decide +kernel
theorem sc_bd {d : Nat} (h : d ≤ 3) : 0 < 10 ^ d ∧ 10 ^ d ≤ 1000 := ⟨Nat.pow_pos (by decide), Nat.pow_le_pow_right (by decide) h⟩
theorem dec_bd {n e c : Nat} (h : n < 10 ^ e) (he : e ≤ c) : n < 10 ^ c := Nat.lt_of_lt_of_le h (Nat.pow_le_pow_right (by decide) he)
theorem dec_up {n e v : Nat} (h : n < 10 ^ e) (hv : v ≤ 9) : 10 * n + v < 10 ^ (e + 1) := by rw [Nat.pow_succ]; omega
theorem f_fmul {P : Program} {w : World} {t : TypeId} {x y r : Nat} (h : Ieee.double.mul x y = some r) : (binOp .mul t (.float .f64 x) (.float .f64 y)).run P w = .ok (.float .f64 r) w := run_float_arith w .mul t .f64 x y r h
theorem f_fquo {P : Program} {w : World} {t : TypeId} {x y r : Nat} (h : Ieee.double.div x y = some r) : (binOp .quo t (.float .f64 x) (.float .f64 y)).run P w = .ok (.float .f64 r) w := run_float_arith w .quo t .f64 x y r h
theorem ratN_pos_k {a b : Nat} (ha : 0 < a) (ha2 : a < 9007199254740992) (hb : 0 < b) (hb2 : b ≤ 1000) : ∃ k, 9007199254740992 ≤ a * 2 ^ k / b ∧ a * 2 ^ k / b < 18014398509481984 ∧ k ≤ 500 ∧ ratN a b = (1075 - k) * 4503599627370496 + rndQ (a * 2 ^ k / b) (decide (0 < a * 2 ^ k % b)) := by
  obtain ⟨k, h1, h2, h3⟩ := ratN_k ha ha2 hb (by omega)
  exact ⟨k, h1, h2, h3, ratN_of ha ha2 hb (by omega) h1 h2 h3⟩
theorem ratN_lt {a b : Nat} (ha2 : a < 9007199254740992) (hb : 0 < b) (hb2 : b ≤ 1000) : ratN a b < 9218868437227405312 := by
  rcases Nat.eq_zero_or_pos a with rfl | ha
  · rw [ratN_zero hb (by omega)]; decide
  · obtain ⟨k, h1, h2, h3, e⟩ := ratN_pos_k ha ha2 hb hb2
    have hk : 1 ≤ k := by
      rcases Nat.eq_zero_or_pos k with rfl | hk
      · rw [Nat.pow_zero, Nat.mul_one] at h1
        have := Nat.div_le_self a b
        omega
      · exact hk
    rw [e]
    have := rndQ_le (s := decide (0 < a * 2 ^ k % b)) h2
    omega
/-! ### long division -/
theorem step_lo {z b : Nat} (hb : 0 < b) (h : ¬ 2 * (z % b) ≥ b) : 2 * z / b = 2 * (z / b) ∧ 2 * z % b = 2 * (z % b) := by
  have h1 := Nat.div_add_mod z b
  have hz : 2 * z = b * (2 * (z / b)) + 2 * (z % b) := by
    calc 2 * z = 2 * (b * (z / b) + z % b) := by rw [h1]
      _ = _ := by rw [Nat.mul_add, Nat.mul_left_comm]
  constructor
  · conv => lhs; rw [hz]
    rw [Nat.mul_add_div hb, Nat.div_eq_of_lt (show 2 * (z % b) < b by omega)]; rfl
  · conv => lhs; rw [hz]
    rw [Nat.mul_add_mod, Nat.mod_eq_of_lt (show 2 * (z % b) < b by omega)]
theorem step_hi {z b : Nat} (hb : 0 < b) (h : 2 * (z % b) ≥ b) : 2 * z / b = 2 * (z / b) + 1 ∧ 2 * z % b = 2 * (z % b) - b := by
  have h1 := Nat.div_add_mod z b
  have h2 := Nat.mod_lt z hb
  have hz : 2 * z = b * (2 * (z / b) + 1) + (2 * (z % b) - b) := by
    have : 2 * z = 2 * (b * (z / b)) + 2 * (z % b) := by omega
    rw [this, Nat.mul_add, Nat.mul_left_comm]; omega
  constructor
  · conv => lhs; rw [hz]
    rw [Nat.mul_add_div hb, Nat.div_eq_of_lt (show 2 * (z % b) - b < b by omega)]
  · conv => lhs; rw [hz]
    rw [Nat.mul_add_mod, Nat.mod_eq_of_lt (show 2 * (z % b) - b < b by omega)]
theorem pow_up (a k : Nat) : a * 2 ^ (k + 1) = 2 * (a * 2 ^ k) := by rw [Nat.pow_succ, ← Nat.mul_assoc, Nat.mul_comm]
theorem k_lt {a b k : Nat} (ha : 0 < a) (hb : 0 < b) (hb2 : b ≤ 1000) (h : a * 2 ^ k / b < 9007199254740992) : k < 63 := by
  rcases Nat.lt_or_ge k 63 with h' | h'
  · exact h'
  · rw [Nat.div_lt_iff_lt_mul hb] at h
    have h2 : 2 ^ 63 ≤ 2 ^ k := Nat.pow_le_pow_right (by decide) h'
    have e : (2 : Nat) ^ 63 = 9223372036854775808 := by decide
    rw [e] at h2
    have h3 : 1 * 9223372036854775808 ≤ a * 2 ^ k := Nat.mul_le_mul ha h2
    have h4 : 9007199254740992 * b ≤ 9007199254740992 * 1000 := Nat.mul_le_mul_left _ hb2
    omega
theorem q_hi {a b k : Nat} (ha2 : a < 9007199254740992) (hb : 0 < b) (h : k = 0 ∨ a * 2 ^ (k - 1) / b < 9007199254740992) (h1 : ¬ a * 2 ^ k / b < 9007199254740992) : a * 2 ^ k / b < 18014398509481984 ∧ 1 ≤ k := by
  rcases h with rfl | h
  · have := Nat.div_le_self (a * 2 ^ 0) b
    simp only [Nat.pow_zero, Nat.mul_one] at *
    omega
  · rcases Nat.eq_zero_or_pos k with rfl | hk
    · have := Nat.div_le_self (a * 2 ^ 0) b
      simp only [Nat.pow_zero, Nat.mul_one] at *
      omega
    · refine ⟨?_, hk⟩
      obtain ⟨m, rfl⟩ : ∃ m, k = m + 1 := ⟨k - 1, by omega⟩
      rw [Nat.add_sub_cancel] at h
      rw [pow_up]
      rcases Decidable.em (2 * ((a * 2 ^ m) % b) ≥ b) with g | g
      · rw [(step_hi hb g).1]; omega
      · rw [(step_lo hb g).1]; omega
/-! ### the reference's digits -/
def dgF : Nat → Nat → List UInt8 → Nat × Nat
  | 0, x, _ => (0, x)
  | _ + 1, x, [] => (0, x)
  | m + 1, x, c :: t => if 48 ≤ c.toNat ∧ c.toNat ≤ 57 then ((dgF m (10 * x + (c.toNat - 48)) t).1 + 1, (dgF m (10 * x + (c.toNat - 48)) t).2) else (0, x)
section
variable {s : List UInt8} {m x k : Nat}
theorem dgF_zero (t : List UInt8) : dgF 0 x t = (0, x) := by cases t <;> rfl
theorem dgF_end (h : ¬ k < s.length) : dgF m x (s.drop k) = (0, x) := by
  rw [List.drop_eq_nil_of_le (by omega)]; cases m <;> rfl
theorem dgF_no (h : k < s.length) (h1 : ¬ (48 ≤ bl s k ∧ bl s k ≤ 57)) : dgF m x (s.drop k) = (0, x) := by
  obtain ⟨c, e, hc⟩ := drop_at h
  cases m with
  | zero => exact dgF_zero _
  | succ m => rw [e, dgF, if_neg (fun z => h1 ⟨by omega, by omega⟩)]
theorem dgF_yes (h : k < s.length) (h1 : 48 ≤ bl s k) (h2 : bl s k ≤ 57) : dgF (m + 1) x (s.drop k) = ((dgF m (10 * x + ((bl s k).toNat - 48)) (s.drop (k + 1))).1 + 1, (dgF m (10 * x + ((bl s k).toNat - 48)) (s.drop (k + 1))).2) := by
  obtain ⟨c, e, hc⟩ := drop_at h
  rw [e, dgF, if_pos ⟨by omega, by omega⟩, hc]; rfl
end
theorem dgF_bd : ∀ (m x : Nat) (s : List UInt8), (dgF m x s).1 ≤ m ∧ (dgF m x s).1 ≤ s.length ∧ (∀ e, x < 10 ^ e → (dgF m x s).2 < 10 ^ (e + (dgF m x s).1))
  | 0, x, s => by rw [dgF_zero]; exact ⟨Nat.le_refl _, Nat.zero_le _, fun e h => h⟩
  | m + 1, x, [] => ⟨Nat.zero_le _, Nat.le_refl _, fun e h => h⟩
  | m + 1, x, c :: t => by
    rw [dgF]
    split
    · rename_i hc
      obtain ⟨h1, h2, h3⟩ := dgF_bd m (10 * x + (c.toNat - 48)) t
      refine ⟨by simp only; omega, by simp only [List.length_cons]; omega, fun e h => ?_⟩
      have := h3 (e + 1) (dec_up h (by omega))
      simp only
      rw [show e + ((dgF m (10 * x + (c.toNat - 48)) t).1 + 1) = e + 1 + (dgF m (10 * x + (c.toNat - 48)) t).1 by omega]
      exact this
    · exact ⟨Nat.zero_le _, Nat.zero_le _, fun e h => h⟩
theorem dgF_acc : ∀ (m x : Nat) (s : List UInt8), (dgF m x s).1 = (dgF m 0 s).1 ∧ (dgF m x s).2 = x * 10 ^ (dgF m 0 s).1 + (dgF m 0 s).2
  | 0, x, s => by rw [dgF_zero, dgF_zero]; simp
  | m + 1, x, [] => by simp [dgF]
  | m + 1, x, c :: t => by
    rw [dgF, dgF]
    split
    · rename_i hc
      obtain ⟨h1, h2⟩ := dgF_acc m (10 * x + (c.toNat - 48)) t
      obtain ⟨h3, h4⟩ := dgF_acc m (10 * 0 + (c.toNat - 48)) t
      simp only [Nat.mul_zero, Nat.zero_add] at *
      refine ⟨by rw [h1, h3], ?_⟩
      rw [h2, h4, h3, Nat.pow_succ, Nat.add_mul, ← Nat.add_assoc]
      congr 2
      rw [Nat.mul_comm 10 x, Nat.mul_assoc, Nat.mul_comm 10]
    · simp
/-- the document's form -/
def refP (s : List UInt8) : Option (Nat × Nat) :=
  if (dgF 12 0 s).1 = 0 then none
  else if (s.drop (dgF 12 0 s).1).length = 0 then some ((dgF 12 0 s).2, 0)
  else if bl (s.drop (dgF 12 0 s).1) 0 ≠ 46 ∨ (dgF 3 0 ((s.drop (dgF 12 0 s).1).drop 1)).1 = 0 ∨ (dgF 3 0 ((s.drop (dgF 12 0 s).1).drop 1)).1 ≠ (s.drop (dgF 12 0 s).1).length - 1 then none
  else some ((dgF 12 0 s).2 * 10 ^ (dgF 3 0 ((s.drop (dgF 12 0 s).1).drop 1)).1 + (dgF 3 0 ((s.drop (dgF 12 0 s).1).drop 1)).2, (dgF 3 0 ((s.drop (dgF 12 0 s).1).drop 1)).1)
theorem scan_dot : ∀ (t : List UInt8) (n d : Nat), d ≤ 3 → scan true n d t = if (dgF (3 - d) n t).1 = t.length ∧ ¬ d + (dgF (3 - d) n t).1 = 0 then some ((dgF (3 - d) n t).2, d + (dgF (3 - d) n t).1) else none
  | [], n, d, h => by
    have e : dgF (3 - d) n [] = (0, n) := by cases (3 - d) <;> rfl
    rw [e, scan]
    by_cases h0 : d = 0
    · rw [if_pos h0, if_neg (by simp; omega)]
    · rw [if_neg h0, if_pos (by simp; omega)]; rfl
  | c :: t, n, d, h => by
    rw [scan, if_neg (by simp)]
    by_cases h3 : d < 3
    · obtain ⟨m, hm⟩ : ∃ m, 3 - d = m + 1 := ⟨2 - d, by omega⟩
      have hm2 : m = 3 - (d + 1) := by omega
      rw [hm, dgF]
      by_cases hc : 48 ≤ c.toNat ∧ c.toNat ≤ 57
      · rw [if_pos ⟨hc.1, hc.2, h3⟩, if_pos hc, scan_dot t _ (d + 1) (by omega), hm2]
        generalize dgF (3 - (d + 1)) (10 * n + (c.toNat - 48)) t = r
        simp only [List.length_cons]
        by_cases g : r.1 = t.length
        · rw [if_pos ⟨g, by omega⟩, if_pos ⟨by omega, by omega⟩]; congr 2; omega
        · rw [if_neg (fun z => g z.1), if_neg (fun z => g (by omega))]
      · rw [if_neg (fun z => hc ⟨z.1, z.2.1⟩), if_neg hc, if_neg (by simp)]
    · have e : 3 - d = 0 := by omega
      rw [if_neg (fun z => h3 (by exact z.2.2)), e, dgF_zero, if_neg (by simp)]
theorem scan_whole : ∀ (s : List UInt8) (n d : Nat), d ≤ 12 → scan false n d s =
    (if d + (dgF (12 - d) n s).1 = 0 then none else if (s.drop (dgF (12 - d) n s).1).length = 0 then some ((dgF (12 - d) n s).2, 0)
     else if bl (s.drop (dgF (12 - d) n s).1) 0 = 46 then scan true (dgF (12 - d) n s).2 0 ((s.drop (dgF (12 - d) n s).1).drop 1) else none)
  | [], n, d, h => by
    have e : dgF (12 - d) n [] = (0, n) := by cases (12 - d) <;> rfl
    rw [e, scan]; simp
  | c :: t, n, d, h => by
    rw [scan]
    have hb : ∀ l : List UInt8, bl (c :: l) 0 = ((c.toNat : Nat) : Int) := fun l => rfl
    by_cases hc : 48 ≤ c.toNat ∧ c.toNat ≤ 57
    · by_cases h3 : d < 12
      · obtain ⟨m, hm⟩ : ∃ m, 12 - d = m + 1 := ⟨11 - d, by omega⟩
        have hm2 : m = 12 - (d + 1) := by omega
        rw [if_neg (by omega), if_pos ⟨hc.1, hc.2, h3⟩, hm, dgF, if_pos hc, scan_whole t _ (d + 1) (by omega), hm2]
        generalize dgF (12 - (d + 1)) (10 * n + (c.toNat - 48)) t = r
        simp only [List.drop_succ_cons]
        rw [if_neg (show ¬ d + 1 + r.1 = 0 by omega), if_neg (show ¬ d + (r.1 + 1) = 0 by omega)]
      · have e : 12 - d = 0 := by omega
        rw [if_neg (show ¬ (c.toNat = 46 ∧ false = false ∧ 0 < d) from fun z => by omega), if_neg (show ¬ (48 ≤ c.toNat ∧ c.toNat ≤ 57 ∧ d < most false) from fun z => h3 z.2.2), e, dgF_zero]
        simp only [Nat.add_zero, List.drop_zero]
        rw [hb, if_neg (show ¬ d = 0 by omega), if_neg (show ¬ (c :: t).length = 0 by simp), if_neg (show ¬ ((c.toNat : Nat) : Int) = 46 by omega)]
    · have e : dgF (12 - d) n (c :: t) = (0, n) := by
        cases (12 - d) with
        | zero => rfl
        | succ m => rw [dgF, if_neg hc]
      rw [e]
      simp only [Nat.add_zero, List.drop_zero]
      rw [hb]
      by_cases h0 : d = 0
      · rw [if_pos h0, if_neg (show ¬ (c.toNat = 46 ∧ True ∧ 0 < d) from fun z => by omega), if_neg (show ¬ (48 ≤ c.toNat ∧ c.toNat ≤ 57 ∧ d < most false) from fun z => hc ⟨z.1, z.2.1⟩)]
      · rw [if_neg h0, if_neg (show ¬ (c :: t).length = 0 by simp)]
        by_cases hp : c.toNat = 46
        · rw [if_pos (show c.toNat = 46 ∧ True ∧ 0 < d from ⟨hp, trivial, by omega⟩), if_pos (show ((c.toNat : Nat) : Int) = 46 by omega)]; rfl
        · rw [if_neg (show ¬ (c.toNat = 46 ∧ True ∧ 0 < d) from fun z => by omega), if_neg (show ¬ (48 ≤ c.toNat ∧ c.toNat ≤ 57 ∧ d < most false) from fun z => hc ⟨z.1, z.2.1⟩), if_neg (show ¬ ((c.toNat : Nat) : Int) = 46 by omega)]
theorem refP_scan (s : List UInt8) : refP s = scan false 0 0 s := by
  rw [scan_whole s 0 0 (by decide)]
  unfold refP
  simp only [Nat.zero_add, Nat.sub_zero]
  split
  · rfl
  · split
    · rfl
    · rename_i h0 h1
      by_cases hb : bl (s.drop (dgF 12 0 s).1) 0 = 46
      · rw [if_pos hb, scan_dot _ _ 0 (by decide)]
        simp only [Nat.sub_zero, Nat.zero_add]
        obtain ⟨e1, e2⟩ := dgF_acc 3 (dgF 12 0 s).2 ((s.drop (dgF 12 0 s).1).drop 1)
        rw [e1, e2]
        have hl : ((s.drop (dgF 12 0 s).1).drop 1).length = (s.drop (dgF 12 0 s).1).length - 1 := List.length_drop ..
        rw [hl]
        generalize (dgF 3 0 ((s.drop (dgF 12 0 s).1).drop 1)).1 = m
        by_cases hm : m = (s.drop (dgF 12 0 s).1).length - 1 ∧ ¬ m = 0
        · rw [if_neg (by rintro (z | z | z); exact z hb; exact hm.2 z; exact z hm.1), if_pos hm]
        · rw [if_neg hm, if_pos]
          by_cases h2 : m = 0
          · exact .inr (.inl h2)
          · exact .inr (.inr fun z => hm ⟨z, h2⟩)
      · rw [if_neg hb, if_pos (.inl hb)]
end Go.RealQ
namespace Go.RealQ
open Go.Gw
theorem csign_eq {n : Nat} (hn : n < 9223372036854775808) : Int.toNat (IntKind.wrap .u64 ((BitVec.ofInt (IntKind.bits .u64) (IntKind.wrap .u64 ((BitVec.ofInt (IntKind.bits .u64) ((n : Nat) : Int) &&& ~~~BitVec.ofInt (IntKind.bits .u64) 9223372036854775808).toNat : Int)) ||| BitVec.ofInt (IntKind.bits .u64) (IntKind.wrap .u64 ((BitVec.ofInt (IntKind.bits .u64) 13830554455654793216 &&& BitVec.ofInt (IntKind.bits .u64) 9223372036854775808).toNat : Int))).toNat : Int)) = n + 9223372036854775808 := by
  have e2 : IntKind.wrap .u64 ((BitVec.ofInt (IntKind.bits .u64) 13830554455654793216 &&& BitVec.ofInt (IntKind.bits .u64) 9223372036854775808).toNat : Int) = 9223372036854775808 := by decide +kernel
  have e3 : ~~~BitVec.ofInt (IntKind.bits .u64) 9223372036854775808 = BitVec.ofNat 64 9223372036854775807 := by
    show ~~~BitVec.ofInt 64 9223372036854775808 = BitVec.ofNat 64 9223372036854775807
    decide +kernel
  have e1 : IntKind.wrap .u64 ((BitVec.ofInt (IntKind.bits .u64) ((n : Nat) : Int) &&& ~~~BitVec.ofInt (IntKind.bits .u64) 9223372036854775808).toNat : Int) = ((n : Nat) : Int) := by
    rw [e3]
    show IntKind.wrap .u64 ((BitVec.ofInt 64 ((n : Nat) : Int) &&& BitVec.ofNat 64 9223372036854775807).toNat : Int) = _
    rw [BitVec.toNat_and, BitVec.ofInt_natCast, BitVec.toNat_ofNat, BitVec.toNat_ofNat, Nat.mod_eq_of_lt (by omega), Nat.mod_eq_of_lt (by omega)]
    have := Nat.and_two_pow_sub_one_eq_mod n 63
    have p : (2 : Nat) ^ 63 = 9223372036854775808 := by decide
    rw [p] at this
    have q : (9223372036854775808 : Nat) - 1 = 9223372036854775807 := by decide
    rw [q] at this
    rw [this, Nat.mod_eq_of_lt hn]
    exact IntWalk.u64_in _ (by omega)
  rw [e1, e2]
  show Int.toNat (IntKind.wrap .u64 ((BitVec.ofInt 64 ((n : Nat) : Int) ||| BitVec.ofInt 64 ((9223372036854775808 : Nat) : Int)).toNat : Int)) = _
  rw [BitVec.toNat_or, BitVec.ofInt_natCast, BitVec.ofInt_natCast, BitVec.toNat_ofNat, BitVec.toNat_ofNat, Nat.mod_eq_of_lt (by omega), Nat.mod_eq_of_lt (by omega)]
  have := Nat.two_pow_add_eq_or_of_lt (i := 63) (b := n) (by rw [show (2 : Nat) ^ 63 = 9223372036854775808 by decide]; exact hn) 1
  rw [Nat.mul_one, show (2 : Nat) ^ 63 = 9223372036854775808 by decide] at this
  rw [Nat.or_comm, ← this, IntWalk.u64_in _ (by omega)]
  omega
theorem minus_yes {s : List UInt8} (h : ¬ s = []) (h2 : (bl s 0 == 45) = true) : minus s = true := by
  unfold minus; rw [h2, decide_eq_true (List.length_pos_iff.2 h)]; rfl
theorem minus_no {s : List UInt8} (h2 : (bl s 0 == 45) = false) : minus s = false := by unfold minus; rw [h2, Bool.and_false]
theorem minus_nil {s : List UInt8} (h : s = []) : minus s = false := by subst h; rfl
end Go.RealQ
namespace Go.RealQ
theorem rndQ_up {q r : Nat} (h : q % 2 = 1) (h2 : 0 < r ∨ q / 2 % 2 = 1) : rndQ q (decide (0 < r)) = q / 2 + 1 := by
  unfold rndQ; rw [if_pos ⟨h, by rcases h2 with z | z; exact .inl (decide_eq_true z); exact .inr z⟩]
theorem rndQ_same {q r : Nat} (h : ¬ (q % 2 = 1 ∧ (0 < r ∨ q / 2 % 2 = 1))) : rndQ q (decide (0 < r)) = q / 2 := by
  unfold rndQ; rw [if_neg (fun z => h ⟨z.1, by rcases z.2 with y | y; exact .inl (of_decide_eq_true y); exact .inr y⟩)]; rfl
end Go.RealQ
namespace Go.RealQ
theorem xm_bd {x j : Nat} (hx : x < 1000000000000) (hj : j ≤ 3) : x * 10 ^ j ≤ 999999999999000 := by
  have h1 := (sc_bd hj).2
  calc x * 10 ^ j ≤ 999999999999 * 1000 := Nat.mul_le_mul (by omega) h1
    _ = 999999999999000 := by decide
end Go.RealQ
namespace Go.RealQ
theorem dg12 (s : List UInt8) : (dgF 12 0 s).2 < 1000000000000 := by
  obtain ⟨h1, h2, h3⟩ := dgF_bd 12 0 s
  have := dec_bd (c := 12) (h3 0 (by decide)) (by omega)
  have e : (10 : Nat) ^ 12 = 1000000000000 := by decide
  rwa [e] at this
theorem dg3 (s : List UInt8) : (dgF 3 0 s).2 < 1000 := by
  obtain ⟨h1, h2, h3⟩ := dgF_bd 3 0 s
  have := dec_bd (c := 3) (h3 0 (by decide)) (by omega)
  have e : (10 : Nat) ^ 3 = 1000 := by decide
  rwa [e] at this
end Go.RealQ


namespace Go.Proofs.YthpodbngljfdmaaGreatDoor
open Go Go.Shelf Go.Proofs
set_option maxRecDepth 100000
def shR : Go.Shelf.Ren := ⟨fun | 99 => 66 | 105 => 50 | 118 => 174 | 129 => 114 | 143 => 162 | 144 => 144 | 156 => 48 | 159 => 143 | 165 => 61 | 166 => 62 | 167 => 159 | 168 => 175 | 169 => 63 | 170 => 67 | 171 => 33 | 197 => 173 | 204 => 161 | 206 => 95 | 212 => 65 | 217 => 142 | 219 => 178 | 224 => 189 | 225 => 188 | 230 => 160 | 240 => 87 | 241 => 88 | 242 => 186 | 243 => 53 | 246 => 70 | 260 => 185 | 262 => 177 | 263 => 93 | 264 => 94 | 266 => 158 | 267 => 190 | 270 => 176 | 274 => 194 | 275 => 195 | 276 => 111 | 277 => 112 | 278 => 193 | 283 => 89 | 284 => 90 | 285 => 91 | 286 => 92 | 313 => 187 | 314 => 196 | 316 => 191 | 317 => 113 | 318 => 115 | 319 => 116 | 320 => 117 | 337 => 134 | 338 => 135 | n => n, fun | 0 => 0 | 2 => 2 | 3 => 3 | 4 => 4 | 5 => 5 | 9 => 9 | 20 => 20 | 21 => 21 | 31 => 64 | 37 => 76 | 46 => 93 | 51 => 101 | 53 => 22 | 70 => 84 | 72 => 86 | 75 => 89 | 76 => 90 | 80 => 92 | 105 => 221 | 107 => 215 | 109 => 94 | 119 => 165 | 127 => 129 | 138 => 239 | 139 => 240 | 146 => 135 | 148 => 137 | 160 => 241 | 162 => 234 | 164 => 150 | 171 => 130 | 173 => 133 | 203 => 232 | 206 => 249 | 208 => 251 | 212 => 154 | 213 => 155 | 232 => 202 | 233 => 203 | n => n, fun | 1 => 1 | 3 => 8 | 4 => 9 | 13 => 5 | 17 => 0 | 18 => 2 | 19 => 3 | n => n⟩
theorem lays159 : Go.Proofs.Lays.n159 Tryz.prog shR := {
  mixed := by kernel_rfl
  f118 := Tryz.func174.trans (congrArg some (by kernel_rfl))
  f159 := Tryz.func143.trans (congrArg some (by kernel_rfl))
  f165 := Tryz.func61.trans (congrArg some (by kernel_rfl))
  f166 := Tryz.func62.trans (congrArg some (by kernel_rfl))
  f167 := Tryz.func159.trans (congrArg some (by kernel_rfl))
  f168 := Tryz.func175.trans (congrArg some (by kernel_rfl))
  f169 := Tryz.func63.trans (congrArg some (by kernel_rfl))
  f197 := Tryz.func173.trans (congrArg some (by kernel_rfl))
  f204 := Tryz.func161.trans (congrArg some (by kernel_rfl))
  f230 := Tryz.func160.trans (congrArg some (by kernel_rfl))
  f240 := Tryz.func87.trans (congrArg some (by kernel_rfl))
  f241 := Tryz.func88.trans (congrArg some (by kernel_rfl))
  f242 := Tryz.func186.trans (congrArg some (by kernel_rfl))
  f260 := Tryz.func185.trans (congrArg some (by kernel_rfl))
  f262 := Tryz.func177.trans (congrArg some (by kernel_rfl))
  f270 := Tryz.func176.trans (congrArg some (by kernel_rfl))
  f274 := Tryz.func194.trans (congrArg some (by kernel_rfl))
  f275 := Tryz.func195.trans (congrArg some (by kernel_rfl))
  f276 := Tryz.func111.trans (congrArg some (by kernel_rfl))
  f277 := Tryz.func112.trans (congrArg some (by kernel_rfl))
  f278 := Tryz.func193.trans (congrArg some (by kernel_rfl))
  f313 := Tryz.func187.trans (congrArg some (by kernel_rfl))
  t0 := Tryz.underlying0
  a0 := Tryz.isAgg0
  z0 := Tryz.sizeOf0
  v0 := Tryz.zeroValue0
  t3 := Tryz.underlying3
  a3 := Tryz.isAgg3
  z3 := Tryz.sizeOf3
  v3 := Tryz.zeroValue3
  t4 := Tryz.underlying4
  a4 := Tryz.isAgg4
  z4 := Tryz.sizeOf4
  v4 := Tryz.zeroValue4
  t5 := Tryz.underlying5
  a5 := Tryz.isAgg5
  z5 := Tryz.sizeOf5
  v5 := Tryz.zeroValue5
  t9 := Tryz.underlying9
  a9 := Tryz.isAgg9
  z9 := Tryz.sizeOf9
  v9 := Tryz.zeroValue9
  t20 := Tryz.underlying20
  a20 := Tryz.isAgg20
  z20 := Tryz.sizeOf20
  v20 := Tryz.zeroValue20
  t21 := Tryz.underlying21
  a21 := Tryz.isAgg21
  z21 := Tryz.sizeOf21
  v21 := Tryz.zeroValue21
  t37 := Tryz.underlying76
  a37 := Tryz.isAgg76
  z37 := Tryz.sizeOf76
  v37 := Tryz.zeroValue76
  t46 := Tryz.underlying93
  a46 := Tryz.isAgg93
  z46 := Tryz.sizeOf93
  v46 := Tryz.zeroValue93
  t51 := Tryz.underlying101
  a51 := Tryz.isAgg101
  z51 := Tryz.sizeOf101
  v51 := Tryz.zeroValue101
  t70 := Tryz.underlying84
  a70 := Tryz.isAgg84
  z70 := Tryz.sizeOf84
  v70 := Tryz.zeroValue84
  t72 := Tryz.underlying86
  a72 := Tryz.isAgg86
  z72 := Tryz.sizeOf86
  v72 := Tryz.zeroValue86
  t75 := Tryz.underlying89
  a75 := Tryz.isAgg89
  z75 := Tryz.sizeOf89
  v75 := Tryz.zeroValue89
  t76 := Tryz.underlying90
  a76 := Tryz.isAgg90
  z76 := Tryz.sizeOf90
  v76 := Tryz.zeroValue90
  t105 := Tryz.underlying221
  a105 := Tryz.isAgg221
  z105 := Tryz.sizeOf221
  v105 := Tryz.zeroValue221
  t107 := Tryz.underlying215
  a107 := Tryz.isAgg215
  z107 := Tryz.sizeOf215
  v107 := Tryz.zeroValue215
  t119 := Tryz.underlying165
  a119 := Tryz.isAgg165
  z119 := Tryz.sizeOf165
  t127 := Tryz.underlying129
  a127 := Tryz.isAgg129
  z127 := Tryz.sizeOf129
  v127 := Tryz.zeroValue129
  t138 := Tryz.underlying239
  a138 := Tryz.isAgg239
  z138 := Tryz.sizeOf239
  v138 := Tryz.zeroValue239
  t139 := Tryz.underlying240
  a139 := Tryz.isAgg240
  z139 := Tryz.sizeOf240
  v139 := Tryz.zeroValue240
  t160 := Tryz.underlying241
  a160 := Tryz.isAgg241
  z160 := Tryz.sizeOf241
  v160 := Tryz.zeroValue241
  t162 := Tryz.underlying234
  a162 := Tryz.isAgg234
  z162 := Tryz.sizeOf234
  v162 := Tryz.zeroValue234
  t164 := Tryz.underlying150
  a164 := Tryz.isAgg150
  z164 := Tryz.sizeOf150
  v164 := Tryz.zeroValue150
  t203 := Tryz.underlying232
  a203 := Tryz.isAgg232
  z203 := Tryz.sizeOf232
  v203 := Tryz.zeroValue232
  t206 := Tryz.underlying249
  a206 := Tryz.isAgg249
  z206 := Tryz.sizeOf249
  v206 := Tryz.zeroValue249
  t208 := Tryz.underlying251
  a208 := Tryz.isAgg251
  z208 := Tryz.sizeOf251
  v208 := Tryz.zeroValue251
  g3 := by kernel_rfl
  g4 := by kernel_rfl
  g13 := by kernel_rfl }
theorem lays144 : Go.Proofs.Lays.n144 Tryz.prog shR := {
  mixed := by kernel_rfl
  f143 := Tryz.func162.trans (congrArg some (by kernel_rfl))
  f144 := Tryz.func144.trans (congrArg some (by kernel_rfl))
  f217 := Tryz.func142.trans (congrArg some (by kernel_rfl))
  f219 := Tryz.func178.trans (congrArg some (by kernel_rfl))
  f224 := Tryz.func189.trans (congrArg some (by kernel_rfl))
  f225 := Tryz.func188.trans (congrArg some (by kernel_rfl))
  f266 := Tryz.func158.trans (congrArg some (by kernel_rfl))
  f267 := Tryz.func190.trans (congrArg some (by kernel_rfl))
  f314 := Tryz.func196.trans (congrArg some (by kernel_rfl))
  t3 := Tryz.underlying3
  a3 := Tryz.isAgg3
  z3 := Tryz.sizeOf3
  v3 := Tryz.zeroValue3
  t4 := Tryz.underlying4
  a4 := Tryz.isAgg4
  z4 := Tryz.sizeOf4
  v4 := Tryz.zeroValue4
  t5 := Tryz.underlying5
  a5 := Tryz.isAgg5
  z5 := Tryz.sizeOf5
  v5 := Tryz.zeroValue5
  t9 := Tryz.underlying9
  a9 := Tryz.isAgg9
  z9 := Tryz.sizeOf9
  v9 := Tryz.zeroValue9
  t46 := Tryz.underlying93
  a46 := Tryz.isAgg93
  z46 := Tryz.sizeOf93
  v46 := Tryz.zeroValue93
  t51 := Tryz.underlying101
  a51 := Tryz.isAgg101
  z51 := Tryz.sizeOf101
  v51 := Tryz.zeroValue101
  t146 := Tryz.underlying135
  a146 := Tryz.isAgg135
  z146 := Tryz.sizeOf135
  v146 := Tryz.zeroValue135
  g1 := by kernel_rfl }
theorem lays156 : Go.Proofs.Lays.n156 Tryz.prog shR := {
  mixed := by kernel_rfl
  f156 := Tryz.func48.trans (congrArg some (by kernel_rfl))
  f165 := Tryz.func61.trans (congrArg some (by kernel_rfl))
  f166 := Tryz.func62.trans (congrArg some (by kernel_rfl))
  f169 := Tryz.func63.trans (congrArg some (by kernel_rfl))
  f240 := Tryz.func87.trans (congrArg some (by kernel_rfl))
  f241 := Tryz.func88.trans (congrArg some (by kernel_rfl))
  f276 := Tryz.func111.trans (congrArg some (by kernel_rfl))
  f277 := Tryz.func112.trans (congrArg some (by kernel_rfl))
  t0 := Tryz.underlying0
  a0 := Tryz.isAgg0
  z0 := Tryz.sizeOf0
  v0 := Tryz.zeroValue0
  t3 := Tryz.underlying3
  a3 := Tryz.isAgg3
  z3 := Tryz.sizeOf3
  v3 := Tryz.zeroValue3
  t4 := Tryz.underlying4
  a4 := Tryz.isAgg4
  z4 := Tryz.sizeOf4
  v4 := Tryz.zeroValue4
  t9 := Tryz.underlying9
  a9 := Tryz.isAgg9
  z9 := Tryz.sizeOf9
  v9 := Tryz.zeroValue9
  t20 := Tryz.underlying20
  a20 := Tryz.isAgg20
  z20 := Tryz.sizeOf20
  v20 := Tryz.zeroValue20
  t31 := Tryz.underlying64
  a31 := Tryz.isAgg64
  z31 := Tryz.sizeOf64
  v31 := Tryz.zeroValue64
  t37 := Tryz.underlying76
  a37 := Tryz.isAgg76
  z37 := Tryz.sizeOf76
  v37 := Tryz.zeroValue76
  t70 := Tryz.underlying84
  a70 := Tryz.isAgg84
  z70 := Tryz.sizeOf84
  v70 := Tryz.zeroValue84
  t72 := Tryz.underlying86
  a72 := Tryz.isAgg86
  z72 := Tryz.sizeOf86
  v72 := Tryz.zeroValue86
  t75 := Tryz.underlying89
  a75 := Tryz.isAgg89
  z75 := Tryz.sizeOf89
  v75 := Tryz.zeroValue89
  t76 := Tryz.underlying90
  a76 := Tryz.isAgg90
  z76 := Tryz.sizeOf90
  v76 := Tryz.zeroValue90
  t127 := Tryz.underlying129
  a127 := Tryz.isAgg129
  z127 := Tryz.sizeOf129
  v127 := Tryz.zeroValue129
  t164 := Tryz.underlying150
  a164 := Tryz.isAgg150
  z164 := Tryz.sizeOf150
  v164 := Tryz.zeroValue150 }
theorem lays105 : Go.Proofs.Lays.n105 Tryz.prog shR := {
  mixed := by kernel_rfl
  f99 := Tryz.func66.trans (congrArg some (by kernel_rfl))
  f105 := Tryz.func50.trans (congrArg some (by kernel_rfl))
  f165 := Tryz.func61.trans (congrArg some (by kernel_rfl))
  f166 := Tryz.func62.trans (congrArg some (by kernel_rfl))
  f169 := Tryz.func63.trans (congrArg some (by kernel_rfl))
  f170 := Tryz.func67.trans (congrArg some (by kernel_rfl))
  f206 := Tryz.func95.trans (congrArg some (by kernel_rfl))
  f212 := Tryz.func65.trans (congrArg some (by kernel_rfl))
  f240 := Tryz.func87.trans (congrArg some (by kernel_rfl))
  f241 := Tryz.func88.trans (congrArg some (by kernel_rfl))
  f263 := Tryz.func93.trans (congrArg some (by kernel_rfl))
  f264 := Tryz.func94.trans (congrArg some (by kernel_rfl))
  f276 := Tryz.func111.trans (congrArg some (by kernel_rfl))
  f277 := Tryz.func112.trans (congrArg some (by kernel_rfl))
  t0 := Tryz.underlying0
  a0 := Tryz.isAgg0
  z0 := Tryz.sizeOf0
  v0 := Tryz.zeroValue0
  t3 := Tryz.underlying3
  a3 := Tryz.isAgg3
  z3 := Tryz.sizeOf3
  v3 := Tryz.zeroValue3
  t4 := Tryz.underlying4
  a4 := Tryz.isAgg4
  z4 := Tryz.sizeOf4
  v4 := Tryz.zeroValue4
  t5 := Tryz.underlying5
  a5 := Tryz.isAgg5
  z5 := Tryz.sizeOf5
  v5 := Tryz.zeroValue5
  t9 := Tryz.underlying9
  a9 := Tryz.isAgg9
  z9 := Tryz.sizeOf9
  v9 := Tryz.zeroValue9
  t20 := Tryz.underlying20
  a20 := Tryz.isAgg20
  z20 := Tryz.sizeOf20
  v20 := Tryz.zeroValue20
  t37 := Tryz.underlying76
  a37 := Tryz.isAgg76
  z37 := Tryz.sizeOf76
  v37 := Tryz.zeroValue76
  t46 := Tryz.underlying93
  a46 := Tryz.isAgg93
  z46 := Tryz.sizeOf93
  v46 := Tryz.zeroValue93
  t51 := Tryz.underlying101
  a51 := Tryz.isAgg101
  z51 := Tryz.sizeOf101
  v51 := Tryz.zeroValue101
  t53 := Tryz.underlying22
  a53 := Tryz.isAgg22
  z53 := Tryz.sizeOf22
  v53 := Tryz.zeroValue22
  t70 := Tryz.underlying84
  a70 := Tryz.isAgg84
  z70 := Tryz.sizeOf84
  v70 := Tryz.zeroValue84
  t72 := Tryz.underlying86
  a72 := Tryz.isAgg86
  z72 := Tryz.sizeOf86
  v72 := Tryz.zeroValue86
  t75 := Tryz.underlying89
  a75 := Tryz.isAgg89
  z75 := Tryz.sizeOf89
  v75 := Tryz.zeroValue89
  t76 := Tryz.underlying90
  a76 := Tryz.isAgg90
  z76 := Tryz.sizeOf90
  v76 := Tryz.zeroValue90
  t109 := Tryz.underlying94
  a109 := Tryz.isAgg94
  z109 := Tryz.sizeOf94
  v109 := Tryz.zeroValue94
  t127 := Tryz.underlying129
  a127 := Tryz.isAgg129
  z127 := Tryz.sizeOf129
  v127 := Tryz.zeroValue129
  t146 := Tryz.underlying135
  a146 := Tryz.isAgg135
  z146 := Tryz.sizeOf135
  v146 := Tryz.zeroValue135
  t148 := Tryz.underlying137
  a148 := Tryz.isAgg137
  z148 := Tryz.sizeOf137
  v148 := Tryz.zeroValue137
  t164 := Tryz.underlying150
  a164 := Tryz.isAgg150
  z164 := Tryz.sizeOf150
  v164 := Tryz.zeroValue150 }
theorem lays171 : Go.Proofs.Lays.n171 Tryz.prog shR := {
  mixed := by kernel_rfl
  f129 := Tryz.func114.trans (congrArg some (by kernel_rfl))
  f171 := Tryz.func33.trans (congrArg some (by kernel_rfl))
  f243 := Tryz.func53.trans (congrArg some (by kernel_rfl))
  f246 := Tryz.func70.trans (congrArg some (by kernel_rfl))
  f283 := Tryz.func89.trans (congrArg some (by kernel_rfl))
  f284 := Tryz.func90.trans (congrArg some (by kernel_rfl))
  f285 := Tryz.func91.trans (congrArg some (by kernel_rfl))
  f286 := Tryz.func92.trans (congrArg some (by kernel_rfl))
  f317 := Tryz.func113.trans (congrArg some (by kernel_rfl))
  f318 := Tryz.func115.trans (congrArg some (by kernel_rfl))
  f319 := Tryz.func116.trans (congrArg some (by kernel_rfl))
  f320 := Tryz.func117.trans (congrArg some (by kernel_rfl))
  f337 := Tryz.func134.trans (congrArg some (by kernel_rfl))
  f338 := Tryz.func135.trans (congrArg some (by kernel_rfl))
  t0 := Tryz.underlying0
  a0 := Tryz.isAgg0
  z0 := Tryz.sizeOf0
  v0 := Tryz.zeroValue0
  t2 := Tryz.underlying2
  a2 := Tryz.isAgg2
  z2 := Tryz.sizeOf2
  v2 := Tryz.zeroValue2
  t3 := Tryz.underlying3
  a3 := Tryz.isAgg3
  z3 := Tryz.sizeOf3
  v3 := Tryz.zeroValue3
  t4 := Tryz.underlying4
  a4 := Tryz.isAgg4
  z4 := Tryz.sizeOf4
  v4 := Tryz.zeroValue4
  t5 := Tryz.underlying5
  a5 := Tryz.isAgg5
  z5 := Tryz.sizeOf5
  v5 := Tryz.zeroValue5
  t9 := Tryz.underlying9
  a9 := Tryz.isAgg9
  z9 := Tryz.sizeOf9
  v9 := Tryz.zeroValue9
  t20 := Tryz.underlying20
  a20 := Tryz.isAgg20
  z20 := Tryz.sizeOf20
  v20 := Tryz.zeroValue20
  t37 := Tryz.underlying76
  a37 := Tryz.isAgg76
  z37 := Tryz.sizeOf76
  v37 := Tryz.zeroValue76
  t46 := Tryz.underlying93
  a46 := Tryz.isAgg93
  z46 := Tryz.sizeOf93
  v46 := Tryz.zeroValue93
  t51 := Tryz.underlying101
  a51 := Tryz.isAgg101
  z51 := Tryz.sizeOf101
  v51 := Tryz.zeroValue101
  t53 := Tryz.underlying22
  a53 := Tryz.isAgg22
  z53 := Tryz.sizeOf22
  v53 := Tryz.zeroValue22
  t171 := Tryz.underlying130
  a171 := Tryz.isAgg130
  z171 := Tryz.sizeOf130
  v171 := Tryz.zeroValue130
  t173 := Tryz.underlying133
  a173 := Tryz.isAgg133
  z173 := Tryz.sizeOf133
  v173 := Tryz.zeroValue133
  t212 := Tryz.underlying154
  a212 := Tryz.isAgg154
  z212 := Tryz.sizeOf154
  v212 := Tryz.zeroValue154
  t213 := Tryz.underlying155
  a213 := Tryz.isAgg155
  z213 := Tryz.sizeOf155
  t232 := Tryz.underlying202
  a232 := Tryz.isAgg202
  z232 := Tryz.sizeOf202
  v232 := Tryz.zeroValue202
  t233 := Tryz.underlying203
  a233 := Tryz.isAgg203
  z233 := Tryz.sizeOf203
  v233 := Tryz.zeroValue203
  g17 := by kernel_rfl
  g18 := by kernel_rfl
  g19 := by kernel_rfl }
theorem laysM316 : Go.Proofs.LaysM.n316 Tryz.prog shR := {
  mixed := by kernel_rfl
  f316 := Tryz.func191.trans (congrArg some (by kernel_rfl))
  t0 := Tryz.underlying0
  a0 := Tryz.isAgg0
  z0 := Tryz.sizeOf0
  v0 := Tryz.zeroValue0
  t3 := Tryz.underlying3
  a3 := Tryz.isAgg3
  z3 := Tryz.sizeOf3
  v3 := Tryz.zeroValue3
  t4 := Tryz.underlying4
  a4 := Tryz.isAgg4
  z4 := Tryz.sizeOf4
  v4 := Tryz.zeroValue4
  t9 := Tryz.underlying9
  a9 := Tryz.isAgg9
  z9 := Tryz.sizeOf9
  v9 := Tryz.zeroValue9
  t37 := Tryz.underlying76
  a37 := Tryz.isAgg76
  z37 := Tryz.sizeOf76
  v37 := Tryz.zeroValue76
  t127 := Tryz.underlying129
  a127 := Tryz.isAgg129
  z127 := Tryz.sizeOf129
  v127 := Tryz.zeroValue129
  t5 := Tryz.underlying5
  a5 := Tryz.isAgg5
  z5 := Tryz.sizeOf5
  v5 := Tryz.zeroValue5
  i0 := by kernel_rfl
  i3 := by kernel_rfl
  i4 := by kernel_rfl
  i5 := by kernel_rfl
  i9 := by kernel_rfl
  i37 := by kernel_rfl
  i127 := by kernel_rfl }
theorem bldX : Go.Proofs.Builder.Extra Tryz.prog shR := {
  sizeBuilder := by kernel_rfl
  liesBuilder := by kernel_rfl
  t5 := Tryz.underlying5
  a5 := Tryz.isAgg5
  z5 := Tryz.sizeOf5
  v5 := Tryz.zeroValue5
  infoByte := by kernel_rfl
  cellsByte := by kernel_rfl
  sizeByte := by kernel_rfl
  neB5 := by decide }
end Go.Proofs.YthpodbngljfdmaaGreatDoor

