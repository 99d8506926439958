/-
  A call whose callee is found at the run: a method of what an interface holds. No condition beyond those that each theorem names.
-/
import Derived.Test.YtbammppeneoffaaGw
namespace Go.Gw
set_option linter.unusedVariables false
set_option linter.unusedSimpArgs false
def callX (n : Nat) (ts : List Nat) (ops : Array Oper) (i : Nat) (l : Sl) : Option (Option Tmp × Sl) := match ops[i]? with
  | none => none
  | some o => match wantedS ops l o, known l o.op.operands.toList, noSel o.op, inB n o.dst with
    | some true, true, true, true => some (o.dst, keep l ts)
    | _, _, _, _ => none
def execAt (ops : Array Oper) (i : Nat) (l : Sl) : Sem Next := match ops[i]? with
  | some o => execOp (rho l) o
  | none => stuck ""
section
variable {P : Program} {f : FuncId} {R : Ending → World → Prop} {n : Nat} {l : Sl} {w : World}
theorem GoS.callM (ts : List Nat) (ops : Array Oper) (i : Nat) (rest : List Nat) (k0 : List Item) (g : FuncId) (args : Array Value) (dst : Option Tmp) (l' : Sl) {w' : World} (h : callX n ts ops i l = some (dst, l')) (hr : (execAt ops i l).run P w = .ok (.enter g args) w')
    {S : Ending → World → Prop} (hc : Calls P g args w' S) (hk : ∀ e w'', S e w'' → ∃ v, e = .returned v ∧ GoS P f R n (.inRegion ops rest :: k0) (putS l' dst v) w'') : GoS P f R n (.inRegion ops (i :: rest) :: k0) l w := by
  intro a ha
  unfold callX at h
  unfold execAt at hr
  split at h
  · cases h
  · rename_i o ho
    rw [ho] at hr
    split at h
    · rename_i h0 h1 h2 h3
      simp only [Option.some.injEq, Prod.mk.injEq] at h
      obtain ⟨rfl, rfl⟩ := h
      refine Goes.oper ho (wanted_eq ha h0) ?_
      unfold Oper.wp
      simp only at hr
      rw [exec_eq ha h1 h2, hr]
      show Calls P _ _ _ _
      refine hc.mono fun e w'' hS => ?_
      obtain ⟨v, rfl, hg⟩ := hk e w'' hS
      exact hg _ ((ha.keep ts).put _ _ h3)
    · cases h
theorem wrapchk (xt : TypeId) (p : Addr) (s : String) : Builtin.ssaWrapNilChk_ #[xt] xt #[.pointer (some p), strVal "", strVal s] = pure (.pointer (some p)) := rfl
theorem callM_load {t elem : TypeId} {p : Addr} {name : String} {args : Array Value} {f : FuncId} {ti : TypeInfo} {m : Method} {v : Value} {fn : Func} (h1 : P.info? t = some ti) (h2 : ti.methods.find? (·.name == name) = some m) (h3 : m.path.toList = []) (h4 : m.func = some (f, false))
    (h5 : P.underlying t = some (.pointer elem)) (h6 : P.funcs[f]? = some fn) (h7 : fn.body.isNone = false) (h8 : (fn.name == "runtime.NumGoroutine") = false) (hl : (Instr.loadAt elem (.pointer (some p))).run P w = .ok v w) :
    (callMethod (.iface t (.pointer (some p))) name args).run P w = .ok (.enter f (#[v] ++ args)) w := by
  have hl2 : (loadVar elem p).run P w = .ok v w := by simpa [Instr.loadAt, Instr.sureAddr] using hl
  obtain ⟨q, hq⟩ : ∃ q, P.types.size + Made.depth = q + 1 := ⟨P.types.size + (Made.depth - 1), by unfold Made.depth; omega⟩
  unfold callMethod
  simp only [Sem.run_bind, Sem.run_pure, Result.andThen_ok, run_program, hq]
  unfold method
  simp only [Sem.run_bind, typeInfo]
  simp [h1, h2, h3, h4, follow, receiverAt, Place.get, run_underlying h5, wrapchk, asAddr, hl2, callFunc]
  have h7' : ¬ fn.body = none := by intro z; simp [z] at h7
  have h8' : ¬ fn.name = "runtime.NumGoroutine" := by simpa using h8
  by_cases hpp : m.path = #[] <;> simp [hpp, hl2, h6, h7', h8']
def valMethod (P : Program) (t : TypeId) (name : String) : Option FuncId := match P.info? t with
  | none => none
  | some ti => match ti.methods.find? (·.name == name) with
    | none => none
    | some m => match m.path.toList, m.func with
      | [], some (f, false) => some f
      | _, _ => none
theorem callM_val {t elem : TypeId} {p : Addr} {name : String} {args : Array Value} {f : FuncId} {v : Value} {fn : Func} (hm : valMethod P t name = some f)
    (h5 : P.underlying t = some (.pointer elem)) (h6 : P.funcs[f]? = some fn) (h7 : fn.body.isNone = false) (h8 : (fn.name == "runtime.NumGoroutine") = false) (hl : (Instr.loadAt elem (.pointer (some p))).run P w = .ok v w) :
    (callMethod (.iface t (.pointer (some p))) name args).run P w = .ok (.enter f (#[v] ++ args)) w := by
  unfold valMethod at hm
  split at hm
  · cases hm
  · rename_i ti h1
    split at hm
    · cases hm
    · rename_i m h2
      split at hm
      · rename_i h3 h4
        simp only [Option.some.injEq] at hm
        subst hm
        exact callM_load h1 h2 h3 h4 h5 h6 h7 h8 hl
      · cases hm
end
end Go.Gw
