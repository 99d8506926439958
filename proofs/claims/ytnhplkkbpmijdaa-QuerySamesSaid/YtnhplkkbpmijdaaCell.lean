/-
  A function whose results lie in variables. No condition beyond those that each theorem names.
-/
import Derived.Test.YtnhplkkbpmijdaaGw
namespace Go.Gw
set_option linter.unusedVariables false
set_option linter.unusedSimpArgs false
inductive ResC (P : Program) (w : World) (l : Sl) : List ResultVar → List Value → Prop
  | nil : ResC P w l [] []
  | tmp {t : Nat} {v : Value} {r : List ResultVar} {vs : List Value} : look l t = some v → ResC P w l r vs → ResC P w l (.tmp t :: r) (v :: vs)
  | cell {c : Nat} {t : TypeId} {p : Addr} {v : Value} {r : List ResultVar} {vs : List Value} : look l c = some (.pointer (some p)) → (Instr.loadAt t (.pointer (some p))).run P w = .ok v w → ResC P w l r vs → ResC P w l (.cell c t :: r) (v :: vs)
section
variable {P : Program} {f : FuncId} {R : Ending → World → Prop} {n : Nat} {k : List Item} {l : Sl} {w : World}
theorem resC_run {a : Act} (ha : Fits a n l) {rs : List ResultVar} {vs : List Value} (h : ResC P w l rs vs) : (rs.mapM (oneRes a.tmps)).run P w = .ok vs w := by
  induction h with
  | nil => simp
  | tmp hv _ ih =>
    have hg := ha.get _ _ hv
    simp only [List.mapM_cons, oneRes, Sem.run_bind, ih, Sem.run_pure, Result.andThen_ok, hg]
  | cell hv hl _ ih =>
    have hg := ha.get _ _ hv
    simp only [Instr.loadAt, Instr.sureAddr, Sem.run_bind, Sem.run_pure, Result.andThen_ok] at hl
    simp only [List.mapM_cons, oneRes, asAddr, Sem.run_bind, ih, Sem.run_pure, Result.andThen_ok, hg, hl]
theorem resultsC_run {fn : Func} {a : Act} (ha : Fits a n l) {rs : List ResultVar} (he : fn.results.toList = rs) {vs : List Value} (h : ResC P w l rs vs) : (results fn a.tmps).run P w = .ok (oneOf vs) w := by
  have h1 := resC_run ha h
  rw [← he] at h1
  have h2 : results fn a.tmps = (do let vs ← fn.results.mapM (oneRes a.tmps); pure (if h : vs.size = 1 then vs[0] else .tuple vs)) := rfl
  rw [h2]
  have h3 : fn.results.mapM (oneRes a.tmps) = (do let vs ← fn.results.toList.mapM (oneRes a.tmps); pure vs.toArray) := by
    rw [Array.mapM_eq_mapM_toList]
    rfl
  rw [h3]
  simp only [Sem.run_bind, h1, Result.andThen_ok, Sem.run_pure]
  match vs with
  | [] => rfl
  | [v] => rfl
  | v :: u :: r => simp [oneOf]
theorem GoS.retC {fn : Func} {rs : List ResultVar} (vs : List Value) {v : Value} (hf : P.funcs[f]? = some fn) (he : fn.results.toList = rs) (h : ResC P w l rs vs) (hv : v = oneOf vs) (hR : R (.returned v) w) : GoS P f R n (.code .ret :: k) l w := by
  subst hv
  exact fun _ ha => Goes.ret hf ha.defers (resultsC_run ha he h) hR
theorem GoS.finC {fn : Func} {rs : List ResultVar} (vs : List Value) {v : Value} (hf : P.funcs[f]? = some fn) (he : fn.results.toList = rs) (h : ResC P w l rs vs) (hv : v = oneOf vs) (hR : R (.returned v) w) : GoS P f R n [] l w := by
  subst hv
  exact fun _ ha => Goes.fin hf ha.defers (resultsC_run ha he h) hR
end
end Go.Gw
