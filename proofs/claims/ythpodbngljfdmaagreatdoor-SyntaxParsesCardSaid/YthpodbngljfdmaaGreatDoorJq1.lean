/-
  Joined texts. No condition beyond those that each theorem names. What they say:
  An array variable cut from a place on: the slice, and what it reads. No condition.
  Panics, deferred calls, recover, in compact walks. No condition.
  Compact steps: results in variables; calls that may end by a panic of one kind; a variable lent to a callee. No condition.
  The walks of the classes of characters: Whole, Letter, Fold of the program, Whole of the reference. For every number.
  The walk of first: the first character of bytes that are not none.
  The walk of Encode: the bytes of a list of numbers.
  The walks of the reference: one, Encode, guess.
  The walks of Decode, of the program and of the reference.
  The walks of among, Letter and Fold of the reference; of Numbers.
  The walk of Tokens: the terms of a text.
  The walks of Term and Folded.
  The walk of the reference's Tokens.
  The walks of the reference's Same, Term, Folded.
  A frame with one call put off: how it leaves; a deferred call that takes a panic back. No condition.
  The walk of Parse, of the program.
  What the walks lean on of the package variables: they are laid, and stay. No condition.
  From what the row says is laid to what the walks lean on. No condition.
  The walks of the document's digits and Ratio.
  The walk of the document's Parse of numbers.
  Slices of structs of a number and a slice of numbers. No condition beyond those that each theorem names.
-/
import Derived.Test.YthpodbngljfdmaaGreatDoorChecked
import Derived.Test.YthpodbngljfdmaaGreatDoorRows
import Derived.PinnedBridge
import Derived.Lib.LaidU8
import Derived.Lib.LaidTab
import Derived.Stop.LaidErr
import Derived.MakeChecks
import Derived.LaidLaws
import Derived.Test.YthpodbngljfdmaaGreatDoorJq0
namespace Go.Gw
section
variable {P : Program} {w : World} {T E : TypeId}
theorem arr_slice {n b j : Nat} {i : Int} {kk : IntKind} (hA : P.underlying T = some (.array n E)) (hE : P.cellsOf E = 1) (hi : i = (j : Int)) (hj : j < n) :
    (Instr.sliceAt T (.pointer (some ⟨b, 0, none⟩)) (some (.int kk i)) none none).run P w = .ok (.slice (some ⟨b, j, none⟩) (n - j) (n - j)) w := by
  subst hi
  have h1 : ¬ n = j := by omega
  simp [Instr.sliceAt, run_underlying hA, Instr.sureAddr, Instr.sliceBounds, Instr.sliceBound, asIntOf, size_one hE, h1, Addr.add]
  rw [if_pos (show j ≤ n by omega)]
  by_cases h0 : j = 0
  · subst h0; rfl
  · rw [if_neg h0]
theorem arr_rd {n b j : Nat} {xs : List Value} (h : Rd w n (obj b) 1 xs) (hj : j < n) (hn : n ≤ 281474976710656) : Rd w 1 (.slice (some ⟨b, j, none⟩) (n - j) (n - j)) (n - j) (xs.drop j) := by
  obtain ⟨hl, a, c, e, _, _, _, hc⟩ := h
  unfold obj at e
  cases e
  have h3 := hc _ rfl
  refine ⟨by rw [List.length_drop, hl]; omega, _, _, rfl, Nat.le_refl _, by unfold maxLen; omega, (fun z => by cases z), fun ad had => ?_⟩
  simp only [Option.some.injEq] at had
  subst had
  refine ⟨.inr rfl, fun q u hq => ?_⟩
  rw [List.getElem?_drop] at hq
  have := h3.2 (j + q) u hq
  simpa using this
theorem arr_rdi {n b j : Nat} {kk : IntKind} {l : List Int} (h : Rd w n (obj b) 1 (ivals kk l)) (hj : j < n) (hn : n ≤ 281474976710656) : Rd w 1 (.slice (some ⟨b, j, none⟩) (n - j) (n - j)) (n - j) (ivals kk (l.drop j)) := by
  rw [show ivals kk (l.drop j) = (ivals kk l).drop j by unfold ivals; exact List.map_drop]
  exact arr_rd h hj hn
end
end Go.Gw


namespace Go.Gw
set_option linter.unusedVariables false
set_option linter.unusedSimpArgs false
section
variable {P : Program} {f : FuncId} {R : Ending → World → Prop} {k k' : List Item} {a a' : Act} {w w' : World} {n : Nat} {s : St} {D : Fx}

/-- a frame that has begun to die -/
theorem raise_goes {fn : Func} (hf : P.funcs[f]? = some fn) {ch : List PanicEntry} (hs : ∀ (b : Frame) cs, b.fn = f → b.kind = .normal → Steps P (lone (b.at a k) cs w) (lone ((b.at a k).raise ch) cs w'))
    (h : Leaves P fn a.tmps R a.defers (.panicking ch) w') : Goes P f R k a w := by
  intro b cs hb hk
  have e : (b.at a k).raise ch = { b.at a k with mode := .panicking ch } := by rw [Frame.raise_mode]; rfl
  obtain ⟨e', w'', fr', hR, hc, hfn, hl⟩ := leaves_steps (P := P) (fn := fn) (tmps := a.tmps) (R := R) a.defers (.panicking ch) w' ((b.at a k).raise ch) cs (by rw [e]) (by rw [e]; rfl) (by rw [e]; rfl) (by rw [e]; show P.funcs[b.fn]? = _; rw [hb]; exact hf) (by rw [e]; exact hk) h
  exact ⟨e', w'', fr', hR, hc.of_steps (hs b cs hb hk), hfn.trans (by rw [e]; exact hb), .inl ⟨rfl, hl⟩⟩

/-- an operation that panics -/
theorem Goes.dies {fn : Func} (hf : P.funcs[f]? = some fn) {ops : Array Oper} {i : Nat} {rest : List Nat} {o : Oper} {v : Value} (ho : ops[i]? = some o) (hw : Region.wanted o (yielded ops a.tmps) = true)
    (hr : (execOp a.eval o).run P w = .halt (.panic v) w') (h : Leaves P fn a.tmps R a.defers (.panicking [{ v, recovered := false }]) w') : Goes P f R (.inRegion ops (i :: rest) :: k) a w := by
  refine raise_goes hf (ch := [{ v, recovered := false }]) (fun b cs _ _ => .one (step_lone_go ?_)) h
  rw [stepG_op (P := P) (b := b) (k := k) (cs := cs) (w := w) (rest := rest) ho hw]
  simp [stepG.apply, hr]
/-- a call that may die -/
theorem Goes.calling {fn : Func} (hf : P.funcs[f]? = some fn) {ops : Array Oper} {i : Nat} {rest : List Nat} {o : Oper} {g : FuncId} {args : Array Value} {T : Ending → World → Prop} (ho : ops[i]? = some o) (hw : Region.wanted o (yielded ops a.tmps) = true)
    (hr : (execOp a.eval o).run P w = .ok (.enter g args) w') (hc : Calls P g args w' T)
    (h : ∀ e w'', T e w'' → (∃ v, e = .returned v ∧ Goes P f R (.inRegion ops rest :: k) (a.put o.dst v) w'') ∨ (∃ ch, e = .panicked ch ∧ Leaves P fn a.tmps R a.defers (.panicking ch) w'')) : Goes P f R (.inRegion ops (i :: rest) :: k) a w := by
  intro b cs hb hk
  have hg := stepG_op (P := P) (b := b) (k := k) (cs := cs) (w := w) (rest := rest) ho hw
  have hfin : ∀ v, (b.at a (.inRegion ops (i :: rest) :: k)).finish v = b.at (a.put o.dst v) (.inRegion ops rest :: k) := by
    intro v; rw [Frame.finish_at, ho]; rfl
  obtain ⟨e, w'', fr, hT, hsteps, hfn, hleave⟩ := hc (b.at a (.inRegion ops (i :: rest) :: k) :: cs)
  have henter : Go.step P (lone (b.at a (.inRegion ops (i :: rest) :: k)) cs w) =
      .next (lone (Frame.enter P g args .normal) (b.at a (.inRegion ops (i :: rest) :: k) :: cs) w') :=
    step_lone_go (by rw [hg]; simp [stepG.apply, hr, Frame.at])
  rcases h e w'' hT with ⟨v, rfl, hG⟩ | ⟨ch, rfl, hL⟩
  · obtain ⟨e, w3, fr', hR', hc, hfn', hl⟩ := hG b cs hb hk
    refine ⟨e, w3, fr', hR', hc.of_steps (.head henter (Steps.trans hsteps (.one ?_))), hfn', hl⟩
    rw [← hfin]; exact step_leave_returned hleave
  · have hs : Steps P (lone (b.at a (.inRegion ops (i :: rest) :: k)) cs w) (lone ((b.at a (.inRegion ops (i :: rest) :: k)).raise ch) cs w'') :=
      .head henter (Steps.trans hsteps (.one (step_leave_panicked hleave)))
    have e : (b.at a (.inRegion ops (i :: rest) :: k)).raise ch = { b.at a (.inRegion ops (i :: rest) :: k) with mode := .panicking ch } := by rw [Frame.raise_mode]; rfl
    obtain ⟨e', w3, fr', hR, hc, hfn, hl⟩ := leaves_steps (P := P) (fn := fn) (tmps := a.tmps) (R := R) a.defers (.panicking ch) w'' ((b.at a (.inRegion ops (i :: rest) :: k)).raise ch) cs (by rw [e]) (by rw [e]; rfl) (by rw [e]; rfl) (by rw [e]; show P.funcs[b.fn]? = _; rw [hb]; exact hf) (by rw [e]; exact hk) hL
    exact ⟨e', w3, fr', hR, hc.of_steps hs, hfn.trans (by rw [e]; exact hb), .inl ⟨rfl, hl⟩⟩

/-- what the deferred calls give, from each frame that fits -/
def Lv (P : Program) (fn : Func) (R : Ending → World → Prop) (n : Nat) (l : Sl) (D : Fx) (u : FrameMode) (w : World) : Prop := ∀ a, Fits a n l D → Leaves P fn a.tmps R a.defers u w
def pnC (P : Program) (n : Nat) (w : World) (i : Nat) (s : St) : Option (List Prop × World × Result Next) := match opOf P n w i s with
  | some (ps, w1, o, l) => some (ps, w1, (execOp (rho l) o).run P w1)
  | none => none
/-- the slots at an operation -/
def opL (P : Program) (n : Nat) (w : World) (i : Nat) (s : St) : Sl := match opOf P n w i s with
  | some (_, _, _, l) => l
  | none => []
/-- the end by a panic -/
theorem xpan (i : Nat) {fn : Func} {v : Value} (hf : P.funcs[f]? = some fn) (hR : R (.panicked [{ v, recovered := false }]) w) (h : pnC P n w i s = some ([], w, .halt (.panic v) w) := by kernel_rfl) : GoX P f R n s w := by
  unfold pnC at h
  split at h
  · rename_i ps w1 o l hop
    simp only [Option.some.injEq, Prod.mk.injEq] at h
    obtain ⟨rfl, rfl, hr⟩ := h
    obtain ⟨ops, j, rest, k, ho, h0, h1, h2, h3, hn, hg⟩ := opOf_spec hop rfl
    refine hg (fun a ha => ?_)
    refine Goes.dies hf ho (wanted_eq ha h0) (by rw [exec_eq ha h1 h2]; exact hr) ?_
    rw [ha.defers]
    exact hR
  · cases h
/-- a call that may end by a panic, in a frame that has put off nothing -/
theorem xcp (i : Nat) {fn : Func} {g : FuncId} {args : Array Value} {T : Ending → World → Prop} (hf : P.funcs[f]? = some fn) (hc : Calls P g args w T)
    (hk : ∀ e w', T e w' → (∃ v, e = .returned v ∧ GoX P f R n (nx P n w i v s) w') ∨ (∃ ch, e = .panicked ch ∧ R (.panicked ch) w')) (h : cl P n w i s = some ([], w, g, args, w) := by kernel_rfl) : GoX P f R n s w := by
  unfold cl at h
  split at h
  · rename_i ps w1 o l hop
    split at h
    · rename_i g' args' w2 hr
      simp only [Option.some.injEq, Prod.mk.injEq] at h
      obtain ⟨rfl, rfl, rfl, rfl, rfl⟩ := h
      obtain ⟨ops, j, rest, k, ho, h0, h1, h2, h3, hn, hg⟩ := opOf_spec hop rfl
      refine hg (fun a ha => ?_)
      refine Goes.calling hf ho (wanted_eq ha h0) (by rw [exec_eq ha h1 h2]; exact hr) hc (fun e w'' hT => ?_)
      rcases hk e w'' hT with ⟨v, rfl, hG⟩ | ⟨ch, rfl, hL⟩
      · rw [hn v] at hG
        exact .inl ⟨v, rfl, hG.go _ (ha.put _ _ h3)⟩
      · refine .inr ⟨ch, rfl, ?_⟩
        rw [ha.defers]; exact hL
    · cases h
  · cases h
/-- the same, in a frame that has put off calls -/
theorem opL_eq {i : Nat} {ps : List Prop} {w1 : World} {o : Oper} {l : Sl} (h : opOf P n w i s = some (ps, w1, o, l)) : opL P n w i s = l := by unfold opL; rw [h]
theorem xcd (i : Nat) {fn : Func} {g : FuncId} {args : Array Value} {T : Ending → World → Prop} {ds : List Deferred} (hf : P.funcs[f]? = some fn) (hc : Calls P g args w T)
    (hk : ∀ e w', T e w' → (∃ v, e = .returned v ∧ GoX P f R n (nx P n w i v s) w' { defers := ds }) ∨ (∃ ch, e = .panicked ch ∧ Lv P fn R n (opL P n w i s) { defers := ds } (.panicking ch) w')) (h : cl P n w i s = some ([], w, g, args, w) := by kernel_rfl) : GoX P f R n s w { defers := ds } := by
  unfold cl at h
  split at h
  · rename_i ps w1 o l hop
    split at h
    · rename_i g' args' w2 hr
      simp only [Option.some.injEq, Prod.mk.injEq] at h
      obtain ⟨rfl, rfl, rfl, rfl, rfl⟩ := h
      obtain ⟨ops, j, rest, k, ho, h0, h1, h2, h3, hn, hg⟩ := opOf_spec hop rfl
      refine hg (fun a ha => ?_)
      refine Goes.calling hf ho (wanted_eq ha h0) (by rw [exec_eq ha h1 h2]; exact hr) hc (fun e w'' hT => ?_)
      rcases hk e w'' hT with ⟨v, rfl, hG⟩ | ⟨ch, rfl, hL⟩
      · rw [hn v] at hG
        exact .inl ⟨v, rfl, hG.go _ (ha.put _ _ h3)⟩
      · rw [opL_eq hop] at hL
        exact .inr ⟨ch, rfl, hL a ha⟩
    · cases h
  · cases h
/-- a call is put off -/
theorem xdf (i : Nat) {d : Deferred} {ds : List Deferred} (hk : GoX P f R n (nx P n w i undef s) w { defers := d :: ds }) (h : pnC P n w i s = some ([], w, .ok (.defer d) w) := by kernel_rfl) : GoX P f R n s w { defers := ds } := by
  unfold pnC at h
  split at h
  · rename_i ps w1 o l hop
    simp only [Option.some.injEq, Prod.mk.injEq] at h
    obtain ⟨rfl, rfl, hr⟩ := h
    obtain ⟨ops, j, rest, k, ho, h0, h1, h2, h3, hn, hg⟩ := opOf_spec hop rfl
    refine hg (fun a ha => ?_)
    rw [hn] at hk
    refine Goes.oper ho (wanted_eq ha h0) ?_
    unfold Oper.wp
    rw [exec_eq ha h1 h2, hr]
    have := (⟨by show d :: a.defers = d :: ds; rw [ha.defers], ha.size, ha.get⟩ : Fits { a with defers := d :: a.defers } n l { defers := d :: ds })
    exact hk.go _ (this.put _ _ h3)
  · cases h
/-- the end, with calls put off -/
def rtL (P : Program) (n : Nat) (w : World) (i : Nat) (s : St) : Option (List Prop × World × Sl) :=
  match adv P n i s w with
  | some r => match r.k with
    | .code .ret :: _ => some (r.obs, r.w, r.l)
    | [] => some (r.obs, r.w, r.l)
    | _ => none
  | none => none
theorem leave_goes {fn : Func} (hf : P.funcs[f]? = some fn) (hs : ∀ (b : Frame) cs, b.fn = f → step P (lone (b.at a k) cs w) = .next (lone { b.at a k' with mode := .returning } cs w)) (h : Leaves P fn a.tmps R a.defers .returning w) : Goes P f R k a w := by
  intro b cs hb hk
  obtain ⟨e', w'', fr', hR, hc, hfn, hl⟩ := leaves_steps (P := P) (fn := fn) (tmps := a.tmps) (R := R) a.defers .returning w { b.at a k' with mode := .returning } cs rfl rfl rfl (by show P.funcs[b.fn]? = _; rw [hb]; exact hf) hk h
  exact ⟨e', w'', fr', hR, hc.of_steps (.one (hs b cs hb)), hfn.trans hb, .inl ⟨rfl, hl⟩⟩
theorem xrd (i : Nat) {fn : Func} {ds : List Deferred} (l : Sl) (hf : P.funcs[f]? = some fn) (hL : Lv P fn R n (keep l (fsts l)) { defers := ds } .returning w) (h : (rtL P n w i s).map (fun r => (r.1, r.2.1, keep r.2.2 (fsts l))) = some ([], w, keep l (fsts l)) := by kernel_rfl) : GoX P f R n s w { defers := ds } := by
  unfold rtL at h
  cases hr : adv P n i s w with
  | none => rw [hr] at h; cases h
  | some r =>
    rw [hr] at h
    have hr' := hr
    unfold adv at hr'
    simp only at h
    split at h
    · rename_i k hk
      simp only [Option.map_some, Option.some.injEq, Prod.mk.injEq] at h
      obtain ⟨ho, rfl, hl⟩ := h
      refine ⟨run_goes hr' (by rw [ho]; exact trivial) ?_⟩
      rw [hk]
      intro a ha
      have ha' := ha.keep (fsts l)
      rw [hl] at ha'
      exact leave_goes (k' := .code .ret :: k) hf (fun b cs _ => step_ret) (hL a ha')
    · rename_i hk
      simp only [Option.map_some, Option.some.injEq, Prod.mk.injEq] at h
      obtain ⟨ho, rfl, hl⟩ := h
      refine ⟨run_goes hr' (by rw [ho]; exact trivial) ?_⟩
      rw [hk]
      intro a ha
      have ha' := ha.keep (fsts l)
      rw [hl] at ha'
      exact leave_goes (k' := []) hf (fun b cs _ => step_end) (hL a ha')
    · cases h

/-! ### a deferred call that may take a panic back -/
/-- from here a deferred call comes to an end; its caller's mode is u now -/
def GoR (P : Program) (f : FuncId) (Q : Ending → FrameMode → World → Prop) (n : Nat) (u : FrameMode) (k : List Item) (l : Sl) (w : World) : Prop :=
  ∀ a, Fits a n l { kind := .deferred } → ∀ (b c : Frame) (cs : List Frame), b.fn = f → b.kind = .deferred → b.roundOf = none → c.mode = u →
    ∃ e u' w' fr, Q e u' w' ∧ Comes P (lone (b.at a k) (c :: cs) w) (lone fr ({ c with mode := u' } :: cs) w') e ∧ fr.kind = .deferred ∧ fr.going P w' e
theorem callsD_of {fn : Func} {args : Array Value} {u : FrameMode} {Q : Ending → FrameMode → World → Prop} (n : Nat) (hf : P.funcs[f]? = some fn) (h : GoR P f Q n u [.code (cd fn)] (initS args.toList 0) w)
    (hb : fn.body = some (cd fn) := by kernel_rfl) (hn : fn.ntmps = n := by kernel_rfl) (hsz : Nat.ble args.size n = true := by kernel_rfl) : CallsD P f args u w Q := by
  intro c cs hu
  let b : Frame := { (default : Frame) with fn := f, kind := .deferred }
  have henter : Frame.enter P f args .deferred =
      b.at { tmps := args ++ Array.replicate (fn.ntmps - args.size) undef, defers := [] } [.code (cd fn)] := by
    simp [Frame.enter, Frame.at, hf, hb, b]
  have hfit : Fits { tmps := args ++ Array.replicate (fn.ntmps - args.size) undef, defers := [] } n (initS args.toList 0) { kind := .deferred } := by
    refine ⟨rfl, ?_, fun t v hv => ?_⟩
    · have := Nat.le_of_ble_eq_true hsz
      simp [hn]; omega
    · obtain ⟨-, h2⟩ := look_init hv
      have h3 : t < args.toList.length := (List.getElem?_eq_some_iff.1 h2).1
      simp only [Array.length_toList] at h3
      simp only [Nat.sub_zero, Array.getElem?_toList] at h2
      show (args ++ Array.replicate (fn.ntmps - args.size) undef).getD t undef = v
      rw [Array.getD_eq_getD_getElem?, Array.getElem?_append_left h3, h2]
      rfl
  obtain ⟨e, u', w', fr, hQ, hc, hk, hg⟩ := h _ hfit b c cs rfl rfl rfl hu
  exact ⟨e, u', w', fr, hQ, henter ▸ hc, hk, hg⟩
theorem GoR.plain {Q : Ending → FrameMode → World → Prop} {u : FrameMode} {l : Sl} (h : GoS P f R n k l w { kind := .deferred }) (hq : ∀ e w', R e w' → Q e u w') : GoR P f Q n u k l w := by
  intro a ha b c cs hb hk hr hu
  obtain ⟨e, w', fr, hR, hc, hfn, hl⟩ := h a ha b (c :: cs) hb hk
  have e1 : ({ c with mode := u } : Frame) = c := by subst hu; rfl
  rcases hl with ⟨h0, _⟩ | ⟨h1, h2⟩
  · cases h0
  · exact ⟨e, u, w', fr, hq _ _ hR, by rw [e1]; exact hc, h1, h2⟩
theorem GoR.step {Q : Ending → FrameMode → World → Prop} {u : FrameMode} {l : Sl} (hs : ∀ (b : Frame) a cs, Go.step P (lone (b.at a k) cs w) = .next (lone (b.at a k') cs w)) (h : GoR P f Q n u k' l w) : GoR P f Q n u k l w := by
  intro a ha b c cs hb hk hr hu
  obtain ⟨e, u', w', fr, hQ, hc, hl⟩ := h a ha b c cs hb hk hr hu
  exact ⟨e, u', w', fr, hQ, hc.of_steps (.one (hs b a (c :: cs))), hl⟩
theorem GoR.taken {Q : Ending → FrameMode → World → Prop} {l : Sl} {ops : Array Oper} {i : Nat} {rest : List Nat} {o : Oper} {v : Value} {older : List PanicEntry} (ho : ops[i]? = some o) (h0 : wantedS ops l o = some true) (h1 : known l o.op.operands.toList = true) (h2 : noSel o.op = true) (h3 : inB n o.dst = true)
    (hr : (execOp (rho l) o).run P w = .ok .recover w) (h : GoR P f Q n (.panicking ({ v, recovered := true } :: older)) (.inRegion ops rest :: k) (putS l o.dst v) w) : GoR P f Q n (.panicking ({ v, recovered := false } :: older)) (.inRegion ops (i :: rest) :: k) l w := by
  intro a ha b c cs hb hk hro hu
  have hr' : (execOp a.eval o).run P w = .ok .recover w := by rw [exec_eq ha h1 h2]; exact hr
  obtain ⟨e, u', w', fr, hQ, hc, hl⟩ := h _ (ha.put _ _ h3) b { c with mode := .panicking ({ v, recovered := true } :: older) } cs hb hk hro rfl
  refine ⟨e, u', w', fr, hQ, hc.of_steps (.one (step_lone_go ?_)), hl⟩
  have hg := stepG_op (P := P) (b := b) (k := k) (cs := c :: cs) (w := w) (rest := rest) ho (wanted_eq ha h0)
  have hfin : ∀ v, (b.at a (.inRegion ops (i :: rest) :: k)).finish v = b.at (a.put o.dst v) (.inRegion ops rest :: k) := by
    intro v; rw [Frame.finish_at, ho]; rfl
  have hkd : (b.at a (.inRegion ops (i :: rest) :: k)).kind = .deferred := hk
  have htr := tryRecover_deferred hkd (c :: cs)
  have hrec : recoverD (c :: cs) = some (v, { c with mode := .panicking ({ v, recovered := true } :: older) } :: cs) := by
    simp [recoverD, hu]
  rw [hg, ← hfin]
  simp only [Frame.at] at htr ⊢
  simp [stepG.apply, hr', htr, hrec]
theorem GoR.none {Q : Ending → FrameMode → World → Prop} {l : Sl} {ops : Array Oper} {i : Nat} {rest : List Nat} {o : Oper} (ho : ops[i]? = some o) (h0 : wantedS ops l o = some true) (h1 : known l o.op.operands.toList = true) (h2 : noSel o.op = true) (h3 : inB n o.dst = true)
    (hr : (execOp (rho l) o).run P w = .ok .recover w) (h : GoR P f Q n .returning (.inRegion ops rest :: k) (putS l o.dst .nilIface) w) : GoR P f Q n .returning (.inRegion ops (i :: rest) :: k) l w := by
  intro a ha b c cs hb hk hro hu
  have hr' : (execOp a.eval o).run P w = .ok .recover w := by rw [exec_eq ha h1 h2]; exact hr
  obtain ⟨e, u', w', fr, hQ, hc, hl⟩ := h _ (ha.put _ _ h3) b c cs hb hk hro hu
  refine ⟨e, u', w', fr, hQ, hc.of_steps (.one (step_lone_go ?_)), hl⟩
  have hg := stepG_op (P := P) (b := b) (k := k) (cs := c :: cs) (w := w) (rest := rest) ho (wanted_eq ha h0)
  have hfin : ∀ v, (b.at a (.inRegion ops (i :: rest) :: k)).finish v = b.at (a.put o.dst v) (.inRegion ops rest :: k) := by
    intro v; rw [Frame.finish_at, ho]; rfl
  have hkd : (b.at a (.inRegion ops (i :: rest) :: k)).kind = .deferred := hk
  have htr := tryRecover_deferred hkd (c :: cs)
  have hrec : recoverD (c :: cs) = Option.none := by simp [recoverD, hu]
  rw [hg, ← hfin]
  simp only [Frame.at] at htr ⊢
  simp [stepG.apply, hr', htr, hrec]
/-- the end of a deferred frame -/
theorem xrk (i : Nat) {fn : Func} {v : Value} (hf : P.funcs[f]? = some fn) (hR : R (.returned v) w) (h : rt P n w i fn s = some ([], w, some v) := by kernel_rfl) : GoX P f R n s w { kind := .deferred } := by
  unfold rt at h
  split at h
  · rename_i r hr
    unfold adv at hr
    split at h
    · rename_i k hk
      simp only [Option.some.injEq, Prod.mk.injEq] at h
      obtain ⟨ho, rfl, hv⟩ := h
      refine ⟨run_goes hr (by rw [ho]; exact trivial) ?_⟩
      rw [hk]
      exact GoS.ret hf hv hR
    · rename_i hk
      simp only [Option.some.injEq, Prod.mk.injEq] at h
      obtain ⟨ho, rfl, hv⟩ := h
      refine ⟨run_goes hr (by rw [ho]; exact trivial) ?_⟩
      rw [hk]
      exact GoS.fin hf hv hR
    · cases h
  · cases h
end
end Go.Gw


namespace Go.Gw
set_option linter.unusedVariables false
set_option linter.unusedSimpArgs false
section
variable {P : Program} {f : FuncId} {R : Ending → World → Prop} {w w' w0 w1 : World} {n : Nat} {s : St}

def slE (P : Program) (n : Nat) (w : World) (i : Nat) (s : St) : Sl := match adv P n i s w with
  | some r => r.l
  | none => []
def rtC (P : Program) (n : Nat) (w : World) (i : Nat) (s : St) : Option (List Prop × World) :=
  match adv P n i s w with
  | some r => match r.k with
    | .code .ret :: _ => some (r.obs, r.w)
    | [] => some (r.obs, r.w)
    | _ => none
  | none => none
/-- the end, the results in variables -/
theorem xrc (i : Nat) {fn : Func} {rs : List ResultVar} {vs : List Value} {v : Value} {post : Ending → World → Prop} (hf : P.funcs[f]? = some fn) (h : ResC P w (slE P n w i s) rs vs) (hR : R = post) (hp : post (.returned v) w)
    (hv : v = oneOf vs := by rfl) (he : fn.results.toList = rs := by kernel_rfl) (hc : rtC P n w i s = some ([], w) := by kernel_rfl) : GoX P f R n s w := by
  unfold rtC at hc
  unfold slE at h
  split at hc
  · rename_i r hr
    rw [hr] at h
    simp only at h
    unfold adv at hr
    split at hc
    · rename_i k hk
      simp only [Option.some.injEq, Prod.mk.injEq] at hc
      obtain ⟨ho, rfl⟩ := hc
      refine ⟨run_goes hr (by rw [ho]; exact trivial) ?_⟩
      rw [hk]
      exact GoS.retC vs hf he h hv (hR ▸ hp)
    · rename_i hk
      simp only [Option.some.injEq, Prod.mk.injEq] at hc
      obtain ⟨ho, rfl⟩ := hc
      refine ⟨run_goes hr (by rw [ho]; exact trivial) ?_⟩
      rw [hk]
      exact GoS.finC vs hf he h hv (hR ▸ hp)
    · cases hc
  · cases hc

/-- a variable's row lent, and taken back -/
theorem Mem.lend1 {S : List Nat} {L : List Row} {T : TypeId} {k b : Nat} {xs : List Value} (h : Mem S w0 w (⟨T, k, obj b, 1, xs⟩ :: L)) : Mem [b] w w [⟨T, k, obj b, 1, xs⟩] := Mem.lend (R := [⟨T, k, obj b, 1, xs⟩]) (L := L) h
theorem Mem.back1 {S : List Nat} {L R : List Row} {T : TypeId} {k b : Nat} {xs : List Value} (h : Mem S w0 w (⟨T, k, obj b, 1, xs⟩ :: L)) (c : Mem [b] w w' R) : Mem S w0 w' (R ++ L) := Mem.back (R := [⟨T, k, obj b, 1, xs⟩]) (L := L) h c
theorem Mem.none {S : List Nat} {L : List Row} (h : Mem S w0 w L) : Mem S w0 w [] := h.sub sN

/-- gives a value of a kind, or a panic that tells a place -/
abbrev Pst {α : Type} (flt : Nat → List PanicEntry) (spec : Except Nat α) (Q : α → Value → World → Prop) (b : Nat) (w : World) : Ending → World → Prop := fun e w' =>
  (∃ a v, spec = .ok a ∧ e = .returned v ∧ Q a v w') ∨ (∃ k, spec = .error k ∧ e = .panicked (flt k) ∧ Mem [b] w w' [])
theorem xkp (i : Nat) {fn : Func} {g : FuncId} {args : Array Value} {α : Type} {flt : Nat → List PanicEntry} {spec : Except Nat α} {Q : α → Value → World → Prop} {b : Nat} (hf : P.funcs[f]? = some fn) (hc : Calls P g args w (Pst flt spec Q b w))
    (he : ∀ k w', spec = .error k → Mem [b] w w' [] → R (.panicked (flt k)) w') (hk : ∀ a v w', spec = .ok a → Q a v w' → GoX P f R n (nx P n w i v s) w') (h : cl P n w i s = some ([], w, g, args, w) := by kernel_rfl) : GoX P f R n s w :=
  xcp i hf hc (fun e w' hT => hT.elim (fun ⟨a, v, h1, h2, h3⟩ => .inl ⟨v, h2, hk a v w' h1 h3⟩) (fun ⟨k, h1, h2, h3⟩ => .inr ⟨_, h2, he k w' h1 h3⟩)) h
/-- a call that surely ends by a panic -/
theorem xkd (i : Nat) {fn : Func} {g : FuncId} {args : Array Value} {ch : List PanicEntry} {Q : World → Prop} (hf : P.funcs[f]? = some fn) (hc : Calls P g args w (fun e w' => e = .panicked ch ∧ Q w')) (hk : ∀ w', Q w' → R (.panicked ch) w') (h : cl P n w i s = some ([], w, g, args, w) := by kernel_rfl) : GoX P f R n s w :=
  xcp i hf hc (fun e w' hT => .inr ⟨ch, hT.1, hk w' hT.2⟩) h
end
end Go.Gw


namespace Go.Proofs.YthpodbngljfdmaaGreatDoor
open Go Go.Gw Go.UtfP Go.TokP Go.RowKit
set_option linter.unusedVariables false
set_option linter.unusedSimpArgs false
set_option maxRecDepth 20000

abbrev uUtfC0 : List Nat := [1,0,0,1,1,1,1,1]
set_option maxHeartbeats 400000 in
theorem whole_c (c : Int) (w : World) :
  Calls Tryz.prog 110 #[.int .i64 c] w (fun e w' => e = .returned (.bool (whole c)) ∧ w = w') := by
 refine xe 17 Tryz.func110 (fun R hR => ?_)
 refine xfc 9 5 (c ≥ 0) (fun h1p => ?_) (fun h1p => ?_)
 ·
  refine xfc 4 9 (c ≤ 1114111) (fun h2p => ?_) (fun h2p => ?_)
  ·
   refine xfc 3 12 (c < 55296) (fun h3p => ?_) (fun h3p => ?_)
   ·
    exact xr 6 (v := .bool true) Tryz.func110 hR ⟨ret_bool (by rw [Bool.eq_iff_iff]; simp [whole]; try omega), rfl⟩
   ·
    exact xr 6 (v := .bool (decide (c > 57343))) Tryz.func110 hR ⟨ret_bool (by rw [Bool.eq_iff_iff]; simp [whole]; try omega), rfl⟩
  ·
   exact xr 9 (v := .bool false) Tryz.func110 hR ⟨ret_bool (by rw [Bool.eq_iff_iff]; simp [whole]; try omega), rfl⟩
 ·
  exact xr 13 (v := .bool false) Tryz.func110 hR ⟨ret_bool (by rw [Bool.eq_iff_iff]; simp [whole]; try omega), rfl⟩

set_option maxHeartbeats 400000 in
theorem letter_c (c : Int) (w : World) :
  Calls Tryz.prog 83 #[.int .i64 c] w (fun e w' => e = .returned (.bool (letter c)) ∧ w = w') := by
 refine xe 56 Tryz.func83 (fun R hR => ?_)
 have J2 : GoS Tryz.prog 83 R 56 [.inRegion (cops (csub (cd Tryz.f83) [1,0,0,0,0])) [], iC Tryz.f83 [1,0,0,0,1], iC Tryz.f83 [1,0,0,1], .inBlock 0, iC Tryz.f83 [1,1]] [(0, .int .i64 c), (3, .bool ((decide (c ≥ 97)) && (decide (c ≤ 122))))] w := by
  refine xs ?_
  have J9 : GoS Tryz.prog 83 R 56 [iC Tryz.f83 [1,0,0,1], .inBlock 0, iC Tryz.f83 [1,1]] [(0, .int .i64 c), (3, .bool (bif ((decide (c ≥ 97)) && (decide (c ≤ 122))) then ((decide (c ≥ 97)) && (decide (c ≤ 122))) else (bif ((decide (c ≥ 65)) && (decide (c ≤ 90))) then ((decide (c ≥ 65)) && (decide (c ≤ 90))) else ((decide (c ≥ 48)) && (decide (c ≤ 57))))))] w := by
   refine xs ?_
   refine xb 0 (bif ((decide (c ≥ 97)) && (decide (c ≤ 122))) then ((decide (c ≥ 97)) && (decide (c ≤ 122))) else (bif ((decide (c ≥ 65)) && (decide (c ≤ 90))) then ((decide (c ≥ 65)) && (decide (c ≤ 90))) else ((decide (c ≥ 48)) && (decide (c ≤ 57))))) (fun h10 => ?_) (fun h10 => ?_)
   ·
    have h10p : (((c ≥ 97) ∧ (c ≤ 122)) ∧ ((c ≥ 97) ∧ (c ≤ 122))) ∨ (¬ ((c ≥ 97) ∧ (c ≤ 122)) ∧ ((((c ≥ 65) ∧ (c ≤ 90)) ∧ ((c ≥ 65) ∧ (c ≤ 90))) ∨ (¬ ((c ≥ 65) ∧ (c ≤ 90)) ∧ ((c ≥ 48) ∧ (c ≤ 57))))) := (p_ibif (p_iand (@decide_eq_true_iff (c ≥ 97) _) (@decide_eq_true_iff (c ≤ 122) _)) (p_iand (@decide_eq_true_iff (c ≥ 97) _) (@decide_eq_true_iff (c ≤ 122) _)) (p_ibif (p_iand (@decide_eq_true_iff (c ≥ 65) _) (@decide_eq_true_iff (c ≤ 90) _)) (p_iand (@decide_eq_true_iff (c ≥ 65) _) (@decide_eq_true_iff (c ≤ 90) _)) (p_iand (@decide_eq_true_iff (c ≥ 48) _) (@decide_eq_true_iff (c ≤ 57) _)))).1 h10
    exact xr 4 (v := .bool true) Tryz.func83 hR ⟨ret_bool (letter_t (by unfold LetterP; omega)), rfl⟩
   ·
    have h10p : ¬ ((((c ≥ 97) ∧ (c ≤ 122)) ∧ ((c ≥ 97) ∧ (c ≤ 122))) ∨ (¬ ((c ≥ 97) ∧ (c ≤ 122)) ∧ ((((c ≥ 65) ∧ (c ≤ 90)) ∧ ((c ≥ 65) ∧ (c ≤ 90))) ∨ (¬ ((c ≥ 65) ∧ (c ≤ 90)) ∧ ((c ≥ 48) ∧ (c ≤ 57)))))) := p_no (p_ibif (p_iand (@decide_eq_true_iff (c ≥ 97) _) (@decide_eq_true_iff (c ≤ 122) _)) (p_iand (@decide_eq_true_iff (c ≥ 97) _) (@decide_eq_true_iff (c ≤ 122) _)) (p_ibif (p_iand (@decide_eq_true_iff (c ≥ 65) _) (@decide_eq_true_iff (c ≤ 90) _)) (p_iand (@decide_eq_true_iff (c ≥ 65) _) (@decide_eq_true_iff (c ≤ 90) _)) (p_iand (@decide_eq_true_iff (c ≥ 48) _) (@decide_eq_true_iff (c ≤ 57) _)))) h10
    have J14 : GoS Tryz.prog 83 R 56 [.inRegion (cops (csub (cd Tryz.f83) [1,0,0,1,1,0])) [], iC Tryz.f83 [1,0,0,1,1,1], .inBlock 0, iC Tryz.f83 [1,1]] [(0, .int .i64 c), (22, .bool ((c == 215) || ((c == 247) || ((c == 894) || (c == 1154)))))] w := by
     refine xs ?_
     refine xb 1 ((c == 215) || ((c == 247) || ((c == 894) || (c == 1154)))) (fun h15 => ?_) (fun h15 => ?_)
     ·
      have h15p : (c = 215) ∨ ((c = 247) ∨ ((c = 894) ∨ (c = 1154))) := (p_ior (@beq_iff_eq _ _ _ (c) (215)) (p_ior (@beq_iff_eq _ _ _ (c) (247)) (p_ior (@beq_iff_eq _ _ _ (c) (894)) (@beq_iff_eq _ _ _ (c) (1154))))).1 h15
      exact xr 4 (v := .bool false) Tryz.func83 hR ⟨ret_bool (letter_f (by unfold LetterP; omega)), rfl⟩
     ·
      have h15p : ¬ (c = 215) := p_ne (p_orl h15)
      have h15p1 : ¬ (c = 247) := p_ne (p_orl (p_orr h15))
      have h15p2 : ¬ (c = 894) := p_ne (p_orl (p_orr (p_orr h15)))
      have h15p3 : ¬ (c = 1154) := p_ne (p_orr (p_orr (p_orr h15)))
      have J17 : GoS Tryz.prog 83 R 56 [.inRegion (cops (csub (cd Tryz.f83) [1,0,0,1,1,1,1,0,0])) [], iC Tryz.f83 [1,0,0,1,1,1,1,0,1], iC Tryz.f83 uUtfC0, .inBlock 0, iC Tryz.f83 [1,1]] [(0, .int .i64 c), (37, .bool ((decide (c ≥ 192)) && (decide (c ≤ 591))))] w := by
       refine xs ?_
       have J24 : GoS Tryz.prog 83 R 56 [iC Tryz.f83 uUtfC0, .inBlock 0, iC Tryz.f83 [1,1]] [(37, .bool (bif ((decide (c ≥ 192)) && (decide (c ≤ 591))) then ((decide (c ≥ 192)) && (decide (c ≤ 591))) else (bif ((decide (c ≥ 880)) && (decide (c ≤ 1327))) then ((decide (c ≥ 880)) && (decide (c ≤ 1327))) else ((decide (c ≥ 19968)) && (decide (c ≤ 40959))))))] w := by
        refine xs ?_
        refine xb 0 (bif ((decide (c ≥ 192)) && (decide (c ≤ 591))) then ((decide (c ≥ 192)) && (decide (c ≤ 591))) else (bif ((decide (c ≥ 880)) && (decide (c ≤ 1327))) then ((decide (c ≥ 880)) && (decide (c ≤ 1327))) else ((decide (c ≥ 19968)) && (decide (c ≤ 40959))))) (fun h25 => ?_) (fun h25 => ?_)
        ·
         have h25p : (((c ≥ 192) ∧ (c ≤ 591)) ∧ ((c ≥ 192) ∧ (c ≤ 591))) ∨ (¬ ((c ≥ 192) ∧ (c ≤ 591)) ∧ ((((c ≥ 880) ∧ (c ≤ 1327)) ∧ ((c ≥ 880) ∧ (c ≤ 1327))) ∨ (¬ ((c ≥ 880) ∧ (c ≤ 1327)) ∧ ((c ≥ 19968) ∧ (c ≤ 40959))))) := (p_ibif (p_iand (@decide_eq_true_iff (c ≥ 192) _) (@decide_eq_true_iff (c ≤ 591) _)) (p_iand (@decide_eq_true_iff (c ≥ 192) _) (@decide_eq_true_iff (c ≤ 591) _)) (p_ibif (p_iand (@decide_eq_true_iff (c ≥ 880) _) (@decide_eq_true_iff (c ≤ 1327) _)) (p_iand (@decide_eq_true_iff (c ≥ 880) _) (@decide_eq_true_iff (c ≤ 1327) _)) (p_iand (@decide_eq_true_iff (c ≥ 19968) _) (@decide_eq_true_iff (c ≤ 40959) _)))).1 h25
         exact xr 4 (v := .bool true) Tryz.func83 hR ⟨ret_bool (letter_t (by unfold LetterP; omega)), rfl⟩
        ·
         have h25p : ¬ ((((c ≥ 192) ∧ (c ≤ 591)) ∧ ((c ≥ 192) ∧ (c ≤ 591))) ∨ (¬ ((c ≥ 192) ∧ (c ≤ 591)) ∧ ((((c ≥ 880) ∧ (c ≤ 1327)) ∧ ((c ≥ 880) ∧ (c ≤ 1327))) ∨ (¬ ((c ≥ 880) ∧ (c ≤ 1327)) ∧ ((c ≥ 19968) ∧ (c ≤ 40959)))))) := p_no (p_ibif (p_iand (@decide_eq_true_iff (c ≥ 192) _) (@decide_eq_true_iff (c ≤ 591) _)) (p_iand (@decide_eq_true_iff (c ≥ 192) _) (@decide_eq_true_iff (c ≤ 591) _)) (p_ibif (p_iand (@decide_eq_true_iff (c ≥ 880) _) (@decide_eq_true_iff (c ≤ 1327) _)) (p_iand (@decide_eq_true_iff (c ≥ 880) _) (@decide_eq_true_iff (c ≤ 1327) _)) (p_iand (@decide_eq_true_iff (c ≥ 19968) _) (@decide_eq_true_iff (c ≤ 40959) _)))) h25
         exact xr 6 (v := .bool false) Tryz.func83 hR ⟨ret_bool (letter_f (by unfold LetterP; omega)), rfl⟩
       refine xb 1 ((decide (c ≥ 192)) && (decide (c ≤ 591))) (fun h18 => ?_) (fun h18 => ?_)
       ·
        have h18p : c ≥ 192 := of_decide_eq_true (p_andl h18)
        have h18p1 : c ≤ 591 := of_decide_eq_true (p_andr h18)
        exact xl 1 (l := [(37, .bool ((decide (c ≥ 192)) && (decide (c ≤ 591))))]) (GoS.cast (by first | (simp only [h18, cond_true, cond_false, Bool.true_and, Bool.false_and, Bool.true_or, Bool.false_or, Bool.not_true, Bool.not_false, Bool.and_true, Bool.and_false, Bool.or_true, Bool.or_false]) | (simp [h18])) J24)
       ·
        have h18p : ¬ ((c ≥ 192) ∧ (c ≤ 591)) := p_no (p_iand (@decide_eq_true_iff (c ≥ 192) _) (@decide_eq_true_iff (c ≤ 591) _)) h18
        have J20 : GoS Tryz.prog 83 R 56 [.inRegion (cops (csub (cd Tryz.f83) [1,0,0,1,1,1,1,0,1,1,0])) [], iC Tryz.f83 [1,0,0,1,1,1,1,0,1,1,1], iC Tryz.f83 uUtfC0, .inBlock 0, iC Tryz.f83 [1,1]] [(0, .int .i64 c), (37, .bool ((decide (c ≥ 880)) && (decide (c ≤ 1327))))] w := by
         refine xs ?_
         refine xb 1 ((decide (c ≥ 880)) && (decide (c ≤ 1327))) (fun h21 => ?_) (fun h21 => ?_)
         ·
          have h21p : c ≥ 880 := of_decide_eq_true (p_andl h21)
          have h21p1 : c ≤ 1327 := of_decide_eq_true (p_andr h21)
          exact xl 1 (l := [(37, .bool ((decide (c ≥ 880)) && (decide (c ≤ 1327))))]) (GoS.cast (by first | (simp only [h18, h21, cond_true, cond_false, Bool.true_and, Bool.false_and, Bool.true_or, Bool.false_or, Bool.not_true, Bool.not_false, Bool.and_true, Bool.and_false, Bool.or_true, Bool.or_false]) | (simp [h18, h21])) J24)
         ·
          have h21p : ¬ ((c ≥ 880) ∧ (c ≤ 1327)) := p_no (p_iand (@decide_eq_true_iff (c ≥ 880) _) (@decide_eq_true_iff (c ≤ 1327) _)) h21
          have J23 : GoS Tryz.prog 83 R 56 [.inRegion (cops (csub (cd Tryz.f83) [1,0,0,1,1,1,1,0,1,1,1,1])) [], iC Tryz.f83 uUtfC0, .inBlock 0, iC Tryz.f83 [1,1]] [(37, .bool ((decide (c ≥ 19968)) && (decide (c ≤ 40959))))] w := by
           refine xs ?_
           exact xl 1 (l := [(37, .bool ((decide (c ≥ 19968)) && (decide (c ≤ 40959))))]) (GoS.cast (by first | (simp only [h18, h21, cond_true, cond_false, Bool.true_and, Bool.false_and, Bool.true_or, Bool.false_or, Bool.not_true, Bool.not_false, Bool.and_true, Bool.and_false, Bool.or_true, Bool.or_false]) | (simp [h18, h21])) J24)
          refine xfc 4 52 (c ≥ 19968) (fun h22p => ?_) (fun h22p => ?_)
          ·
           have h22 : (decide (c ≥ 19968)) = true := decide_eq_true h22p
           exact xl 4 (l := [(37, .bool (decide (c ≤ 40959)))]) (GoS.cast (by first | (simp only [h22, cond_true, cond_false, Bool.true_and, Bool.false_and, Bool.true_or, Bool.false_or, Bool.not_true, Bool.not_false, Bool.and_true, Bool.and_false, Bool.or_true, Bool.or_false]) | (simp [h22])) J23)
          ·
           have h22 : (decide (c ≥ 19968)) = false := decide_eq_false h22p
           exact xl 4 (l := [(37, .bool false)]) (GoS.cast (by first | (simp only [h22, cond_true, cond_false, Bool.true_and, Bool.false_and, Bool.true_or, Bool.false_or, Bool.not_true, Bool.not_false, Bool.and_true, Bool.and_false, Bool.or_true, Bool.or_false]) | (simp [h22])) J23)
        refine xfc 5 46 (c ≥ 880) (fun h19p => ?_) (fun h19p => ?_)
        ·
         have h19 : (decide (c ≥ 880)) = true := decide_eq_true h19p
         exact xl 4 (l := [(0, .int .i64 c), (37, .bool (decide (c ≤ 1327)))]) (GoS.cast (by first | (simp only [h19, cond_true, cond_false, Bool.true_and, Bool.false_and, Bool.true_or, Bool.false_or, Bool.not_true, Bool.not_false, Bool.and_true, Bool.and_false, Bool.or_true, Bool.or_false]) | (simp [h19])) J20)
        ·
         have h19 : (decide (c ≥ 880)) = false := decide_eq_false h19p
         exact xl 4 (l := [(0, .int .i64 c), (37, .bool false)]) (GoS.cast (by first | (simp only [h19, cond_true, cond_false, Bool.true_and, Bool.false_and, Bool.true_or, Bool.false_or, Bool.not_true, Bool.not_false, Bool.and_true, Bool.and_false, Bool.or_true, Bool.or_false]) | (simp [h19])) J20)
      refine xfc 6 40 (c ≥ 192) (fun h16p => ?_) (fun h16p => ?_)
      ·
       have h16 : (decide (c ≥ 192)) = true := decide_eq_true h16p
       exact xl 4 (l := [(0, .int .i64 c), (37, .bool (decide (c ≤ 591)))]) (GoS.cast (by first | (simp only [h16, cond_true, cond_false, Bool.true_and, Bool.false_and, Bool.true_or, Bool.false_or, Bool.not_true, Bool.not_false, Bool.and_true, Bool.and_false, Bool.or_true, Bool.or_false]) | (simp [h16])) J17)
      ·
       have h16 : (decide (c ≥ 192)) = false := decide_eq_false h16p
       exact xl 4 (l := [(0, .int .i64 c), (37, .bool false)]) (GoS.cast (by first | (simp only [h16, cond_true, cond_false, Bool.true_and, Bool.false_and, Bool.true_or, Bool.false_or, Bool.not_true, Bool.not_false, Bool.and_true, Bool.and_false, Bool.or_true, Bool.or_false]) | (simp [h16])) J17)
    refine xfc 5 25 (c = 215) (fun h11p => ?_) (fun h11p => ?_)
    ·
     have h11 : (c == 215) = true := by simpa using h11p
     exact xl 12 (l := [(0, .int .i64 c), (22, .bool true)]) (GoS.cast (by first | (simp only [h11, cond_true, cond_false, Bool.true_and, Bool.false_and, Bool.true_or, Bool.false_or, Bool.not_true, Bool.not_false, Bool.and_true, Bool.and_false, Bool.or_true, Bool.or_false]) | (simp [h11])) J14)
    ·
     have h11 : (c == 215) = false := by simpa using h11p
     refine xfc 4 29 (c = 247) (fun h12p => ?_) (fun h12p => ?_)
     ·
      have h12 : (c == 247) = true := by simpa using h12p
      exact xl 8 (l := [(0, .int .i64 c), (22, .bool true)]) (GoS.cast (by first | (simp only [h11, h12, cond_true, cond_false, Bool.true_and, Bool.false_and, Bool.true_or, Bool.false_or, Bool.not_true, Bool.not_false, Bool.and_true, Bool.and_false, Bool.or_true, Bool.or_false]) | (simp [h11, h12])) J14)
     ·
      have h12 : (c == 247) = false := by simpa using h12p
      refine xfc 4 33 (c = 894) (fun h13p => ?_) (fun h13p => ?_)
      ·
       have h13 : (c == 894) = true := by simpa using h13p
       exact xl 4 (l := [(0, .int .i64 c), (22, .bool true)]) (GoS.cast (by first | (simp only [h11, h12, h13, cond_true, cond_false, Bool.true_and, Bool.false_and, Bool.true_or, Bool.false_or, Bool.not_true, Bool.not_false, Bool.and_true, Bool.and_false, Bool.or_true, Bool.or_false]) | (simp [h11, h12, h13])) J14)
      ·
       have h13 : (c == 894) = false := by simpa using h13p
       exact xl 4 (l := [(0, .int .i64 c), (22, .bool (c == 1154))]) (GoS.cast (by first | (simp only [h11, h12, h13, cond_true, cond_false, Bool.true_and, Bool.false_and, Bool.true_or, Bool.false_or, Bool.not_true, Bool.not_false, Bool.and_true, Bool.and_false, Bool.or_true, Bool.or_false]) | (simp [h11, h12, h13])) J14)
  refine xb 1 ((decide (c ≥ 97)) && (decide (c ≤ 122))) (fun h3 => ?_) (fun h3 => ?_)
  ·
   have h3p : c ≥ 97 := of_decide_eq_true (p_andl h3)
   have h3p1 : c ≤ 122 := of_decide_eq_true (p_andr h3)
   exact xl 1 (l := [(0, .int .i64 c), (3, .bool ((decide (c ≥ 97)) && (decide (c ≤ 122))))]) (GoS.cast (by first | (simp only [h3, cond_true, cond_false, Bool.true_and, Bool.false_and, Bool.true_or, Bool.false_or, Bool.not_true, Bool.not_false, Bool.and_true, Bool.and_false, Bool.or_true, Bool.or_false]) | (simp [h3])) J9)
  ·
   have h3p : ¬ ((c ≥ 97) ∧ (c ≤ 122)) := p_no (p_iand (@decide_eq_true_iff (c ≥ 97) _) (@decide_eq_true_iff (c ≤ 122) _)) h3
   have J5 : GoS Tryz.prog 83 R 56 [.inRegion (cops (csub (cd Tryz.f83) [1,0,0,0,1,1,0])) [], iC Tryz.f83 [1,0,0,0,1,1,1], iC Tryz.f83 [1,0,0,1], .inBlock 0, iC Tryz.f83 [1,1]] [(0, .int .i64 c), (3, .bool ((decide (c ≥ 65)) && (decide (c ≤ 90))))] w := by
    refine xs ?_
    refine xb 1 ((decide (c ≥ 65)) && (decide (c ≤ 90))) (fun h6 => ?_) (fun h6 => ?_)
    ·
     have h6p : c ≥ 65 := of_decide_eq_true (p_andl h6)
     have h6p1 : c ≤ 90 := of_decide_eq_true (p_andr h6)
     exact xl 1 (l := [(0, .int .i64 c), (3, .bool ((decide (c ≥ 65)) && (decide (c ≤ 90))))]) (GoS.cast (by first | (simp only [h3, h6, cond_true, cond_false, Bool.true_and, Bool.false_and, Bool.true_or, Bool.false_or, Bool.not_true, Bool.not_false, Bool.and_true, Bool.and_false, Bool.or_true, Bool.or_false]) | (simp [h3, h6])) J9)
    ·
     have h6p : ¬ ((c ≥ 65) ∧ (c ≤ 90)) := p_no (p_iand (@decide_eq_true_iff (c ≥ 65) _) (@decide_eq_true_iff (c ≤ 90) _)) h6
     have J8 : GoS Tryz.prog 83 R 56 [.inRegion (cops (csub (cd Tryz.f83) [1,0,0,0,1,1,1,1])) [], iC Tryz.f83 [1,0,0,1], .inBlock 0, iC Tryz.f83 [1,1]] [(0, .int .i64 c), (3, .bool ((decide (c ≥ 48)) && (decide (c ≤ 57))))] w := by
      refine xs ?_
      exact xl 1 (l := [(0, .int .i64 c), (3, .bool ((decide (c ≥ 48)) && (decide (c ≤ 57))))]) (GoS.cast (by first | (simp only [h3, h6, cond_true, cond_false, Bool.true_and, Bool.false_and, Bool.true_or, Bool.false_or, Bool.not_true, Bool.not_false, Bool.and_true, Bool.and_false, Bool.or_true, Bool.or_false]) | (simp [h3, h6])) J9)
     refine xfc 4 18 (c ≥ 48) (fun h7p => ?_) (fun h7p => ?_)
     ·
      have h7 : (decide (c ≥ 48)) = true := decide_eq_true h7p
      exact xl 4 (l := [(0, .int .i64 c), (3, .bool (decide (c ≤ 57)))]) (GoS.cast (by first | (simp only [h7, cond_true, cond_false, Bool.true_and, Bool.false_and, Bool.true_or, Bool.false_or, Bool.not_true, Bool.not_false, Bool.and_true, Bool.and_false, Bool.or_true, Bool.or_false]) | (simp [h7])) J8)
     ·
      have h7 : (decide (c ≥ 48)) = false := decide_eq_false h7p
      exact xl 4 (l := [(0, .int .i64 c), (3, .bool false)]) (GoS.cast (by first | (simp only [h7, cond_true, cond_false, Bool.true_and, Bool.false_and, Bool.true_or, Bool.false_or, Bool.not_true, Bool.not_false, Bool.and_true, Bool.and_false, Bool.or_true, Bool.or_false]) | (simp [h7])) J8)
   refine xfc 5 12 (c ≥ 65) (fun h4p => ?_) (fun h4p => ?_)
   ·
    have h4 : (decide (c ≥ 65)) = true := decide_eq_true h4p
    exact xl 4 (l := [(0, .int .i64 c), (3, .bool (decide (c ≤ 90)))]) (GoS.cast (by first | (simp only [h4, cond_true, cond_false, Bool.true_and, Bool.false_and, Bool.true_or, Bool.false_or, Bool.not_true, Bool.not_false, Bool.and_true, Bool.and_false, Bool.or_true, Bool.or_false]) | (simp [h4])) J5)
   ·
    have h4 : (decide (c ≥ 65)) = false := decide_eq_false h4p
    exact xl 4 (l := [(0, .int .i64 c), (3, .bool false)]) (GoS.cast (by first | (simp only [h4, cond_true, cond_false, Bool.true_and, Bool.false_and, Bool.true_or, Bool.false_or, Bool.not_true, Bool.not_false, Bool.and_true, Bool.and_false, Bool.or_true, Bool.or_false]) | (simp [h4])) J5)
 refine xfc 12 6 (c ≥ 97) (fun h1p => ?_) (fun h1p => ?_)
 ·
  have h1 : (decide (c ≥ 97)) = true := decide_eq_true h1p
  exact xl 4 (l := [(0, .int .i64 c), (3, .bool (decide (c ≤ 122)))]) (GoS.cast (by first | (simp only [h1, cond_true, cond_false, Bool.true_and, Bool.false_and, Bool.true_or, Bool.false_or, Bool.not_true, Bool.not_false, Bool.and_true, Bool.and_false, Bool.or_true, Bool.or_false]) | (simp [h1])) J2)
 ·
  have h1 : (decide (c ≥ 97)) = false := decide_eq_false h1p
  exact xl 4 (l := [(0, .int .i64 c), (3, .bool false)]) (GoS.cast (by first | (simp only [h1, cond_true, cond_false, Bool.true_and, Bool.false_and, Bool.true_or, Bool.false_or, Bool.not_true, Bool.not_false, Bool.and_true, Bool.and_false, Bool.or_true, Bool.or_false]) | (simp [h1])) J2)

set_option maxHeartbeats 400000 in
theorem fold_c (c : Int) (w : World) :
  Calls Tryz.prog 84 #[.int .i64 c] w (fun e w' => e = .returned (.int .i64 (fold c)) ∧ w = w') := by
 refine xe 51 Tryz.func84 (fun R hR => ?_)
 have J2 : GoS Tryz.prog 84 R 51 [.inRegion (cops (csub (cd Tryz.f84) [1,0,0,0,0])) [], iC Tryz.f84 [1,0,0,0,1], iC Tryz.f84 [1,0,0,1], .inBlock 0, iC Tryz.f84 [1,1]] [(0, .int .i64 c), (3, .bool ((decide (c ≥ 65)) && (decide (c ≤ 90))))] w := by
  refine xs ?_
  have J14 : GoS Tryz.prog 84 R 51 [iC Tryz.f84 [1,0,0,1], .inBlock 0, iC Tryz.f84 [1,1]] [(0, .int .i64 c), (3, .bool (bif ((decide (c ≥ 65)) && (decide (c ≤ 90))) then ((decide (c ≥ 65)) && (decide (c ≤ 90))) else (bif ((decide (c ≥ 192)) && ((decide (c ≤ 222)) && (c != 215))) then ((decide (c ≥ 192)) && ((decide (c ≤ 222)) && (c != 215))) else (bif ((decide (c ≥ 913)) && ((decide (c ≤ 937)) && (c != 930))) then ((decide (c ≥ 913)) && ((decide (c ≤ 937)) && (c != 930))) else ((decide (c ≥ 1040)) && (decide (c ≤ 1071)))))))] w := by
   refine xs ?_
   refine xb 0 (bif ((decide (c ≥ 65)) && (decide (c ≤ 90))) then ((decide (c ≥ 65)) && (decide (c ≤ 90))) else (bif ((decide (c ≥ 192)) && ((decide (c ≤ 222)) && (c != 215))) then ((decide (c ≥ 192)) && ((decide (c ≤ 222)) && (c != 215))) else (bif ((decide (c ≥ 913)) && ((decide (c ≤ 937)) && (c != 930))) then ((decide (c ≥ 913)) && ((decide (c ≤ 937)) && (c != 930))) else ((decide (c ≥ 1040)) && (decide (c ≤ 1071)))))) (fun h15 => ?_) (fun h15 => ?_)
   ·
    have h15p : (((c ≥ 65) ∧ (c ≤ 90)) ∧ ((c ≥ 65) ∧ (c ≤ 90))) ∨ (¬ ((c ≥ 65) ∧ (c ≤ 90)) ∧ ((((c ≥ 192) ∧ ((c ≤ 222) ∧ (¬ (c = 215)))) ∧ ((c ≥ 192) ∧ ((c ≤ 222) ∧ (¬ (c = 215))))) ∨ (¬ ((c ≥ 192) ∧ ((c ≤ 222) ∧ (¬ (c = 215)))) ∧ ((((c ≥ 913) ∧ ((c ≤ 937) ∧ (¬ (c = 930)))) ∧ ((c ≥ 913) ∧ ((c ≤ 937) ∧ (¬ (c = 930))))) ∨ (¬ ((c ≥ 913) ∧ ((c ≤ 937) ∧ (¬ (c = 930)))) ∧ ((c ≥ 1040) ∧ (c ≤ 1071))))))) := (p_ibif (p_iand (@decide_eq_true_iff (c ≥ 65) _) (@decide_eq_true_iff (c ≤ 90) _)) (p_iand (@decide_eq_true_iff (c ≥ 65) _) (@decide_eq_true_iff (c ≤ 90) _)) (p_ibif (p_iand (@decide_eq_true_iff (c ≥ 192) _) (p_iand (@decide_eq_true_iff (c ≤ 222) _) (@bne_iff_ne _ _ _ (c) (215)))) (p_iand (@decide_eq_true_iff (c ≥ 192) _) (p_iand (@decide_eq_true_iff (c ≤ 222) _) (@bne_iff_ne _ _ _ (c) (215)))) (p_ibif (p_iand (@decide_eq_true_iff (c ≥ 913) _) (p_iand (@decide_eq_true_iff (c ≤ 937) _) (@bne_iff_ne _ _ _ (c) (930)))) (p_iand (@decide_eq_true_iff (c ≥ 913) _) (p_iand (@decide_eq_true_iff (c ≤ 937) _) (@bne_iff_ne _ _ _ (c) (930)))) (p_iand (@decide_eq_true_iff (c ≥ 1040) _) (@decide_eq_true_iff (c ≤ 1071) _))))).1 h15
    refine xa 3 c 32 (c + 32) ?_
    exact xr 2 (v := .int .i64 (c + 32)) Tryz.func84 hR ⟨ret_int (by unfold fold UpP; (repeat' split) <;> omega), rfl⟩
   ·
    have h15p : ¬ ((((c ≥ 65) ∧ (c ≤ 90)) ∧ ((c ≥ 65) ∧ (c ≤ 90))) ∨ (¬ ((c ≥ 65) ∧ (c ≤ 90)) ∧ ((((c ≥ 192) ∧ ((c ≤ 222) ∧ (¬ (c = 215)))) ∧ ((c ≥ 192) ∧ ((c ≤ 222) ∧ (¬ (c = 215))))) ∨ (¬ ((c ≥ 192) ∧ ((c ≤ 222) ∧ (¬ (c = 215)))) ∧ ((((c ≥ 913) ∧ ((c ≤ 937) ∧ (¬ (c = 930)))) ∧ ((c ≥ 913) ∧ ((c ≤ 937) ∧ (¬ (c = 930))))) ∨ (¬ ((c ≥ 913) ∧ ((c ≤ 937) ∧ (¬ (c = 930)))) ∧ ((c ≥ 1040) ∧ (c ≤ 1071)))))))) := p_no (p_ibif (p_iand (@decide_eq_true_iff (c ≥ 65) _) (@decide_eq_true_iff (c ≤ 90) _)) (p_iand (@decide_eq_true_iff (c ≥ 65) _) (@decide_eq_true_iff (c ≤ 90) _)) (p_ibif (p_iand (@decide_eq_true_iff (c ≥ 192) _) (p_iand (@decide_eq_true_iff (c ≤ 222) _) (@bne_iff_ne _ _ _ (c) (215)))) (p_iand (@decide_eq_true_iff (c ≥ 192) _) (p_iand (@decide_eq_true_iff (c ≤ 222) _) (@bne_iff_ne _ _ _ (c) (215)))) (p_ibif (p_iand (@decide_eq_true_iff (c ≥ 913) _) (p_iand (@decide_eq_true_iff (c ≤ 937) _) (@bne_iff_ne _ _ _ (c) (930)))) (p_iand (@decide_eq_true_iff (c ≥ 913) _) (p_iand (@decide_eq_true_iff (c ≤ 937) _) (@bne_iff_ne _ _ _ (c) (930)))) (p_iand (@decide_eq_true_iff (c ≥ 1040) _) (@decide_eq_true_iff (c ≤ 1071) _))))) h15
    have J18 : GoS Tryz.prog 84 R 51 [.inRegion (cops (csub (cd Tryz.f84) [1,0,0,1,1,0])) [], iC Tryz.f84 [1,0,0,1,1,1], .inBlock 0, iC Tryz.f84 [1,1]] [(0, .int .i64 c), (38, .bool ((decide (c ≥ 1024)) && (decide (c ≤ 1039))))] w := by
     refine xs ?_
     refine xb 1 ((decide (c ≥ 1024)) && (decide (c ≤ 1039))) (fun h19 => ?_) (fun h19 => ?_)
     ·
      have h19p : c ≥ 1024 := of_decide_eq_true (p_andl h19)
      have h19p1 : c ≤ 1039 := of_decide_eq_true (p_andr h19)
      refine xa 3 c 80 (c + 80) ?_
      exact xr 2 (v := .int .i64 (c + 80)) Tryz.func84 hR ⟨ret_int (by unfold fold UpP; (repeat' split) <;> omega), rfl⟩
     ·
      have h19p : ¬ ((c ≥ 1024) ∧ (c ≤ 1039)) := p_no (p_iand (@decide_eq_true_iff (c ≥ 1024) _) (@decide_eq_true_iff (c ≤ 1039) _)) h19
      refine xc 6 (c = 962) (fun h21p => ?_) (fun h21p => ?_)
      ·
       exact xr 4 (v := .int .i64 963) Tryz.func84 hR ⟨ret_int (by unfold fold UpP; (repeat' split) <;> omega), rfl⟩
      ·
       exact xr 7 (v := .int .i64 c) Tryz.func84 hR ⟨ret_int (by unfold fold UpP; (repeat' split) <;> omega), rfl⟩
    refine xfc 5 41 (c ≥ 1024) (fun h17p => ?_) (fun h17p => ?_)
    ·
     have h17 : (decide (c ≥ 1024)) = true := decide_eq_true h17p
     exact xl 4 (l := [(0, .int .i64 c), (38, .bool (decide (c ≤ 1039)))]) (GoS.cast (by first | (simp only [h17, cond_true, cond_false, Bool.true_and, Bool.false_and, Bool.true_or, Bool.false_or, Bool.not_true, Bool.not_false, Bool.and_true, Bool.and_false, Bool.or_true, Bool.or_false]) | (simp [h17])) J18)
    ·
     have h17 : (decide (c ≥ 1024)) = false := decide_eq_false h17p
     exact xl 4 (l := [(0, .int .i64 c), (38, .bool false)]) (GoS.cast (by first | (simp only [h17, cond_true, cond_false, Bool.true_and, Bool.false_and, Bool.true_or, Bool.false_or, Bool.not_true, Bool.not_false, Bool.and_true, Bool.and_false, Bool.or_true, Bool.or_false]) | (simp [h17])) J18)
  refine xb 1 ((decide (c ≥ 65)) && (decide (c ≤ 90))) (fun h3 => ?_) (fun h3 => ?_)
  ·
   have h3p : c ≥ 65 := of_decide_eq_true (p_andl h3)
   have h3p1 : c ≤ 90 := of_decide_eq_true (p_andr h3)
   exact xl 1 (l := [(0, .int .i64 c), (3, .bool ((decide (c ≥ 65)) && (decide (c ≤ 90))))]) (GoS.cast (by first | (simp only [h3, cond_true, cond_false, Bool.true_and, Bool.false_and, Bool.true_or, Bool.false_or, Bool.not_true, Bool.not_false, Bool.and_true, Bool.and_false, Bool.or_true, Bool.or_false]) | (simp [h3])) J14)
  ·
   have h3p : ¬ ((c ≥ 65) ∧ (c ≤ 90)) := p_no (p_iand (@decide_eq_true_iff (c ≥ 65) _) (@decide_eq_true_iff (c ≤ 90) _)) h3
   have J6 : GoS Tryz.prog 84 R 51 [.inRegion (cops (csub (cd Tryz.f84) [1,0,0,0,1,1,0])) [], iC Tryz.f84 [1,0,0,0,1,1,1], iC Tryz.f84 [1,0,0,1], .inBlock 0, iC Tryz.f84 [1,1]] [(0, .int .i64 c), (3, .bool ((decide (c ≥ 192)) && ((decide (c ≤ 222)) && (c != 215))))] w := by
    refine xs ?_
    refine xb 1 ((decide (c ≥ 192)) && ((decide (c ≤ 222)) && (c != 215))) (fun h7 => ?_) (fun h7 => ?_)
    ·
     have h7p : c ≥ 192 := of_decide_eq_true (p_andl h7)
     have h7p1 : c ≤ 222 := of_decide_eq_true (p_andl (p_andr h7))
     have h7p2 : ¬ (c = 215) := bne_iff_ne.1 (p_andr (p_andr h7))
     exact xl 1 (l := [(0, .int .i64 c), (3, .bool ((decide (c ≥ 192)) && ((decide (c ≤ 222)) && (c != 215))))]) (GoS.cast (by first | (simp only [h3, h7, cond_true, cond_false, Bool.true_and, Bool.false_and, Bool.true_or, Bool.false_or, Bool.not_true, Bool.not_false, Bool.and_true, Bool.and_false, Bool.or_true, Bool.or_false]) | (simp [h3, h7])) J14)
    ·
     have h7p : ¬ ((c ≥ 192) ∧ ((c ≤ 222) ∧ (¬ (c = 215)))) := p_no (p_iand (@decide_eq_true_iff (c ≥ 192) _) (p_iand (@decide_eq_true_iff (c ≤ 222) _) (@bne_iff_ne _ _ _ (c) (215)))) h7
     have J10 : GoS Tryz.prog 84 R 51 [.inRegion (cops (csub (cd Tryz.f84) [1,0,0,0,1,1,1,1,0])) [], iC Tryz.f84 [1,0,0,0,1,1,1,1,1], iC Tryz.f84 [1,0,0,1], .inBlock 0, iC Tryz.f84 [1,1]] [(0, .int .i64 c), (3, .bool ((decide (c ≥ 913)) && ((decide (c ≤ 937)) && (c != 930))))] w := by
      refine xs ?_
      refine xb 1 ((decide (c ≥ 913)) && ((decide (c ≤ 937)) && (c != 930))) (fun h11 => ?_) (fun h11 => ?_)
      ·
       have h11p : c ≥ 913 := of_decide_eq_true (p_andl h11)
       have h11p1 : c ≤ 937 := of_decide_eq_true (p_andl (p_andr h11))
       have h11p2 : ¬ (c = 930) := bne_iff_ne.1 (p_andr (p_andr h11))
       exact xl 1 (l := [(0, .int .i64 c), (3, .bool ((decide (c ≥ 913)) && ((decide (c ≤ 937)) && (c != 930))))]) (GoS.cast (by first | (simp only [h3, h7, h11, cond_true, cond_false, Bool.true_and, Bool.false_and, Bool.true_or, Bool.false_or, Bool.not_true, Bool.not_false, Bool.and_true, Bool.and_false, Bool.or_true, Bool.or_false]) | (simp [h3, h7, h11])) J14)
      ·
       have h11p : ¬ ((c ≥ 913) ∧ ((c ≤ 937) ∧ (¬ (c = 930)))) := p_no (p_iand (@decide_eq_true_iff (c ≥ 913) _) (p_iand (@decide_eq_true_iff (c ≤ 937) _) (@bne_iff_ne _ _ _ (c) (930)))) h11
       have J13 : GoS Tryz.prog 84 R 51 [.inRegion (cops (csub (cd Tryz.f84) [1,0,0,0,1,1,1,1,1,1])) [], iC Tryz.f84 [1,0,0,1], .inBlock 0, iC Tryz.f84 [1,1]] [(0, .int .i64 c), (3, .bool ((decide (c ≥ 1040)) && (decide (c ≤ 1071))))] w := by
        refine xs ?_
        exact xl 1 (l := [(0, .int .i64 c), (3, .bool ((decide (c ≥ 1040)) && (decide (c ≤ 1071))))]) (GoS.cast (by first | (simp only [h3, h7, h11, cond_true, cond_false, Bool.true_and, Bool.false_and, Bool.true_or, Bool.false_or, Bool.not_true, Bool.not_false, Bool.and_true, Bool.and_false, Bool.or_true, Bool.or_false]) | (simp [h3, h7, h11])) J14)
       refine xfc 4 32 (c ≥ 1040) (fun h12p => ?_) (fun h12p => ?_)
       ·
        have h12 : (decide (c ≥ 1040)) = true := decide_eq_true h12p
        exact xl 4 (l := [(0, .int .i64 c), (3, .bool (decide (c ≤ 1071)))]) (GoS.cast (by first | (simp only [h12, cond_true, cond_false, Bool.true_and, Bool.false_and, Bool.true_or, Bool.false_or, Bool.not_true, Bool.not_false, Bool.and_true, Bool.and_false, Bool.or_true, Bool.or_false]) | (simp [h12])) J13)
       ·
        have h12 : (decide (c ≥ 1040)) = false := decide_eq_false h12p
        exact xl 4 (l := [(0, .int .i64 c), (3, .bool false)]) (GoS.cast (by first | (simp only [h12, cond_true, cond_false, Bool.true_and, Bool.false_and, Bool.true_or, Bool.false_or, Bool.not_true, Bool.not_false, Bool.and_true, Bool.and_false, Bool.or_true, Bool.or_false]) | (simp [h12])) J13)
     refine xfc 5 22 (c ≥ 913) (fun h8p => ?_) (fun h8p => ?_)
     ·
      have h8 : (decide (c ≥ 913)) = true := decide_eq_true h8p
      refine xfc 4 26 (c ≤ 937) (fun h9p => ?_) (fun h9p => ?_)
      ·
       have h9 : (decide (c ≤ 937)) = true := decide_eq_true h9p
       exact xl 4 (l := [(0, .int .i64 c), (3, .bool (c != 930))]) (GoS.cast (by first | (simp only [h8, h9, cond_true, cond_false, Bool.true_and, Bool.false_and, Bool.true_or, Bool.false_or, Bool.not_true, Bool.not_false, Bool.and_true, Bool.and_false, Bool.or_true, Bool.or_false]) | (simp [h8, h9])) J10)
      ·
       have h9 : (decide (c ≤ 937)) = false := decide_eq_false h9p
       exact xl 4 (l := [(0, .int .i64 c), (3, .bool false)]) (GoS.cast (by first | (simp only [h8, h9, cond_true, cond_false, Bool.true_and, Bool.false_and, Bool.true_or, Bool.false_or, Bool.not_true, Bool.not_false, Bool.and_true, Bool.and_false, Bool.or_true, Bool.or_false]) | (simp [h8, h9])) J10)
     ·
      have h8 : (decide (c ≥ 913)) = false := decide_eq_false h8p
      exact xl 8 (l := [(0, .int .i64 c), (3, .bool false)]) (GoS.cast (by first | (simp only [h8, cond_true, cond_false, Bool.true_and, Bool.false_and, Bool.true_or, Bool.false_or, Bool.not_true, Bool.not_false, Bool.and_true, Bool.and_false, Bool.or_true, Bool.or_false]) | (simp [h8])) J10)
   refine xfc 5 12 (c ≥ 192) (fun h4p => ?_) (fun h4p => ?_)
   ·
    have h4 : (decide (c ≥ 192)) = true := decide_eq_true h4p
    refine xfc 4 16 (c ≤ 222) (fun h5p => ?_) (fun h5p => ?_)
    ·
     have h5 : (decide (c ≤ 222)) = true := decide_eq_true h5p
     exact xl 4 (l := [(0, .int .i64 c), (3, .bool (c != 215))]) (GoS.cast (by first | (simp only [h4, h5, cond_true, cond_false, Bool.true_and, Bool.false_and, Bool.true_or, Bool.false_or, Bool.not_true, Bool.not_false, Bool.and_true, Bool.and_false, Bool.or_true, Bool.or_false]) | (simp [h4, h5])) J6)
    ·
     have h5 : (decide (c ≤ 222)) = false := decide_eq_false h5p
     exact xl 4 (l := [(0, .int .i64 c), (3, .bool false)]) (GoS.cast (by first | (simp only [h4, h5, cond_true, cond_false, Bool.true_and, Bool.false_and, Bool.true_or, Bool.false_or, Bool.not_true, Bool.not_false, Bool.and_true, Bool.and_false, Bool.or_true, Bool.or_false]) | (simp [h4, h5])) J6)
   ·
    have h4 : (decide (c ≥ 192)) = false := decide_eq_false h4p
    exact xl 8 (l := [(0, .int .i64 c), (3, .bool false)]) (GoS.cast (by first | (simp only [h4, cond_true, cond_false, Bool.true_and, Bool.false_and, Bool.true_or, Bool.false_or, Bool.not_true, Bool.not_false, Bool.and_true, Bool.and_false, Bool.or_true, Bool.or_false]) | (simp [h4])) J6)
 refine xfc 12 6 (c ≥ 65) (fun h1p => ?_) (fun h1p => ?_)
 ·
  have h1 : (decide (c ≥ 65)) = true := decide_eq_true h1p
  exact xl 4 (l := [(0, .int .i64 c), (3, .bool (decide (c ≤ 90)))]) (GoS.cast (by first | (simp only [h1, cond_true, cond_false, Bool.true_and, Bool.false_and, Bool.true_or, Bool.false_or, Bool.not_true, Bool.not_false, Bool.and_true, Bool.and_false, Bool.or_true, Bool.or_false]) | (simp [h1])) J2)
 ·
  have h1 : (decide (c ≥ 65)) = false := decide_eq_false h1p
  exact xl 4 (l := [(0, .int .i64 c), (3, .bool false)]) (GoS.cast (by first | (simp only [h1, cond_true, cond_false, Bool.true_and, Bool.false_and, Bool.true_or, Bool.false_or, Bool.not_true, Bool.not_false, Bool.and_true, Bool.and_false, Bool.or_true, Bool.or_false]) | (simp [h1])) J2)

set_option maxHeartbeats 400000 in
theorem rwhole_c (c : Int) (w : World) :
  Calls Tryz.prog 126 #[.int .i64 c] w (fun e w' => e = .returned (.bool (whole c)) ∧ w = w') := by
 refine xe 17 Tryz.func126 (fun R hR => ?_)
 refine xfc 9 5 (c ≥ 0) (fun h1p => ?_) (fun h1p => ?_)
 ·
  refine xfc 4 9 (c < 55296) (fun h2p => ?_) (fun h2p => ?_)
  ·
   exact xr 9 (v := .bool true) Tryz.func126 hR ⟨ret_bool (by rw [Bool.eq_iff_iff]; simp [whole]; try omega), rfl⟩
  ·
   refine xfc 3 12 (c > 57343) (fun h3p => ?_) (fun h3p => ?_)
   ·
    exact xr 6 (v := .bool (decide (c < 1114112))) Tryz.func126 hR ⟨ret_bool (by rw [Bool.eq_iff_iff]; simp [whole]; try omega), rfl⟩
   ·
    exact xr 6 (v := .bool false) Tryz.func126 hR ⟨ret_bool (by rw [Bool.eq_iff_iff]; simp [whole]; try omega), rfl⟩
 ·
  refine xfc 7 12 (c > 57343) (fun h4p => ?_) (fun h4p => ?_)
  ·
   exact xr 6 (v := .bool (decide (c < 1114112))) Tryz.func126 hR ⟨ret_bool (by rw [Bool.eq_iff_iff]; simp [whole]; try omega), rfl⟩
  ·
   exact xr 6 (v := .bool false) Tryz.func126 hR ⟨ret_bool (by rw [Bool.eq_iff_iff]; simp [whole]; try omega), rfl⟩


end Go.Proofs.YthpodbngljfdmaaGreatDoor


namespace Go.Proofs.YthpodbngljfdmaaGreatDoor
open Go Go.Gw Go.UtfP Go.TokP Go.RowKit
set_option linter.unusedVariables false
set_option linter.unusedSimpArgs false
set_option maxRecDepth 20000


set_option maxHeartbeats 400000 in
theorem first_c (s : List UInt8) (hs : 0 < s.length) (w : World) :
  Calls Tryz.prog 109 #[sS s] w (fun e w' => e = .returned (.tuple #[.int .i64 (firstP s).1, .int .i64 (firstP s).2]) ∧ w = w') := by
 refine xe 64 Tryz.func109 (fun R hR => ?_)
 have hb1 := bl_bd s 0
 refine xi 8 s 0 0 ?_
 refine xcv 0 .u8 .i64 (bl s 0) (bl s 0) (IntWalk.i64_in _ (by omega)) ?_
 refine xc 14 ((bl s 0) < 128) (fun h4p => ?_) (fun h4p => ?_)
 ·
  have e : firstP s = ((bl s 0), 1) := by
   unfold firstP
   rw [if_pos h4p]
  exact xr 6 (v := .tuple #[.int .i64 (bl s 0), .int .i64 1]) Tryz.func109 hR ⟨ret_int2 (by rw [e]) (by rw [e]), rfl⟩
 ·
  refine xc 6 ((bl s 0) < 192) (fun h5p => ?_) (fun h5p => ?_)
  ·
   have e : firstP s = (0, 0) := by
    unfold firstP
    rw [if_neg h4p]
    rw [if_pos h5p]
   exact xr 5 (v := .tuple #[.int .i64 0, .int .i64 0]) Tryz.func109 hR ⟨ret_int2 (by rw [e]) (by rw [e]), rfl⟩
  ·
   refine xc 6 ((bl s 0) < 224) (fun h6p => ?_) (fun h6p => ?_)
   ·
    refine xo 2 .and (.int .i64 (bl s 0)) (.int .i64 31) (v := .int .i64 ((bl s 0) % 32)) (fun _ => f_and (and_i64 _ 5 31 (by decide) (by decide))) ?_
    refine xn 10 s ?_
    refine xc 2 (2 > ((s.length : Nat) : Int)) (fun h13p => ?_) (fun h13p => ?_)
    ·
     have e : firstP s = (0, 0) := by
      unfold firstP
      rw [if_neg h4p]
      rw [if_neg h5p]
      rw [if_pos h6p]
      rw [if_pos (by first | exact Or.inl (by omega) | exact Or.inr (Or.inl (by omega)) | exact Or.inr (Or.inr (Or.inl (by omega))) | exact Or.inr (Or.inr (Or.inr (Or.inl (by omega)))) | exact Or.inr (Or.inr (Or.inr (Or.inr (Or.inl (by omega))))) | exact Or.inr (Or.inr (Or.inr (Or.inr (Or.inr (Or.inl (by omega)))))) | (simp_all; done))]
     exact xr 5 (v := .tuple #[.int .i64 0, .int .i64 0]) Tryz.func109 hR ⟨ret_int2 (by rw [e]) (by rw [e]), rfl⟩
    ·
     have hb14 := bl_bd s 1
     refine xi 24 s 1 1 ?_
     refine xo 0 .and (.int .u8 (bl s 1)) (.int .u8 192) (v := .int .u8 ((bl s 1) / 64 * 64)) (fun _ => f_and (and_c0 _ (by omega) (by omega))) ?_
     refine xcn 2 (((bl s 1) / 64 * 64) = 128) (fun h17p => ?_) (fun h17p => ?_)
     ·
      have e : firstP s = (0, 0) := by
       unfold firstP
       rw [if_neg h4p]
       rw [if_neg h5p]
       rw [if_pos h6p]
       rw [if_pos (by first | exact Or.inl (by omega) | exact Or.inr (Or.inl (by omega)) | exact Or.inr (Or.inr (Or.inl (by omega))) | exact Or.inr (Or.inr (Or.inr (Or.inl (by omega)))) | exact Or.inr (Or.inr (Or.inr (Or.inr (Or.inl (by omega))))) | exact Or.inr (Or.inr (Or.inr (Or.inr (Or.inr (Or.inl (by omega)))))) | (simp_all; done))]
      exact xr 5 (v := .tuple #[.int .i64 0, .int .i64 0]) Tryz.func109 hR ⟨ret_int2 (by rw [e]) (by rw [e]), rfl⟩
     ·
      refine xo 3 .shl (.int .i64 ((bl s 0) % 32)) (.int .u64 6) (v := .int .i64 (((bl s 0) % 32) * 64)) (fun _ => f_shl (by decide) (by rw [show min (Int.toNat 6) _ = 6 by decide, show (2 : Int) ^ 6 = 64 by decide]; exact IntWalk.i64_in _ (by omega))) ?_
      have hb18 := bl_bd s 1
      refine xi 2 s 1 1 ?_
      refine xo 0 .and (.int .u8 (bl s 1)) (.int .u8 63) (v := .int .u8 ((bl s 1) % 64)) (fun _ => f_and (and_u8 _ 6 63 (by decide) (by decide))) ?_
      refine xcv 0 .u8 .i64 ((bl s 1) % 64) ((bl s 1) % 64) (IntWalk.i64_in _ (by omega)) ?_
      refine xo 0 .or (.int .i64 (((bl s 0) % 32) * 64)) (.int .i64 ((bl s 1) % 64)) (v := .int .i64 ((((bl s 0) % 32) * 64) + ((bl s 1) % 64))) (fun _ => f_or (or_i64 6 64 (by decide) (by omega) (by omega) (by omega) (by omega) (by omega))) ?_
      refine xfc 25 57 (((((bl s 0) % 32) * 64) + ((bl s 1) % 64)) < 128) (fun h24p => ?_) (fun h24p => ?_)
      ·
       have e : firstP s = (0, 0) := by
        unfold firstP
        rw [if_neg h4p]
        rw [if_neg h5p]
        rw [if_pos h6p]
        rw [if_pos (by first | exact Or.inl (by omega) | exact Or.inr (Or.inl (by omega)) | exact Or.inr (Or.inr (Or.inl (by omega))) | exact Or.inr (Or.inr (Or.inr (Or.inl (by omega)))) | exact Or.inr (Or.inr (Or.inr (Or.inr (Or.inl (by omega))))) | exact Or.inr (Or.inr (Or.inr (Or.inr (Or.inr (Or.inl (by omega)))))) | (simp_all; done))]
       exact xr 11 (v := .tuple #[.int .i64 0, .int .i64 0]) Tryz.func109 hR ⟨ret_int2 (by rw [e]) (by rw [e]), rfl⟩
      ·
       refine xka 1 (whole_c ((((bl s 0) % 32) * 64) + ((bl s 1) % 64)) w) ?_
       refine xb 3 (!(whole ((((bl s 0) % 32) * 64) + ((bl s 1) % 64)))) (fun h25 => ?_) (fun h25 => ?_)
       ·
        have e : firstP s = (0, 0) := by
         unfold firstP
         rw [if_neg h4p]
         rw [if_neg h5p]
         rw [if_pos h6p]
         rw [if_pos (by first | exact Or.inl (by omega) | exact Or.inr (Or.inl (by omega)) | exact Or.inr (Or.inr (Or.inl (by omega))) | exact Or.inr (Or.inr (Or.inr (Or.inl (by omega)))) | exact Or.inr (Or.inr (Or.inr (Or.inr (Or.inl (by omega))))) | exact Or.inr (Or.inr (Or.inr (Or.inr (Or.inr (Or.inl (by omega)))))) | (simp_all; done))]
        exact xr 5 (v := .tuple #[.int .i64 0, .int .i64 0]) Tryz.func109 hR ⟨ret_int2 (by rw [e]) (by rw [e]), rfl⟩
       ·
        have h25p : 0 ≤ ((((bl s 0) % 32) * 64) + ((bl s 1) % 64)) ∧ ((((bl s 0) % 32) * 64) + ((bl s 1) % 64)) ≤ 1114111 ∧ (((((bl s 0) % 32) * 64) + ((bl s 1) % 64)) < 55296 ∨ ((((bl s 0) % 32) * 64) + ((bl s 1) % 64)) > 57343) := whole_iff.1 (p_nt h25)
        have e : firstP s = (((((bl s 0) % 32) * 64) + ((bl s 1) % 64)), 2) := by
         unfold firstP
         rw [if_neg h4p]
         rw [if_neg h5p]
         rw [if_pos h6p]
         rw [if_neg (by rintro (h | h | h | h) <;> first | omega | (simp_all; done))]
        exact xr 8 (v := .tuple #[.int .i64 ((((bl s 0) % 32) * 64) + ((bl s 1) % 64)), .int .i64 2]) Tryz.func109 hR ⟨ret_int2 (by rw [e]) (by rw [e]), rfl⟩
   ·
    refine xc 6 ((bl s 0) < 240) (fun h8p => ?_) (fun h8p => ?_)
    ·
     refine xo 2 .and (.int .i64 (bl s 0)) (.int .i64 15) (v := .int .i64 ((bl s 0) % 16)) (fun _ => f_and (and_i64 _ 4 15 (by decide) (by decide))) ?_
     refine xn 10 s ?_
     refine xc 2 (3 > ((s.length : Nat) : Int)) (fun h27p => ?_) (fun h27p => ?_)
     ·
      have e : firstP s = (0, 0) := by
       unfold firstP
       rw [if_neg h4p]
       rw [if_neg h5p]
       rw [if_neg h6p]
       rw [if_pos h8p]
       rw [if_pos (by first | exact Or.inl (by omega) | exact Or.inr (Or.inl (by omega)) | exact Or.inr (Or.inr (Or.inl (by omega))) | exact Or.inr (Or.inr (Or.inr (Or.inl (by omega)))) | exact Or.inr (Or.inr (Or.inr (Or.inr (Or.inl (by omega))))) | exact Or.inr (Or.inr (Or.inr (Or.inr (Or.inr (Or.inl (by omega)))))) | (simp_all; done))]
      exact xr 5 (v := .tuple #[.int .i64 0, .int .i64 0]) Tryz.func109 hR ⟨ret_int2 (by rw [e]) (by rw [e]), rfl⟩
     ·
      have hb28 := bl_bd s 1
      refine xi 24 s 1 1 ?_
      refine xo 0 .and (.int .u8 (bl s 1)) (.int .u8 192) (v := .int .u8 ((bl s 1) / 64 * 64)) (fun _ => f_and (and_c0 _ (by omega) (by omega))) ?_
      refine xcn 2 (((bl s 1) / 64 * 64) = 128) (fun h31p => ?_) (fun h31p => ?_)
      ·
       have e : firstP s = (0, 0) := by
        unfold firstP
        rw [if_neg h4p]
        rw [if_neg h5p]
        rw [if_neg h6p]
        rw [if_pos h8p]
        rw [if_pos (by first | exact Or.inl (by omega) | exact Or.inr (Or.inl (by omega)) | exact Or.inr (Or.inr (Or.inl (by omega))) | exact Or.inr (Or.inr (Or.inr (Or.inl (by omega)))) | exact Or.inr (Or.inr (Or.inr (Or.inr (Or.inl (by omega))))) | exact Or.inr (Or.inr (Or.inr (Or.inr (Or.inr (Or.inl (by omega)))))) | (simp_all; done))]
       exact xr 5 (v := .tuple #[.int .i64 0, .int .i64 0]) Tryz.func109 hR ⟨ret_int2 (by rw [e]) (by rw [e]), rfl⟩
      ·
       refine xo 3 .shl (.int .i64 ((bl s 0) % 16)) (.int .u64 6) (v := .int .i64 (((bl s 0) % 16) * 64)) (fun _ => f_shl (by decide) (by rw [show min (Int.toNat 6) _ = 6 by decide, show (2 : Int) ^ 6 = 64 by decide]; exact IntWalk.i64_in _ (by omega))) ?_
       have hb32 := bl_bd s 1
       refine xi 2 s 1 1 ?_
       refine xo 0 .and (.int .u8 (bl s 1)) (.int .u8 63) (v := .int .u8 ((bl s 1) % 64)) (fun _ => f_and (and_u8 _ 6 63 (by decide) (by decide))) ?_
       refine xcv 0 .u8 .i64 ((bl s 1) % 64) ((bl s 1) % 64) (IntWalk.i64_in _ (by omega)) ?_
       refine xo 0 .or (.int .i64 (((bl s 0) % 16) * 64)) (.int .i64 ((bl s 1) % 64)) (v := .int .i64 ((((bl s 0) % 16) * 64) + ((bl s 1) % 64))) (fun _ => f_or (or_i64 6 64 (by decide) (by omega) (by omega) (by omega) (by omega) (by omega))) ?_
       have hb33 := bl_bd s 2
       refine xi 25 s 2 2 ?_
       refine xo 0 .and (.int .u8 (bl s 2)) (.int .u8 192) (v := .int .u8 ((bl s 2) / 64 * 64)) (fun _ => f_and (and_c0 _ (by omega) (by omega))) ?_
       refine xcn 2 (((bl s 2) / 64 * 64) = 128) (fun h41p => ?_) (fun h41p => ?_)
       ·
        have e : firstP s = (0, 0) := by
         unfold firstP
         rw [if_neg h4p]
         rw [if_neg h5p]
         rw [if_neg h6p]
         rw [if_pos h8p]
         rw [if_pos (by first | exact Or.inl (by omega) | exact Or.inr (Or.inl (by omega)) | exact Or.inr (Or.inr (Or.inl (by omega))) | exact Or.inr (Or.inr (Or.inr (Or.inl (by omega)))) | exact Or.inr (Or.inr (Or.inr (Or.inr (Or.inl (by omega))))) | exact Or.inr (Or.inr (Or.inr (Or.inr (Or.inr (Or.inl (by omega)))))) | (simp_all; done))]
        exact xr 5 (v := .tuple #[.int .i64 0, .int .i64 0]) Tryz.func109 hR ⟨ret_int2 (by rw [e]) (by rw [e]), rfl⟩
       ·
        refine xo 3 .shl (.int .i64 ((((bl s 0) % 16) * 64) + ((bl s 1) % 64))) (.int .u64 6) (v := .int .i64 (((((bl s 0) % 16) * 64) + ((bl s 1) % 64)) * 64)) (fun _ => f_shl (by decide) (by rw [show min (Int.toNat 6) _ = 6 by decide, show (2 : Int) ^ 6 = 64 by decide]; exact IntWalk.i64_in _ (by omega))) ?_
        have hb42 := bl_bd s 2
        refine xi 2 s 2 2 ?_
        refine xo 0 .and (.int .u8 (bl s 2)) (.int .u8 63) (v := .int .u8 ((bl s 2) % 64)) (fun _ => f_and (and_u8 _ 6 63 (by decide) (by decide))) ?_
        refine xcv 0 .u8 .i64 ((bl s 2) % 64) ((bl s 2) % 64) (IntWalk.i64_in _ (by omega)) ?_
        refine xo 0 .or (.int .i64 (((((bl s 0) % 16) * 64) + ((bl s 1) % 64)) * 64)) (.int .i64 ((bl s 2) % 64)) (v := .int .i64 ((((((bl s 0) % 16) * 64) + ((bl s 1) % 64)) * 64) + ((bl s 2) % 64))) (fun _ => f_or (or_i64 6 64 (by decide) (by omega) (by omega) (by omega) (by omega) (by omega))) ?_
        refine xfc 25 57 (((((((bl s 0) % 16) * 64) + ((bl s 1) % 64)) * 64) + ((bl s 2) % 64)) < 2048) (fun h48p => ?_) (fun h48p => ?_)
        ·
         have e : firstP s = (0, 0) := by
          unfold firstP
          rw [if_neg h4p]
          rw [if_neg h5p]
          rw [if_neg h6p]
          rw [if_pos h8p]
          rw [if_pos (by first | exact Or.inl (by omega) | exact Or.inr (Or.inl (by omega)) | exact Or.inr (Or.inr (Or.inl (by omega))) | exact Or.inr (Or.inr (Or.inr (Or.inl (by omega)))) | exact Or.inr (Or.inr (Or.inr (Or.inr (Or.inl (by omega))))) | exact Or.inr (Or.inr (Or.inr (Or.inr (Or.inr (Or.inl (by omega)))))) | (simp_all; done))]
         exact xr 11 (v := .tuple #[.int .i64 0, .int .i64 0]) Tryz.func109 hR ⟨ret_int2 (by rw [e]) (by rw [e]), rfl⟩
        ·
         refine xka 1 (whole_c ((((((bl s 0) % 16) * 64) + ((bl s 1) % 64)) * 64) + ((bl s 2) % 64)) w) ?_
         refine xb 3 (!(whole ((((((bl s 0) % 16) * 64) + ((bl s 1) % 64)) * 64) + ((bl s 2) % 64)))) (fun h49 => ?_) (fun h49 => ?_)
         ·
          have e : firstP s = (0, 0) := by
           unfold firstP
           rw [if_neg h4p]
           rw [if_neg h5p]
           rw [if_neg h6p]
           rw [if_pos h8p]
           rw [if_pos (by first | exact Or.inl (by omega) | exact Or.inr (Or.inl (by omega)) | exact Or.inr (Or.inr (Or.inl (by omega))) | exact Or.inr (Or.inr (Or.inr (Or.inl (by omega)))) | exact Or.inr (Or.inr (Or.inr (Or.inr (Or.inl (by omega))))) | exact Or.inr (Or.inr (Or.inr (Or.inr (Or.inr (Or.inl (by omega)))))) | (simp_all; done))]
          exact xr 5 (v := .tuple #[.int .i64 0, .int .i64 0]) Tryz.func109 hR ⟨ret_int2 (by rw [e]) (by rw [e]), rfl⟩
         ·
          have h49p : 0 ≤ ((((((bl s 0) % 16) * 64) + ((bl s 1) % 64)) * 64) + ((bl s 2) % 64)) ∧ ((((((bl s 0) % 16) * 64) + ((bl s 1) % 64)) * 64) + ((bl s 2) % 64)) ≤ 1114111 ∧ (((((((bl s 0) % 16) * 64) + ((bl s 1) % 64)) * 64) + ((bl s 2) % 64)) < 55296 ∨ ((((((bl s 0) % 16) * 64) + ((bl s 1) % 64)) * 64) + ((bl s 2) % 64)) > 57343) := whole_iff.1 (p_nt h49)
          have e : firstP s = (((((((bl s 0) % 16) * 64) + ((bl s 1) % 64)) * 64) + ((bl s 2) % 64)), 3) := by
           unfold firstP
           rw [if_neg h4p]
           rw [if_neg h5p]
           rw [if_neg h6p]
           rw [if_pos h8p]
           rw [if_neg (by rintro (h | h | h | h | h) <;> first | omega | (simp_all; done))]
          exact xr 8 (v := .tuple #[.int .i64 ((((((bl s 0) % 16) * 64) + ((bl s 1) % 64)) * 64) + ((bl s 2) % 64)), .int .i64 3]) Tryz.func109 hR ⟨ret_int2 (by rw [e]) (by rw [e]), rfl⟩
    ·
     refine xc 6 ((bl s 0) < 248) (fun h10p => ?_) (fun h10p => ?_)
     ·
      refine xo 2 .and (.int .i64 (bl s 0)) (.int .i64 7) (v := .int .i64 ((bl s 0) % 8)) (fun _ => f_and (and_i64 _ 3 7 (by decide) (by decide))) ?_
      refine xn 10 s ?_
      refine xc 2 (4 > ((s.length : Nat) : Int)) (fun h51p => ?_) (fun h51p => ?_)
      ·
       have e : firstP s = (0, 0) := by
        unfold firstP
        rw [if_neg h4p]
        rw [if_neg h5p]
        rw [if_neg h6p]
        rw [if_neg h8p]
        rw [if_pos h10p]
        rw [if_pos (by first | exact Or.inl (by omega) | exact Or.inr (Or.inl (by omega)) | exact Or.inr (Or.inr (Or.inl (by omega))) | exact Or.inr (Or.inr (Or.inr (Or.inl (by omega)))) | exact Or.inr (Or.inr (Or.inr (Or.inr (Or.inl (by omega))))) | exact Or.inr (Or.inr (Or.inr (Or.inr (Or.inr (Or.inl (by omega)))))) | (simp_all; done))]
       exact xr 5 (v := .tuple #[.int .i64 0, .int .i64 0]) Tryz.func109 hR ⟨ret_int2 (by rw [e]) (by rw [e]), rfl⟩
      ·
       have hb52 := bl_bd s 1
       refine xi 24 s 1 1 ?_
       refine xo 0 .and (.int .u8 (bl s 1)) (.int .u8 192) (v := .int .u8 ((bl s 1) / 64 * 64)) (fun _ => f_and (and_c0 _ (by omega) (by omega))) ?_
       refine xcn 2 (((bl s 1) / 64 * 64) = 128) (fun h55p => ?_) (fun h55p => ?_)
       ·
        have e : firstP s = (0, 0) := by
         unfold firstP
         rw [if_neg h4p]
         rw [if_neg h5p]
         rw [if_neg h6p]
         rw [if_neg h8p]
         rw [if_pos h10p]
         rw [if_pos (by first | exact Or.inl (by omega) | exact Or.inr (Or.inl (by omega)) | exact Or.inr (Or.inr (Or.inl (by omega))) | exact Or.inr (Or.inr (Or.inr (Or.inl (by omega)))) | exact Or.inr (Or.inr (Or.inr (Or.inr (Or.inl (by omega))))) | exact Or.inr (Or.inr (Or.inr (Or.inr (Or.inr (Or.inl (by omega)))))) | (simp_all; done))]
        exact xr 5 (v := .tuple #[.int .i64 0, .int .i64 0]) Tryz.func109 hR ⟨ret_int2 (by rw [e]) (by rw [e]), rfl⟩
       ·
        refine xo 3 .shl (.int .i64 ((bl s 0) % 8)) (.int .u64 6) (v := .int .i64 (((bl s 0) % 8) * 64)) (fun _ => f_shl (by decide) (by rw [show min (Int.toNat 6) _ = 6 by decide, show (2 : Int) ^ 6 = 64 by decide]; exact IntWalk.i64_in _ (by omega))) ?_
        have hb56 := bl_bd s 1
        refine xi 2 s 1 1 ?_
        refine xo 0 .and (.int .u8 (bl s 1)) (.int .u8 63) (v := .int .u8 ((bl s 1) % 64)) (fun _ => f_and (and_u8 _ 6 63 (by decide) (by decide))) ?_
        refine xcv 0 .u8 .i64 ((bl s 1) % 64) ((bl s 1) % 64) (IntWalk.i64_in _ (by omega)) ?_
        refine xo 0 .or (.int .i64 (((bl s 0) % 8) * 64)) (.int .i64 ((bl s 1) % 64)) (v := .int .i64 ((((bl s 0) % 8) * 64) + ((bl s 1) % 64))) (fun _ => f_or (or_i64 6 64 (by decide) (by omega) (by omega) (by omega) (by omega) (by omega))) ?_
        have hb57 := bl_bd s 2
        refine xi 25 s 2 2 ?_
        refine xo 0 .and (.int .u8 (bl s 2)) (.int .u8 192) (v := .int .u8 ((bl s 2) / 64 * 64)) (fun _ => f_and (and_c0 _ (by omega) (by omega))) ?_
        refine xcn 2 (((bl s 2) / 64 * 64) = 128) (fun h65p => ?_) (fun h65p => ?_)
        ·
         have e : firstP s = (0, 0) := by
          unfold firstP
          rw [if_neg h4p]
          rw [if_neg h5p]
          rw [if_neg h6p]
          rw [if_neg h8p]
          rw [if_pos h10p]
          rw [if_pos (by first | exact Or.inl (by omega) | exact Or.inr (Or.inl (by omega)) | exact Or.inr (Or.inr (Or.inl (by omega))) | exact Or.inr (Or.inr (Or.inr (Or.inl (by omega)))) | exact Or.inr (Or.inr (Or.inr (Or.inr (Or.inl (by omega))))) | exact Or.inr (Or.inr (Or.inr (Or.inr (Or.inr (Or.inl (by omega)))))) | (simp_all; done))]
         exact xr 5 (v := .tuple #[.int .i64 0, .int .i64 0]) Tryz.func109 hR ⟨ret_int2 (by rw [e]) (by rw [e]), rfl⟩
        ·
         refine xo 3 .shl (.int .i64 ((((bl s 0) % 8) * 64) + ((bl s 1) % 64))) (.int .u64 6) (v := .int .i64 (((((bl s 0) % 8) * 64) + ((bl s 1) % 64)) * 64)) (fun _ => f_shl (by decide) (by rw [show min (Int.toNat 6) _ = 6 by decide, show (2 : Int) ^ 6 = 64 by decide]; exact IntWalk.i64_in _ (by omega))) ?_
         have hb66 := bl_bd s 2
         refine xi 2 s 2 2 ?_
         refine xo 0 .and (.int .u8 (bl s 2)) (.int .u8 63) (v := .int .u8 ((bl s 2) % 64)) (fun _ => f_and (and_u8 _ 6 63 (by decide) (by decide))) ?_
         refine xcv 0 .u8 .i64 ((bl s 2) % 64) ((bl s 2) % 64) (IntWalk.i64_in _ (by omega)) ?_
         refine xo 0 .or (.int .i64 (((((bl s 0) % 8) * 64) + ((bl s 1) % 64)) * 64)) (.int .i64 ((bl s 2) % 64)) (v := .int .i64 ((((((bl s 0) % 8) * 64) + ((bl s 1) % 64)) * 64) + ((bl s 2) % 64))) (fun _ => f_or (or_i64 6 64 (by decide) (by omega) (by omega) (by omega) (by omega) (by omega))) ?_
         have hb67 := bl_bd s 3
         refine xi 25 s 3 3 ?_
         refine xo 0 .and (.int .u8 (bl s 3)) (.int .u8 192) (v := .int .u8 ((bl s 3) / 64 * 64)) (fun _ => f_and (and_c0 _ (by omega) (by omega))) ?_
         refine xcn 2 (((bl s 3) / 64 * 64) = 128) (fun h75p => ?_) (fun h75p => ?_)
         ·
          have e : firstP s = (0, 0) := by
           unfold firstP
           rw [if_neg h4p]
           rw [if_neg h5p]
           rw [if_neg h6p]
           rw [if_neg h8p]
           rw [if_pos h10p]
           rw [if_pos (by first | exact Or.inl (by omega) | exact Or.inr (Or.inl (by omega)) | exact Or.inr (Or.inr (Or.inl (by omega))) | exact Or.inr (Or.inr (Or.inr (Or.inl (by omega)))) | exact Or.inr (Or.inr (Or.inr (Or.inr (Or.inl (by omega))))) | exact Or.inr (Or.inr (Or.inr (Or.inr (Or.inr (Or.inl (by omega)))))) | (simp_all; done))]
          exact xr 5 (v := .tuple #[.int .i64 0, .int .i64 0]) Tryz.func109 hR ⟨ret_int2 (by rw [e]) (by rw [e]), rfl⟩
         ·
          refine xo 3 .shl (.int .i64 ((((((bl s 0) % 8) * 64) + ((bl s 1) % 64)) * 64) + ((bl s 2) % 64))) (.int .u64 6) (v := .int .i64 (((((((bl s 0) % 8) * 64) + ((bl s 1) % 64)) * 64) + ((bl s 2) % 64)) * 64)) (fun _ => f_shl (by decide) (by rw [show min (Int.toNat 6) _ = 6 by decide, show (2 : Int) ^ 6 = 64 by decide]; exact IntWalk.i64_in _ (by omega))) ?_
          have hb76 := bl_bd s 3
          refine xi 2 s 3 3 ?_
          refine xo 0 .and (.int .u8 (bl s 3)) (.int .u8 63) (v := .int .u8 ((bl s 3) % 64)) (fun _ => f_and (and_u8 _ 6 63 (by decide) (by decide))) ?_
          refine xcv 0 .u8 .i64 ((bl s 3) % 64) ((bl s 3) % 64) (IntWalk.i64_in _ (by omega)) ?_
          refine xo 0 .or (.int .i64 (((((((bl s 0) % 8) * 64) + ((bl s 1) % 64)) * 64) + ((bl s 2) % 64)) * 64)) (.int .i64 ((bl s 3) % 64)) (v := .int .i64 ((((((((bl s 0) % 8) * 64) + ((bl s 1) % 64)) * 64) + ((bl s 2) % 64)) * 64) + ((bl s 3) % 64))) (fun _ => f_or (or_i64 6 64 (by decide) (by omega) (by omega) (by omega) (by omega) (by omega))) ?_
          refine xfc 25 57 (((((((((bl s 0) % 8) * 64) + ((bl s 1) % 64)) * 64) + ((bl s 2) % 64)) * 64) + ((bl s 3) % 64)) < 65536) (fun h82p => ?_) (fun h82p => ?_)
          ·
           have e : firstP s = (0, 0) := by
            unfold firstP
            rw [if_neg h4p]
            rw [if_neg h5p]
            rw [if_neg h6p]
            rw [if_neg h8p]
            rw [if_pos h10p]
            rw [if_pos (by first | exact Or.inl (by omega) | exact Or.inr (Or.inl (by omega)) | exact Or.inr (Or.inr (Or.inl (by omega))) | exact Or.inr (Or.inr (Or.inr (Or.inl (by omega)))) | exact Or.inr (Or.inr (Or.inr (Or.inr (Or.inl (by omega))))) | exact Or.inr (Or.inr (Or.inr (Or.inr (Or.inr (Or.inl (by omega)))))) | (simp_all; done))]
           exact xr 11 (v := .tuple #[.int .i64 0, .int .i64 0]) Tryz.func109 hR ⟨ret_int2 (by rw [e]) (by rw [e]), rfl⟩
          ·
           refine xka 1 (whole_c ((((((((bl s 0) % 8) * 64) + ((bl s 1) % 64)) * 64) + ((bl s 2) % 64)) * 64) + ((bl s 3) % 64)) w) ?_
           refine xb 3 (!(whole ((((((((bl s 0) % 8) * 64) + ((bl s 1) % 64)) * 64) + ((bl s 2) % 64)) * 64) + ((bl s 3) % 64)))) (fun h83 => ?_) (fun h83 => ?_)
           ·
            have e : firstP s = (0, 0) := by
             unfold firstP
             rw [if_neg h4p]
             rw [if_neg h5p]
             rw [if_neg h6p]
             rw [if_neg h8p]
             rw [if_pos h10p]
             rw [if_pos (by first | exact Or.inl (by omega) | exact Or.inr (Or.inl (by omega)) | exact Or.inr (Or.inr (Or.inl (by omega))) | exact Or.inr (Or.inr (Or.inr (Or.inl (by omega)))) | exact Or.inr (Or.inr (Or.inr (Or.inr (Or.inl (by omega))))) | exact Or.inr (Or.inr (Or.inr (Or.inr (Or.inr (Or.inl (by omega)))))) | (simp_all; done))]
            exact xr 5 (v := .tuple #[.int .i64 0, .int .i64 0]) Tryz.func109 hR ⟨ret_int2 (by rw [e]) (by rw [e]), rfl⟩
           ·
            have h83p : 0 ≤ ((((((((bl s 0) % 8) * 64) + ((bl s 1) % 64)) * 64) + ((bl s 2) % 64)) * 64) + ((bl s 3) % 64)) ∧ ((((((((bl s 0) % 8) * 64) + ((bl s 1) % 64)) * 64) + ((bl s 2) % 64)) * 64) + ((bl s 3) % 64)) ≤ 1114111 ∧ (((((((((bl s 0) % 8) * 64) + ((bl s 1) % 64)) * 64) + ((bl s 2) % 64)) * 64) + ((bl s 3) % 64)) < 55296 ∨ ((((((((bl s 0) % 8) * 64) + ((bl s 1) % 64)) * 64) + ((bl s 2) % 64)) * 64) + ((bl s 3) % 64)) > 57343) := whole_iff.1 (p_nt h83)
            have e : firstP s = (((((((((bl s 0) % 8) * 64) + ((bl s 1) % 64)) * 64) + ((bl s 2) % 64)) * 64) + ((bl s 3) % 64)), 4) := by
             unfold firstP
             rw [if_neg h4p]
             rw [if_neg h5p]
             rw [if_neg h6p]
             rw [if_neg h8p]
             rw [if_pos h10p]
             rw [if_neg (by rintro (h | h | h | h | h | h) <;> first | omega | (simp_all; done))]
            exact xr 8 (v := .tuple #[.int .i64 ((((((((bl s 0) % 8) * 64) + ((bl s 1) % 64)) * 64) + ((bl s 2) % 64)) * 64) + ((bl s 3) % 64)), .int .i64 4]) Tryz.func109 hR ⟨ret_int2 (by rw [e]) (by rw [e]), rfl⟩
     ·
      have e : firstP s = (0, 0) := by
       unfold firstP
       rw [if_neg h4p]
       rw [if_neg h5p]
       rw [if_neg h6p]
       rw [if_neg h8p]
       rw [if_neg h10p]
      exact xr 5 (v := .tuple #[.int .i64 0, .int .i64 0]) Tryz.func109 hR ⟨ret_int2 (by rw [e]) (by rw [e]), rfl⟩


end Go.Proofs.YthpodbngljfdmaaGreatDoor


namespace Go.Proofs.YthpodbngljfdmaaGreatDoor
open Go Go.Gw Go.UtfP Go.TokP Go.RowKit
set_option linter.unusedVariables false
set_option linter.unusedSimpArgs false
set_option maxRecDepth 20000
theorem sT70 : SliceT Tryz.prog 70 3 1 8 (.int .i64 0) := ⟨by kernel_rfl, ⟨_, rfl, by kernel_rfl, by kernel_rfl, by kernel_rfl⟩, rfl, by decide⟩
theorem sT76 : SliceT Tryz.prog 76 5 1 1 (.int .u8 0) := ⟨by kernel_rfl, ⟨_, rfl, by kernel_rfl, by kernel_rfl, by kernel_rfl⟩, rfl, by decide⟩
theorem pE3 : Plain Tryz.prog 3 := ⟨.int .i64, by kernel_rfl, (fun _ h => by cases h), (fun _ _ h => by cases h)⟩


set_option maxHeartbeats 400000 in
theorem encode_L (v : Value) (l : List Int) {w0 : World} (hv : Rd w0 1 v l.length (ivals .i64 l)) (hlen : l.length * 8 ≤ 140737488355328) (R : Ending → World → Prop) (hR : R = (fun e w' => e = .returned (.tuple #[sS (encT l), .int .i64 (encE l)]) ∧ Mem [] w0 w' [])) : ∀ (N : Nat) (k : Nat) (b : Value) (w : World) (hk : k ≤ l.length) (hw : ∀ j, j < k → whole (l.getD j 0) = true) (hM : Mem [] w0 w [⟨5, 1, b, (List.length (enc (List.take k l))), (ivals .u8 (enc (List.take k l)))⟩]) (hN : l.length - k < N), GoS Tryz.prog 85 R 82 [iC Tryz.f85 [1,1,0,1,0,0], iL Tryz.f85 [1,1,0,1,0,0], .inBlock 0, iC Tryz.f85 [1,1,1]] [(4, b), (8, v), (9, iN l.length), (10, iN k)] w := by
 intro N
 induction N with
 | zero => intro k b w hk hw hM hN; exact absurd hN (Nat.not_lt_zero _)
 | succ N ih =>
  intro k b w hk hw hM hN
  refine xs ?_
  refine xc 5 (((k : Nat) : Int) < ((l.length : Nat) : Int)) (fun h1p => ?_) (fun h1p => ?_)
  ·
   have h1 : (decide (((k : Nat) : Int) < ((l.length : Nat) : Int))) = true := decide_eq_true h1p
   refine xat 5 sT70 (hv.kept0 hM.kept) ((k : Nat) : Int) k (fun p4 hp5 => ?_)
   refine xv 0 (at_load pE3 (hv.kept0 hM.kept) hp5 (ivals_at (by first | omega | (dsimp only; omega)))) ?_
   refine xka 6 (whole_c (List.getD l k 0) w) ?_
   refine xb 2 (!(whole (List.getD l k 0))) (fun h9 => ?_) (fun h9 => ?_)
   ·
    have hM10 := hM.sub (sD sR)
    have e := allW_no (k := k) (by omega) (p_nf h9)
    exact xr 5 (v := .tuple #[sS ([]), .int .i64 1]) Tryz.func85 hR ⟨ret_str2 (by rw [encT, e]; rfl) (by rw [encE, e]; rfl), hM10⟩
   ·
    have h9p : 0 ≤ (List.getD l k 0) ∧ (List.getD l k 0) ≤ 1114111 ∧ ((List.getD l k 0) < 55296 ∨ (List.getD l k 0) > 57343) := whole_iff.1 (p_nt h9)
    refine xc 8 ((List.getD l k 0) < 128) (fun h11p => ?_) (fun h11p => ?_)
    ·
     refine xcv 3 .i64 .u8 (List.getD l k 0) (List.getD l k 0) (IntWalk.u8_in _ (by omega)) ?_
     refine xx 0 (m_lit sT76 hM (n := 1) (parts := #[(0, .int .u8 (List.getD l k 0))]) (cs := [.int .u8 (List.getD l k 0)]) (by decide) (by kernel_rfl) rfl) (fun v12 w13 hM15 => ?_)
     refine xx 0 (m_append sT76 hM15 1 rfl (hM15.rd 0 rfl) (oneL rfl) (by have h1 := enc_len (List.take k l); have h2 : (List.take k l).length = k := (by rw [List.length_take]; omega); (try dsimp only); omega) (by have h1 := enc_len (List.take k l); have h2 : (List.take k l).length = k := (by rw [List.length_take]; omega); (try dsimp only); omega) 76) (fun v16 w17 hM19 => ?_)
     have hM20 : Mem [] w0 w17 [⟨5, 1, v12, 1, [.int .u8 (List.getD l k 0)]⟩, ⟨5, 1, v16, (List.length ((enc (List.take k l)) ++ ([(List.getD l k 0)] : List Int))), (ivals .u8 ((enc (List.take k l)) ++ ([(List.getD l k 0)] : List Int)))⟩] := hM19.cast (by first | (simp [ivals, svals, bvals, nvals, u8s, Nat.add_assoc]; done) | (simp [ivals, svals, bvals, nvals, u8s, Nat.add_assoc]; omega))
     have hM22 := hM20.sub (sD (sK sR))
     refine xa 5 ((k : Nat) : Int) 1 (((k + 1) : Nat) : Int) ?_
     have e : ((enc (List.take k l)) ++ ([(List.getD l k 0)] : List Int)) = enc (List.take (k + 1) l) := by
      rw [take_snoc l (by omega), enc_snoc]
      unfold one
      (repeat' split) <;> first | rfl | omega
     rw [e] at hM22
     exact xl 3 (ih (k + 1) _ _ (by omega) (fun j hj => by rcases Nat.lt_succ_iff_lt_or_eq.1 hj with h | h; exact hw j h; subst h; exact p_nf2 h9) hM22 (by omega))
    ·
     refine xc 6 ((List.getD l k 0) < 2048) (fun h23p => ?_) (fun h23p => ?_)
     ·
      refine xo 3 .shr (.int .i64 (List.getD l k 0)) (.int .u64 6) (v := .int .i64 ((List.getD l k 0) / 64)) (fun _ => f_shr (by decide) (by rw [show min (Int.toNat 6) (IntKind.bits .i64) = 6 by decide]; exact fdiv_pow _ 6 64 (by decide) (by decide))) ?_
      refine xo 0 .or (.int .i64 192) (.int .i64 ((List.getD l k 0) / 64)) (v := .int .i64 (192 + ((List.getD l k 0) / 64))) (fun _ => f_or (or_i64 6 64 (by decide) (by omega) (by omega) (by omega) (by omega) (by omega))) ?_
      refine xcv 0 .i64 .u8 (192 + ((List.getD l k 0) / 64)) (192 + ((List.getD l k 0) / 64)) (IntWalk.u8_in _ (by omega)) ?_
      refine xo 1 .and (.int .i64 (List.getD l k 0)) (.int .i64 63) (v := .int .i64 ((List.getD l k 0) % 64)) (fun _ => f_and (and_i64 _ 6 63 (by decide) (by decide))) ?_
      refine xo 0 .or (.int .i64 128) (.int .i64 ((List.getD l k 0) % 64)) (v := .int .i64 (128 + ((List.getD l k 0) % 64))) (fun _ => f_or (or_i64 6 64 (by decide) (by omega) (by omega) (by omega) (by omega) (by omega))) ?_
      refine xcv 0 .i64 .u8 (128 + ((List.getD l k 0) % 64)) (128 + ((List.getD l k 0) % 64)) (IntWalk.u8_in _ (by omega)) ?_
      refine xx 0 (m_lit sT76 hM (n := 2) (parts := #[(0, .int .u8 (192 + ((List.getD l k 0) / 64))), (1, .int .u8 (128 + ((List.getD l k 0) % 64)))]) (cs := [.int .u8 (192 + ((List.getD l k 0) / 64)), .int .u8 (128 + ((List.getD l k 0) % 64))]) (by decide) (by kernel_rfl) rfl) (fun v24 w25 hM27 => ?_)
      refine xx 0 (m_append sT76 hM27 1 rfl (hM27.rd 0 rfl) (oneL rfl) (by have h1 := enc_len (List.take k l); have h2 : (List.take k l).length = k := (by rw [List.length_take]; omega); (try dsimp only); omega) (by have h1 := enc_len (List.take k l); have h2 : (List.take k l).length = k := (by rw [List.length_take]; omega); (try dsimp only); omega) 76) (fun v28 w29 hM31 => ?_)
      have hM32 : Mem [] w0 w29 [⟨5, 1, v24, 2, [.int .u8 (192 + ((List.getD l k 0) / 64)), .int .u8 (128 + ((List.getD l k 0) % 64))]⟩, ⟨5, 1, v28, (List.length ((enc (List.take k l)) ++ ([(192 + ((List.getD l k 0) / 64)), (128 + ((List.getD l k 0) % 64))] : List Int))), (ivals .u8 ((enc (List.take k l)) ++ ([(192 + ((List.getD l k 0) / 64)), (128 + ((List.getD l k 0) % 64))] : List Int)))⟩] := hM31.cast (by first | (simp [ivals, svals, bvals, nvals, u8s, Nat.add_assoc]; done) | (simp [ivals, svals, bvals, nvals, u8s, Nat.add_assoc]; omega))
      have hM39 := hM32.sub (sD (sK sR))
      refine xa 5 ((k : Nat) : Int) 1 (((k + 1) : Nat) : Int) ?_
      have e : ((enc (List.take k l)) ++ ([(192 + ((List.getD l k 0) / 64)), (128 + ((List.getD l k 0) % 64))] : List Int)) = enc (List.take (k + 1) l) := by
       rw [take_snoc l (by omega), enc_snoc]
       unfold one
       (repeat' split) <;> first | rfl | omega
      rw [e] at hM39
      exact xl 3 (ih (k + 1) _ _ (by omega) (fun j hj => by rcases Nat.lt_succ_iff_lt_or_eq.1 hj with h | h; exact hw j h; subst h; exact p_nf2 h9) hM39 (by omega))
     ·
      refine xc 6 ((List.getD l k 0) < 65536) (fun h40p => ?_) (fun h40p => ?_)
      ·
       refine xo 3 .shr (.int .i64 (List.getD l k 0)) (.int .u64 12) (v := .int .i64 ((List.getD l k 0) / 4096)) (fun _ => f_shr (by decide) (by rw [show min (Int.toNat 12) (IntKind.bits .i64) = 12 by decide]; exact fdiv_pow _ 12 4096 (by decide) (by decide))) ?_
       refine xo 0 .or (.int .i64 224) (.int .i64 ((List.getD l k 0) / 4096)) (v := .int .i64 (224 + ((List.getD l k 0) / 4096))) (fun _ => f_or (or_i64 5 32 (by decide) (by omega) (by omega) (by omega) (by omega) (by omega))) ?_
       refine xcv 0 .i64 .u8 (224 + ((List.getD l k 0) / 4096)) (224 + ((List.getD l k 0) / 4096)) (IntWalk.u8_in _ (by omega)) ?_
       refine xo 1 .shr (.int .i64 (List.getD l k 0)) (.int .u64 6) (v := .int .i64 ((List.getD l k 0) / 64)) (fun _ => f_shr (by decide) (by rw [show min (Int.toNat 6) (IntKind.bits .i64) = 6 by decide]; exact fdiv_pow _ 6 64 (by decide) (by decide))) ?_
       refine xo 0 .and (.int .i64 ((List.getD l k 0) / 64)) (.int .i64 63) (v := .int .i64 (((List.getD l k 0) / 64) % 64)) (fun _ => f_and (and_i64 _ 6 63 (by decide) (by decide))) ?_
       refine xo 0 .or (.int .i64 128) (.int .i64 (((List.getD l k 0) / 64) % 64)) (v := .int .i64 (128 + (((List.getD l k 0) / 64) % 64))) (fun _ => f_or (or_i64 6 64 (by decide) (by omega) (by omega) (by omega) (by omega) (by omega))) ?_
       refine xcv 0 .i64 .u8 (128 + (((List.getD l k 0) / 64) % 64)) (128 + (((List.getD l k 0) / 64) % 64)) (IntWalk.u8_in _ (by omega)) ?_
       refine xo 1 .and (.int .i64 (List.getD l k 0)) (.int .i64 63) (v := .int .i64 ((List.getD l k 0) % 64)) (fun _ => f_and (and_i64 _ 6 63 (by decide) (by decide))) ?_
       refine xo 0 .or (.int .i64 128) (.int .i64 ((List.getD l k 0) % 64)) (v := .int .i64 (128 + ((List.getD l k 0) % 64))) (fun _ => f_or (or_i64 6 64 (by decide) (by omega) (by omega) (by omega) (by omega) (by omega))) ?_
       refine xcv 0 .i64 .u8 (128 + ((List.getD l k 0) % 64)) (128 + ((List.getD l k 0) % 64)) (IntWalk.u8_in _ (by omega)) ?_
       refine xx 0 (m_lit sT76 hM (n := 3) (parts := #[(0, .int .u8 (224 + ((List.getD l k 0) / 4096))), (1, .int .u8 (128 + (((List.getD l k 0) / 64) % 64))), (2, .int .u8 (128 + ((List.getD l k 0) % 64)))]) (cs := [.int .u8 (224 + ((List.getD l k 0) / 4096)), .int .u8 (128 + (((List.getD l k 0) / 64) % 64)), .int .u8 (128 + ((List.getD l k 0) % 64))]) (by decide) (by kernel_rfl) rfl) (fun v41 w42 hM44 => ?_)
       refine xx 0 (m_append sT76 hM44 1 rfl (hM44.rd 0 rfl) (oneL rfl) (by have h1 := enc_len (List.take k l); have h2 : (List.take k l).length = k := (by rw [List.length_take]; omega); (try dsimp only); omega) (by have h1 := enc_len (List.take k l); have h2 : (List.take k l).length = k := (by rw [List.length_take]; omega); (try dsimp only); omega) 76) (fun v45 w46 hM48 => ?_)
       have hM49 : Mem [] w0 w46 [⟨5, 1, v41, 3, [.int .u8 (224 + ((List.getD l k 0) / 4096)), .int .u8 (128 + (((List.getD l k 0) / 64) % 64)), .int .u8 (128 + ((List.getD l k 0) % 64))]⟩, ⟨5, 1, v45, (List.length ((enc (List.take k l)) ++ ([(224 + ((List.getD l k 0) / 4096)), (128 + (((List.getD l k 0) / 64) % 64)), (128 + ((List.getD l k 0) % 64))] : List Int))), (ivals .u8 ((enc (List.take k l)) ++ ([(224 + ((List.getD l k 0) / 4096)), (128 + (((List.getD l k 0) / 64) % 64)), (128 + ((List.getD l k 0) % 64))] : List Int)))⟩] := hM48.cast (by first | (simp [ivals, svals, bvals, nvals, u8s, Nat.add_assoc]; done) | (simp [ivals, svals, bvals, nvals, u8s, Nat.add_assoc]; omega))
       have hM60 := hM49.sub (sD (sK sR))
       refine xa 5 ((k : Nat) : Int) 1 (((k + 1) : Nat) : Int) ?_
       have e : ((enc (List.take k l)) ++ ([(224 + ((List.getD l k 0) / 4096)), (128 + (((List.getD l k 0) / 64) % 64)), (128 + ((List.getD l k 0) % 64))] : List Int)) = enc (List.take (k + 1) l) := by
        rw [take_snoc l (by omega), enc_snoc]
        unfold one
        (repeat' split) <;> first | rfl | omega
       rw [e] at hM60
       exact xl 3 (ih (k + 1) _ _ (by omega) (fun j hj => by rcases Nat.lt_succ_iff_lt_or_eq.1 hj with h | h; exact hw j h; subst h; exact p_nf2 h9) hM60 (by omega))
      ·
       refine xo 3 .shr (.int .i64 (List.getD l k 0)) (.int .u64 18) (v := .int .i64 ((List.getD l k 0) / 262144)) (fun _ => f_shr (by decide) (by rw [show min (Int.toNat 18) (IntKind.bits .i64) = 18 by decide]; exact fdiv_pow _ 18 262144 (by decide) (by decide))) ?_
       refine xo 0 .or (.int .i64 240) (.int .i64 ((List.getD l k 0) / 262144)) (v := .int .i64 (240 + ((List.getD l k 0) / 262144))) (fun _ => f_or (or_i64 4 16 (by decide) (by omega) (by omega) (by omega) (by omega) (by omega))) ?_
       refine xcv 0 .i64 .u8 (240 + ((List.getD l k 0) / 262144)) (240 + ((List.getD l k 0) / 262144)) (IntWalk.u8_in _ (by omega)) ?_
       refine xo 1 .shr (.int .i64 (List.getD l k 0)) (.int .u64 12) (v := .int .i64 ((List.getD l k 0) / 4096)) (fun _ => f_shr (by decide) (by rw [show min (Int.toNat 12) (IntKind.bits .i64) = 12 by decide]; exact fdiv_pow _ 12 4096 (by decide) (by decide))) ?_
       refine xo 0 .and (.int .i64 ((List.getD l k 0) / 4096)) (.int .i64 63) (v := .int .i64 (((List.getD l k 0) / 4096) % 64)) (fun _ => f_and (and_i64 _ 6 63 (by decide) (by decide))) ?_
       refine xo 0 .or (.int .i64 128) (.int .i64 (((List.getD l k 0) / 4096) % 64)) (v := .int .i64 (128 + (((List.getD l k 0) / 4096) % 64))) (fun _ => f_or (or_i64 6 64 (by decide) (by omega) (by omega) (by omega) (by omega) (by omega))) ?_
       refine xcv 0 .i64 .u8 (128 + (((List.getD l k 0) / 4096) % 64)) (128 + (((List.getD l k 0) / 4096) % 64)) (IntWalk.u8_in _ (by omega)) ?_
       refine xo 1 .shr (.int .i64 (List.getD l k 0)) (.int .u64 6) (v := .int .i64 ((List.getD l k 0) / 64)) (fun _ => f_shr (by decide) (by rw [show min (Int.toNat 6) (IntKind.bits .i64) = 6 by decide]; exact fdiv_pow _ 6 64 (by decide) (by decide))) ?_
       refine xo 0 .and (.int .i64 ((List.getD l k 0) / 64)) (.int .i64 63) (v := .int .i64 (((List.getD l k 0) / 64) % 64)) (fun _ => f_and (and_i64 _ 6 63 (by decide) (by decide))) ?_
       refine xo 0 .or (.int .i64 128) (.int .i64 (((List.getD l k 0) / 64) % 64)) (v := .int .i64 (128 + (((List.getD l k 0) / 64) % 64))) (fun _ => f_or (or_i64 6 64 (by decide) (by omega) (by omega) (by omega) (by omega) (by omega))) ?_
       refine xcv 0 .i64 .u8 (128 + (((List.getD l k 0) / 64) % 64)) (128 + (((List.getD l k 0) / 64) % 64)) (IntWalk.u8_in _ (by omega)) ?_
       refine xo 1 .and (.int .i64 (List.getD l k 0)) (.int .i64 63) (v := .int .i64 ((List.getD l k 0) % 64)) (fun _ => f_and (and_i64 _ 6 63 (by decide) (by decide))) ?_
       refine xo 0 .or (.int .i64 128) (.int .i64 ((List.getD l k 0) % 64)) (v := .int .i64 (128 + ((List.getD l k 0) % 64))) (fun _ => f_or (or_i64 6 64 (by decide) (by omega) (by omega) (by omega) (by omega) (by omega))) ?_
       refine xcv 0 .i64 .u8 (128 + ((List.getD l k 0) % 64)) (128 + ((List.getD l k 0) % 64)) (IntWalk.u8_in _ (by omega)) ?_
       refine xx 0 (m_lit sT76 hM (n := 4) (parts := #[(0, .int .u8 (240 + ((List.getD l k 0) / 262144))), (1, .int .u8 (128 + (((List.getD l k 0) / 4096) % 64))), (2, .int .u8 (128 + (((List.getD l k 0) / 64) % 64))), (3, .int .u8 (128 + ((List.getD l k 0) % 64)))]) (cs := [.int .u8 (240 + ((List.getD l k 0) / 262144)), .int .u8 (128 + (((List.getD l k 0) / 4096) % 64)), .int .u8 (128 + (((List.getD l k 0) / 64) % 64)), .int .u8 (128 + ((List.getD l k 0) % 64))]) (by decide) (by kernel_rfl) rfl) (fun v61 w62 hM64 => ?_)
       refine xx 0 (m_append sT76 hM64 1 rfl (hM64.rd 0 rfl) (oneL rfl) (by have h1 := enc_len (List.take k l); have h2 : (List.take k l).length = k := (by rw [List.length_take]; omega); (try dsimp only); omega) (by have h1 := enc_len (List.take k l); have h2 : (List.take k l).length = k := (by rw [List.length_take]; omega); (try dsimp only); omega) 76) (fun v65 w66 hM68 => ?_)
       have hM69 : Mem [] w0 w66 [⟨5, 1, v61, 4, [.int .u8 (240 + ((List.getD l k 0) / 262144)), .int .u8 (128 + (((List.getD l k 0) / 4096) % 64)), .int .u8 (128 + (((List.getD l k 0) / 64) % 64)), .int .u8 (128 + ((List.getD l k 0) % 64))]⟩, ⟨5, 1, v65, (List.length ((enc (List.take k l)) ++ ([(240 + ((List.getD l k 0) / 262144)), (128 + (((List.getD l k 0) / 4096) % 64)), (128 + (((List.getD l k 0) / 64) % 64)), (128 + ((List.getD l k 0) % 64))] : List Int))), (ivals .u8 ((enc (List.take k l)) ++ ([(240 + ((List.getD l k 0) / 262144)), (128 + (((List.getD l k 0) / 4096) % 64)), (128 + (((List.getD l k 0) / 64) % 64)), (128 + ((List.getD l k 0) % 64))] : List Int)))⟩] := hM68.cast (by first | (simp [ivals, svals, bvals, nvals, u8s, Nat.add_assoc]; done) | (simp [ivals, svals, bvals, nvals, u8s, Nat.add_assoc]; omega))
       have hM84 := hM69.sub (sD (sK sR))
       refine xa 5 ((k : Nat) : Int) 1 (((k + 1) : Nat) : Int) ?_
       have e : ((enc (List.take k l)) ++ ([(240 + ((List.getD l k 0) / 262144)), (128 + (((List.getD l k 0) / 4096) % 64)), (128 + (((List.getD l k 0) / 64) % 64)), (128 + ((List.getD l k 0) % 64))] : List Int)) = enc (List.take (k + 1) l) := by
        rw [take_snoc l (by omega), enc_snoc]
        unfold one
        (repeat' split) <;> first | rfl | omega
       rw [e] at hM84
       exact xl 3 (ih (k + 1) _ _ (by omega) (fun j hj => by rcases Nat.lt_succ_iff_lt_or_eq.1 hj with h | h; exact hw j h; subst h; exact p_nf2 h9) hM84 (by omega))
  ·
   refine xv 4 (show (convert 76 9 (b)).run Tryz.prog w = .ok (sS (bytesOf (enc (List.take k l)))) w from f_string_i sT76 (by kernel_rfl) (by kernel_rfl) (hM.rd 0 rfl) (by exact enc_bd (allW_upto hw))) ?_
   have hM3 := hM.sub (sD sR)
   refine xr0 3 (v := .tuple #[sS (bytesOf (enc (List.take k l))), .int .i64 0]) Tryz.func85 ?_
   rw [hR]
   have e : k = l.length := by omega
   subst e
   have e := allW_all hw
   exact ⟨ret_str2 (by rw [encT, if_pos e, List.take_length]) (by rw [encE, if_pos e]), hM3⟩

set_option maxHeartbeats 400000 in
theorem encode_c (v : Value) (l : List Int) (w : World) (hv : Rd w 1 v l.length (ivals .i64 l)) (hlen : l.length * 8 ≤ 140737488355328) :
  Calls Tryz.prog 85 #[v] w (fun e w' => e = .returned (.tuple #[sS (encT l), .int .i64 (encE l)]) ∧ Mem [] w w' []) := by
 refine xe 82 Tryz.func85 (fun R hR => ?_)
 have hM0 := Mem.start w
 refine xx 7 (m_lit sT76 hM0 (n := 0) (parts := #[]) (cs := []) (by decide) (by kernel_rfl) rfl) (fun v1 w2 hM4 => ?_)
 refine xv 6 (f_slen sT70 (hv.kept0 hM4.kept) 3 w2) ?_
 exact xl 4 (encode_L v l hv hlen R hR (l.length + 1) 0 v1 w2 (by omega) (by intro j hj; omega) (hM4.cast (by simp [enc, ivals])) (by omega))


end Go.Proofs.YthpodbngljfdmaaGreatDoor


namespace Go.Proofs.YthpodbngljfdmaaGreatDoor
open Go Go.Gw Go.UtfP Go.TokP Go.RowKit
set_option linter.unusedVariables false
set_option linter.unusedSimpArgs false
set_option maxRecDepth 20000
theorem oT195 : ObjT Tryz.prog 195 5 (.agg #[.int .i64 0, .int .i64 0, .int .i64 0, .int .i64 0, .int .i64 0]) := ⟨⟨_, rfl, by kernel_rfl, by kernel_rfl⟩, rfl⟩
theorem aE195 : Agged Tryz.prog 195 5 := ⟨⟨_, Tryz.underlying195, .inr ⟨_, _, rfl⟩⟩, _, rfl, by kernel_rfl⟩


set_option maxHeartbeats 400000 in
theorem one_c (c : Int) (hc0 : whole c = true) (w : World) :
  Calls Tryz.prog 127 #[.int .i64 c] w (fun e w' => e = .returned (sS (bytesOf (one c))) ∧ Mem [] w w' []) := by
 have hc := whole_iff.1 hc0
 refine xe 58 Tryz.func127 (fun R hR => ?_)
 have hM0 := Mem.start w
 refine xc 10 (c < 128) (fun h1p => ?_) (fun h1p => ?_)
 ·
  refine xcv 3 .i64 .u8 c c (IntWalk.u8_in _ (by omega)) ?_
  refine xx 0 (m_lit sT76 hM0 (n := 1) (parts := #[(0, .int .u8 c)]) (cs := [.int .u8 c]) (by decide) (by kernel_rfl) rfl) (fun v2 w3 hM5 => ?_)
  refine xv 0 (show (convert 76 9 (v2)).run Tryz.prog w3 = .ok (sS (bytesOf ([c] : List Int))) w3 from f_string_i sT76 (by kernel_rfl) (by kernel_rfl) (hM5.rd 0 rfl) (by intro x hx; simp at hx; omega)) ?_
  have hM8 := hM5.sub (sD sR)
  exact xr 2 (v := sS (bytesOf ([c] : List Int))) Tryz.func127 hR ⟨ret_str (congrArg bytesOf (by unfold one; (repeat' split) <;> first | rfl | omega)), hM8⟩
 ·
  refine xc 7 (c < 2048) (fun h9p => ?_) (fun h9p => ?_)
  ·
   refine xo 3 .quo (.int .i64 c) (.int .i64 64) (v := .int .i64 (c / 64)) (fun _ => f_quo (by decide) (IntWalk.i64_quo _ _ (by omega))) ?_
   refine xa 0 192 (c / 64) (192 + (c / 64)) ?_
   refine xcv 0 .i64 .u8 (192 + (c / 64)) (192 + (c / 64)) (IntWalk.u8_in _ (by omega)) ?_
   refine xo 1 .rem (.int .i64 c) (.int .i64 64) (v := .int .i64 (c % 64)) (fun _ => f_rem (by decide) (IntWalk.rem_in _ _ (by omega))) ?_
   refine xa 0 128 (c % 64) (128 + (c % 64)) ?_
   refine xcv 0 .i64 .u8 (128 + (c % 64)) (128 + (c % 64)) (IntWalk.u8_in _ (by omega)) ?_
   refine xx 0 (m_lit sT76 hM0 (n := 2) (parts := #[(0, .int .u8 (192 + (c / 64))), (1, .int .u8 (128 + (c % 64)))]) (cs := [.int .u8 (192 + (c / 64)), .int .u8 (128 + (c % 64))]) (by decide) (by kernel_rfl) rfl) (fun v10 w11 hM13 => ?_)
   refine xv 0 (show (convert 76 9 (v10)).run Tryz.prog w11 = .ok (sS (bytesOf ([(192 + (c / 64)), (128 + (c % 64))] : List Int))) w11 from f_string_i sT76 (by kernel_rfl) (by kernel_rfl) (hM13.rd 0 rfl) (by intro x hx; simp at hx; omega)) ?_
   have hM21 := hM13.sub (sD sR)
   exact xr 2 (v := sS (bytesOf ([(192 + (c / 64)), (128 + (c % 64))] : List Int))) Tryz.func127 hR ⟨ret_str (congrArg bytesOf (by unfold one; (repeat' split) <;> first | rfl | omega)), hM21⟩
  ·
   refine xc 7 (c < 65536) (fun h22p => ?_) (fun h22p => ?_)
   ·
    refine xo 3 .quo (.int .i64 c) (.int .i64 4096) (v := .int .i64 (c / 4096)) (fun _ => f_quo (by decide) (IntWalk.i64_quo _ _ (by omega))) ?_
    refine xa 0 224 (c / 4096) (224 + (c / 4096)) ?_
    refine xcv 0 .i64 .u8 (224 + (c / 4096)) (224 + (c / 4096)) (IntWalk.u8_in _ (by omega)) ?_
    refine xo 1 .quo (.int .i64 c) (.int .i64 64) (v := .int .i64 (c / 64)) (fun _ => f_quo (by decide) (IntWalk.i64_quo _ _ (by omega))) ?_
    refine xo 0 .rem (.int .i64 (c / 64)) (.int .i64 64) (v := .int .i64 ((c / 64) % 64)) (fun _ => f_rem (by decide) (IntWalk.rem_in _ _ (by omega))) ?_
    refine xa 0 128 ((c / 64) % 64) (128 + ((c / 64) % 64)) ?_
    refine xcv 0 .i64 .u8 (128 + ((c / 64) % 64)) (128 + ((c / 64) % 64)) (IntWalk.u8_in _ (by omega)) ?_
    refine xo 1 .rem (.int .i64 c) (.int .i64 64) (v := .int .i64 (c % 64)) (fun _ => f_rem (by decide) (IntWalk.rem_in _ _ (by omega))) ?_
    refine xa 0 128 (c % 64) (128 + (c % 64)) ?_
    refine xcv 0 .i64 .u8 (128 + (c % 64)) (128 + (c % 64)) (IntWalk.u8_in _ (by omega)) ?_
    refine xx 0 (m_lit sT76 hM0 (n := 3) (parts := #[(0, .int .u8 (224 + (c / 4096))), (1, .int .u8 (128 + ((c / 64) % 64))), (2, .int .u8 (128 + (c % 64)))]) (cs := [.int .u8 (224 + (c / 4096)), .int .u8 (128 + ((c / 64) % 64)), .int .u8 (128 + (c % 64))]) (by decide) (by kernel_rfl) rfl) (fun v23 w24 hM26 => ?_)
    refine xv 0 (show (convert 76 9 (v23)).run Tryz.prog w24 = .ok (sS (bytesOf ([(224 + (c / 4096)), (128 + ((c / 64) % 64)), (128 + (c % 64))] : List Int))) w24 from f_string_i sT76 (by kernel_rfl) (by kernel_rfl) (hM26.rd 0 rfl) (by intro x hx; simp at hx; omega)) ?_
    have hM38 := hM26.sub (sD sR)
    exact xr 2 (v := sS (bytesOf ([(224 + (c / 4096)), (128 + ((c / 64) % 64)), (128 + (c % 64))] : List Int))) Tryz.func127 hR ⟨ret_str (congrArg bytesOf (by unfold one; (repeat' split) <;> first | rfl | omega)), hM38⟩
   ·
    refine xo 4 .quo (.int .i64 c) (.int .i64 262144) (v := .int .i64 (c / 262144)) (fun _ => f_quo (by decide) (IntWalk.i64_quo _ _ (by omega))) ?_
    refine xa 0 240 (c / 262144) (240 + (c / 262144)) ?_
    refine xcv 0 .i64 .u8 (240 + (c / 262144)) (240 + (c / 262144)) (IntWalk.u8_in _ (by omega)) ?_
    refine xo 1 .quo (.int .i64 c) (.int .i64 4096) (v := .int .i64 (c / 4096)) (fun _ => f_quo (by decide) (IntWalk.i64_quo _ _ (by omega))) ?_
    refine xo 0 .rem (.int .i64 (c / 4096)) (.int .i64 64) (v := .int .i64 ((c / 4096) % 64)) (fun _ => f_rem (by decide) (IntWalk.rem_in _ _ (by omega))) ?_
    refine xa 0 128 ((c / 4096) % 64) (128 + ((c / 4096) % 64)) ?_
    refine xcv 0 .i64 .u8 (128 + ((c / 4096) % 64)) (128 + ((c / 4096) % 64)) (IntWalk.u8_in _ (by omega)) ?_
    refine xo 1 .quo (.int .i64 c) (.int .i64 64) (v := .int .i64 (c / 64)) (fun _ => f_quo (by decide) (IntWalk.i64_quo _ _ (by omega))) ?_
    refine xo 0 .rem (.int .i64 (c / 64)) (.int .i64 64) (v := .int .i64 ((c / 64) % 64)) (fun _ => f_rem (by decide) (IntWalk.rem_in _ _ (by omega))) ?_
    refine xa 0 128 ((c / 64) % 64) (128 + ((c / 64) % 64)) ?_
    refine xcv 0 .i64 .u8 (128 + ((c / 64) % 64)) (128 + ((c / 64) % 64)) (IntWalk.u8_in _ (by omega)) ?_
    refine xo 1 .rem (.int .i64 c) (.int .i64 64) (v := .int .i64 (c % 64)) (fun _ => f_rem (by decide) (IntWalk.rem_in _ _ (by omega))) ?_
    refine xa 0 128 (c % 64) (128 + (c % 64)) ?_
    refine xcv 0 .i64 .u8 (128 + (c % 64)) (128 + (c % 64)) (IntWalk.u8_in _ (by omega)) ?_
    refine xx 0 (m_lit sT76 hM0 (n := 4) (parts := #[(0, .int .u8 (240 + (c / 262144))), (1, .int .u8 (128 + ((c / 4096) % 64))), (2, .int .u8 (128 + ((c / 64) % 64))), (3, .int .u8 (128 + (c % 64)))]) (cs := [.int .u8 (240 + (c / 262144)), .int .u8 (128 + ((c / 4096) % 64)), .int .u8 (128 + ((c / 64) % 64)), .int .u8 (128 + (c % 64))]) (by decide) (by kernel_rfl) rfl) (fun v39 w40 hM42 => ?_)
    refine xv 0 (show (convert 76 9 (v39)).run Tryz.prog w40 = .ok (sS (bytesOf ([(240 + (c / 262144)), (128 + ((c / 4096) % 64)), (128 + ((c / 64) % 64)), (128 + (c % 64))] : List Int))) w40 from f_string_i sT76 (by kernel_rfl) (by kernel_rfl) (hM42.rd 0 rfl) (by intro x hx; simp at hx; omega)) ?_
    have hM58 := hM42.sub (sD sR)
    exact xr 2 (v := sS (bytesOf ([(240 + (c / 262144)), (128 + ((c / 4096) % 64)), (128 + ((c / 64) % 64)), (128 + (c % 64))] : List Int))) Tryz.func127 hR ⟨ret_str (congrArg bytesOf (by unfold one; (repeat' split) <;> first | rfl | omega)), hM58⟩

set_option maxHeartbeats 400000 in
theorem rencode_L (v : Value) (l : List Int) {w0 : World} (hv : Rd w0 1 v l.length (ivals .i64 l)) (hlen : l.length * 8 ≤ 140737488355328) (R : Ending → World → Prop) (hR : R = (fun e w' => e = .returned (.tuple #[sS (encT l), .int .i64 (encE l)]) ∧ Mem [] w0 w' [])) : ∀ (N : Nat) (k : Nat) (w : World) (hk : k ≤ l.length) (hw : ∀ j, j < k → whole (l.getD j 0) = true) (hM : Mem [] w0 w []) (hN : l.length - k < N), GoS Tryz.prog 102 R 26 [iC Tryz.f102 [1,1,0,1,0,0], iL Tryz.f102 [1,1,0,1,0,0], .inBlock 0, iC Tryz.f102 [1,1,1]] [(0, v), (4, sS (bytesOf (enc (List.take k l)))), (5, iN k)] w := by
 intro N
 induction N with
 | zero => intro k w hk hw hM hN; exact absurd hN (Nat.not_lt_zero _)
 | succ N ih =>
  intro k w hk hw hM hN
  refine xs ?_
  refine xv 5 (f_slen sT70 (hv.kept0 hM.kept) 3 w) ?_
  refine xc 2 (((k : Nat) : Int) < (((List.length l) : Nat) : Int)) (fun h2p => ?_) (fun h2p => ?_)
  ·
   have h2 : (decide (((k : Nat) : Int) < (((List.length l) : Nat) : Int))) = true := decide_eq_true h2p
   refine xat 8 sT70 (hv.kept0 hM.kept) ((k : Nat) : Int) k (fun p3 hp4 => ?_)
   refine xv 0 (at_load pE3 (hv.kept0 hM.kept) hp4 (ivals_at (by first | omega | (dsimp only; omega)))) ?_
   refine xka 0 (rwhole_c (List.getD l k 0) w) ?_
   refine xb 2 (!(whole (List.getD l k 0))) (fun h8 => ?_) (fun h8 => ?_)
   ·
    have e := allW_no (k := k) (by omega) (p_nf h8)
    exact xr 5 (v := .tuple #[sS ([]), .int .i64 1]) Tryz.func102 hR ⟨ret_str2 (by rw [encT, e]; rfl) (by rw [encE, e]; rfl), hM⟩
   ·
    have h8p : 0 ≤ (List.getD l k 0) ∧ (List.getD l k 0) ≤ 1114111 ∧ ((List.getD l k 0) < 55296 ∨ (List.getD l k 0) > 57343) := whole_iff.1 (p_nt h8)
    refine xat 5 sT70 (hv.kept0 hM.kept) ((k : Nat) : Int) k (fun p9 hp10 => ?_)
    refine xv 0 (at_load pE3 (hv.kept0 hM.kept) hp10 (ivals_at (by first | omega | (dsimp only; omega)))) ?_
    refine xk 0 (one_c (List.getD l k 0) (p_nf2 h8) w) (fun w14 m15 => ?_)
    have hM16 := Mem.join hM m15
    refine xqa 0 (bytesOf (enc (List.take k l))) (bytesOf (one (List.getD l k 0))) ?_ (hl := (by have h1 := enc_len (List.take k l); have h2 : (List.take k l).length = k := (by rw [List.length_take]; omega); have h3 := one_len (List.getD l k 0); rw [bytesOf_len, bytesOf_len]; omega))
    refine xa 5 ((k : Nat) : Int) 1 (((k + 1) : Nat) : Int) ?_
    have e : ((bytesOf (enc (List.take k l))) ++ (bytesOf (one (List.getD l k 0)))) = bytesOf (enc (List.take (k + 1) l)) := by rw [take_snoc l (by omega), enc_snoc, bytesOf_app]
    refine xl 3 (l := [(0, v), (4, sS ((bytesOf (enc (List.take k l))) ++ (bytesOf (one (List.getD l k 0))))), (5, iN (k + 1))]) (GoS.cast (by rw [e]) (ih (k + 1) _ (by omega) (fun j hj => by rcases Nat.lt_succ_iff_lt_or_eq.1 hj with h | h; exact hw j h; subst h; exact p_nf2 h8) hM16 (by omega)))
  ·
   refine xr0 7 (v := .tuple #[sS (bytesOf (enc (List.take k l))), .int .i64 0]) Tryz.func102 ?_
   rw [hR]
   have e : k = l.length := by omega
   subst e
   have e := allW_all hw
   exact ⟨ret_str2 (by rw [encT, if_pos e, List.take_length]) (by rw [encE, if_pos e]), hM⟩

set_option maxHeartbeats 400000 in
theorem rencode_c (v : Value) (l : List Int) (w : World) (hv : Rd w 1 v l.length (ivals .i64 l)) (hlen : l.length * 8 ≤ 140737488355328) :
  Calls Tryz.prog 102 #[v] w (fun e w' => e = .returned (.tuple #[sS (encT l), .int .i64 (encE l)]) ∧ Mem [] w w' []) := by
 refine xe 26 Tryz.func102 (fun R hR => ?_)
 have hM0 := Mem.start w
 exact xl 16 (rencode_L v l hv hlen R hR (l.length + 1) 0 w (by omega) (by intro j hj; omega) hM0 (by omega))

set_option maxHeartbeats 400000 in
theorem guess_c (s : List UInt8) (h1 : 1 ≤ s.length) (h4 : s.length ≤ 4) (w : World) :
  Calls Tryz.prog 125 #[sS s] w (fun e w' => e = .returned (.int .i64 (guessP s)) ∧ Mem [] w w' []) := by
 refine xe 30 Tryz.func125 (fun R hR => ?_)
 have hM0 := Mem.start w
 refine xx 7 (m_alloc oT195 hM0) (fun b1 w2 hM4 => ?_)
 have hM5 : Mem [] w w2 [⟨195, 5, (obj b1), 1, (ivals .i64 ([0, 0, 0, 0, 0] : List Int))⟩] := hM4
 refine xst 0 (c_stores (ys := [.int .i64 0, .int .i64 0, .int .i64 192, .int .i64 224, .int .i64 240]) aE195 hM5 0 rfl (cel_obj b1 0) rfl (by decide) (oneL rfl)) (fun w6 hM8 => ?_)
 have hM9 : Mem [] w w6 [⟨195, 5, (obj b1), 1, (ivals .i64 ([0, 0, 192, 224, 240] : List Int))⟩] := hM8
 refine xh 2 [] hM9 (sK sR) (fun w11 hM12 hS13 => ?_)
 have hb15 := bl_bd s 0
 refine yv [0] 1 (fun W_ hW_ => (show (Instr.index 9 (sS s) (.int .i64 0)).run Tryz.prog W_ = .ok (.int .u8 (bl s 0)) W_ from f_index 0 (by kernel_rfl) (by omega) (by first | omega | (simp; omega)))) hS13 ?_
 refine yv [] 2 (fun W_ hW_ => (show (convert 5 3 (.int .u8 (bl s 0))).run Tryz.prog W_ = .ok (.int .i64 (bl s 0)) W_ from f_conv (u := .int .u8) (by kernel_rfl) (by kernel_rfl) (IntWalk.i64_in _ (by omega)))) hS13 ?_
 refine yv [3] 4 (fun W_ hW_ => (show (Builtin.len_ #[9] 3 #[sS s]).run Tryz.prog W_ = .ok (iN s.length) W_ from f_len (by kernel_rfl))) hS13 ?_
 refine yv [] 5 (fun W_ hW_ => (show (Instr.indexAt 195 (pq b1) (iN s.length)).run Tryz.prog W_ = .ok (.pointer (some (Addr.add (⟨b1, 0, none⟩) (s.length * 1)))) W_ from f_arrAt (n := 5) (m := 1) Tryz.underlying195 (fun W => by kernel_rfl) (s.length) (by omega) (by first | omega | (simp; omega)) _ _ _)) hS13 ?_
 have hb16 := lead_bd (s.length)
 refine yl [] 6 hS13 pE3 0 rfl (Cel.cast (d := s.length) (Cel.add (cel_obj b1 0) (s.length * 1)) (by omega)) (ivals_at (by first | omega | (simp; omega))) ?_
 refine yv [] 7 (fun W_ hW_ => (show (binOp .sub 3 (.int .i64 (bl s 0)) (.int .i64 (List.getD ([0, 0, 192, 224, 240] : List Int) (s.length) 0))).run Tryz.prog W_ = .ok (.int .i64 ((bl s 0) - (List.getD ([0, 0, 192, 224, 240] : List Int) (s.length) 0))) W_ from f_sub (IntWalk.i64_in _ (by omega)))) hS13 ?_
 refine ydp [8] hS13 ?_
 have hM17 := hM12.sub (sD sR)
 refine xn 12 s ?_
 refine xc 2 (1 < ((s.length : Nat) : Int)) (fun h19p => ?_) (fun h19p => ?_)
 ·
  refine xt 5 64 ((bl s 0) - (List.getD ([0, 0, 192, 224, 240] : List Int) (s.length) 0)) (64 * ((bl s 0) - (List.getD ([0, 0, 192, 224, 240] : List Int) (s.length) 0))) ?_
  have hb20 := bl_bd s 1
  refine xi 2 s 1 1 ?_ (hlt := by first | omega | (simp; omega))
  refine xcv 0 .u8 .i64 (bl s 1) (bl s 1) (IntWalk.i64_in _ (by omega)) ?_
  refine xa 0 (64 * ((bl s 0) - (List.getD ([0, 0, 192, 224, 240] : List Int) (s.length) 0))) (bl s 1) ((64 * ((bl s 0) - (List.getD ([0, 0, 192, 224, 240] : List Int) (s.length) 0))) + (bl s 1)) ?_
  refine xm 0 ((64 * ((bl s 0) - (List.getD ([0, 0, 192, 224, 240] : List Int) (s.length) 0))) + (bl s 1)) 128 (((64 * ((bl s 0) - (List.getD ([0, 0, 192, 224, 240] : List Int) (s.length) 0))) + (bl s 1)) - 128) ?_
  refine xn 14 s ?_
  refine xc 2 (2 < ((s.length : Nat) : Int)) (fun h27p => ?_) (fun h27p => ?_)
  ·
   refine xt 5 64 (((64 * ((bl s 0) - (List.getD ([0, 0, 192, 224, 240] : List Int) (s.length) 0))) + (bl s 1)) - 128) (64 * (((64 * ((bl s 0) - (List.getD ([0, 0, 192, 224, 240] : List Int) (s.length) 0))) + (bl s 1)) - 128)) ?_
   have hb28 := bl_bd s 2
   refine xi 2 s 2 2 ?_ (hlt := by first | omega | (simp; omega))
   refine xcv 0 .u8 .i64 (bl s 2) (bl s 2) (IntWalk.i64_in _ (by omega)) ?_
   refine xa 0 (64 * (((64 * ((bl s 0) - (List.getD ([0, 0, 192, 224, 240] : List Int) (s.length) 0))) + (bl s 1)) - 128)) (bl s 2) ((64 * (((64 * ((bl s 0) - (List.getD ([0, 0, 192, 224, 240] : List Int) (s.length) 0))) + (bl s 1)) - 128)) + (bl s 2)) ?_
   refine xm 0 ((64 * (((64 * ((bl s 0) - (List.getD ([0, 0, 192, 224, 240] : List Int) (s.length) 0))) + (bl s 1)) - 128)) + (bl s 2)) 128 (((64 * (((64 * ((bl s 0) - (List.getD ([0, 0, 192, 224, 240] : List Int) (s.length) 0))) + (bl s 1)) - 128)) + (bl s 2)) - 128) ?_
   refine xn 14 s ?_
   refine xc 2 (3 < ((s.length : Nat) : Int)) (fun h35p => ?_) (fun h35p => ?_)
   ·
    refine xt 5 64 (((64 * (((64 * ((bl s 0) - (List.getD ([0, 0, 192, 224, 240] : List Int) (s.length) 0))) + (bl s 1)) - 128)) + (bl s 2)) - 128) (64 * (((64 * (((64 * ((bl s 0) - (List.getD ([0, 0, 192, 224, 240] : List Int) (s.length) 0))) + (bl s 1)) - 128)) + (bl s 2)) - 128)) ?_
    have hb36 := bl_bd s 3
    refine xi 2 s 3 3 ?_ (hlt := by first | omega | (simp; omega))
    refine xcv 0 .u8 .i64 (bl s 3) (bl s 3) (IntWalk.i64_in _ (by omega)) ?_
    refine xa 0 (64 * (((64 * (((64 * ((bl s 0) - (List.getD ([0, 0, 192, 224, 240] : List Int) (s.length) 0))) + (bl s 1)) - 128)) + (bl s 2)) - 128)) (bl s 3) ((64 * (((64 * (((64 * ((bl s 0) - (List.getD ([0, 0, 192, 224, 240] : List Int) (s.length) 0))) + (bl s 1)) - 128)) + (bl s 2)) - 128)) + (bl s 3)) ?_
    refine xm 0 ((64 * (((64 * (((64 * ((bl s 0) - (List.getD ([0, 0, 192, 224, 240] : List Int) (s.length) 0))) + (bl s 1)) - 128)) + (bl s 2)) - 128)) + (bl s 3)) 128 (((64 * (((64 * (((64 * ((bl s 0) - (List.getD ([0, 0, 192, 224, 240] : List Int) (s.length) 0))) + (bl s 1)) - 128)) + (bl s 2)) - 128)) + (bl s 3)) - 128) ?_
    refine xn 14 s ?_
    refine xc 2 (4 < ((s.length : Nat) : Int)) (fun h43p => ?_) (fun h43p => ?_)
    ·
     have hz : 4 < ((s.length : Nat) : Int) := by assumption
     omega
    ·
     exact xr 6 (v := .int .i64 (((64 * (((64 * (((64 * ((bl s 0) - (List.getD ([0, 0, 192, 224, 240] : List Int) (s.length) 0))) + (bl s 1)) - 128)) + (bl s 2)) - 128)) + (bl s 3)) - 128)) Tryz.func125 hR ⟨ret_int (by unfold guessP leadP; rw [guessF_step (by omega), guessF_step (by omega), guessF_step (by omega), guessF_end (by omega)]), hM17⟩
   ·
    exact xr 6 (v := .int .i64 (((64 * (((64 * ((bl s 0) - (List.getD ([0, 0, 192, 224, 240] : List Int) (s.length) 0))) + (bl s 1)) - 128)) + (bl s 2)) - 128)) Tryz.func125 hR ⟨ret_int (by unfold guessP leadP; rw [guessF_step (by omega), guessF_step (by omega), guessF_end (by omega)]), hM17⟩
  ·
   exact xr 6 (v := .int .i64 (((64 * ((bl s 0) - (List.getD ([0, 0, 192, 224, 240] : List Int) (s.length) 0))) + (bl s 1)) - 128)) Tryz.func125 hR ⟨ret_int (by unfold guessP leadP; rw [guessF_step (by omega), guessF_end (by omega)]), hM17⟩
 ·
  exact xr 6 (v := .int .i64 ((bl s 0) - (List.getD ([0, 0, 192, 224, 240] : List Int) (s.length) 0))) Tryz.func125 hR ⟨ret_int (by unfold guessP leadP; rw [guessF_end (by omega)]), hM17⟩


end Go.Proofs.YthpodbngljfdmaaGreatDoor


namespace Go.Proofs.YthpodbngljfdmaaGreatDoor
open Go Go.Gw Go.UtfP Go.TokP Go.RowKit
set_option linter.unusedVariables false
set_option linter.unusedSimpArgs false
set_option maxRecDepth 20000

abbrev uUtfD0 : List Nat := [1,1,1,0,0,0]
set_option maxHeartbeats 400000 in
theorem decode_L (s : List UInt8) {w0 : World} (hs : s.length * 8 ≤ 140737488355328) (R : Ending → World → Prop) (hR : R = (fun e w' => ∃ v, e = .returned (.tuple #[v, .int .i64 (decE s)]) ∧ Mem [] w0 w' [⟨3, 1, v, (decL s).length, ivals .i64 (decL s)⟩])) : ∀ (N : Nat) (r : List UInt8) (l : List Int) (b : Value) (w : World) (hd : decF r.length l r = dec s) (hl : l.length + r.length ≤ s.length) (hM : Mem [] w0 w [⟨3, 1, b, (List.length l), (ivals .i64 l)⟩]) (hN : r.length < N), GoS Tryz.prog 82 R 25 [iC Tryz.f82 [1,1,0,0,0], iL Tryz.f82 [1,1,0,0,0], .inBlock 0, iC Tryz.f82 [1,1,1]] [(0, sS r), (4, b)] w := by
 intro N
 induction N with
 | zero => intro r l b w hd hl hM hN; exact absurd hN (Nat.not_lt_zero _)
 | succ N ih =>
  intro r l b w hd hl hM hN
  refine xs ?_
  refine xqn 4 r ([]) ?_
  refine xcn 1 (r = []) (fun h2p => ?_) (fun h2p => ?_)
  ·
   refine xka 5 (first_c r (by exact List.length_pos_iff.2 h2p) w) ?_
   have hb := firstP_n (s := r) (by exact List.length_pos_iff.2 h2p)
   refine xc 12 ((firstP r).2 = 0) (fun h3p => ?_) (fun h3p => ?_)
   ·
    have hM4 := hM.sub (sD sR)
    obtain ⟨e1, e2⟩ := dec_no hd h2p h3p
    exact xr 5 (v := .tuple #[.slice none 0 0, .int .i64 7]) Tryz.func82 hR ⟨_, by rw [e2], by rw [e1]; exact hM4.nilrow 3 1⟩
   ·
    refine xx 5 (m_lit sT70 hM (n := 1) (parts := #[(0, .int .i64 ((firstP r).1))]) (cs := [.int .i64 ((firstP r).1)]) (by decide) (by kernel_rfl) rfl) (fun v5 w6 hM8 => ?_)
    refine xx 0 (m_append sT70 hM8 1 rfl (hM8.rd 0 rfl) (oneL rfl) (by have hp := List.length_pos_iff.2 h2p; (try dsimp only); omega) (by have hp := List.length_pos_iff.2 h2p; (try dsimp only); omega) 70) (fun v9 w10 hM12 => ?_)
    have hM13 : Mem [] w0 w10 [⟨3, 1, v5, 1, [.int .i64 ((firstP r).1)]⟩, ⟨3, 1, v9, (List.length (l ++ ([(firstP r).1] : List Int))), (ivals .i64 (l ++ ([(firstP r).1] : List Int)))⟩] := hM12.cast (by simp [ivals, svals, bvals, nvals, u8s, Nat.add_assoc])
    refine xsl 5 r ((firstP r).2) (Int.toNat ((firstP r).2)) ?_
    have hM15 := hM13.sub (sD (sK sR))
    have hr : r ≠ [] := h2p
    have hp := List.length_pos_iff.2 hr
    exact xl 4 (ih (List.drop (Int.toNat (firstP r).2) r) (l ++ [(firstP r).1]) _ _ ((dec_step2 (n := Int.toNat (firstP r).2) hr (by omega) (by omega)).symm.trans hd) (by rw [List.length_append, List.length_drop, List.length_singleton]; omega) hM15 (by rw [List.length_drop]; omega))
  ·
   have h2 : (!(decide (r = []))) = false := by simpa using h2p
   obtain ⟨e1, e2⟩ := dec_yes hd (by simpa using h2)
   exact xr 7 (v := .tuple #[b, .int .i64 0]) Tryz.func82 hR ⟨_, by rw [e2], by rw [e1]; exact hM⟩

set_option maxHeartbeats 400000 in
theorem decode_c (s : List UInt8) (hs : s.length * 8 ≤ 140737488355328) (w : World) :
  Calls Tryz.prog 82 #[sS s] w (fun e w' => ∃ v, e = .returned (.tuple #[v, .int .i64 (decE s)]) ∧ Mem [] w w' [⟨3, 1, v, (decL s).length, ivals .i64 (decL s)⟩]) := by
 refine xe 25 Tryz.func82 (fun R hR => ?_)
 have hM0 := Mem.start w
 refine xx 7 (m_lit sT70 hM0 (n := 0) (parts := #[]) (cs := []) (by decide) (by kernel_rfl) rfl) (fun v1 w2 hM4 => ?_)
 exact xl 5 (decode_L s hs R hR (s.length + 1) s [] v1 w2 rfl (by simp) (hM4.cast (by simp [ivals])) (by omega))

set_option maxHeartbeats 400000 in
theorem rdecode_L2 (s : List UInt8) (l : List Int) {w0 : World} {a : Nat} (hs : s.length * 8 ≤ 140737488355328) (hl : l.length ≤ a) (hd : decF (s.drop a).length l (s.drop a) = dec s) (R : Ending → World → Prop) (hR : R = (fun e w' => ∃ v, e = .returned (.tuple #[v, .int .i64 (decE s)]) ∧ Mem [] w0 w' [⟨3, 1, v, (decL s).length, ivals .i64 (decL s)⟩])) : ∀ (N : Nat) (b : Value) (n : Nat) (w : World) (out : ∀ (a' : Nat) (l : List Int) (b : Value) (w : World), a < a' → a' ≤ s.length → l.length ≤ a' → decF (s.drop a').length l (s.drop a') = dec s → Mem [] w0 w [⟨3, 1, b, (List.length l), (ivals .i64 l)⟩] → GoS Tryz.prog 100 R 62 [iC Tryz.f100 uUtfD0, iL Tryz.f100 uUtfD0, .inBlock 0, iC Tryz.f100 [1,1,1,1]] [(0, sS s), (4, b), (5, iN a')] w) (ha : a < s.length) (hn : 1 ≤ n) (hn5 : n ≤ 5) (hno : ∀ m : Nat, 0 < m → m < n → m ≤ 4 → a + m ≤ s.length → (firstP (s.drop a)).2 ≠ (m : Int)) (hM : Mem [] w0 w [⟨3, 1, b, (List.length l), (ivals .i64 l)⟩]) (hN : 5 - n < N), GoS Tryz.prog 100 R 62 [iC Tryz.f100 [1,1,1,0,0,0,1,0,1,0,0,0], iL Tryz.f100 [1,1,1,0,0,0,1,0,1,0,0,0], .inBlock 2, iC Tryz.f100 [1,1,1,0,0,0,1,0,1,1], .inBlock 1, iL Tryz.f100 uUtfD0, .inBlock 0, iC Tryz.f100 [1,1,1,1]] [(0, sS s), (4, b), (5, iN a), (6, iN n)] w := by
 intro N
 induction N with
 | zero => intro b n w out ha hn hn5 hno hM hN; exact absurd hN (Nat.not_lt_zero _)
 | succ N ih =>
  intro b n w out ha hn hn5 hno hM hN
  refine xs ?_
  refine xfc 6 14 (((n : Nat) : Int) ≤ 4) (fun h1p => ?_) (fun h1p => ?_)
  ·
   refine xa 2 ((a : Nat) : Int) ((n : Nat) : Int) (((a + n) : Nat) : Int) ?_
   refine xn 1 s ?_
   refine xc 3 ((((a + n) : Nat) : Int) ≤ ((s.length : Nat) : Int)) (fun h4p => ?_) (fun h4p => ?_)
   ·
    refine xa 8 ((a : Nat) : Int) ((n : Nat) : Int) (((a + n) : Nat) : Int) ?_
    refine xsb 0 s ((a : Nat) : Int) (((a + n) : Nat) : Int) a (a + n) ?_ (hlt := by first | omega | (rw [List.length_drop, List.length_take]; omega)) (hab := by first | omega | (rw [List.length_drop, List.length_take]; omega))
    refine xk 0 (guess_c (List.drop a (List.take (a + n) s)) (by rw [List.length_drop, List.length_take]; omega) (by rw [List.length_drop, List.length_take]; omega) w) (fun w12 m13 => ?_)
    have hM14 := Mem.join hM m13
    refine xh 4 [] hM14 (sK sR) (fun w15 hM16 hS17 => ?_)
    refine yca [0] 1 (rwhole_c (guessP (List.drop a (List.take (a + n) s))) w15) hS17 ?_
    rcases Bool.eq_false_or_eq_true (whole (guessP (List.drop a (List.take (a + n) s)))) with h19 | h19
    ·
     have h19p : 0 ≤ (guessP (List.drop a (List.take (a + n) s))) ∧ (guessP (List.drop a (List.take (a + n) s))) ≤ 1114111 ∧ ((guessP (List.drop a (List.take (a + n) s))) < 55296 ∨ (guessP (List.drop a (List.take (a + n) s))) > 57343) := whole_iff.1 h19
     refine ye [] 2 (whole (guessP (List.drop a (List.take (a + n) s)))) true h19 hS17 ?_
     refine yv [3,5,6,7,8] 9 (fun W_ hW_ => (show (binOp .add 3 (iN a) (iN n)).run Tryz.prog W_ = .ok (iN (a + n)) W_ from f_add (by rw [show ((a : Nat) : Int) + ((n : Nat) : Int) = (((a + n) : Nat) : Int) by omega]; exact IntWalk.i64_in _ (by omega)))) hS17 ?_
     refine yv [] 10 (fun W_ hW_ => (show (Instr.sliceAt 9 (sS s) (some (iN a)) (some (iN (a + n))) none).run Tryz.prog W_ = .ok (sS (List.drop a (List.take (a + n) s))) W_ from f_slice_lohi a (a + n) (by kernel_rfl) (by omega) (by omega) (by first | omega | (rw [List.length_drop, List.length_take]; omega)) (by first | omega | (rw [List.length_drop, List.length_take]; omega)))) hS17 ?_
     refine yck [] 4 (one_c (guessP (List.drop a (List.take (a + n) s))) h19 w15) hS17 (fun w20 m21 => ?_)
     have hM22 := Mem.join hM16 m21
     have hS23 := hM22.sub (sK sR)
     refine ⟨hS23, ?_⟩
     refine yv [] 11 (fun W_ hW_ => (show (binOp .eql 9 (sS (bytesOf (one (guessP (List.drop a (List.take (a + n) s)))))) (sS (List.drop a (List.take (a + n) s)))).run Tryz.prog W_ = .ok (.bool (decide ((bytesOf (one (guessP (List.drop a (List.take (a + n) s))))) = (List.drop a (List.take (a + n) s))))) W_ from f_streq)) hS23 ?_
     refine ydp [12] hS23 ?_
     refine xc 0 ((bytesOf (one (guessP (List.drop a (List.take (a + n) s))))) = (List.drop a (List.take (a + n) s))) (fun h24p => ?_) (fun h24p => ?_)
     ·
      have h24 : (decide ((bytesOf (one (guessP (List.drop a (List.take (a + n) s))))) = (List.drop a (List.take (a + n) s)))) = true := decide_eq_true h24p
      refine xx 4 (m_lit sT70 hM22 (n := 1) (parts := #[(0, .int .i64 (guessP (List.drop a (List.take (a + n) s))))]) (cs := [.int .i64 (guessP (List.drop a (List.take (a + n) s)))]) (by decide) (by kernel_rfl) rfl) (fun v25 w26 hM28 => ?_)
      refine xx 0 (m_append sT70 hM28 1 rfl (hM28.rd 0 rfl) (oneL rfl) (by (try dsimp only); omega) (by (try dsimp only); omega) 70) (fun v29 w30 hM32 => ?_)
      have hM33 : Mem [] w0 w30 [⟨3, 1, v25, 1, [.int .i64 (guessP (List.drop a (List.take (a + n) s)))]⟩, ⟨3, 1, v29, (List.length (l ++ ([(guessP (List.drop a (List.take (a + n) s)))] : List Int))), (ivals .i64 (l ++ ([(guessP (List.drop a (List.take (a + n) s)))] : List Int)))⟩] := hM32.cast (by first | (simp [ivals, svals, bvals, nvals, u8s, Nat.add_assoc]; done) | (simp [ivals, svals, bvals, nvals, u8s, Nat.add_assoc]; omega))
      have hM34 := hM33.sub (sD (sK sR))
      refine xfc 9 50 (((n : Nat) : Int) > 4) (fun h35p => ?_) (fun h35p => ?_)
      ·
       have h35 : (decide (((n : Nat) : Int) > 4)) = true := decide_eq_true h35p
       have hz : ((n : Nat) : Int) > 4 := of_decide_eq_true h35
       omega
      ·
       refine xa 2 ((a : Nat) : Int) ((n : Nat) : Int) (((a + n) : Nat) : Int) ?_
       refine xn 1 s ?_
       refine xc 3 ((((a + n) : Nat) : Int) > ((s.length : Nat) : Int)) (fun h38p => ?_) (fun h38p => ?_)
       ·
        have h38 : (decide ((((a + n) : Nat) : Int) > ((s.length : Nat) : Int))) = true := decide_eq_true h38p
        have hz : (((a + n) : Nat) : Int) > ((s.length : Nat) : Int) := of_decide_eq_true h38
        omega
       ·
        refine xa 4 ((a : Nat) : Int) ((n : Nat) : Int) (((a + n) : Nat) : Int) ?_
        refine xl 4 (k := [iC Tryz.f100 uUtfD0, iL Tryz.f100 uUtfD0, .inBlock 0, iC Tryz.f100 [1,1,1,1]]) (l := [(0, sS s), (4, v29), (5, iN (a + n))]) ?_
        have ht : (List.drop a (List.take (a + n) s)) = (s.drop a).take n := by rw [List.drop_take]; congr 1; omega
        have e := guess_fits ht (by omega) h19 (of_decide_eq_true h24)
        have hne : s.drop a ≠ [] := by intro e3; have := congrArg List.length e3; rw [List.length_drop] at this; simp at this; omega
        refine out (a + n) _ _ _ (by omega) (by omega) (by rw [List.length_append, List.length_singleton]; omega) ?_ hM34
        rw [← hd, dec_step hne e (by omega), List.drop_drop]
     ·
      have h24 : (decide ((bytesOf (one (guessP (List.drop a (List.take (a + n) s))))) = (List.drop a (List.take (a + n) s)))) = false := decide_eq_false h24p
      refine xa 3 ((n : Nat) : Int) 1 (((n + 1) : Nat) : Int) ?_
      have ht : (List.drop a (List.take (a + n) s)) = (s.drop a).take n := by rw [List.drop_take]; congr 1; omega
      exact xl 4 (ih b (n + 1) _ out ha (by omega) (by omega) (fun m q1 q2 q3 q4 => by rcases Nat.lt_succ_iff_lt_or_eq.1 q2 with h | h; exact hno m q1 h q3 q4; subst h; exact guess_no ht (by omega) (by omega) (.inr (of_decide_eq_false h24))) hM22 (by omega))
    ·
     refine ye [] 2 (whole (guessP (List.drop a (List.take (a + n) s)))) false h19 hS17 ?_
     refine ydp [3,4,5,6,7,8,9,10,11,12] hS17 ?_
     refine xa 4 ((n : Nat) : Int) 1 (((n + 1) : Nat) : Int) ?_
     have ht : (List.drop a (List.take (a + n) s)) = (s.drop a).take n := by rw [List.drop_take]; congr 1; omega
     exact xl 4 (ih b (n + 1) _ out ha (by omega) (by omega) (fun m q1 q2 q3 q4 => by rcases Nat.lt_succ_iff_lt_or_eq.1 q2 with h | h; exact hno m q1 h q3 q4; subst h; exact guess_no ht (by omega) (by omega) (.inl h19)) hM16 (by omega))
   ·
    refine xfc 7 50 (((n : Nat) : Int) > 4) (fun h5p => ?_) (fun h5p => ?_)
    ·
     have h5 : (decide (((n : Nat) : Int) > 4)) = true := decide_eq_true h5p
     have hz : ((n : Nat) : Int) > 4 := of_decide_eq_true h5
     omega
    ·
     refine xa 2 ((a : Nat) : Int) ((n : Nat) : Int) (((a + n) : Nat) : Int) ?_
     refine xn 1 s ?_
     refine xc 3 ((((a + n) : Nat) : Int) > ((s.length : Nat) : Int)) (fun h8p => ?_) (fun h8p => ?_)
     ·
      have hM9 := hM.sub (sD sR)
      have e := first_none ha (by omega) hno
      obtain ⟨e1, e2⟩ := dec_no hd (by intro e3; have := congrArg List.length e3; rw [List.length_drop] at this; simp at this; omega) e
      exact xr 5 (v := .tuple #[.slice none 0 0, .int .i64 7]) Tryz.func100 hR ⟨_, by rw [e2], by rw [e1]; exact hM9.nilrow 3 1⟩
     ·
      have h8 : (decide ((((a + n) : Nat) : Int) > ((s.length : Nat) : Int))) = false := decide_eq_false h8p
      have hz : ¬ ((((a + n) : Nat) : Int) > ((s.length : Nat) : Int)) := of_decide_eq_false h8
      omega
  ·
   refine xfc 16 50 (((n : Nat) : Int) > 4) (fun h42p => ?_) (fun h42p => ?_)
   ·
    have hM43 := hM.sub (sD sR)
    have e := first_none ha (by omega) hno
    obtain ⟨e1, e2⟩ := dec_no hd (by intro e3; have := congrArg List.length e3; rw [List.length_drop] at this; simp at this; omega) e
    exact xr 14 (v := .tuple #[.slice none 0 0, .int .i64 7]) Tryz.func100 hR ⟨_, by rw [e2], by rw [e1]; exact hM43.nilrow 3 1⟩
   ·
    have h42 : (decide (((n : Nat) : Int) > 4)) = false := decide_eq_false h42p
    have hz : ¬ (((n : Nat) : Int) > 4) := of_decide_eq_false h42
    omega

set_option maxHeartbeats 400000 in
theorem rdecode_L (s : List UInt8) {w0 : World} (hs : s.length * 8 ≤ 140737488355328) (R : Ending → World → Prop) (hR : R = (fun e w' => ∃ v, e = .returned (.tuple #[v, .int .i64 (decE s)]) ∧ Mem [] w0 w' [⟨3, 1, v, (decL s).length, ivals .i64 (decL s)⟩])) : ∀ (N : Nat) (a : Nat) (l : List Int) (b : Value) (w : World) (ha : a ≤ s.length) (hl : l.length ≤ a) (hd : decF (s.drop a).length l (s.drop a) = dec s) (hM : Mem [] w0 w [⟨3, 1, b, (List.length l), (ivals .i64 l)⟩]) (hN : s.length - a < N), GoS Tryz.prog 100 R 62 [iC Tryz.f100 uUtfD0, iL Tryz.f100 uUtfD0, .inBlock 0, iC Tryz.f100 [1,1,1,1]] [(0, sS s), (4, b), (5, iN a)] w := by
 intro N
 induction N with
 | zero => intro a l b w ha hl hd hM hN; exact absurd hN (Nat.not_lt_zero _)
 | succ N ih =>
  intro a l b w ha hl hd hM hN
  refine xs ?_
  refine xn 5 s ?_
  refine xc 2 (((a : Nat) : Int) < ((s.length : Nat) : Int)) (fun h2p => ?_) (fun h2p => ?_)
  ·
   exact xl 9 (rdecode_L2 s l hs hl hd R hR 6 _ 1 w (fun a' l b w q1 q2 q3 q4 q5 => ih a' l b w q2 q3 q4 q5 (by omega)) (by omega) (by omega) (by omega) (by intro m q1 q2; omega) hM (by omega))
  ·
   obtain ⟨e1, e2⟩ := dec_yes hd (List.drop_eq_nil_of_le (by omega))
   exact xr 7 (v := .tuple #[b, .int .i64 0]) Tryz.func100 hR ⟨_, by rw [e2], by rw [e1]; exact hM⟩

set_option maxHeartbeats 400000 in
theorem rdecode_c (s : List UInt8) (hs : s.length * 8 ≤ 140737488355328) (w : World) :
  Calls Tryz.prog 100 #[sS s] w (fun e w' => ∃ v, e = .returned (.tuple #[v, .int .i64 (decE s)]) ∧ Mem [] w w' [⟨3, 1, v, (decL s).length, ivals .i64 (decL s)⟩]) := by
 refine xe 62 Tryz.func100 (fun R hR => ?_)
 have hM0 := Mem.start w
 exact xl 16 (rdecode_L s hs R hR (s.length + 1) 0 [] _ w (by omega) (by simp) rfl (hM0.nilrow 3 1) (by omega))


end Go.Proofs.YthpodbngljfdmaaGreatDoor


namespace Go.Proofs.YthpodbngljfdmaaGreatDoor
open Go Go.Gw Go.UtfP Go.TokP Go.RowKit
set_option linter.unusedVariables false
set_option linter.unusedSimpArgs false
set_option maxRecDepth 20000


set_option maxHeartbeats 400000 in
theorem among_L (c : Int) (v : Value) (l : List Int) {w : World} (hv : Rd w 1 v l.length (ivals .i64 l)) (hev : l.length % 2 = 0) (hlen : l.length ≤ 1000) (R : Ending → World → Prop) (hR : R = (fun e w' => e = .returned (.bool (among c l)) ∧ w = w')) : ∀ (N : Nat) (i : Nat) (hi : i % 2 = 0) (hk : i ≤ l.length) (ha : among c l = among c (l.drop i)) (hN : l.length - i < N), GoS Tryz.prog 128 R 27 [iC Tryz.f128 [1,0,1,0,0], iL Tryz.f128 [1,0,1,0,0], .inBlock 0, iC Tryz.f128 [1,1]] [(0, .int .i64 c), (1, v), (5, iN i)] w := by
 intro N
 induction N with
 | zero => intro i hi hk ha hN; exact absurd hN (Nat.not_lt_zero _)
 | succ N ih =>
  intro i hi hk ha hN
  refine xs ?_
  refine xv 5 (f_slen sT70 hv 3 w) ?_
  refine xc 2 (((i : Nat) : Int) < (((List.length l) : Nat) : Int)) (fun h2p => ?_) (fun h2p => ?_)
  ·
   refine xat 8 sT70 hv ((i : Nat) : Int) i (fun p3 hp4 => ?_)
   refine xv 0 (at_load pE3 hv hp4 (ivals_at (by first | omega | (dsimp only; omega)))) ?_
   refine xfc 2 18 (c ≥ (List.getD l i 0)) (fun h8p => ?_) (fun h8p => ?_)
   ·
    have h8 : (decide (c ≥ (List.getD l i 0))) = true := decide_eq_true h8p
    refine xa 3 ((i : Nat) : Int) 1 (((i + 1) : Nat) : Int) ?_
    refine xat 0 sT70 hv (((i + 1) : Nat) : Int) (i + 1) (fun p9 hp10 => ?_)
    refine xv 0 (at_load pE3 hv hp10 (ivals_at (by first | omega | (dsimp only; omega)))) ?_
    refine xc 3 (c ≤ (List.getD l (i + 1) 0)) (fun h15p => ?_) (fun h15p => ?_)
    ·
     have h15 : (decide (c ≤ (List.getD l (i + 1) 0))) = true := decide_eq_true h15p
     exact xr 4 (v := .bool true) Tryz.func128 hR ⟨ret_bool (by rw [ha, among_step (by omega)]; simp only [h8, h15, Bool.true_and, Bool.true_or]), rfl⟩
    ·
     have h15 : (decide (c ≤ (List.getD l (i + 1) 0))) = false := decide_eq_false h15p
     refine xa 4 ((i : Nat) : Int) 2 (((i + 2) : Nat) : Int) ?_
     exact xl 3 (ih (i + 2) (by omega) (by omega) (by rw [ha, among_step (by omega)]; simp only [h8, h15, Bool.true_and, Bool.false_and, Bool.and_false, Bool.false_or]) (by omega))
   ·
    have h8 : (decide (c ≥ (List.getD l i 0))) = false := decide_eq_false h8p
    refine xa 14 ((i : Nat) : Int) 2 (((i + 2) : Nat) : Int) ?_
    exact xl 3 (ih (i + 2) (by omega) (by omega) (by rw [ha, among_step (by omega)]; simp only [h8, Bool.true_and, Bool.false_and, Bool.and_false, Bool.false_or]) (by omega))
  ·
   exact xr 5 (v := .bool false) Tryz.func128 hR ⟨ret_bool (by rw [ha, List.drop_eq_nil_of_le (by omega)]; rfl), rfl⟩

set_option maxHeartbeats 400000 in
theorem among_c (c : Int) (v : Value) (l : List Int) (w : World) (hv : Rd w 1 v l.length (ivals .i64 l)) (hev : l.length % 2 = 0) (hlen : l.length ≤ 1000) :
  Calls Tryz.prog 128 #[.int .i64 c, v] w (fun e w' => e = .returned (.bool (among c l)) ∧ w = w') := by
 refine xe 27 Tryz.func128 (fun R hR => ?_)
 exact xl 11 (among_L c v l hv hev hlen R hR (l.length + 1) 0 (by omega) (by omega) rfl (by omega))

set_option maxHeartbeats 400000 in
theorem rletter_c (c : Int) (w : World) :
  Calls Tryz.prog 101 #[.int .i64 c] w (fun e w' => e = .returned (.bool (letter c)) ∧ Mem [] w w' []) := by
 refine xe 6 Tryz.func101 (fun R hR => ?_)
 have hM0 := Mem.start w
 refine xx 7 (m_lit sT70 hM0 (n := 20) (parts := #[(0, .int .i64 97), (1, .int .i64 122), (2, .int .i64 65), (3, .int .i64 90), (4, .int .i64 48), (5, .int .i64 57), (6, .int .i64 192), (7, .int .i64 214), (8, .int .i64 216), (9, .int .i64 246), (10, .int .i64 248), (11, .int .i64 591), (12, .int .i64 880), (13, .int .i64 893), (14, .int .i64 895), (15, .int .i64 1153), (16, .int .i64 1155), (17, .int .i64 1327), (18, .int .i64 19968), (19, .int .i64 40959)]) (cs := [.int .i64 97, .int .i64 122, .int .i64 65, .int .i64 90, .int .i64 48, .int .i64 57, .int .i64 192, .int .i64 214, .int .i64 216, .int .i64 246, .int .i64 248, .int .i64 591, .int .i64 880, .int .i64 893, .int .i64 895, .int .i64 1153, .int .i64 1155, .int .i64 1327, .int .i64 19968, .int .i64 40959]) (by decide) (by kernel_rfl) rfl) (fun v1 w2 hM4 => ?_)
 refine xka 0 (among_c c v1 ([97, 122, 65, 90, 48, 57, 192, 214, 216, 246, 248, 591, 880, 893, 895, 1153, 1155, 1327, 19968, 40959] : List Int) w2 (hM4.rd 0 rfl) (by decide) (by decide)) ?_
 have hM5 := hM4.sub (sD sR)
 exact xr 2 (v := .bool (among c ([97, 122, 65, 90, 48, 57, 192, 214, 216, 246, 248, 591, 880, 893, 895, 1153, 1155, 1327, 19968, 40959] : List Int))) Tryz.func101 hR ⟨ret_bool (among_letter c), hM5⟩

set_option maxHeartbeats 400000 in
theorem rfold_c (c : Int) (w : World) :
  Calls Tryz.prog 103 #[.int .i64 c] w (fun e w' => e = .returned (.int .i64 (fold c)) ∧ Mem [] w w' []) := by
 refine xe 19 Tryz.func103 (fun R hR => ?_)
 have hM0 := Mem.start w
 refine xx 8 (m_lit sT70 hM0 (n := 12) (parts := #[(0, .int .i64 65), (1, .int .i64 90), (2, .int .i64 192), (3, .int .i64 214), (4, .int .i64 216), (5, .int .i64 222), (6, .int .i64 913), (7, .int .i64 929), (8, .int .i64 931), (9, .int .i64 937), (10, .int .i64 1040), (11, .int .i64 1071)]) (cs := [.int .i64 65, .int .i64 90, .int .i64 192, .int .i64 214, .int .i64 216, .int .i64 222, .int .i64 913, .int .i64 929, .int .i64 931, .int .i64 937, .int .i64 1040, .int .i64 1071]) (by decide) (by kernel_rfl) rfl) (fun v1 w2 hM4 => ?_)
 refine xka 0 (among_c c v1 ([65, 90, 192, 214, 216, 222, 913, 929, 931, 937, 1040, 1071] : List Int) w2 (hM4.rd 0 rfl) (by decide) (by decide)) ?_
 have hM5 := hM4.sub (sD sR)
 refine xb 1 (among c ([65, 90, 192, 214, 216, 222, 913, 929, 931, 937, 1040, 1071] : List Int)) (fun h6 => ?_) (fun h6 => ?_)
 ·
  have h6p : UpP c := (among_up c).1 h6
  refine xadd 3 .i64 c 32 (c + 32) (IntWalk.i64_in _ (by (first | omega | (unfold UpP at *; omega)))) ?_
  exact xr 2 (v := .int .i64 (c + 32)) Tryz.func103 hR ⟨ret_int (by rw [fold, if_pos h6p]), hM5⟩
 ·
  have h6p : ¬ UpP c := (among_up_no c) h6
  refine xfc 7 10 (c ≥ 1024) (fun h8p => ?_) (fun h8p => ?_)
  ·
   refine xc 4 (c ≤ 1039) (fun h9p => ?_) (fun h9p => ?_)
   ·
    refine xadd 3 .i64 c 80 (c + 80) (IntWalk.i64_in _ (by (first | omega | (unfold UpP at *; omega)))) ?_
    exact xr 2 (v := .int .i64 (c + 80)) Tryz.func103 hR ⟨ret_int (by rw [fold, if_neg h6p]; (repeat' split) <;> omega), hM5⟩
   ·
    refine xc 7 (c = 962) (fun h11p => ?_) (fun h11p => ?_)
    ·
     exact xr 4 (v := .int .i64 963) Tryz.func103 hR ⟨ret_int (by rw [fold, if_neg h6p]; (repeat' split) <;> omega), hM5⟩
    ·
     exact xr 6 (v := .int .i64 c) Tryz.func103 hR ⟨ret_int (by rw [fold, if_neg h6p]; (repeat' split) <;> omega), hM5⟩
  ·
   refine xc 12 (c = 962) (fun h12p => ?_) (fun h12p => ?_)
   ·
    exact xr 4 (v := .int .i64 963) Tryz.func103 hR ⟨ret_int (by rw [fold, if_neg h6p]; (repeat' split) <;> omega), hM5⟩
   ·
    exact xr 6 (v := .int .i64 c) Tryz.func103 hR ⟨ret_int (by rw [fold, if_neg h6p]; (repeat' split) <;> omega), hM5⟩


end Go.Proofs.YthpodbngljfdmaaGreatDoor


namespace Go.Proofs.YthpodbngljfdmaaGreatDoor
open Go Go.Gw Go.UtfP Go.TokP Go.RowKit
set_option linter.unusedVariables false
set_option linter.unusedSimpArgs false
set_option maxRecDepth 20000
theorem sT79 : SliceT Tryz.prog 79 124 2 24 (.agg #[.string (sb ([])), .int .i64 0]) := ⟨by kernel_rfl, ⟨_, rfl, by kernel_rfl, by kernel_rfl, by kernel_rfl⟩, rfl, by decide⟩


set_option maxHeartbeats 400000 in
theorem tokens_L (s : List UInt8) {w0 : World} (h4 : ¬ 4096 < s.length) (hd : decE s = 0) (R : Ending → World → Prop) (hR : R = (fun e w' => ∃ v, e = .returned (.tuple #[v, .int .i64 (tokE s)]) ∧ Mem [] w0 w' [⟨124, 2, v, (List.length (tokL s)), (recs tokc (tokL s))⟩])) : ∀ (N : Nat) (vw vo vm : Value) (wd : List Int) (ws : List (List Int)) (k : Nat) (w : World) (hk : k ≤ (decL s ++ [32]).length) (hwl : wd.length ≤ k) (hw : words (decL s) = ws ++ wordsG wd ((decL s ++ [32]).drop k)) (hf : fits ws = true) (hal : allW wd = true) (hM : Mem [] w0 w [⟨3, 1, vw, (List.length wd), (ivals .i64 wd)⟩, ⟨124, 2, vo, (List.length (toks ws)), (recs tokc (toks ws))⟩, ⟨3, 1, vm, (List.length (decL s ++ [32])), (ivals .i64 (decL s ++ [32]))⟩]) (hN : (decL s ++ [32]).length - k < N), GoS Tryz.prog 59 R 62 [iC Tryz.f59 [1,1,1,1,1,1,0,1,0,0], iL Tryz.f59 [1,1,1,1,1,1,0,1,0,0], .inBlock 0, iC Tryz.f59 [1,1,1,1,1,1,1]] [(6, vo), (7, vw), (27, vm), (28, iN (List.length (decL s ++ [32]))), (29, iN k)] w := by
 intro N
 induction N with
 | zero => intro vw vo vm wd ws k w hk hwl hw hf hal hM hN; exact absurd hN (Nat.not_lt_zero _)
 | succ N ih =>
  intro vw vo vm wd ws k w hk hwl hw hf hal hM hN
  have hq := @decL_len s
  have hml : (decL s ++ [32]).length = (decL s).length + 1 := by simp
  have hws := words_count hw
  have htk := toks_len ws
  refine xs ?_
  refine xc 5 (((k : Nat) : Int) < (((List.length (decL s ++ [32])) : Nat) : Int)) (fun h1p => ?_) (fun h1p => ?_)
  ·
   refine xat 5 sT70 (hM.rd 2 rfl) ((k : Nat) : Int) k (fun p3 hp4 => ?_) (hj := (by first | omega | ((try dsimp only); omega)))
   refine xv 0 (at_load pE3 (hM.rd 2 rfl) hp4 (ivals_at (by first | omega | ((try dsimp only); omega)))) ?_
   refine xka 6 (letter_c (List.getD (decL s ++ [32]) k 0) w) ?_
   refine xb 1 (letter (List.getD (decL s ++ [32]) k 0)) (fun h8 => ?_) (fun h8 => ?_)
   ·
    refine xka 4 (fold_c (List.getD (decL s ++ [32]) k 0) w) ?_
    refine xx 0 (m_lit sT70 hM (n := 1) (parts := #[(0, .int .i64 (fold (List.getD (decL s ++ [32]) k 0)))]) (cs := [.int .i64 (fold (List.getD (decL s ++ [32]) k 0))]) (by decide) (by kernel_rfl) rfl) (fun v9 w10 hM12 => ?_)
    refine xx 0 (m_append sT70 hM12 1 rfl (hM12.rd 0 rfl) (oneL rfl) (by first | omega | ((try dsimp only); omega) | ((try dsimp only); rw [List.length_append] at *; simp at *; omega) | ((try dsimp only); rw [toks_len]; omega)) (by first | omega | ((try dsimp only); omega) | ((try dsimp only); rw [List.length_append] at *; simp at *; omega) | ((try dsimp only); rw [toks_len]; omega)) 70) (fun v13 w14 hM16 => ?_)
    have hM17 : Mem [] w0 w14 [⟨3, 1, v9, 1, [.int .i64 (fold (List.getD (decL s ++ [32]) k 0))]⟩, ⟨3, 1, v13, (List.length (wd ++ ([(fold (List.getD (decL s ++ [32]) k 0))] : List Int))), (ivals .i64 (wd ++ ([(fold (List.getD (decL s ++ [32]) k 0))] : List Int)))⟩, ⟨124, 2, vo, (List.length (toks ws)), (recs tokc (toks ws))⟩, ⟨3, 1, vm, (List.length (decL s ++ [32])), (ivals .i64 (decL s ++ [32]))⟩] := hM16.cast (by simp [ivals, svals, bvals, nvals, u8s, Nat.add_assoc])
    refine xa 4 ((k : Nat) : Int) 1 (((k + 1) : Nat) : Int) ?_
    have hM19 := hM17.sub (sD (sK (sK (sK sR))))
    exact xl 3 (ih v13 vo vm (wd ++ [fold (List.getD (decL s ++ [32]) k 0)]) ws (k + 1) _ (by omega) (by rw [List.length_append, List.length_singleton]; omega) (by rw [hw, words_letter (by omega) h8]) hf (allW_snoc hal h8) (hM19.cast (by simp)) (by omega))
   ·
    refine xv 5 (f_slen sT70 (hM.rd 0 rfl) 3 w) ?_
    refine xc 2 ((((List.length wd) : Nat) : Int) = 0) (fun h21p => ?_) (fun h21p => ?_)
    ·
     refine xa 2 ((k : Nat) : Int) 1 (((k + 1) : Nat) : Int) ?_
     obtain rfl : wd = [] := List.eq_nil_of_length_eq_zero (by omega)
     exact xl 3 (ih vw vo vm [] ws (k + 1) _ (by omega) (by simp) (by rw [hw, words_blank (by omega) h8]) hf hal hM (by omega))
    ·
     have h21 : ((((List.length wd) : Nat) : Int) == 0) = false := by simpa using h21p
     refine xk 4 (encode_c vw wd w (hM.rd 0 rfl) (by first | omega | ((try dsimp only); omega))) (fun w23 m24 => ?_)
     have hM25 := Mem.join hM m24
     refine xn 10 (encT wd) ?_
     refine xc 2 ((((encT wd).length : Nat) : Int) > 64) (fun h27p => ?_) (fun h27p => ?_)
     ·
      have hM28 := hM25.sub (sD (sD (sD sR)))
      obtain ⟨e1, e2⟩ := tok_no h4 hd (by rw [hw, words_end (by omega) h8 (ne_of_len h21)]; exact fits_no (by rw [← encT_of hal]; omega))
      exact xr 5 (v := .tuple #[.slice none 0 0, .int .i64 4]) Tryz.func59 hR ⟨_, by rw [e2], by rw [e1]; exact hM28.nilrow 124 2⟩
     ·
      refine xv 6 (f_slen sT79 (hM25.rd 1 rfl) 3 w23) ?_
      refine xx 1 (m_lit sT79 hM25 (n := 1) (parts := #[(0, .agg #[sS (encT wd), iN (List.length (toks ws))])]) (cs := [sS (encT wd), iN (List.length (toks ws))]) (by decide) (by kernel_rfl) rfl) (fun v29 w30 hM32 => ?_)
      refine xx 0 (m_append sT79 hM32 2 rfl (hM32.rd 0 rfl) (oneL rfl) (by first | omega | ((try dsimp only); omega) | ((try dsimp only); rw [List.length_append] at *; simp at *; omega) | ((try dsimp only); rw [toks_len]; omega)) (by first | omega | ((try dsimp only); omega) | ((try dsimp only); rw [List.length_append] at *; simp at *; omega) | ((try dsimp only); rw [toks_len]; omega)) 79) (fun v33 w34 hM36 => ?_)
      have hM37 : Mem [] w0 w34 [⟨124, 2, v29, 1, [sS (encT wd), iN (List.length (toks ws))]⟩, ⟨3, 1, vw, (List.length wd), (ivals .i64 wd)⟩, ⟨124, 2, v33, (List.length ((toks ws) ++ ([(Tok.mk (encT wd) (((List.length (toks ws)) : Nat) : Int))] : List Tok))), (recs tokc ((toks ws) ++ ([(Tok.mk (encT wd) (((List.length (toks ws)) : Nat) : Int))] : List Tok)))⟩, ⟨3, 1, vm, (List.length (decL s ++ [32])), (ivals .i64 (decL s ++ [32]))⟩] := hM36.cast (by simp [ivals, svals, bvals, nvals, u8s, Nat.add_assoc, recs, tokc])
      have hM38 : Mem [] w0 w34 [⟨124, 2, v29, 1, [sS (encT wd), iN (List.length (toks ws))]⟩, ⟨3, 1, (cut vw 0), 0, (ivals .i64 ([] : List Int))⟩, ⟨124, 2, v33, (List.length ((toks ws) ++ ([(Tok.mk (encT wd) (((List.length (toks ws)) : Nat) : Int))] : List Tok))), (recs tokc ((toks ws) ++ ([(Tok.mk (encT wd) (((List.length (toks ws)) : Nat) : Int))] : List Tok)))⟩, ⟨3, 1, vm, (List.length (decL s ++ [32])), (ivals .i64 (decL s ++ [32]))⟩] := (Mem.cutrow hM37 1 rfl 0 (by first | omega | ((try dsimp only); omega))).cast (by simp [ivals, nvals, u8s, svals, bvals, List.map_take])
      refine xv 4 (show (Instr.sliceAt 70 (vw) none (some (.int .i64 0)) none).run Tryz.prog w34 = .ok (cut vw 0) w34 from f_cut0 sT70 (hM37.rd 1 rfl) 0 (by omega) (by first | omega | ((try dsimp only); omega)) _ _) ?_
      refine xa 4 ((k : Nat) : Int) 1 (((k + 1) : Nat) : Int) ?_
      have hM42 := hM38.sub (sD (sK (sK (sK sR))))
      have hwl : termB wd = encT wd := (encT_of hal).symm
      exact xl 3 (ih (cut vw 0) v33 vm [] (ws ++ [wd]) (k + 1) _ (by omega) (by simp) (by rw [hw, words_end (by omega) h8 (ne_of_len h21), List.append_assoc]; rfl) (fits_snoc hf (by rw [hwl]; omega)) rfl (hM42.cast (by rw [toks_snoc, hwl]; simp [toks_len])) (by omega))
  ·
   have hM2 := hM.sub (sD (sK (sD sR)))
   have e0 : words (decL s) = ws := by rw [hw, List.drop_of_length_le (by omega)]; simp [wordsG]
   obtain ⟨e1, e2⟩ := tok_yes h4 hd e0 hf
   exact xr 7 (v := .tuple #[vo, .int .i64 0]) Tryz.func59 hR ⟨_, by rw [e2], by rw [e1]; exact hM2⟩

set_option maxHeartbeats 400000 in
theorem tokens_c (s : List UInt8) (w : World) :
  Calls Tryz.prog 59 #[sS s] w (fun e w' => ∃ v, e = .returned (.tuple #[v, .int .i64 (tokE s)]) ∧ Mem [] w w' [⟨124, 2, v, (List.length (tokL s)), (recs tokc (tokL s))⟩]) := by
 have hq := @decL_len s
 refine xe 62 Tryz.func59 (fun R hR => ?_)
 have hM0 := Mem.start w
 refine xn 9 s ?_
 refine xc 2 (((s.length : Nat) : Int) > 4096) (fun h2p => ?_) (fun h2p => ?_)
 ·
  obtain ⟨e1, e2⟩ := tok_long (s := s) (by omega)
  exact xr 5 (v := .tuple #[.slice none 0 0, .int .i64 4]) Tryz.func59 hR ⟨_, by rw [e2], by rw [e1]; exact hM0.nilrow 124 2⟩
 ·
  refine xkv 4 (decode_c s (by first | omega | ((try dsimp only); omega)) w) (fun v6 w3 m4 => ?_)
  have hM5 := Mem.join hM0 m4
  refine xcn 12 ((decE s) = 0) (fun h7p => ?_) (fun h7p => ?_)
  ·
   have h7 : ((decE s) != 0) = true := by simpa using h7p
   have hM8 := hM5.sub (sD sR)
   obtain ⟨e1, e2⟩ := tok_bad (s := s) (by omega) (bne_iff_ne.1 h7)
   exact xr 6 (v := .tuple #[.slice none 0 0, .int .i64 (decE s)]) Tryz.func59 hR ⟨_, by rw [e2], by rw [e1]; exact hM8.nilrow 124 2⟩
  ·
   have h7 : ((decE s) != 0) = false := by simpa using h7p
   refine xx 3 (m_lit sT79 hM5 (n := 0) (parts := #[]) (cs := []) (by decide) (by kernel_rfl) rfl) (fun v9 w10 hM12 => ?_)
   refine xx 4 (m_lit sT70 hM12 (n := 0) (parts := #[]) (cs := []) (by decide) (by kernel_rfl) rfl) (fun v13 w14 hM16 => ?_)
   refine xx 6 (m_lit sT70 hM16 (n := 1) (parts := #[(0, .int .i64 32)]) (cs := [.int .i64 32]) (by decide) (by kernel_rfl) rfl) (fun v17 w18 hM20 => ?_)
   refine xx 0 (m_append sT70 hM20 3 rfl (hM20.rd 0 rfl) (oneL rfl) (by first | omega | ((try dsimp only); omega) | ((try dsimp only); rw [List.length_append] at *; simp at *; omega) | ((try dsimp only); rw [toks_len]; omega)) (by first | omega | ((try dsimp only); omega) | ((try dsimp only); rw [List.length_append] at *; simp at *; omega) | ((try dsimp only); rw [toks_len]; omega)) 70) (fun v21 w22 hM24 => ?_)
   have hM25 : Mem [] w w22 [⟨3, 1, v17, 1, [.int .i64 32]⟩, ⟨3, 1, v13, 0, []⟩, ⟨124, 2, v9, 0, []⟩, ⟨3, 1, v21, (List.length ((decL s) ++ ([32] : List Int))), (ivals .i64 ((decL s) ++ ([32] : List Int)))⟩] := hM24.cast (by simp [ivals, svals, bvals, nvals, u8s, Nat.add_assoc])
   refine xv 0 (f_slen sT70 (hM25.rd 3 rfl) 3 w22) ?_
   have hM27 := hM25.sub (sD (sK (sK (sK sR))))
   have hq := @decL_len s
   exact xl 4 (tokens_L s (by omega) (p_eq h7) R hR ((decL s ++ [32]).length + 1) v13 v9 v21 [] [] 0 w22 (by omega) (by simp) (by rw [List.nil_append]; rfl) rfl rfl (hM27.cast (by simp [ivals, toks, toksF, recs])) (by omega))


end Go.Proofs.YthpodbngljfdmaaGreatDoor


namespace Go.Proofs.YthpodbngljfdmaaGreatDoor
open Go Go.Gw Go.UtfP Go.TokP Go.RowKit
set_option linter.unusedVariables false
set_option linter.unusedSimpArgs false
set_option maxRecDepth 20000
theorem pE9 : Plain Tryz.prog 9 := ⟨.string, by kernel_rfl, (fun _ h => by cases h), (fun _ _ h => by cases h)⟩


set_option maxHeartbeats 400000 in
theorem term_c (s : List UInt8) (w : World) :
  Calls Tryz.prog 58 #[sS s] w (fun e w' => e = .returned (.tuple #[sS (termS s), .int .i64 (termE s)]) ∧ Mem [] w w' []) := by
 refine xe 23 Tryz.func58 (fun R hR => ?_)
 have hM0 := Mem.start w
 refine xkv 8 (tokens_c s w) (fun v4 w1 m2 => ?_)
 have hM3 := Mem.join hM0 m2
 refine xcn 14 ((tokE s) = 0) (fun h5p => ?_) (fun h5p => ?_)
 ·
  have h5 : ((tokE s) != 0) = true := by simpa using h5p
  have hM6 := hM3.sub (sD sR)
  obtain ⟨e1, e2⟩ := term_bad (s := s) (bne_iff_ne.1 h5)
  exact xr 6 (v := .tuple #[sS ([]), .int .i64 (tokE s)]) Tryz.func58 hR ⟨ret_str2 e1.symm e2.symm, hM6⟩
 ·
  have h5 : ((tokE s) != 0) = false := by simpa using h5p
  refine xv 3 (f_slen sT79 (hM3.rd 0 rfl) 3 w1) ?_
  refine xcn 3 ((((List.length (tokL s)) : Nat) : Int) = 1) (fun h8p => ?_) (fun h8p => ?_)
  ·
   have hM9 := hM3.sub (sD sR)
   obtain ⟨e1, e2⟩ := term_many (s := s) (p_eq h5) (by omega)
   exact xr 5 (v := .tuple #[sS ([]), .int .i64 20]) Tryz.func58 hR ⟨ret_str2 e1.symm e2.symm, hM9⟩
  ·
   refine xat 5 sT79 (hM3.rd 0 rfl) 0 0 (fun p10 hp11 => ?_)
   refine xv 1 (c_load pE9 (hM3.rd 0 rfl) (Cel.add (At.cel hp11) 0) (recs_at (i := 0) tokc_len (Tok.mk [] 0) (by first | omega | (dsimp only; omega)) rfl)) ?_
   have hM15 := hM3.sub (sD sR)
   obtain ⟨e1, e2⟩ := term_one (s := s) (p_eq h5) (by omega)
   exact xr 3 (v := .tuple #[sS ((List.getD (tokL s) 0 (Tok.mk [] 0)).t), .int .i64 0]) Tryz.func58 hR ⟨ret_str2 e1.symm e2.symm, hM15⟩

set_option maxHeartbeats 400000 in
theorem folded_L (s : List UInt8) {w0 : World} (hd : (decE s != 0) = false) (R : Ending → World → Prop) (hR : R = (fun e w' => ∃ v, e = .returned (.tuple #[v, .int .i64 (decE s)]) ∧ Mem [] w0 w' [⟨3, 1, v, (List.length (foldL s)), (ivals .i64 (foldL s))⟩])) : ∀ (N : Nat) (b : Value) (k : Nat) (w : World) (hk : k ≤ (decL s).length) (hM : Mem [] w0 w [⟨3, 1, b, (List.length (foldK k (decL s))), (ivals .i64 (foldK k (decL s)))⟩]) (hN : (decL s).length - k < N), GoS Tryz.prog 86 R 30 [iC Tryz.f86 [1,1,1,0,1,0,0], iL Tryz.f86 [1,1,1,0,1,0,0], .inBlock 0, iC Tryz.f86 [1,1,1,1]] [(4, b), (16, b), (17, iN ((decL s).length)), (18, iN k)] w := by
 intro N
 induction N with
 | zero => intro b k w hk hM hN; exact absurd hN (Nat.not_lt_zero _)
 | succ N ih =>
  intro b k w hk hM hN
  have hlen := rd_len (hM.rd 0 rfl)
  simp only [maxLen, foldK_len] at hlen
  refine xs ?_
  refine xc 5 (((k : Nat) : Int) < (((decL s).length : Nat) : Int)) (fun h1p => ?_) (fun h1p => ?_)
  ·
   refine xat 6 sT70 (hM.rd 0 rfl) ((k : Nat) : Int) k (fun p2 hp3 => ?_) (hj := (by first | omega | (simp only [foldK_len]; omega)))
   refine xv 0 (at_load pE3 (hM.rd 0 rfl) hp3 (ivals_at (by first | omega | (simp only [foldK_len]; omega)))) ?_
   refine xka 7 (fold_c (List.getD (foldK k (decL s)) k 0) w) ?_
   refine xat 0 sT70 (hM.rd 0 rfl) ((k : Nat) : Int) k (fun p7 hp8 => ?_) (hj := (by first | omega | (simp only [foldK_len]; omega)))
   refine xst 0 (at_store (u := .int .i64 (fold (List.getD (foldK k (decL s)) k 0))) (by kernel_rfl) hM 0 rfl hp8 (by first | omega | (simp only [foldK_len]; omega)) rfl rfl) (fun w10 hM12 => ?_)
   have hM13 : Mem [] w0 w10 [⟨3, 1, b, (List.length (foldK k (decL s))), (ivals .i64 (List.set (foldK k (decL s)) k (fold (List.getD (foldK k (decL s)) k 0))))⟩] := hM12.cast (by simp [ivals, svals, bvals, nvals, u8s, List.map_set])
   refine xa 3 ((k : Nat) : Int) 1 (((k + 1) : Nat) : Int) ?_
   exact xl 3 (ih b (k + 1) _ (by omega) (hM13.cast (by rw [foldK_get (by omega), foldK_set (by omega)]; simp only [foldK_len])) (by omega))
  ·
   have e1 : foldK k (decL s) = foldL s := foldK_all (by rw [foldK_len] at *; omega)
   exact xr 7 (v := .tuple #[b, .int .i64 0]) Tryz.func86 hR ⟨_, by rw [p_eq hd], by rw [← e1]; exact hM⟩

set_option maxHeartbeats 400000 in
theorem folded_c (s : List UInt8) (hs : s.length * 8 ≤ 140737488355328) (w : World) :
  Calls Tryz.prog 86 #[sS s] w (fun e w' => ∃ v, e = .returned (.tuple #[v, .int .i64 (decE s)]) ∧ Mem [] w w' [⟨3, 1, v, (List.length (foldL s)), (ivals .i64 (foldL s))⟩]) := by
 refine xe 30 Tryz.func86 (fun R hR => ?_)
 have hM0 := Mem.start w
 refine xkv 8 (decode_c s (by exact hs) w) (fun v4 w1 m2 => ?_)
 have hM3 := Mem.join hM0 m2
 refine xcn 12 ((decE s) = 0) (fun h5p => ?_) (fun h5p => ?_)
 ·
  have h5 : ((decE s) != 0) = true := by simpa using h5p
  have hM6 := hM3.sub (sD sR)
  have e1 : foldL s = [] := by unfold foldL; rw [dec_none h5]; rfl
  exact xr 6 (v := .tuple #[.slice none 0 0, .int .i64 (decE s)]) Tryz.func86 hR ⟨_, rfl, by rw [e1]; exact hM6.nilrow 3 1⟩
 ·
  have h5 : ((decE s) != 0) = false := by simpa using h5p
  refine xv 5 (f_slen sT70 (hM3.rd 0 rfl) 3 w1) ?_
  exact xl 4 (folded_L s h5 R hR ((decL s).length + 1) v4 0 w1 (by omega) (hM3.cast (by simp [foldK_zero])) (by omega))


end Go.Proofs.YthpodbngljfdmaaGreatDoor


namespace Go.Proofs.YthpodbngljfdmaaGreatDoor
open Go Go.Gw Go.UtfP Go.TokP Go.RowKit
set_option linter.unusedVariables false
set_option linter.unusedSimpArgs false
set_option maxRecDepth 20000

abbrev uTokC0 : List Nat := [1,1,1,1,1,0,1,0,0]
set_option maxHeartbeats 400000 in
theorem rtok_L2 (s : List UInt8) {w0 : World} (h4 : ¬ 4096 < s.length) (hd : decE s = 0) (vl vo : Value) (ws : List (List Int)) (i : Nat) (hi : i < (decL s).length) (h0 : letter ((decL s).getD i 0) = true) (hb : bef (decL s) i = false) (hw : words (decL s) = ws ++ restG (bef (decL s) i) ((decL s).drop i)) (hf : fits ws = true) (R : Ending → World → Prop) (hR : R = (fun e w' => ∃ v, e = .returned (.tuple #[v, .int .i64 (tokE s)]) ∧ Mem [] w0 w' [⟨124, 2, v, (List.length (tokL s)), (recs tokc (tokL s))⟩])) : ∀ (N : Nat) (k : Nat) (w : World) (out : ∀ (vo : Value) (ws : List (List Int)) (i' : Nat) (w : World), i < i' → i' ≤ (decL s).length → words (decL s) = ws ++ restG (bef (decL s) i') ((decL s).drop i') → fits ws = true → Mem [] w0 w [⟨124, 2, vo, (List.length (toks ws)), (recs tokc (toks ws))⟩, ⟨3, 1, vl, (List.length (decL s)), (ivals .i64 (decL s))⟩] → GoS Tryz.prog 75 R 85 [iC Tryz.f75 uTokC0, iL Tryz.f75 uTokC0, .inBlock 0, iC Tryz.f75 [1,1,1,1,1,1]] [(4, vl), (6, vo), (7, iN i')] w) (hik : i ≤ k) (hk : k ≤ (decL s).length) (ha : ∀ j, i ≤ j → j < k → letter ((decL s).getD j 0) = true) (hM : Mem [] w0 w [⟨124, 2, vo, (List.length (toks ws)), (recs tokc (toks ws))⟩, ⟨3, 1, vl, (List.length (decL s)), (ivals .i64 (decL s))⟩]) (hN : (decL s).length - k < N), GoS Tryz.prog 75 R 85 [iC Tryz.f75 [1,1,1,1,1,0,1,0,0,1,0,0,1,1,0,1,0,0], iL Tryz.f75 [1,1,1,1,1,0,1,0,0,1,0,0,1,1,0,1,0,0], .inBlock 2, iC Tryz.f75 [1,1,1,1,1,0,1,0,0,1,0,0,1,1,1], .inBlock 1, iC Tryz.f75 [1,1,1,1,1,0,1,0,0,1,1], iL Tryz.f75 uTokC0, .inBlock 0, iC Tryz.f75 [1,1,1,1,1,1]] [(4, vl), (6, vo), (7, iN i), (8, sS (termB (List.map fold (List.take (k - i) (List.drop i (decL s)))))), (9, iN k)] w := by
 intro N
 induction N with
 | zero => intro k w out hik hk ha hM hN; exact absurd hN (Nat.not_lt_zero _)
 | succ N ih =>
  intro k w out hik hk ha hM hN
  have hq := @decL_len s
  have hws := words_count hw
  have htk := toks_len ws
  have htl := termB_len (List.map fold (List.take (k - i) (List.drop i (decL s))))
  rw [List.length_map, List.length_take, List.length_drop] at htl
  refine xs ?_
  refine xv 5 (f_slen sT70 (hM.rd 1 rfl) 3 w) ?_
  refine xfc 2 52 (((k : Nat) : Int) < (((List.length (decL s)) : Nat) : Int)) (fun h2p => ?_) (fun h2p => ?_)
  ·
   refine xat 2 sT70 (hM.rd 1 rfl) ((k : Nat) : Int) k (fun p3 hp4 => ?_)
   refine xv 0 (at_load pE3 (hM.rd 1 rfl) hp4 (ivals_at (by first | omega | (dsimp only; omega)))) ?_
   refine xk 0 (rletter_c (List.getD (decL s) k 0) w) (fun w8 m9 => ?_)
   have hM10 := Mem.join hM m9
   refine xb 2 (letter (List.getD (decL s) k 0)) (fun h11 => ?_) (fun h11 => ?_)
   ·
    refine xat 7 sT70 (hM10.rd 1 rfl) ((k : Nat) : Int) k (fun p27 hp28 => ?_)
    refine xv 0 (at_load pE3 (hM10.rd 1 rfl) hp28 (ivals_at (by first | omega | (dsimp only; omega)))) ?_
    refine xk 0 (rfold_c (List.getD (decL s) k 0) w8) (fun w32 m33 => ?_)
    have hM34 := Mem.join hM10 m33
    refine xx 0 (m_lit sT70 hM34 (n := 1) (parts := #[(0, .int .i64 (fold (List.getD (decL s) k 0)))]) (cs := [.int .i64 (fold (List.getD (decL s) k 0))]) (by decide) (by kernel_rfl) rfl) (fun v35 w36 hM38 => ?_)
    refine xk 0 (rencode_c v35 ([(fold (List.getD (decL s) k 0))] : List Int) w36 (hM38.rd 0 rfl) (by first | omega | (simp; done))) (fun w39 m40 => ?_)
    have hM41 := Mem.join hM38 m40
    refine xqa 9 (termB (List.map fold (List.take (k - i) (List.drop i (decL s))))) (encT ([(fold (List.getD (decL s) k 0))] : List Int)) ?_ (hl := (by (have q1 := encT_len [fold (List.getD (decL s) k 0)]; simp only [List.length_cons, List.length_nil] at q1; omega)))
    refine xa 5 ((k : Nat) : Int) 1 (((k + 1) : Nat) : Int) ?_
    have hM44 := hM41.sub (sD (sK (sK sR)))
    exact xl 3 (l := [(4, vl), (6, vo), (7, iN i), (8, sS ((termB (List.map fold (List.take (k - i) (List.drop i (decL s))))) ++ (encT ([(fold (List.getD (decL s) k 0))] : List Int)))), (9, iN (k + 1))]) (GoS.cast (by rw [termB_part hik (by omega) h11]) (ih (k + 1) _ out (by omega) (by omega) (fun j q1 q2 => by rcases Nat.lt_succ_iff_lt_or_eq.1 q2 with h | h; exact ha j q1 h; subst h; exact h11) hM44 (by omega)))
   ·
    refine xn 5 (termB (List.map fold (List.take (k - i) (List.drop i (decL s))))) ?_
    refine xc 2 ((((termB (List.map fold (List.take (k - i) (List.drop i (decL s))))).length : Nat) : Int) > 64) (fun h13p => ?_) (fun h13p => ?_)
    ·
     have hM14 := hM10.sub (sD (sD sR))
     obtain ⟨e1, e2⟩ := tok_no h4 hd (by rw [hw, rest_word hik hk hi hb ha h0 (.inr h11)]; exact fits_no (by omega))
     exact xr 5 (v := .tuple #[.slice none 0 0, .int .i64 4]) Tryz.func75 hR ⟨_, by rw [e2], by rw [e1]; exact hM14.nilrow 124 2⟩
    ·
     refine xv 5 (f_slen sT79 (hM10.rd 0 rfl) 3 w8) ?_
     refine xx 1 (m_lit sT79 hM10 (n := 1) (parts := #[(0, .agg #[sS (termB (List.map fold (List.take (k - i) (List.drop i (decL s))))), iN (List.length (toks ws))])]) (cs := [sS (termB (List.map fold (List.take (k - i) (List.drop i (decL s))))), iN (List.length (toks ws))]) (by decide) (by kernel_rfl) rfl) (fun v15 w16 hM18 => ?_)
     refine xx 0 (m_append sT79 hM18 1 rfl (hM18.rd 0 rfl) (oneL rfl) (by first | omega | ((try dsimp only); rw [toks_len]; omega)) (by first | omega | ((try dsimp only); rw [toks_len]; omega)) 79) (fun v19 w20 hM22 => ?_)
     have hM23 : Mem [] w0 w20 [⟨124, 2, v15, 1, [sS (termB (List.map fold (List.take (k - i) (List.drop i (decL s))))), iN (List.length (toks ws))]⟩, ⟨124, 2, v19, (List.length ((toks ws) ++ ([(Tok.mk (termB (List.map fold (List.take (k - i) (List.drop i (decL s))))) (((List.length (toks ws)) : Nat) : Int))] : List Tok))), (recs tokc ((toks ws) ++ ([(Tok.mk (termB (List.map fold (List.take (k - i) (List.drop i (decL s))))) (((List.length (toks ws)) : Nat) : Int))] : List Tok)))⟩, ⟨3, 1, vl, (List.length (decL s)), (ivals .i64 (decL s))⟩] := hM22.cast (by first | (simp [ivals, svals, bvals, nvals, u8s, Nat.add_assoc, recs, tokc]; done) | (simp [ivals, svals, bvals, nvals, u8s, Nat.add_assoc, recs, tokc]; omega))
     refine xa 5 ((i : Nat) : Int) 1 (((i + 1) : Nat) : Int) ?_
     have hM26 := hM23.sub (sD (sK (sK sR)))
     refine xl 3 (k := [iC Tryz.f75 uTokC0, iL Tryz.f75 uTokC0, .inBlock 0, iC Tryz.f75 [1,1,1,1,1,1]]) (l := [(4, vl), (6, v19), (7, iN (i + 1))]) ?_
     refine out _ (ws ++ [(List.map fold (List.take (k - i) (List.drop i (decL s))))]) (i + 1) _ (by omega) (by omega) ?_ (fits_snoc hf (by omega)) (hM26.cast (by rw [toks_snoc]; simp [toks_len]))
     rw [hw, rest_word hik hk hi hb ha h0 (.inr h11), List.append_assoc]; rfl
  ·
   refine xn 13 (termB (List.map fold (List.take (k - i) (List.drop i (decL s))))) ?_
   refine xc 2 ((((termB (List.map fold (List.take (k - i) (List.drop i (decL s))))).length : Nat) : Int) > 64) (fun h46p => ?_) (fun h46p => ?_)
   ·
    have hM47 := hM.sub (sD (sD sR))
    obtain ⟨e1, e2⟩ := tok_no h4 hd (by rw [hw, rest_word hik hk hi hb ha h0 (.inl (by omega))]; exact fits_no (by omega))
    exact xr 5 (v := .tuple #[.slice none 0 0, .int .i64 4]) Tryz.func75 hR ⟨_, by rw [e2], by rw [e1]; exact hM47.nilrow 124 2⟩
   ·
    refine xv 5 (f_slen sT79 (hM.rd 0 rfl) 3 w) ?_
    refine xx 1 (m_lit sT79 hM (n := 1) (parts := #[(0, .agg #[sS (termB (List.map fold (List.take (k - i) (List.drop i (decL s))))), iN (List.length (toks ws))])]) (cs := [sS (termB (List.map fold (List.take (k - i) (List.drop i (decL s))))), iN (List.length (toks ws))]) (by decide) (by kernel_rfl) rfl) (fun v48 w49 hM51 => ?_)
    refine xx 0 (m_append sT79 hM51 1 rfl (hM51.rd 0 rfl) (oneL rfl) (by first | omega | ((try dsimp only); rw [toks_len]; omega)) (by first | omega | ((try dsimp only); rw [toks_len]; omega)) 79) (fun v52 w53 hM55 => ?_)
    have hM56 : Mem [] w0 w53 [⟨124, 2, v48, 1, [sS (termB (List.map fold (List.take (k - i) (List.drop i (decL s))))), iN (List.length (toks ws))]⟩, ⟨124, 2, v52, (List.length ((toks ws) ++ ([(Tok.mk (termB (List.map fold (List.take (k - i) (List.drop i (decL s))))) (((List.length (toks ws)) : Nat) : Int))] : List Tok))), (recs tokc ((toks ws) ++ ([(Tok.mk (termB (List.map fold (List.take (k - i) (List.drop i (decL s))))) (((List.length (toks ws)) : Nat) : Int))] : List Tok)))⟩, ⟨3, 1, vl, (List.length (decL s)), (ivals .i64 (decL s))⟩] := hM55.cast (by first | (simp [ivals, svals, bvals, nvals, u8s, Nat.add_assoc, recs, tokc]; done) | (simp [ivals, svals, bvals, nvals, u8s, Nat.add_assoc, recs, tokc]; omega))
    refine xa 5 ((i : Nat) : Int) 1 (((i + 1) : Nat) : Int) ?_
    have hM59 := hM56.sub (sD (sK (sK sR)))
    refine xl 3 (k := [iC Tryz.f75 uTokC0, iL Tryz.f75 uTokC0, .inBlock 0, iC Tryz.f75 [1,1,1,1,1,1]]) (l := [(4, vl), (6, v52), (7, iN (i + 1))]) ?_
    refine out _ (ws ++ [(List.map fold (List.take (k - i) (List.drop i (decL s))))]) (i + 1) _ (by omega) (by omega) ?_ (fits_snoc hf (by omega)) (hM59.cast (by rw [toks_snoc]; simp [toks_len]))
    rw [hw, rest_word hik hk hi hb ha h0 (.inl (by omega)), List.append_assoc]; rfl

set_option maxHeartbeats 400000 in
theorem rtok_L (s : List UInt8) {w0 : World} (h4 : ¬ 4096 < s.length) (hd : decE s = 0) (vl : Value) (R : Ending → World → Prop) (hR : R = (fun e w' => ∃ v, e = .returned (.tuple #[v, .int .i64 (tokE s)]) ∧ Mem [] w0 w' [⟨124, 2, v, (List.length (tokL s)), (recs tokc (tokL s))⟩])) : ∀ (N : Nat) (vo : Value) (ws : List (List Int)) (i : Nat) (w : World) (hi : i ≤ (decL s).length) (hw : words (decL s) = ws ++ restG (bef (decL s) i) ((decL s).drop i)) (hf : fits ws = true) (hM : Mem [] w0 w [⟨124, 2, vo, (List.length (toks ws)), (recs tokc (toks ws))⟩, ⟨3, 1, vl, (List.length (decL s)), (ivals .i64 (decL s))⟩]) (hN : (decL s).length - i < N), GoS Tryz.prog 75 R 85 [iC Tryz.f75 uTokC0, iL Tryz.f75 uTokC0, .inBlock 0, iC Tryz.f75 [1,1,1,1,1,1]] [(4, vl), (6, vo), (7, iN i)] w := by
 intro N
 induction N with
 | zero => intro vo ws i w hi hw hf hM hN; exact absurd hN (Nat.not_lt_zero _)
 | succ N ih =>
  intro vo ws i w hi hw hf hM hN
  have hq := @decL_len s
  have hws := words_count hw
  have htk := toks_len ws
  refine xs ?_
  refine xv 5 (f_slen sT70 (hM.rd 1 rfl) 3 w) ?_
  refine xc 2 (((i : Nat) : Int) < (((List.length (decL s)) : Nat) : Int)) (fun h2p => ?_) (fun h2p => ?_)
  ·
   refine xat 8 sT70 (hM.rd 1 rfl) ((i : Nat) : Int) i (fun p4 hp5 => ?_) (hj := (by first | omega | ((try dsimp only); omega)))
   refine xv 0 (at_load pE3 (hM.rd 1 rfl) hp5 (ivals_at (by first | omega | ((try dsimp only); omega)))) ?_
   refine xk 0 (rletter_c (List.getD (decL s) i 0) w) (fun w9 m10 => ?_)
   have hM11 := Mem.join hM m10
   refine xf 2 35 (!(letter (List.getD (decL s) i 0))) (fun h12 => ?_) (fun h12 => ?_)
   ·
    refine xa 16 ((i : Nat) : Int) 1 (((i + 1) : Nat) : Int) ?_
    exact xl 3 (ih vo ws (i + 1) _ (by omega) (by rw [hw, rest_step (by omega) (.inl (p_nf h12))]) hf hM11 (by omega))
   ·
    refine xfc 3 38 (((i : Nat) : Int) > 0) (fun h13p => ?_) (fun h13p => ?_)
    ·
     refine xm 2 ((i : Nat) : Int) 1 (((i : Nat) : Int) - 1) ?_
     refine xat 0 sT70 (hM11.rd 1 rfl) (((i : Nat) : Int) - 1) (Int.toNat (((i : Nat) : Int) - 1)) (fun p14 hp15 => ?_) (hj := (by first | omega | ((try dsimp only); omega)))
     refine xv 0 (at_load pE3 (hM11.rd 1 rfl) hp15 (ivals_at (by first | omega | ((try dsimp only); omega)))) ?_
     refine xk 0 (rletter_c (List.getD (decL s) (Int.toNat (((i : Nat) : Int) - 1)) 0) w9) (fun w20 m21 => ?_)
     have hM22 := Mem.join hM11 m21
     refine xb 3 (letter (List.getD (decL s) (Int.toNat (((i : Nat) : Int) - 1)) 0)) (fun h24 => ?_) (fun h24 => ?_)
     ·
      refine xa 3 ((i : Nat) : Int) 1 (((i + 1) : Nat) : Int) ?_
      exact xl 3 (ih vo ws (i + 1) _ (by omega) (by rw [hw, rest_step (by omega) (.inr (by unfold bef; rw [if_neg (by omega)]; simpa using h24))]) hf hM22 (by omega))
     ·
      refine xl 13 (l := [(4, vl), (6, vo), (7, iN i), (8, sS ([])), (9, iN i)]) (GoS.cast (by rw [Nat.sub_self, List.take_zero]; rfl) (rtok_L2 s h4 hd vl vo ws i (by omega) (p_nt h12) (by unfold bef; rw [if_neg (by omega)]; simpa using h24) hw hf R hR ((decL s).length + 1) i w20 (fun vo ws i' w q1 q2 q3 q4 q5 => ih vo ws i' w q2 q3 q4 q5 (by omega)) (by omega) (by omega) (by intro j q1 q2; omega) hM22 (by omega)))
    ·
     refine xl 23 (l := [(4, vl), (6, vo), (7, iN i), (8, sS ([])), (9, iN i)]) (GoS.cast (by rw [Nat.sub_self, List.take_zero]; rfl) (rtok_L2 s h4 hd vl vo ws i (by omega) (p_nt h12) (by unfold bef; rw [if_pos (by omega)]) hw hf R hR ((decL s).length + 1) i w9 (fun vo ws i' w q1 q2 q3 q4 q5 => ih vo ws i' w q2 q3 q4 q5 (by omega)) (by omega) (by omega) (by intro j q1 q2; omega) hM11 (by omega)))
  ·
   have hM3 := hM.sub (sK (sD sR))
   have e0 : words (decL s) = ws := by rw [hw, List.drop_of_length_le (by omega), restG_nil, List.append_nil]
   obtain ⟨e1, e2⟩ := tok_yes h4 hd e0 hf
   exact xr 7 (v := .tuple #[vo, .int .i64 0]) Tryz.func75 hR ⟨_, by rw [e2], by rw [e1]; exact hM3⟩

set_option maxHeartbeats 400000 in
theorem rtokens_c (s : List UInt8) (w : World) :
  Calls Tryz.prog 75 #[sS s] w (fun e w' => ∃ v, e = .returned (.tuple #[v, .int .i64 (tokE s)]) ∧ Mem [] w w' [⟨124, 2, v, (List.length (tokL s)), (recs tokc (tokL s))⟩]) := by
 have hq := @decL_len s
 refine xe 85 Tryz.func75 (fun R hR => ?_)
 have hM0 := Mem.start w
 refine xn 9 s ?_
 refine xc 2 (((s.length : Nat) : Int) > 4096) (fun h2p => ?_) (fun h2p => ?_)
 ·
  obtain ⟨e1, e2⟩ := tok_long (s := s) (by omega)
  exact xr 5 (v := .tuple #[.slice none 0 0, .int .i64 4]) Tryz.func75 hR ⟨_, by rw [e2], by rw [e1]; exact hM0.nilrow 124 2⟩
 ·
  refine xkv 4 (rdecode_c s (by first | omega | (simp; done)) w) (fun v6 w3 m4 => ?_)
  have hM5 := Mem.join hM0 m4
  refine xcn 12 ((decE s) = 0) (fun h7p => ?_) (fun h7p => ?_)
  ·
   have h7 : ((decE s) != 0) = true := by simpa using h7p
   have hM8 := hM5.sub (sD sR)
   obtain ⟨e1, e2⟩ := tok_bad (s := s) (by omega) (bne_iff_ne.1 h7)
   exact xr 6 (v := .tuple #[.slice none 0 0, .int .i64 (decE s)]) Tryz.func75 hR ⟨_, by rw [e2], by rw [e1]; exact hM8.nilrow 124 2⟩
  ·
   have h7 : ((decE s) != 0) = false := by simpa using h7p
   have hq := @decL_len s
   have hM9 := hM5.nilrow 124 2
   exact xl 12 (rtok_L s (by omega) (p_eq h7) v6 R hR ((decL s).length + 1) (.slice none 0 0) [] 0 w3 (by omega) rfl rfl (hM9.cast (by simp [toks, toksF, recs])) (by omega))


end Go.Proofs.YthpodbngljfdmaaGreatDoor


namespace Go.Proofs.YthpodbngljfdmaaGreatDoor
open Go Go.Gw Go.UtfP Go.TokP Go.RowKit
set_option linter.unusedVariables false
set_option linter.unusedSimpArgs false
set_option maxRecDepth 20000


set_option maxHeartbeats 400000 in
theorem rterm_c (s : List UInt8) (w : World) :
  Calls Tryz.prog 73 #[sS s] w (fun e w' => e = .returned (.tuple #[sS (termS s), .int .i64 (termE s)]) ∧ Mem [] w w' []) := by
 refine xe 21 Tryz.func73 (fun R hR => ?_)
 have hM0 := Mem.start w
 refine xkv 8 (rtokens_c s w) (fun v4 w1 m2 => ?_)
 have hM3 := Mem.join hM0 m2
 refine xcn 12 ((tokE s) = 0) (fun h5p => ?_) (fun h5p => ?_)
 ·
  have h5 : ((tokE s) != 0) = true := by simpa using h5p
  have hM6 := hM3.sub (sD sR)
  obtain ⟨e1, e2⟩ := term_bad (s := s) (bne_iff_ne.1 h5)
  exact xr 6 (v := .tuple #[sS ([]), .int .i64 (tokE s)]) Tryz.func73 hR ⟨ret_str2 e1.symm e2.symm, hM6⟩
 ·
  have h5 : ((tokE s) != 0) = false := by simpa using h5p
  refine xv 5 (f_slen sT79 (hM3.rd 0 rfl) 3 w1) ?_
  refine xcn 2 ((((List.length (tokL s)) : Nat) : Int) = 1) (fun h8p => ?_) (fun h8p => ?_)
  ·
   have hM9 := hM3.sub (sD sR)
   obtain ⟨e1, e2⟩ := term_many (s := s) (p_eq h5) (by omega)
   exact xr 5 (v := .tuple #[sS ([]), .int .i64 20]) Tryz.func73 hR ⟨ret_str2 e1.symm e2.symm, hM9⟩
  ·
   refine xat 4 sT79 (hM3.rd 0 rfl) 0 0 (fun p10 hp11 => ?_)
   refine xv 1 (c_load pE9 (hM3.rd 0 rfl) (Cel.add (At.cel hp11) 0) (recs_at (i := 0) tokc_len (Tok.mk [] 0) (by first | omega | (dsimp only; omega)) rfl)) ?_
   have hM15 := hM3.sub (sD sR)
   obtain ⟨e1, e2⟩ := term_one (s := s) (p_eq h5) (by omega)
   exact xr 3 (v := .tuple #[sS ((List.getD (tokL s) 0 (Tok.mk [] 0)).t), .int .i64 0]) Tryz.func73 hR ⟨ret_str2 e1.symm e2.symm, hM15⟩

set_option maxHeartbeats 400000 in
theorem rfolded_L (s : List UInt8) {w0 : World} (hs : s.length * 8 ≤ 140737488355328) (vl : Value) (R : Ending → World → Prop) (hR : R = (fun e w' => ∃ v, e = .returned (.tuple #[v, .int .i64 (decE s)]) ∧ Mem [] w0 w' [⟨3, 1, v, (List.length (foldL s)), (ivals .i64 (foldL s))⟩])) : ∀ (N : Nat) (vo : Value) (k : Nat) (w : World) (hk : k ≤ (decL s).length) (hM : Mem [] w0 w [⟨3, 1, vo, (List.length (List.map fold (List.take k (decL s)))), (ivals .i64 (List.map fold (List.take k (decL s))))⟩, ⟨3, 1, vl, (List.length (decL s)), (ivals .i64 (decL s))⟩]) (hN : (decL s).length - k < N), GoS Tryz.prog 124 R 29 [iC Tryz.f124 [1,1,1,0,1,0,0], iL Tryz.f124 [1,1,1,0,1,0,0], .inBlock 0, iC Tryz.f124 [1,1,1,1]] [(4, vl), (5, .int .i64 (decE s)), (6, vo), (7, iN k)] w := by
 intro N
 induction N with
 | zero => intro vo k w hk hM hN; exact absurd hN (Nat.not_lt_zero _)
 | succ N ih =>
  intro vo k w hk hM hN
  have hq := @decL_len s
  refine xs ?_
  refine xv 5 (f_slen sT70 (hM.rd 1 rfl) 3 w) ?_
  refine xc 2 (((k : Nat) : Int) < (((List.length (decL s)) : Nat) : Int)) (fun h2p => ?_) (fun h2p => ?_)
  ·
   refine xat 7 sT70 (hM.rd 1 rfl) ((k : Nat) : Int) k (fun p4 hp5 => ?_)
   refine xv 0 (at_load pE3 (hM.rd 1 rfl) hp5 (ivals_at (by first | omega | (dsimp only; omega)))) ?_
   refine xk 0 (rfold_c (List.getD (decL s) k 0) w) (fun w9 m10 => ?_)
   have hM11 := Mem.join hM m10
   refine xx 0 (m_lit sT70 hM11 (n := 1) (parts := #[(0, .int .i64 (fold (List.getD (decL s) k 0)))]) (cs := [.int .i64 (fold (List.getD (decL s) k 0))]) (by decide) (by kernel_rfl) rfl) (fun v12 w13 hM15 => ?_)
   refine xx 0 (m_append sT70 hM15 1 rfl (hM15.rd 0 rfl) (oneL rfl) (by (try dsimp only); rw [List.length_map, List.length_take]; omega) (by (try dsimp only); rw [List.length_map, List.length_take]; omega) 70) (fun v16 w17 hM19 => ?_)
   have hM20 : Mem [] w0 w17 [⟨3, 1, v12, 1, [.int .i64 (fold (List.getD (decL s) k 0))]⟩, ⟨3, 1, v16, (List.length ((List.map fold (List.take k (decL s))) ++ ([(fold (List.getD (decL s) k 0))] : List Int))), (ivals .i64 ((List.map fold (List.take k (decL s))) ++ ([(fold (List.getD (decL s) k 0))] : List Int)))⟩, ⟨3, 1, vl, (List.length (decL s)), (ivals .i64 (decL s))⟩] := hM19.cast (by first | (simp [ivals, svals, bvals, nvals, u8s, Nat.add_assoc]; done) | (simp [ivals, svals, bvals, nvals, u8s, Nat.add_assoc]; omega))
   refine xa 5 ((k : Nat) : Int) 1 (((k + 1) : Nat) : Int) ?_
   have hM22 := hM20.sub (sD (sK (sK sR)))
   exact xl 3 (ih _ (k + 1) _ (by omega) (hM22.cast (by rw [take_snoc _ (by omega), List.map_append, List.map_singleton])) (by omega))
  ·
   have hM3 := hM.sub (sK (sD sR))
   have e1 : List.map fold (List.take k (decL s)) = foldL s := by unfold foldL; rw [List.take_of_length_le (by omega)]
   exact xr 8 (v := .tuple #[vo, .int .i64 (decE s)]) Tryz.func124 hR ⟨_, rfl, by rw [← e1]; exact hM3⟩

set_option maxHeartbeats 400000 in
theorem rfolded_c (s : List UInt8) (hs : s.length * 8 ≤ 140737488355328) (w : World) :
  Calls Tryz.prog 124 #[sS s] w (fun e w' => ∃ v, e = .returned (.tuple #[v, .int .i64 (decE s)]) ∧ Mem [] w w' [⟨3, 1, v, (List.length (foldL s)), (ivals .i64 (foldL s))⟩]) := by
 refine xe 29 Tryz.func124 (fun R hR => ?_)
 have hM0 := Mem.start w
 refine xkv 8 (rdecode_c s (by exact hs) w) (fun v4 w1 m2 => ?_)
 have hM3 := Mem.join hM0 m2
 have hM5 := hM3.nilrow 3 1
 exact xl 17 (rfolded_L s hs v4 R hR ((decL s).length + 1) (.slice none 0 0) 0 w1 (by omega) (hM5.cast (by simp [ivals])) (by omega))


end Go.Proofs.YthpodbngljfdmaaGreatDoor


namespace Go.Gw
set_option linter.unusedVariables false
set_option linter.unusedSimpArgs false
section
variable {P : Program} {f : FuncId} {R : Ending → World → Prop} {k : List Item} {w w' w0 w1 : World} {n : Nat} {s : St} {u : FrameMode} {Q : Ending → FrameMode → World → Prop} {l : Sl}
theorem GoR.seq {c x y : Code} (h : GoR P f Q n u (.code x :: .code y :: k) l w) (hc : c = .seq x y := by kernel_rfl) : GoR P f Q n u (.code c :: k) l w := by
  subst hc; exact GoR.step (fun _ _ _ => step_seq) h
def regId : Code → Nat
  | .region id _ _ => id
  | _ => 0
theorem GoR.region {c : Code} (is : List Nat) (h : GoR P f Q n u (.inRegion (cops c) is :: k) l w) (hc : c = .region (regId c) (cops c) false := by kernel_rfl) (hi : List.range (cops c).size = is := by kernel_rfl) : GoR P f Q n u (.code c :: k) l w := by
  rw [hc]; exact GoR.step (fun _ _ _ => by rw [step_region, hi]) h
def recS (P : Program) (n : Nat) (ops : Array Oper) (i : Nat) (l : Sl) (w : World) : Option (Option Tmp × Result Next) := match ops[i]? with
  | some o => match wantedS ops l o, known l o.op.operands.toList, noSel o.op, inB n o.dst with
    | some true, true, true, true => some (o.dst, (execOp (rho l) o).run P w)
    | _, _, _, _ => none
  | none => none
theorem recS_spec {ops : Array Oper} {i : Nat} {dst : Option Tmp} {r : Result Next} (h : recS P n ops i l w = some (dst, r)) : ∃ o, ops[i]? = some o ∧ wantedS ops l o = some true ∧ known l o.op.operands.toList = true ∧ noSel o.op = true ∧ inB n o.dst = true ∧ o.dst = dst ∧ (execOp (rho l) o).run P w = r := by
  unfold recS at h
  split at h
  · rename_i o ho
    split at h
    · rename_i h1 h2 h3 h4
      simp only [Option.some.injEq, Prod.mk.injEq] at h
      exact ⟨o, ho, h1, h2, h3, h4, h.1, h.2⟩
    · cases h
  · cases h
theorem GoR.take {ops : Array Oper} {i : Nat} {rest : List Nat} (dst : Option Tmp) {v : Value} {older : List PanicEntry} (h : GoR P f Q n (.panicking ({ v, recovered := true } :: older)) (.inRegion ops rest :: k) (putS l dst v) w)
    (hr : recS P n ops i l w = some (dst, .ok .recover w) := by kernel_rfl) : GoR P f Q n (.panicking ({ v, recovered := false } :: older)) (.inRegion ops (i :: rest) :: k) l w := by
  obtain ⟨o, h0, h1, h2, h3, h4, rfl, h5⟩ := recS_spec hr
  exact GoR.taken h0 h1 h2 h3 h4 h5 h
theorem GoR.nothing {ops : Array Oper} {i : Nat} {rest : List Nat} (dst : Option Tmp) (h : GoR P f Q n .returning (.inRegion ops rest :: k) (putS l dst .nilIface) w)
    (hr : recS P n ops i l w = some (dst, .ok .recover w) := by kernel_rfl) : GoR P f Q n .returning (.inRegion ops (i :: rest) :: k) l w := by
  obtain ⟨o, h0, h1, h2, h3, h4, rfl, h5⟩ := recS_spec hr
  exact GoR.none h0 h1 h2 h3 h4 h5 h
theorem GoS.told {D : Fx} (l' : Sl) (hk : GoS P f R n k l' w D) (h : keep l (fsts l') = l' := by kernel_rfl) : GoS P f R n k l w D := GoS.weak (fsts l') (h.symm ▸ hk)
/-- one call put off, which settles what there is -/
theorem Lv.one {fn : Func} {g : FuncId} {fv : Fn} {cap args dargs : Array Value} {rs : List ResultVar} {v0 : Value} {Q0 : World → Prop} (hu : u ≠ .run)
    (hc : CallsD P g args u w (fun e u' w' => e = .returned v0 ∧ settle u' = .returning ∧ Q0 w')) (hk : ∀ w', Q0 w' → ∃ vs, ResC P w' l rs vs ∧ R (.returned (oneOf vs)) w')
    (hi : (invoke (.fn fv cap) dargs).run P w = .ok (.enter g args) w := by kernel_rfl) (he : fn.results.toList = rs := by kernel_rfl) : Lv P fn R n l { defers := [{ target := .fn fv cap, args := dargs }] } u w := by
  intro a ha
  rw [ha.defers]
  refine leaves_cons hu hi (hc.mono ?_)
  rintro e u' w' ⟨rfl, hs, hq⟩
  obtain ⟨vs, h1, h2⟩ := hk w' hq
  show Leaves P fn a.tmps R [] (settle u') w'
  rw [hs]
  exact ⟨oneOf vs, resultsC_run ha he h1, h2⟩
/-- a call that gives a value or a panic, in a frame that has put off a call -/
theorem xkpd (i : Nat) {fn : Func} {g : FuncId} {args : Array Value} {α : Type} {flt : Nat → List PanicEntry} {spec : Except Nat α} {Q : α → Value → World → Prop} {b : Nat} {ds : List Deferred} (hf : P.funcs[f]? = some fn) (hc : Calls P g args w (Pst flt spec Q b w))
    (he : ∀ k w', spec = .error k → Mem [b] w w' [] → Lv P fn R n (opL P n w i s) { defers := ds } (.panicking (flt k)) w') (hk : ∀ a v w', spec = .ok a → Q a v w' → GoX P f R n (nx P n w i v s) w' { defers := ds }) (h : cl P n w i s = some ([], w, g, args, w) := by kernel_rfl) : GoX P f R n s w { defers := ds } :=
  xcd i hf hc (fun e w' hT => hT.elim (fun ⟨a, v, h1, h2, h3⟩ => .inl ⟨v, h2, hk a v w' h1 h3⟩) (fun ⟨k, h1, h2, h3⟩ => .inr ⟨_, h2, he k w' h1 h3⟩)) h
theorem xkdd (i : Nat) {fn : Func} {g : FuncId} {args : Array Value} {ch : List PanicEntry} {Q : World → Prop} {ds : List Deferred} (hf : P.funcs[f]? = some fn) (hc : Calls P g args w (fun e w' => e = .panicked ch ∧ Q w')) (hk : ∀ w', Q w' → Lv P fn R n (opL P n w i s) { defers := ds } (.panicking ch) w') (h : cl P n w i s = some ([], w, g, args, w) := by kernel_rfl) : GoX P f R n s w { defers := ds } :=
  xcd i hf hc (fun e w' hT => .inr ⟨ch, hT.1, hk w' hT.2⟩) h
theorem Lv.told {fn : Func} {D : Fx} (l' : Sl) (hk : Lv P fn R n l' D u w) (h : keep l (fsts l') = l' := by kernel_rfl) : Lv P fn R n l D u w := fun a ha => hk a (h ▸ ha.keep (fsts l'))
theorem Mem.bare {S : List Nat} (h : Kept S w0 w) : Mem S w0 w [] := ⟨h, (fun _ h => by cases h), trivial, (fun _ h => by cases h)⟩
end
end Go.Gw


namespace Go.Proofs.YthpodbngljfdmaaGreatDoor
open Go Go.Gw Go.RealP Go.RealQ Go.RowKit
set_option linter.unusedVariables false
set_option linter.unusedSimpArgs false
set_option maxRecDepth 20000

abbrev uRealX0 : List Nat := [1,1,1,1,1,0,1,0,0]
set_option maxHeartbeats 400000 in
theorem csign_c (n : Nat) (hn : n < 9223372036854775808) (w : World) :
  Calls Tryz.prog 148 #[.float .f64 n, .float .f64 13830554455654793216] w (fun e w' => e = .returned (.float .f64 (n + 9223372036854775808)) ∧ w = w') := by
 refine xe 13 Tryz.func148 (fun R hR => ?_)
 exact xr 16 (v := .float .f64 (Int.toNat (IntKind.wrap .u64 ((BitVec.ofInt (IntKind.bits .u64) (IntKind.wrap .u64 ((BitVec.ofInt (IntKind.bits .u64) ((n : Nat) : Int) &&& ~~~BitVec.ofInt (IntKind.bits .u64) 9223372036854775808).toNat : Int)) ||| BitVec.ofInt (IntKind.bits .u64) (IntKind.wrap .u64 ((BitVec.ofInt (IntKind.bits .u64) 13830554455654793216 &&& BitVec.ofInt (IntKind.bits .u64) 9223372036854775808).toNat : Int))).toNat : Int)))) Tryz.func148 hR ⟨by rw [csign_eq hn], rfl⟩

set_option maxHeartbeats 400000 in
theorem pinf_c (w : World) :
  Calls Tryz.prog 147 #[.int .i64 1] w (fun e w' => e = .returned (.float .f64 9218868437227405312) ∧ w = w') := by
 refine xe 8 Tryz.func147 (fun R hR => ?_)
 exact xr 24 Tryz.func147 hR ⟨rfl, rfl⟩

set_option maxHeartbeats 400000 in
theorem ninf_c (w : World) :
  Calls Tryz.prog 147 #[.int .i64 (-1)] w (fun e w' => e = .returned (.float .f64 18442240474082181120) ∧ w = w') := by
 refine xe 8 Tryz.func147 (fun R hR => ?_)
 exact xr 24 Tryz.func147 hR ⟨rfl, rfl⟩

set_option maxHeartbeats 400000 in
theorem parse_Mn (s : List UInt8) (hs : s.length ≤ 9223372036854775807) (w : World) (X : Option (Nat × Nat)) (R : Ending → World → Prop) (hR : R = (fun e w' => e = .returned (.tuple #[.int .u64 ((valP X true : Nat) : Int), .int .i64 (errP X)]) ∧ w = w')) : ∀ (N : Nat) (n d k : Nat) (hF : scan true n d (s.drop k) = X) (hk : k ≤ s.length) (hd : d ≤ 3) (hn : n < 10 ^ (12 + d)) (hN : s.length - k < N), GoS Tryz.prog 131 R 97 [iC Tryz.f131 uRealX0, iL Tryz.f131 uRealX0, .inBlock 1, iC Tryz.f131 [1,1,1,1,1,1]] [(0, sS s), (4, .bool true), (5, iN n), (6, iN d), (7, .float .f64 (near (10 ^ d))), (8, .bool true), (34, iN s.length), (35, iN k)] w := by
 intro N
 induction N with
 | zero => intro n d k hF hk hd hn hN; exact absurd hN (Nat.not_lt_zero _)
 | succ N ih =>
  intro n d k hF hk hd hn hN
  have hb := bl_bd s k
  have hn2 : n < 10 ^ 15 := dec_bd hn (by omega)
  have e15 : (10 : Nat) ^ 15 = 1000000000000000 := by decide
  have hsb := sc_bd hd
  have hrl := ratN_lt (a := n) (b := 10 ^ d) (by omega) hsb.1 hsb.2
  refine xs ?_
  refine xc 5 (((k : Nat) : Int) < ((s.length : Nat) : Int)) (fun h1p => ?_) (fun h1p => ?_)
  ·
   have hb4 := bl_bd s k
   refine xi 12 s ((k : Nat) : Int) k ?_
   refine xfc 8 44 ((bl s k) = 46) (fun h6p => ?_) (fun h6p => ?_)
   ·
    refine xfc 15 55 ((bl s k) ≥ 48) (fun h7p => ?_) (fun h7p => ?_)
    ·
     refine xfc 4 59 ((bl s k) ≤ 57) (fun h8p => ?_) (fun h8p => ?_)
     ·
      refine xfc 6 65 (((d : Nat) : Int) < 3) (fun h9p => ?_) (fun h9p => ?_)
      ·
       refine xt 14 10 ((n : Nat) : Int) (((10 * n) : Nat) : Int) ?_
       refine xsub 1 .u8 (bl s k) 48 ((bl s k) - 48) (IntWalk.u8_in _ (by omega)) ?_
       refine xcv 0 .u8 .i64 ((bl s k) - 48) ((bl s k) - 48) (IntWalk.i64_in _ (by omega)) ?_
       refine xa 0 (((10 * n) : Nat) : Int) ((bl s k) - 48) ((((10 * n) : Nat) : Int) + ((bl s k) - 48)) ?_
       refine xa 5 ((d : Nat) : Int) 1 (((d + 1) : Nat) : Int) ?_
       refine xv 9 (show (binOp .mul 199 (.float .f64 (near (10 ^ d))) (.float .f64 4621819117588971520)).run Tryz.prog w = .ok (.float .f64 (near (10 ^ (d + 1)))) w from f_fmul (sc_up ⟨d, by omega⟩)) ?_
       refine xa 5 ((k : Nat) : Int) 1 (((k + 1) : Nat) : Int) ?_
       exact xl 3 (l := [(0, sS s), (4, .bool true), (5, .int .i64 ((((10 * n) : Nat) : Int) + ((bl s k) - 48))), (6, iN (d + 1)), (7, .float .f64 (near (10 ^ (d + 1)))), (8, .bool true), (34, iN s.length), (35, iN (k + 1))]) (GoS.cast (by rw [show ((((10 * n) : Nat) : Int) + ((bl s k) - 48)) = ((10 * n + ((bl s k).toNat - 48) : Nat) : Int) by omega]; first | done | rfl) (ih (10 * n + ((bl s k).toNat - 48)) (d + 1) (k + 1) ((scan_digit (n := n) (d := d) (k := k) (by omega) (by omega) (by omega) (by unfold most; simp only [cond_true, cond_false]; omega)).symm.trans hF) (by omega) (by omega) (by rw [show 12 + (d + 1) = (12 + d) + 1 by omega]; exact dec_up hn (by omega)) (by omega)))
      ·
       refine xr0 16 (v := .tuple #[.int .u64 0, .int .i64 3]) Tryz.func131 ?_
       rw [hR]
       rw [scan_none (by omega) (by intro z; simp at z) (by unfold most; simp only [cond_true, cond_false]; omega)] at hF
       subst hF
       exact ⟨rfl, rfl⟩
     ·
      refine xr0 22 (v := .tuple #[.int .u64 0, .int .i64 3]) Tryz.func131 ?_
      rw [hR]
      rw [scan_none (by omega) (by intro z; simp at z) (by unfold most; simp only [cond_true, cond_false]; omega)] at hF
      subst hF
      exact ⟨rfl, rfl⟩
    ·
     refine xr0 26 (v := .tuple #[.int .u64 0, .int .i64 3]) Tryz.func131 ?_
     rw [hR]
     rw [scan_none (by omega) (by intro z; simp at z) (by unfold most; simp only [cond_true, cond_false]; omega)] at hF
     subst hF
     exact ⟨rfl, rfl⟩
   ·
    refine xfc 15 55 ((bl s k) ≥ 48) (fun h17p => ?_) (fun h17p => ?_)
    ·
     refine xfc 4 59 ((bl s k) ≤ 57) (fun h18p => ?_) (fun h18p => ?_)
     ·
      refine xfc 6 65 (((d : Nat) : Int) < 3) (fun h19p => ?_) (fun h19p => ?_)
      ·
       refine xt 14 10 ((n : Nat) : Int) (((10 * n) : Nat) : Int) ?_
       refine xsub 1 .u8 (bl s k) 48 ((bl s k) - 48) (IntWalk.u8_in _ (by omega)) ?_
       refine xcv 0 .u8 .i64 ((bl s k) - 48) ((bl s k) - 48) (IntWalk.i64_in _ (by omega)) ?_
       refine xa 0 (((10 * n) : Nat) : Int) ((bl s k) - 48) ((((10 * n) : Nat) : Int) + ((bl s k) - 48)) ?_
       refine xa 5 ((d : Nat) : Int) 1 (((d + 1) : Nat) : Int) ?_
       refine xv 9 (show (binOp .mul 199 (.float .f64 (near (10 ^ d))) (.float .f64 4621819117588971520)).run Tryz.prog w = .ok (.float .f64 (near (10 ^ (d + 1)))) w from f_fmul (sc_up ⟨d, by omega⟩)) ?_
       refine xa 5 ((k : Nat) : Int) 1 (((k + 1) : Nat) : Int) ?_
       exact xl 3 (l := [(0, sS s), (4, .bool true), (5, .int .i64 ((((10 * n) : Nat) : Int) + ((bl s k) - 48))), (6, iN (d + 1)), (7, .float .f64 (near (10 ^ (d + 1)))), (8, .bool true), (34, iN s.length), (35, iN (k + 1))]) (GoS.cast (by rw [show ((((10 * n) : Nat) : Int) + ((bl s k) - 48)) = ((10 * n + ((bl s k).toNat - 48) : Nat) : Int) by omega]; first | done | rfl) (ih (10 * n + ((bl s k).toNat - 48)) (d + 1) (k + 1) ((scan_digit (n := n) (d := d) (k := k) (by omega) (by omega) (by omega) (by unfold most; simp only [cond_true, cond_false]; omega)).symm.trans hF) (by omega) (by omega) (by rw [show 12 + (d + 1) = (12 + d) + 1 by omega]; exact dec_up hn (by omega)) (by omega)))
      ·
       refine xr0 16 (v := .tuple #[.int .u64 0, .int .i64 3]) Tryz.func131 ?_
       rw [hR]
       rw [scan_none (by omega) (by intro z; simp at z) (by unfold most; simp only [cond_true, cond_false]; omega)] at hF
       subst hF
       exact ⟨rfl, rfl⟩
     ·
      refine xr0 22 (v := .tuple #[.int .u64 0, .int .i64 3]) Tryz.func131 ?_
      rw [hR]
      rw [scan_none (by omega) (by intro z; simp at z) (by unfold most; simp only [cond_true, cond_false]; omega)] at hF
      subst hF
      exact ⟨rfl, rfl⟩
    ·
     refine xr0 26 (v := .tuple #[.int .u64 0, .int .i64 3]) Tryz.func131 ?_
     rw [hR]
     rw [scan_none (by omega) (by intro z; simp at z) (by unfold most; simp only [cond_true, cond_false]; omega)] at hF
     subst hF
     exact ⟨rfl, rfl⟩
  ·
   refine xc 7 (((d : Nat) : Int) = 0) (fun h2p => ?_) (fun h2p => ?_)
   ·
    refine xr0 5 (v := .tuple #[.int .u64 0, .int .i64 3]) Tryz.func131 ?_
    rw [hR]
    rw [scan_end (by omega), if_pos (by omega)] at hF
    subst hF
    exact ⟨rfl, rfl⟩
   ·
    refine xv 6 (show (binOp .quo 199 (.float .f64 (FloatKind.nearest .f64 ((n : Nat) : Int))) (.float .f64 (near (10 ^ d)))).run Tryz.prog w = .ok (.float .f64 (ratN n (10 ^ d))) w from f_fquo (ratN_some (a := n) (b := (10 ^ d)) (by omega) (by first | decide | omega) (by first | decide | omega))) ?_
    refine xka 10 (csign_c (ratN n (10 ^ d)) (by omega) w) ?_
    refine xr0 9 (v := .tuple #[.int .u64 ((((ratN n (10 ^ d)) + 9223372036854775808) : Nat) : Int), .int .i64 0]) Tryz.func131 ?_
    rw [hR]
    rw [scan_end (by omega), if_neg (by omega)] at hF
    subst hF
    exact ⟨by simp only [valP, errP, cond_true, cond_false], rfl⟩

set_option maxHeartbeats 400000 in
theorem parse_Ln (s : List UInt8) (hs : s.length ≤ 9223372036854775807) (w : World) (X : Option (Nat × Nat)) (R : Ending → World → Prop) (hR : R = (fun e w' => e = .returned (.tuple #[.int .u64 ((valP X true : Nat) : Int), .int .i64 (errP X)]) ∧ w = w')) : ∀ (N : Nat) (n d k : Nat) (hF : scan false n d (s.drop k) = X) (hk : k ≤ s.length) (hd : d ≤ 12) (hn : n < 10 ^ d) (hN : s.length - k < N), GoS Tryz.prog 131 R 97 [iC Tryz.f131 uRealX0, iL Tryz.f131 uRealX0, .inBlock 1, iC Tryz.f131 [1,1,1,1,1,1]] [(0, sS s), (4, .bool true), (5, iN n), (6, iN d), (7, .float .f64 4607182418800017408), (8, .bool false), (34, iN s.length), (35, iN k)] w := by
 intro N
 induction N with
 | zero => intro n d k hF hk hd hn hN; exact absurd hN (Nat.not_lt_zero _)
 | succ N ih =>
  intro n d k hF hk hd hn hN
  have hb := bl_bd s k
  have hn2 : n < 10 ^ 15 := dec_bd hn (by omega)
  have e15 : (10 : Nat) ^ 15 = 1000000000000000 := by decide
  have hrl := ratN_lt (a := n) (b := 10 ^ 0) (by omega) (by decide) (by decide)
  refine xs ?_
  refine xc 5 (((k : Nat) : Int) < ((s.length : Nat) : Int)) (fun h1p => ?_) (fun h1p => ?_)
  ·
   have hb4 := bl_bd s k
   refine xi 12 s ((k : Nat) : Int) k ?_
   refine xfc 8 44 ((bl s k) = 46) (fun h6p => ?_) (fun h6p => ?_)
   ·
    refine xc 9 (((d : Nat) : Int) > 0) (fun h7p => ?_) (fun h7p => ?_)
    ·
     refine xa 10 ((k : Nat) : Int) 1 (((k + 1) : Nat) : Int) ?_
     exact xl 3 (l := [(0, sS s), (4, .bool true), (5, iN n), (6, .int .i64 0), (7, .float .f64 4607182418800017408), (8, .bool true), (34, iN s.length), (35, iN (k + 1))]) (GoS.cast (by rw [sc0]; rfl) (parse_Mn s hs w X R hR (s.length + 1) n 0 (k + 1) ((scan_point (n := n) (d := d) (k := k) (by omega) (by omega) (by omega)).symm.trans hF) (by omega) (by omega) (dec_bd hn (by omega)) (by omega)))
    ·
     refine xfc 5 55 ((bl s k) ≥ 48) (fun h8p => ?_) (fun h8p => ?_)
     ·
      refine xfc 4 59 ((bl s k) ≤ 57) (fun h9p => ?_) (fun h9p => ?_)
      ·
       refine xc 16 (((d : Nat) : Int) < 12) (fun h10p => ?_) (fun h10p => ?_)
       ·
        refine xt 3 10 ((n : Nat) : Int) (((10 * n) : Nat) : Int) ?_
        refine xsub 1 .u8 (bl s k) 48 ((bl s k) - 48) (IntWalk.u8_in _ (by omega)) ?_
        refine xcv 0 .u8 .i64 ((bl s k) - 48) ((bl s k) - 48) (IntWalk.i64_in _ (by omega)) ?_
        refine xa 0 (((10 * n) : Nat) : Int) ((bl s k) - 48) ((((10 * n) : Nat) : Int) + ((bl s k) - 48)) ?_
        refine xa 5 ((d : Nat) : Int) 1 (((d + 1) : Nat) : Int) ?_
        refine xa 11 ((k : Nat) : Int) 1 (((k + 1) : Nat) : Int) ?_
        exact xl 3 (l := [(0, sS s), (4, .bool true), (5, .int .i64 ((((10 * n) : Nat) : Int) + ((bl s k) - 48))), (6, iN (d + 1)), (7, .float .f64 4607182418800017408), (8, .bool false), (34, iN s.length), (35, iN (k + 1))]) (GoS.cast (by rw [show ((((10 * n) : Nat) : Int) + ((bl s k) - 48)) = ((10 * n + ((bl s k).toNat - 48) : Nat) : Int) by omega]; first | done | rfl) (ih (10 * n + ((bl s k).toNat - 48)) (d + 1) (k + 1) ((scan_digit (n := n) (d := d) (k := k) (by omega) (by omega) (by omega) (by unfold most; simp only [cond_true, cond_false]; omega)).symm.trans hF) (by omega) (by omega) (dec_up hn (by omega)) (by omega)))
       ·
        refine xr0 5 (v := .tuple #[.int .u64 0, .int .i64 3]) Tryz.func131 ?_
        rw [hR]
        rw [scan_none (by omega) (by intro z; omega) (by unfold most; simp only [cond_true, cond_false]; omega)] at hF
        subst hF
        exact ⟨rfl, rfl⟩
      ·
       refine xr0 22 (v := .tuple #[.int .u64 0, .int .i64 3]) Tryz.func131 ?_
       rw [hR]
       rw [scan_none (by omega) (by intro z; omega) (by unfold most; simp only [cond_true, cond_false]; omega)] at hF
       subst hF
       exact ⟨rfl, rfl⟩
     ·
      refine xr0 26 (v := .tuple #[.int .u64 0, .int .i64 3]) Tryz.func131 ?_
      rw [hR]
      rw [scan_none (by omega) (by intro z; omega) (by unfold most; simp only [cond_true, cond_false]; omega)] at hF
      subst hF
      exact ⟨rfl, rfl⟩
   ·
    refine xfc 15 55 ((bl s k) ≥ 48) (fun h18p => ?_) (fun h18p => ?_)
    ·
     refine xfc 4 59 ((bl s k) ≤ 57) (fun h19p => ?_) (fun h19p => ?_)
     ·
      refine xc 16 (((d : Nat) : Int) < 12) (fun h20p => ?_) (fun h20p => ?_)
      ·
       refine xt 3 10 ((n : Nat) : Int) (((10 * n) : Nat) : Int) ?_
       refine xsub 1 .u8 (bl s k) 48 ((bl s k) - 48) (IntWalk.u8_in _ (by omega)) ?_
       refine xcv 0 .u8 .i64 ((bl s k) - 48) ((bl s k) - 48) (IntWalk.i64_in _ (by omega)) ?_
       refine xa 0 (((10 * n) : Nat) : Int) ((bl s k) - 48) ((((10 * n) : Nat) : Int) + ((bl s k) - 48)) ?_
       refine xa 5 ((d : Nat) : Int) 1 (((d + 1) : Nat) : Int) ?_
       refine xa 11 ((k : Nat) : Int) 1 (((k + 1) : Nat) : Int) ?_
       exact xl 3 (l := [(0, sS s), (4, .bool true), (5, .int .i64 ((((10 * n) : Nat) : Int) + ((bl s k) - 48))), (6, iN (d + 1)), (7, .float .f64 4607182418800017408), (8, .bool false), (34, iN s.length), (35, iN (k + 1))]) (GoS.cast (by rw [show ((((10 * n) : Nat) : Int) + ((bl s k) - 48)) = ((10 * n + ((bl s k).toNat - 48) : Nat) : Int) by omega]; first | done | rfl) (ih (10 * n + ((bl s k).toNat - 48)) (d + 1) (k + 1) ((scan_digit (n := n) (d := d) (k := k) (by omega) (by omega) (by omega) (by unfold most; simp only [cond_true, cond_false]; omega)).symm.trans hF) (by omega) (by omega) (dec_up hn (by omega)) (by omega)))
      ·
       refine xr0 5 (v := .tuple #[.int .u64 0, .int .i64 3]) Tryz.func131 ?_
       rw [hR]
       rw [scan_none (by omega) (by intro z; omega) (by unfold most; simp only [cond_true, cond_false]; omega)] at hF
       subst hF
       exact ⟨rfl, rfl⟩
     ·
      refine xr0 22 (v := .tuple #[.int .u64 0, .int .i64 3]) Tryz.func131 ?_
      rw [hR]
      rw [scan_none (by omega) (by intro z; omega) (by unfold most; simp only [cond_true, cond_false]; omega)] at hF
      subst hF
      exact ⟨rfl, rfl⟩
    ·
     refine xr0 26 (v := .tuple #[.int .u64 0, .int .i64 3]) Tryz.func131 ?_
     rw [hR]
     rw [scan_none (by omega) (by intro z; omega) (by unfold most; simp only [cond_true, cond_false]; omega)] at hF
     subst hF
     exact ⟨rfl, rfl⟩
  ·
   refine xc 7 (((d : Nat) : Int) = 0) (fun h2p => ?_) (fun h2p => ?_)
   ·
    refine xr0 5 (v := .tuple #[.int .u64 0, .int .i64 3]) Tryz.func131 ?_
    rw [hR]
    rw [scan_end (by omega), if_pos (by omega)] at hF
    subst hF
    exact ⟨rfl, rfl⟩
   ·
    refine xv 6 (show (binOp .quo 199 (.float .f64 (FloatKind.nearest .f64 ((n : Nat) : Int))) (.float .f64 4607182418800017408)).run Tryz.prog w = .ok (.float .f64 (ratN n (10 ^ 0))) w from f_fquo (sc0 ▸ ratN_some (a := n) (b := (10 ^ 0)) (by omega) (by first | decide | omega) (by first | decide | omega))) ?_
    refine xka 10 (csign_c (ratN n (10 ^ 0)) (by omega) w) ?_
    refine xr0 9 (v := .tuple #[.int .u64 ((((ratN n (10 ^ 0)) + 9223372036854775808) : Nat) : Int), .int .i64 0]) Tryz.func131 ?_
    rw [hR]
    rw [scan_end (by omega), if_neg (by omega)] at hF
    subst hF
    exact ⟨by simp only [valP, errP, cond_true, cond_false], rfl⟩

set_option maxHeartbeats 400000 in
theorem parse_Mp (s : List UInt8) (hs : s.length ≤ 9223372036854775807) (w : World) (X : Option (Nat × Nat)) (R : Ending → World → Prop) (hR : R = (fun e w' => e = .returned (.tuple #[.int .u64 ((valP X false : Nat) : Int), .int .i64 (errP X)]) ∧ w = w')) : ∀ (N : Nat) (n d k : Nat) (hF : scan true n d (s.drop k) = X) (hk : k ≤ s.length) (hd : d ≤ 3) (hn : n < 10 ^ (12 + d)) (hN : s.length - k < N), GoS Tryz.prog 131 R 97 [iC Tryz.f131 uRealX0, iL Tryz.f131 uRealX0, .inBlock 1, iC Tryz.f131 [1,1,1,1,1,1]] [(0, sS s), (4, .bool false), (5, iN n), (6, iN d), (7, .float .f64 (near (10 ^ d))), (8, .bool true), (34, iN s.length), (35, iN k)] w := by
 intro N
 induction N with
 | zero => intro n d k hF hk hd hn hN; exact absurd hN (Nat.not_lt_zero _)
 | succ N ih =>
  intro n d k hF hk hd hn hN
  have hb := bl_bd s k
  have hn2 : n < 10 ^ 15 := dec_bd hn (by omega)
  have e15 : (10 : Nat) ^ 15 = 1000000000000000 := by decide
  have hsb := sc_bd hd
  have hrl := ratN_lt (a := n) (b := 10 ^ d) (by omega) hsb.1 hsb.2
  refine xs ?_
  refine xc 5 (((k : Nat) : Int) < ((s.length : Nat) : Int)) (fun h1p => ?_) (fun h1p => ?_)
  ·
   have hb4 := bl_bd s k
   refine xi 12 s ((k : Nat) : Int) k ?_
   refine xfc 8 44 ((bl s k) = 46) (fun h6p => ?_) (fun h6p => ?_)
   ·
    refine xfc 15 55 ((bl s k) ≥ 48) (fun h7p => ?_) (fun h7p => ?_)
    ·
     refine xfc 4 59 ((bl s k) ≤ 57) (fun h8p => ?_) (fun h8p => ?_)
     ·
      refine xfc 6 65 (((d : Nat) : Int) < 3) (fun h9p => ?_) (fun h9p => ?_)
      ·
       refine xt 14 10 ((n : Nat) : Int) (((10 * n) : Nat) : Int) ?_
       refine xsub 1 .u8 (bl s k) 48 ((bl s k) - 48) (IntWalk.u8_in _ (by omega)) ?_
       refine xcv 0 .u8 .i64 ((bl s k) - 48) ((bl s k) - 48) (IntWalk.i64_in _ (by omega)) ?_
       refine xa 0 (((10 * n) : Nat) : Int) ((bl s k) - 48) ((((10 * n) : Nat) : Int) + ((bl s k) - 48)) ?_
       refine xa 5 ((d : Nat) : Int) 1 (((d + 1) : Nat) : Int) ?_
       refine xv 9 (show (binOp .mul 199 (.float .f64 (near (10 ^ d))) (.float .f64 4621819117588971520)).run Tryz.prog w = .ok (.float .f64 (near (10 ^ (d + 1)))) w from f_fmul (sc_up ⟨d, by omega⟩)) ?_
       refine xa 5 ((k : Nat) : Int) 1 (((k + 1) : Nat) : Int) ?_
       exact xl 3 (l := [(0, sS s), (4, .bool false), (5, .int .i64 ((((10 * n) : Nat) : Int) + ((bl s k) - 48))), (6, iN (d + 1)), (7, .float .f64 (near (10 ^ (d + 1)))), (8, .bool true), (34, iN s.length), (35, iN (k + 1))]) (GoS.cast (by rw [show ((((10 * n) : Nat) : Int) + ((bl s k) - 48)) = ((10 * n + ((bl s k).toNat - 48) : Nat) : Int) by omega]; first | done | rfl) (ih (10 * n + ((bl s k).toNat - 48)) (d + 1) (k + 1) ((scan_digit (n := n) (d := d) (k := k) (by omega) (by omega) (by omega) (by unfold most; simp only [cond_true, cond_false]; omega)).symm.trans hF) (by omega) (by omega) (by rw [show 12 + (d + 1) = (12 + d) + 1 by omega]; exact dec_up hn (by omega)) (by omega)))
      ·
       refine xr0 16 (v := .tuple #[.int .u64 0, .int .i64 3]) Tryz.func131 ?_
       rw [hR]
       rw [scan_none (by omega) (by intro z; simp at z) (by unfold most; simp only [cond_true, cond_false]; omega)] at hF
       subst hF
       exact ⟨rfl, rfl⟩
     ·
      refine xr0 22 (v := .tuple #[.int .u64 0, .int .i64 3]) Tryz.func131 ?_
      rw [hR]
      rw [scan_none (by omega) (by intro z; simp at z) (by unfold most; simp only [cond_true, cond_false]; omega)] at hF
      subst hF
      exact ⟨rfl, rfl⟩
    ·
     refine xr0 26 (v := .tuple #[.int .u64 0, .int .i64 3]) Tryz.func131 ?_
     rw [hR]
     rw [scan_none (by omega) (by intro z; simp at z) (by unfold most; simp only [cond_true, cond_false]; omega)] at hF
     subst hF
     exact ⟨rfl, rfl⟩
   ·
    refine xfc 15 55 ((bl s k) ≥ 48) (fun h17p => ?_) (fun h17p => ?_)
    ·
     refine xfc 4 59 ((bl s k) ≤ 57) (fun h18p => ?_) (fun h18p => ?_)
     ·
      refine xfc 6 65 (((d : Nat) : Int) < 3) (fun h19p => ?_) (fun h19p => ?_)
      ·
       refine xt 14 10 ((n : Nat) : Int) (((10 * n) : Nat) : Int) ?_
       refine xsub 1 .u8 (bl s k) 48 ((bl s k) - 48) (IntWalk.u8_in _ (by omega)) ?_
       refine xcv 0 .u8 .i64 ((bl s k) - 48) ((bl s k) - 48) (IntWalk.i64_in _ (by omega)) ?_
       refine xa 0 (((10 * n) : Nat) : Int) ((bl s k) - 48) ((((10 * n) : Nat) : Int) + ((bl s k) - 48)) ?_
       refine xa 5 ((d : Nat) : Int) 1 (((d + 1) : Nat) : Int) ?_
       refine xv 9 (show (binOp .mul 199 (.float .f64 (near (10 ^ d))) (.float .f64 4621819117588971520)).run Tryz.prog w = .ok (.float .f64 (near (10 ^ (d + 1)))) w from f_fmul (sc_up ⟨d, by omega⟩)) ?_
       refine xa 5 ((k : Nat) : Int) 1 (((k + 1) : Nat) : Int) ?_
       exact xl 3 (l := [(0, sS s), (4, .bool false), (5, .int .i64 ((((10 * n) : Nat) : Int) + ((bl s k) - 48))), (6, iN (d + 1)), (7, .float .f64 (near (10 ^ (d + 1)))), (8, .bool true), (34, iN s.length), (35, iN (k + 1))]) (GoS.cast (by rw [show ((((10 * n) : Nat) : Int) + ((bl s k) - 48)) = ((10 * n + ((bl s k).toNat - 48) : Nat) : Int) by omega]; first | done | rfl) (ih (10 * n + ((bl s k).toNat - 48)) (d + 1) (k + 1) ((scan_digit (n := n) (d := d) (k := k) (by omega) (by omega) (by omega) (by unfold most; simp only [cond_true, cond_false]; omega)).symm.trans hF) (by omega) (by omega) (by rw [show 12 + (d + 1) = (12 + d) + 1 by omega]; exact dec_up hn (by omega)) (by omega)))
      ·
       refine xr0 16 (v := .tuple #[.int .u64 0, .int .i64 3]) Tryz.func131 ?_
       rw [hR]
       rw [scan_none (by omega) (by intro z; simp at z) (by unfold most; simp only [cond_true, cond_false]; omega)] at hF
       subst hF
       exact ⟨rfl, rfl⟩
     ·
      refine xr0 22 (v := .tuple #[.int .u64 0, .int .i64 3]) Tryz.func131 ?_
      rw [hR]
      rw [scan_none (by omega) (by intro z; simp at z) (by unfold most; simp only [cond_true, cond_false]; omega)] at hF
      subst hF
      exact ⟨rfl, rfl⟩
    ·
     refine xr0 26 (v := .tuple #[.int .u64 0, .int .i64 3]) Tryz.func131 ?_
     rw [hR]
     rw [scan_none (by omega) (by intro z; simp at z) (by unfold most; simp only [cond_true, cond_false]; omega)] at hF
     subst hF
     exact ⟨rfl, rfl⟩
  ·
   refine xc 7 (((d : Nat) : Int) = 0) (fun h2p => ?_) (fun h2p => ?_)
   ·
    refine xr0 5 (v := .tuple #[.int .u64 0, .int .i64 3]) Tryz.func131 ?_
    rw [hR]
    rw [scan_end (by omega), if_pos (by omega)] at hF
    subst hF
    exact ⟨rfl, rfl⟩
   ·
    refine xv 6 (show (binOp .quo 199 (.float .f64 (FloatKind.nearest .f64 ((n : Nat) : Int))) (.float .f64 (near (10 ^ d)))).run Tryz.prog w = .ok (.float .f64 (ratN n (10 ^ d))) w from f_fquo (ratN_some (a := n) (b := (10 ^ d)) (by omega) (by first | decide | omega) (by first | decide | omega))) ?_
    refine xr0 16 (v := .tuple #[.int .u64 (((ratN n (10 ^ d)) : Nat) : Int), .int .i64 0]) Tryz.func131 ?_
    rw [hR]
    rw [scan_end (by omega), if_neg (by omega)] at hF
    subst hF
    exact ⟨by simp only [valP, errP, cond_true, cond_false, Nat.add_zero], rfl⟩

set_option maxHeartbeats 400000 in
theorem parse_Lp (s : List UInt8) (hs : s.length ≤ 9223372036854775807) (w : World) (X : Option (Nat × Nat)) (R : Ending → World → Prop) (hR : R = (fun e w' => e = .returned (.tuple #[.int .u64 ((valP X false : Nat) : Int), .int .i64 (errP X)]) ∧ w = w')) : ∀ (N : Nat) (n d k : Nat) (hF : scan false n d (s.drop k) = X) (hk : k ≤ s.length) (hd : d ≤ 12) (hn : n < 10 ^ d) (hN : s.length - k < N), GoS Tryz.prog 131 R 97 [iC Tryz.f131 uRealX0, iL Tryz.f131 uRealX0, .inBlock 1, iC Tryz.f131 [1,1,1,1,1,1]] [(0, sS s), (4, .bool false), (5, iN n), (6, iN d), (7, .float .f64 4607182418800017408), (8, .bool false), (34, iN s.length), (35, iN k)] w := by
 intro N
 induction N with
 | zero => intro n d k hF hk hd hn hN; exact absurd hN (Nat.not_lt_zero _)
 | succ N ih =>
  intro n d k hF hk hd hn hN
  have hb := bl_bd s k
  have hn2 : n < 10 ^ 15 := dec_bd hn (by omega)
  have e15 : (10 : Nat) ^ 15 = 1000000000000000 := by decide
  have hrl := ratN_lt (a := n) (b := 10 ^ 0) (by omega) (by decide) (by decide)
  refine xs ?_
  refine xc 5 (((k : Nat) : Int) < ((s.length : Nat) : Int)) (fun h1p => ?_) (fun h1p => ?_)
  ·
   have hb4 := bl_bd s k
   refine xi 12 s ((k : Nat) : Int) k ?_
   refine xfc 8 44 ((bl s k) = 46) (fun h6p => ?_) (fun h6p => ?_)
   ·
    refine xc 9 (((d : Nat) : Int) > 0) (fun h7p => ?_) (fun h7p => ?_)
    ·
     refine xa 10 ((k : Nat) : Int) 1 (((k + 1) : Nat) : Int) ?_
     exact xl 3 (l := [(0, sS s), (4, .bool false), (5, iN n), (6, .int .i64 0), (7, .float .f64 4607182418800017408), (8, .bool true), (34, iN s.length), (35, iN (k + 1))]) (GoS.cast (by rw [sc0]; rfl) (parse_Mp s hs w X R hR (s.length + 1) n 0 (k + 1) ((scan_point (n := n) (d := d) (k := k) (by omega) (by omega) (by omega)).symm.trans hF) (by omega) (by omega) (dec_bd hn (by omega)) (by omega)))
    ·
     refine xfc 5 55 ((bl s k) ≥ 48) (fun h8p => ?_) (fun h8p => ?_)
     ·
      refine xfc 4 59 ((bl s k) ≤ 57) (fun h9p => ?_) (fun h9p => ?_)
      ·
       refine xc 16 (((d : Nat) : Int) < 12) (fun h10p => ?_) (fun h10p => ?_)
       ·
        refine xt 3 10 ((n : Nat) : Int) (((10 * n) : Nat) : Int) ?_
        refine xsub 1 .u8 (bl s k) 48 ((bl s k) - 48) (IntWalk.u8_in _ (by omega)) ?_
        refine xcv 0 .u8 .i64 ((bl s k) - 48) ((bl s k) - 48) (IntWalk.i64_in _ (by omega)) ?_
        refine xa 0 (((10 * n) : Nat) : Int) ((bl s k) - 48) ((((10 * n) : Nat) : Int) + ((bl s k) - 48)) ?_
        refine xa 5 ((d : Nat) : Int) 1 (((d + 1) : Nat) : Int) ?_
        refine xa 11 ((k : Nat) : Int) 1 (((k + 1) : Nat) : Int) ?_
        exact xl 3 (l := [(0, sS s), (4, .bool false), (5, .int .i64 ((((10 * n) : Nat) : Int) + ((bl s k) - 48))), (6, iN (d + 1)), (7, .float .f64 4607182418800017408), (8, .bool false), (34, iN s.length), (35, iN (k + 1))]) (GoS.cast (by rw [show ((((10 * n) : Nat) : Int) + ((bl s k) - 48)) = ((10 * n + ((bl s k).toNat - 48) : Nat) : Int) by omega]; first | done | rfl) (ih (10 * n + ((bl s k).toNat - 48)) (d + 1) (k + 1) ((scan_digit (n := n) (d := d) (k := k) (by omega) (by omega) (by omega) (by unfold most; simp only [cond_true, cond_false]; omega)).symm.trans hF) (by omega) (by omega) (dec_up hn (by omega)) (by omega)))
       ·
        refine xr0 5 (v := .tuple #[.int .u64 0, .int .i64 3]) Tryz.func131 ?_
        rw [hR]
        rw [scan_none (by omega) (by intro z; omega) (by unfold most; simp only [cond_true, cond_false]; omega)] at hF
        subst hF
        exact ⟨rfl, rfl⟩
      ·
       refine xr0 22 (v := .tuple #[.int .u64 0, .int .i64 3]) Tryz.func131 ?_
       rw [hR]
       rw [scan_none (by omega) (by intro z; omega) (by unfold most; simp only [cond_true, cond_false]; omega)] at hF
       subst hF
       exact ⟨rfl, rfl⟩
     ·
      refine xr0 26 (v := .tuple #[.int .u64 0, .int .i64 3]) Tryz.func131 ?_
      rw [hR]
      rw [scan_none (by omega) (by intro z; omega) (by unfold most; simp only [cond_true, cond_false]; omega)] at hF
      subst hF
      exact ⟨rfl, rfl⟩
   ·
    refine xfc 15 55 ((bl s k) ≥ 48) (fun h18p => ?_) (fun h18p => ?_)
    ·
     refine xfc 4 59 ((bl s k) ≤ 57) (fun h19p => ?_) (fun h19p => ?_)
     ·
      refine xc 16 (((d : Nat) : Int) < 12) (fun h20p => ?_) (fun h20p => ?_)
      ·
       refine xt 3 10 ((n : Nat) : Int) (((10 * n) : Nat) : Int) ?_
       refine xsub 1 .u8 (bl s k) 48 ((bl s k) - 48) (IntWalk.u8_in _ (by omega)) ?_
       refine xcv 0 .u8 .i64 ((bl s k) - 48) ((bl s k) - 48) (IntWalk.i64_in _ (by omega)) ?_
       refine xa 0 (((10 * n) : Nat) : Int) ((bl s k) - 48) ((((10 * n) : Nat) : Int) + ((bl s k) - 48)) ?_
       refine xa 5 ((d : Nat) : Int) 1 (((d + 1) : Nat) : Int) ?_
       refine xa 11 ((k : Nat) : Int) 1 (((k + 1) : Nat) : Int) ?_
       exact xl 3 (l := [(0, sS s), (4, .bool false), (5, .int .i64 ((((10 * n) : Nat) : Int) + ((bl s k) - 48))), (6, iN (d + 1)), (7, .float .f64 4607182418800017408), (8, .bool false), (34, iN s.length), (35, iN (k + 1))]) (GoS.cast (by rw [show ((((10 * n) : Nat) : Int) + ((bl s k) - 48)) = ((10 * n + ((bl s k).toNat - 48) : Nat) : Int) by omega]; first | done | rfl) (ih (10 * n + ((bl s k).toNat - 48)) (d + 1) (k + 1) ((scan_digit (n := n) (d := d) (k := k) (by omega) (by omega) (by omega) (by unfold most; simp only [cond_true, cond_false]; omega)).symm.trans hF) (by omega) (by omega) (dec_up hn (by omega)) (by omega)))
      ·
       refine xr0 5 (v := .tuple #[.int .u64 0, .int .i64 3]) Tryz.func131 ?_
       rw [hR]
       rw [scan_none (by omega) (by intro z; omega) (by unfold most; simp only [cond_true, cond_false]; omega)] at hF
       subst hF
       exact ⟨rfl, rfl⟩
     ·
      refine xr0 22 (v := .tuple #[.int .u64 0, .int .i64 3]) Tryz.func131 ?_
      rw [hR]
      rw [scan_none (by omega) (by intro z; omega) (by unfold most; simp only [cond_true, cond_false]; omega)] at hF
      subst hF
      exact ⟨rfl, rfl⟩
    ·
     refine xr0 26 (v := .tuple #[.int .u64 0, .int .i64 3]) Tryz.func131 ?_
     rw [hR]
     rw [scan_none (by omega) (by intro z; omega) (by unfold most; simp only [cond_true, cond_false]; omega)] at hF
     subst hF
     exact ⟨rfl, rfl⟩
  ·
   refine xc 7 (((d : Nat) : Int) = 0) (fun h2p => ?_) (fun h2p => ?_)
   ·
    refine xr0 5 (v := .tuple #[.int .u64 0, .int .i64 3]) Tryz.func131 ?_
    rw [hR]
    rw [scan_end (by omega), if_pos (by omega)] at hF
    subst hF
    exact ⟨rfl, rfl⟩
   ·
    refine xv 6 (show (binOp .quo 199 (.float .f64 (FloatKind.nearest .f64 ((n : Nat) : Int))) (.float .f64 4607182418800017408)).run Tryz.prog w = .ok (.float .f64 (ratN n (10 ^ 0))) w from f_fquo (sc0 ▸ ratN_some (a := n) (b := (10 ^ 0)) (by omega) (by first | decide | omega) (by first | decide | omega))) ?_
    refine xr0 16 (v := .tuple #[.int .u64 (((ratN n (10 ^ 0)) : Nat) : Int), .int .i64 0]) Tryz.func131 ?_
    rw [hR]
    rw [scan_end (by omega), if_neg (by omega)] at hF
    subst hF
    exact ⟨by simp only [valP, errP, cond_true, cond_false, Nat.add_zero], rfl⟩

set_option maxHeartbeats 400000 in
theorem parse_c (s : List UInt8) (hs : s.length ≤ 9223372036854775807) (w : World) :
  Calls Tryz.prog 131 #[sS s] w (fun e w' => e = .returned (.tuple #[.int .u64 ((parseV s : Nat) : Int), .int .i64 (parseE s)]) ∧ w = w') := by
 refine xe 97 Tryz.func131 (fun R hR => ?_)
 refine xq 13 s ([110, 97, 110] : List UInt8) ?_
 refine xc 2 (s = ([110, 97, 110] : List UInt8)) (fun h2p => ?_) (fun h2p => ?_)
 ·
  have h2 : (decide (s = ([110, 97, 110] : List UInt8))) = true := decide_eq_true h2p
  obtain ⟨e1, e2⟩ := parse_nan (by simpa using h2)
  exact xr 5 (v := .tuple #[.int .u64 9221120237041090560, .int .i64 0]) Tryz.func131 hR ⟨by rw [e1, e2]; rfl, rfl⟩
 ·
  have h2 : (decide (s = ([110, 97, 110] : List UInt8))) = false := decide_eq_false h2p
  refine xq 2 s ([105, 110, 102] : List UInt8) ?_
  refine xc 2 (s = ([105, 110, 102] : List UInt8)) (fun h4p => ?_) (fun h4p => ?_)
  ·
   have h4 : (decide (s = ([105, 110, 102] : List UInt8))) = true := decide_eq_true h4p
   refine xka 2 (pinf_c w) ?_
   obtain ⟨e1, e2⟩ := parse_inf (by simpa using h2) (by simpa using h4)
   exact xr 4 (v := .tuple #[.int .u64 9218868437227405312, .int .i64 0]) Tryz.func131 hR ⟨by rw [e1, e2]; rfl, rfl⟩
  ·
   have h4 : (decide (s = ([105, 110, 102] : List UInt8))) = false := decide_eq_false h4p
   refine xq 2 s ([45, 105, 110, 102] : List UInt8) ?_
   refine xc 2 (s = ([45, 105, 110, 102] : List UInt8)) (fun h6p => ?_) (fun h6p => ?_)
   ·
    have h6 : (decide (s = ([45, 105, 110, 102] : List UInt8))) = true := decide_eq_true h6p
    refine xka 2 (ninf_c w) ?_
    obtain ⟨e1, e2⟩ := parse_ninf (by simpa using h2) (by simpa using h4) (by simpa using h6)
    exact xr 4 (v := .tuple #[.int .u64 18442240474082181120, .int .i64 0]) Tryz.func131 hR ⟨by rw [e1, e2]; rfl, rfl⟩
   ·
    refine xqn 5 s ([]) ?_
    refine xfn 1 25 (s = []) (fun h8p => ?_) (fun h8p => ?_)
    ·
     have hb9 := bl_bd s 0
     refine xi 1 s 0 0 ?_ (hlt := by first | omega | exact List.length_pos_iff.2 (by assumption))
     refine xc 9 ((bl s 0) = 45) (fun h11p => ?_) (fun h11p => ?_)
     ·
      have h11 : ((bl s 0) == 45) = true := by simpa using h11p
      refine xsl 2 s 1 1 ?_ (hlt := by first | omega | exact List.length_pos_iff.2 (by assumption))
      refine xn 13 (List.drop 1 s) ?_
      obtain ⟨e1, e2⟩ := parse_neg h2p h4p h6p (minus_yes h8p h11)
      exact xl 4 (l := [(0, sS (List.drop 1 s)), (4, .bool ((bl s 0) == 45)), (5, .int .i64 0), (6, .int .i64 0), (7, .float .f64 4607182418800017408), (8, .bool false), (34, iN ((List.drop 1 s).length)), (35, .int .i64 0)]) (GoS.cast (by rw [h11]; rfl) (parse_Ln (List.drop 1 s) (by rw [List.length_drop]; omega) w (scan false 0 0 ((List.drop 1 s).drop 0)) R (by rw [hR, e1, e2]) ((List.drop 1 s).length + 1) 0 0 0 rfl (by omega) (by decide) (by omega) (by omega)))
     ·
      have h11 : ((bl s 0) == 45) = false := by simpa using h11p
      refine xn 12 s ?_
      obtain ⟨e1, e2⟩ := parse_pos h2p h4p h6p (minus_no h11)
      exact xl 4 (l := [(0, sS s), (4, .bool ((bl s 0) == 45)), (5, .int .i64 0), (6, .int .i64 0), (7, .float .f64 4607182418800017408), (8, .bool false), (34, iN s.length), (35, .int .i64 0)]) (GoS.cast (by rw [h11]; rfl) (parse_Lp s (by omega) w (scan false 0 0 (s.drop 0)) R (by rw [hR, e1, e2]) (s.length + 1) 0 0 0 rfl (by omega) (by decide) (by omega) (by omega)))
    ·
     have h8 : (!(decide (s = []))) = false := by simpa using h8p
     refine xn 24 s ?_
     obtain ⟨e1, e2⟩ := parse_pos h2p h4p h6p (minus_nil (by simpa using h8))
     exact xl 4 (l := [(0, sS s), (4, .bool false), (5, .int .i64 0), (6, .int .i64 0), (7, .float .f64 4607182418800017408), (8, .bool false), (34, iN s.length), (35, .int .i64 0)]) (GoS.cast (by rfl) (parse_Lp s (by omega) w (scan false 0 0 (s.drop 0)) R (by rw [hR, e1, e2]) (s.length + 1) 0 0 0 rfl (by omega) (by decide) (by omega) (by omega)))


end Go.Proofs.YthpodbngljfdmaaGreatDoor


namespace Go.SynV
open Go Go.Gw Go.Shelf Go.Proofs Go.Proofs.YthpodbngljfdmaaGreatDoor Go.RowKit
/-- what is laid: the library's tables of letters and of runes, the error of the syntax, the table of the lowest bit's place at sixteen -/
structure GV (w : World) : Prop where
  case : Lib.CaseVar (shR.g 13) Lib.caseA w
  tabs : Lib.Utf8Tabs (shR.g 3) (shR.g 4) w
  syn : ∃ T x, w.cell? ⟨6, 0, none⟩ = some (.iface T x)
  deb : w.cell? ⟨shR.g 19, 15, none⟩ = some (.int .u8 4)
/-- it holds whatever is written but outside S -/
def GS (S : List Nat) (w : World) : Prop := ∀ w', Kept S w w' → GV w'
theorem GS.kept {S : List Nat} {w w1 : World} (h : GS S w) (k : Kept S w w1) : GS S w1 := fun w' k' => h w' (k.trans k')
theorem GS.nil {S : List Nat} {w : World} (h : GS S w) : GS [] w := fun w' k => h w' (k.mono (by simp))
theorem GS.now {S : List Nat} {w : World} (h : GS S w) : GV w := h w (Kept.refl _ _)
theorem GS.fresh {w0 w : World} {T : TypeId} {k b : Nat} {xs : List Value} {L : List Row} (h : GS [] w0) (hM : Mem [] w0 w (⟨T, k, obj b, 1, xs⟩ :: L)) : GS [b] w := fun w' kp => h w' (hM.back1 (Mem.bare kp)).kept
theorem cell_kept {w w' : World} {p : Addr} {v : Value} (h : w.cell? p = some v) (k : Kept [] w w') : w'.cell? p = some v := (Below.cell k.below (World.block_lt_of_cell? w p h)).trans h
theorem GV.kept {w w' : World} (h : GV w) (k : Kept [] w w') : GV w' :=
  ⟨Lib.CaseVar_below h.case k.below, ⟨fun c hc => cell_kept (h.tabs.1 c hc) k, fun i hi => ⟨cell_kept (h.tabs.2 i hi).1 k, cell_kept (h.tabs.2 i hi).2 k⟩⟩, let ⟨T, x, e⟩ := h.syn; ⟨T, x, cell_kept e k⟩, cell_kept h.deb k⟩
theorem GV.gs {w : World} (h : GV w) : GS [] w := fun _ k => h.kept k
end Go.SynV


set_option linter.unusedVariables false
set_option linter.unusedSimpArgs false
namespace Go.Proofs.YthpodbngljfdmaaGreatDoor
open Go Go.Gw Go.Shelf Go.Proofs Go.RowKit Go.Lib Go.SynV
set_option maxRecDepth 100000
theorem star22 : "*" ++ "errors.errorString" = "*errors.errorString" := by decide
theorem row245 (u : TypeId) (h : Tryz.prog.typeName? 3 u = some "*errors.errorString") : u = 245 :=
  typeName_ptr_named (nm := "errors.errorString") (by rw [star22]; kernel_rfl) (by kernel_rfl) (by decide) u (by rw [star22]; exact h)
def deb64 : List Int := [0, 1, 56, 2, 57, 49, 28, 3, 61, 58, 42, 50, 38, 29, 17, 4, 62, 47, 59, 36, 45, 43, 51, 22, 53, 39, 33, 30, 24, 18, 12, 5, 63, 55, 48, 27, 60, 41, 37, 16, 46, 35, 44, 21, 52, 32, 23, 11, 54, 26, 40, 15, 34, 20, 31, 10, 25, 14, 19, 9, 13, 8, 7, 6]
theorem lays260 : Lays.n260 Tryz.prog shR := { lays159 with }
theorem lays274 : Lays.n274 Tryz.prog shR := { lays159 with }
theorem gv_of {W : World} (h : laidMetH Tryz.prog Rows.syntaxBlanksRow.laid W) : GV W := by
  have hL : laidMet Tryz.prog Rows.syntaxBlanksRow.laid W := by rw [MakeChecks.laidMetH_plain _ _ _ (by kernel_rfl)] at h; exact h
  have hD : laidMet Tryz.prog _ W := hL.tail
  have hS : laidMet Tryz.prog _ W := hD.tail.tail.tail.tail
  refine ⟨?_, ?_, ?_, ?_⟩
  · exact caseVar_of_reads lays274 Tryz.underlying249 ⟨by kernel_rfl, by kernel_rfl, by kernel_rfl, by kernel_rfl, by kernel_rfl, by kernel_rfl⟩ (Pinned.caseRanges_eq ▸ laidMet.reads hL (show ("unicode.CaseRanges", Pinned.caseRanges) ∈ Rows.syntaxBlanksRow.laid by simp [Rows.syntaxBlanksRow, Rows.laid_unicode_CaseRanges]))
  · exact utf8Tabs_of_reads lays260 ⟨by kernel_rfl, by kernel_rfl, by kernel_rfl, by kernel_rfl, by kernel_rfl, by kernel_rfl, by kernel_rfl⟩
      (Pinned.utf8First_eq ▸ laidMet.reads hL (show ("unicode/utf8.first", Pinned.utf8First) ∈ Rows.syntaxBlanksRow.laid by simp [Rows.syntaxBlanksRow, Rows.laid_unicode_utf8_first]))
      ((show (Rows.laid_unicode_utf8_acceptRanges : DataW Unit) = acceptData by kernel_rfl) ▸ laidMet.reads hD.tail.tail (List.mem_cons_self ..))
  · obtain ⟨a, t, hv, _⟩ := laid_sentinel (g := 6) hS (by kernel_rfl) (by kernel_rfl) Tryz.underlying89 row245 Tryz.underlying245 Tryz.underlying247 rfl rfl Tryz.underlying9 (by kernel_rfl) (by kernel_rfl)
    exact ⟨_, _, World.var?_cell (by kernel_rfl) hv 0⟩
  · exact TabIs.cell (g := 3) (tabIs_of_head (g := 3) (t := 203) (n := 64) (e := 5) (zs := deb64) (k := .u8) (rest := Rows.syntaxBlanksRow.laid.tail.tail) (by kernel_rfl) (by kernel_rfl) (by kernel_rfl) (by kernel_rfl) (by kernel_rfl) (by kernel_rfl) hD) (by kernel_rfl) 15 (by decide)
end Go.Proofs.YthpodbngljfdmaaGreatDoor


namespace Go.Proofs.YthpodbngljfdmaaGreatDoor
open Go Go.Gw Go.RealP Go.RealQ Go.RowKit
set_option linter.unusedVariables false
set_option linter.unusedSimpArgs false
set_option maxRecDepth 20000


set_option maxHeartbeats 400000 in
theorem rdigits_L (s : List UInt8) (hs : s.length ≤ 9223372036854775807) (M : Nat) (hM : M ≤ 12) (w : World) (X : Nat × Nat) (R : Ending → World → Prop) (hR : R = (fun e w' => e = .returned (.tuple #[iN X.1, .int .u64 ((X.2 : Nat) : Int)]) ∧ w = w')) : ∀ (N : Nat) (n x : Nat) (hF : (n + (dgF (M - n) x (s.drop n)).1, (dgF (M - n) x (s.drop n)).2) = X) (hn : n ≤ s.length) (hnM : n ≤ M) (hx : x < 10 ^ n) (hN : s.length - n < N), GoS Tryz.prog 132 R 41 [iC Tryz.f132 [1,1,1,0,0,0], iL Tryz.f132 [1,1,1,0,0,0], .inBlock 0, iC Tryz.f132 [1,1,1,1]] [(0, sS s), (1, iN M), (6, iN n), (7, .int .u64 ((x : Nat) : Int))] w := by
 intro N
 induction N with
 | zero => intro n x hF hn hnM hx hN; exact absurd hN (Nat.not_lt_zero _)
 | succ N ih =>
  intro n x hF hn hnM hx hN
  have hb := bl_bd s n
  have hx2 : x < 10 ^ 12 := dec_bd hx (by omega)
  have e12 : (10 : Nat) ^ 12 = 1000000000000 := by decide
  refine xs ?_
  refine xn 5 s ?_
  refine xfc 2 12 (((n : Nat) : Int) < ((s.length : Nat) : Int)) (fun h2p => ?_) (fun h2p => ?_)
  ·
   refine xfc 5 17 (((n : Nat) : Int) < ((M : Nat) : Int)) (fun h3p => ?_) (fun h3p => ?_)
   ·
    have hb4 := bl_bd s n
    refine xi 2 s ((n : Nat) : Int) n ?_
    refine xfc 3 23 ((bl s n) ≥ 48) (fun h6p => ?_) (fun h6p => ?_)
    ·
     have hb7 := bl_bd s n
     refine xi 2 s ((n : Nat) : Int) n ?_
     refine xc 3 ((bl s n) ≤ 57) (fun h9p => ?_) (fun h9p => ?_)
     ·
      refine xmul 5 .u64 10 ((x : Nat) : Int) (((10 * x) : Nat) : Int) (by rw [show 10 * ((x : Nat) : Int) = (((10 * x) : Nat) : Int) by omega]; exact IntWalk.u64_in _ (by omega)) ?_
      have hb10 := bl_bd s n
      refine xi 2 s ((n : Nat) : Int) n ?_
      refine xsub 0 .u8 (bl s n) 48 ((bl s n) - 48) (IntWalk.u8_in _ (by omega)) ?_
      refine xcv 0 .u8 .u64 ((bl s n) - 48) (((Int.toNat ((bl s n) - 48)) : Nat) : Int) ((IntWalk.u64_in _ (by omega)).trans (by omega)) ?_
      refine xadd 0 .u64 (((10 * x) : Nat) : Int) (((Int.toNat ((bl s n) - 48)) : Nat) : Int) ((((10 * x) + (Int.toNat ((bl s n) - 48))) : Nat) : Int) (by rw [show (((10 * x) : Nat) : Int) + (((Int.toNat ((bl s n) - 48)) : Nat) : Int) = ((((10 * x) + (Int.toNat ((bl s n) - 48))) : Nat) : Int) by omega]; exact IntWalk.u64_in _ (by omega)) ?_
      refine xa 4 ((n : Nat) : Int) 1 (((n + 1) : Nat) : Int) ?_
      have e := dgF_yes (s := s) (k := n) (m := M - (n + 1)) (x := x) (by omega) (by omega) (by omega)
      rw [show M - (n + 1) + 1 = M - n by omega] at e
      rw [e] at hF
      exact xl 4 (l := [(0, sS s), (1, iN M), (6, iN (n + 1)), (7, .int .u64 ((((10 * x) + (Int.toNat ((bl s n) - 48))) : Nat) : Int))]) (GoS.cast (by rw [show ((((10 * x) + (Int.toNat ((bl s n) - 48))) : Nat) : Int) = ((10 * x + ((bl s n).toNat - 48) : Nat) : Int) by omega]; first | done | rfl) (ih (n + 1) (10 * x + ((bl s n).toNat - 48)) (by rw [← hF]; congr 1; simp only; omega) (by omega) (by omega) (dec_up hx (by omega)) (by omega)))
     ·
      refine xr0 8 (v := .tuple #[iN n, .int .u64 ((x : Nat) : Int)]) Tryz.func132 ?_
      rw [hR]
      rw [dgF_no (by omega) (by omega)] at hF
      subst hF
      exact ⟨rfl, rfl⟩
    ·
     refine xr0 15 (v := .tuple #[iN n, .int .u64 ((x : Nat) : Int)]) Tryz.func132 ?_
     rw [hR]
     rw [dgF_no (by omega) (by omega)] at hF
     subst hF
     exact ⟨rfl, rfl⟩
   ·
    refine xr0 21 (v := .tuple #[iN n, .int .u64 ((x : Nat) : Int)]) Tryz.func132 ?_
    rw [hR]
    rw [show M - n = 0 by omega, dgF_zero] at hF
    subst hF
    exact ⟨rfl, rfl⟩
  ·
   refine xr0 26 (v := .tuple #[iN n, .int .u64 ((x : Nat) : Int)]) Tryz.func132 ?_
   rw [hR]
   rw [dgF_end (by omega)] at hF
   subst hF
   exact ⟨rfl, rfl⟩

set_option maxHeartbeats 400000 in
theorem rdigits_c (s : List UInt8) (hs : s.length ≤ 9223372036854775807) (M : Nat) (hM : M ≤ 12) (w : World) :
  Calls Tryz.prog 132 #[sS s, iN M] w (fun e w' => e = .returned (.tuple #[iN ((dgF M 0 s).1), .int .u64 (((dgF M 0 s).2 : Nat) : Int)]) ∧ w = w') := by
 refine xe 41 Tryz.func132 (fun R hR => ?_)
 exact xl 16 (rdigits_L s hs M hM w (dgF M 0 s) R hR (s.length + 1) 0 0 (by simp) (by omega) (by omega) (by decide) (by omega))

set_option maxHeartbeats 1000000 in
theorem rratio_L (a b : Nat) (ha0 : 0 < a) (ha : a < 9007199254740992) (hb : 0 < b) (hb2 : b ≤ 1000) {w0 : World} (R : Ending → World → Prop) (hR : R = (fun e w' => e = .returned (.int .u64 ((ratN a b : Nat) : Int)) ∧ Mem [] w0 w' [])) : ∀ (N : Nat) (k : Nat) (w : World) (hk : k ≤ 63) (hq : k = 0 ∨ a * 2 ^ (k - 1) / b < 9007199254740992) (hM : Mem [] w0 w []) (hN : 64 - k < N), GoS Tryz.prog 133 R 65 [iC Tryz.f133 [1,1,1,1,0,0,0], iL Tryz.f133 [1,1,1,1,0,0,0], .inBlock 0, iC Tryz.f133 [1,1,1,1,1]] [(1, .int .u64 ((b : Nat) : Int)), (5, .int .u64 (((a * 2 ^ k / b) : Nat) : Int)), (6, .int .u64 (((a * 2 ^ k % b) : Nat) : Int)), (7, .int .i64 (-((k : Nat) : Int)))] w := by
 intro N
 induction N with
 | zero => intro k w hk hq hM hN; exact absurd hN (Nat.not_lt_zero _)
 | succ N ih =>
  intro k w hk hq hM hN
  have hmod := Nat.mod_lt (a * 2 ^ k) hb
  have hkk : a * 2 ^ k / b < 9007199254740992 → k < 63 := k_lt ha0 hb hb2
  have hq2 : ¬ a * 2 ^ k / b < 9007199254740992 → a * 2 ^ k / b < 18014398509481984 ∧ 1 ≤ k := q_hi ha hb hq
  have hrat : ¬ a * 2 ^ k / b < 9007199254740992 → ratN a b = (1075 - k) * 4503599627370496 + rndQ (a * 2 ^ k / b) (decide (0 < a * 2 ^ k % b)) := fun h => ratN_of ha0 ha hb (by omega) (by omega) (hq2 h).1 (by omega)
  refine xs ?_
  refine xc 6 ((((a * 2 ^ k / b) : Nat) : Int) < 9007199254740992) (fun h1p => ?_) (fun h1p => ?_)
  ·
   refine xmul 5 .u64 2 (((a * 2 ^ k % b) : Nat) : Int) (((2 * (a * 2 ^ k % b)) : Nat) : Int) (by rw [show 2 * (((a * 2 ^ k % b) : Nat) : Int) = (((2 * (a * 2 ^ k % b)) : Nat) : Int) by omega]; exact IntWalk.u64_in _ (by omega)) ?_
   refine xmul 5 .u64 2 (((a * 2 ^ k / b) : Nat) : Int) (((2 * (a * 2 ^ k / b)) : Nat) : Int) (by rw [show 2 * (((a * 2 ^ k / b) : Nat) : Int) = (((2 * (a * 2 ^ k / b)) : Nat) : Int) by omega]; exact IntWalk.u64_in _ (by omega)) ?_
   refine xc 9 ((((2 * (a * 2 ^ k % b)) : Nat) : Int) ≥ ((b : Nat) : Int)) (fun h65p => ?_) (fun h65p => ?_)
   ·
    refine xsub 4 .u64 (((2 * (a * 2 ^ k % b)) : Nat) : Int) ((b : Nat) : Int) ((((2 * (a * 2 ^ k % b)) : Nat) : Int) - ((b : Nat) : Int)) (IntWalk.u64_in _ (by omega)) ?_
    refine xadd 4 .u64 (((2 * (a * 2 ^ k / b)) : Nat) : Int) 1 ((((2 * (a * 2 ^ k / b)) + 1) : Nat) : Int) (by rw [show (((2 * (a * 2 ^ k / b)) : Nat) : Int) + 1 = ((((2 * (a * 2 ^ k / b)) + 1) : Nat) : Int) by omega]; exact IntWalk.u64_in _ (by omega)) ?_
    refine xm 4 (-((k : Nat) : Int)) 1 ((-((k : Nat) : Int)) - 1) ?_
    obtain ⟨e1, e2⟩ := step_hi (z := a * 2 ^ k) hb (by omega)
    rw [← pow_up] at e1 e2
    have e5 : ((((2 * (a * 2 ^ k / b)) + 1) : Nat) : Int) = ((a * 2 ^ (k + 1) / b : Nat) : Int) := by omega
    have e6 : ((((2 * (a * 2 ^ k % b)) : Nat) : Int) - ((b : Nat) : Int)) = ((a * 2 ^ (k + 1) % b : Nat) : Int) := by omega
    have e7 : ((-((k : Nat) : Int)) - 1) = -((k + 1 : Nat) : Int) := by omega
    exact xl 4 (l := [(1, .int .u64 ((b : Nat) : Int)), (5, .int .u64 ((((2 * (a * 2 ^ k / b)) + 1) : Nat) : Int)), (6, .int .u64 ((((2 * (a * 2 ^ k % b)) : Nat) : Int) - ((b : Nat) : Int))), (7, .int .i64 ((-((k : Nat) : Int)) - 1))]) (GoS.cast (by rw [e5, e6, e7]) (ih (k + 1) _ (by omega) (.inr (by rw [Nat.add_sub_cancel]; omega)) hM (by omega)))
   ·
    refine xm 3 (-((k : Nat) : Int)) 1 ((-((k : Nat) : Int)) - 1) ?_
    obtain ⟨e1, e2⟩ := step_lo (z := a * 2 ^ k) hb (by omega)
    rw [← pow_up] at e1 e2
    have e5 : (((2 * (a * 2 ^ k / b)) : Nat) : Int) = ((a * 2 ^ (k + 1) / b : Nat) : Int) := by omega
    have e6 : (((2 * (a * 2 ^ k % b)) : Nat) : Int) = ((a * 2 ^ (k + 1) % b : Nat) : Int) := by omega
    have e7 : ((-((k : Nat) : Int)) - 1) = -((k + 1 : Nat) : Int) := by omega
    exact xl 4 (l := [(1, .int .u64 ((b : Nat) : Int)), (5, .int .u64 (((2 * (a * 2 ^ k / b)) : Nat) : Int)), (6, .int .u64 (((2 * (a * 2 ^ k % b)) : Nat) : Int)), (7, .int .i64 ((-((k : Nat) : Int)) - 1))]) (GoS.cast (by rw [e5, e6, e7]) (ih (k + 1) _ (by omega) (.inr (by rw [Nat.add_sub_cancel]; omega)) hM (by omega)))
  ·
   refine xo 4 .rem (.int .u64 (((a * 2 ^ k / b) : Nat) : Int)) (.int .u64 2) (v := .int .u64 ((((a * 2 ^ k / b) % 2) : Nat) : Int)) (fun _ => f_rem (by decide) ((IntWalk.rem_in _ _ (by omega)).trans (by omega))) ?_
   refine xo 5 .quo (.int .u64 (((a * 2 ^ k / b) : Nat) : Int)) (.int .u64 2) (v := .int .u64 ((((a * 2 ^ k / b) / 2) : Nat) : Int)) (fun _ => f_quo (by decide) ((IntWalk.u64_quo _ _ (by omega)).trans (by omega))) ?_
   refine xa 5 (-((k : Nat) : Int)) 1 ((-((k : Nat) : Int)) + 1) ?_
   refine xfc 8 41 (((((a * 2 ^ k / b) % 2) : Nat) : Int) = 1) (fun h5p => ?_) (fun h5p => ?_)
   ·
    refine xfc 3 44 ((((a * 2 ^ k % b) : Nat) : Int) > 0) (fun h6p => ?_) (fun h6p => ?_)
    ·
     refine xadd 9 .u64 ((((a * 2 ^ k / b) / 2) : Nat) : Int) 1 (((((a * 2 ^ k / b) / 2) + 1) : Nat) : Int) (by rw [show ((((a * 2 ^ k / b) / 2) : Nat) : Int) + 1 = (((((a * 2 ^ k / b) / 2) + 1) : Nat) : Int) by omega]; exact IntWalk.u64_in _ (by omega)) ?_
     refine xc 8 ((((((a * 2 ^ k / b) / 2) + 1) : Nat) : Int) = 9007199254740992) (fun h9p => ?_) (fun h9p => ?_)
     ·
      refine xo 3 .quo (.int .u64 (((((a * 2 ^ k / b) / 2) + 1) : Nat) : Int)) (.int .u64 2) (v := .int .u64 ((((((a * 2 ^ k / b) / 2) + 1) / 2) : Nat) : Int)) (fun _ => f_quo (by decide) ((IntWalk.u64_quo _ _ (by omega)).trans (by omega))) ?_
      refine xa 4 ((-((k : Nat) : Int)) + 1) 1 (((-((k : Nat) : Int)) + 1) + 1) ?_
      refine xsub 5 .u64 ((((((a * 2 ^ k / b) / 2) + 1) / 2) : Nat) : Int) 4503599627370496 (((((((a * 2 ^ k / b) / 2) + 1) / 2) : Nat) : Int) - 4503599627370496) (IntWalk.u64_in _ (by omega)) ?_
      refine xa 1 (((-((k : Nat) : Int)) + 1) + 1) 1075 ((((-((k : Nat) : Int)) + 1) + 1) + 1075) ?_
      refine xcv 0 .i64 .u64 ((((-((k : Nat) : Int)) + 1) + 1) + 1075) (((Int.toNat ((((-((k : Nat) : Int)) + 1) + 1) + 1075)) : Nat) : Int) ((IntWalk.u64_in _ (by omega)).trans (by omega)) ?_
      refine xmul 0 .u64 (((Int.toNat ((((-((k : Nat) : Int)) + 1) + 1) + 1075)) : Nat) : Int) 4503599627370496 ((((Int.toNat ((((-((k : Nat) : Int)) + 1) + 1) + 1075)) * 4503599627370496) : Nat) : Int) (by rw [show (((Int.toNat ((((-((k : Nat) : Int)) + 1) + 1) + 1075)) : Nat) : Int) * 4503599627370496 = ((((Int.toNat ((((-((k : Nat) : Int)) + 1) + 1) + 1075)) * 4503599627370496) : Nat) : Int) by omega]; exact IntWalk.u64_in _ (by omega)) ?_
      refine xadd 0 .u64 (((((((a * 2 ^ k / b) / 2) + 1) / 2) : Nat) : Int) - 4503599627370496) ((((Int.toNat ((((-((k : Nat) : Int)) + 1) + 1) + 1075)) * 4503599627370496) : Nat) : Int) ((((((((a * 2 ^ k / b) / 2) + 1) / 2) : Nat) : Int) - 4503599627370496) + ((((Int.toNat ((((-((k : Nat) : Int)) + 1) + 1) + 1075)) * 4503599627370496) : Nat) : Int)) (IntWalk.u64_in _ (by omega)) ?_
      have hv_ : ((((((((a * 2 ^ k / b) / 2) + 1) / 2) : Nat) : Int) - 4503599627370496) + ((((Int.toNat ((((-((k : Nat) : Int)) + 1) + 1) + 1075)) * 4503599627370496) : Nat) : Int)) = ((ratN a b : Nat) : Int) := by
       have hr := hrat (by omega)
       have hq3 := (hq2 (by omega)).2
       have hq4 := (hq2 (by omega)).1
       clear hrat hq2 hkk hq
       generalize a * 2 ^ k / b = q at *
       generalize a * 2 ^ k % b = r at *
       first | rw [rndQ_up (by omega) (by omega)] at hr | rw [rndQ_same (by omega)] at hr
       rw [hr]; omega
      exact xr 2 (v := .int .u64 ((((((((a * 2 ^ k / b) / 2) + 1) / 2) : Nat) : Int) - 4503599627370496) + ((((Int.toNat ((((-((k : Nat) : Int)) + 1) + 1) + 1075)) * 4503599627370496) : Nat) : Int))) Tryz.func133 hR ⟨ret_int hv_, hM⟩
     ·
      refine xsub 4 .u64 (((((a * 2 ^ k / b) / 2) + 1) : Nat) : Int) 4503599627370496 ((((((a * 2 ^ k / b) / 2) + 1) : Nat) : Int) - 4503599627370496) (IntWalk.u64_in _ (by omega)) ?_
      refine xa 1 ((-((k : Nat) : Int)) + 1) 1075 (((-((k : Nat) : Int)) + 1) + 1075) ?_
      refine xcv 0 .i64 .u64 (((-((k : Nat) : Int)) + 1) + 1075) (((Int.toNat (((-((k : Nat) : Int)) + 1) + 1075)) : Nat) : Int) ((IntWalk.u64_in _ (by omega)).trans (by omega)) ?_
      refine xmul 0 .u64 (((Int.toNat (((-((k : Nat) : Int)) + 1) + 1075)) : Nat) : Int) 4503599627370496 ((((Int.toNat (((-((k : Nat) : Int)) + 1) + 1075)) * 4503599627370496) : Nat) : Int) (by rw [show (((Int.toNat (((-((k : Nat) : Int)) + 1) + 1075)) : Nat) : Int) * 4503599627370496 = ((((Int.toNat (((-((k : Nat) : Int)) + 1) + 1075)) * 4503599627370496) : Nat) : Int) by omega]; exact IntWalk.u64_in _ (by omega)) ?_
      refine xadd 0 .u64 ((((((a * 2 ^ k / b) / 2) + 1) : Nat) : Int) - 4503599627370496) ((((Int.toNat (((-((k : Nat) : Int)) + 1) + 1075)) * 4503599627370496) : Nat) : Int) (((((((a * 2 ^ k / b) / 2) + 1) : Nat) : Int) - 4503599627370496) + ((((Int.toNat (((-((k : Nat) : Int)) + 1) + 1075)) * 4503599627370496) : Nat) : Int)) (IntWalk.u64_in _ (by omega)) ?_
      have hv_ : (((((((a * 2 ^ k / b) / 2) + 1) : Nat) : Int) - 4503599627370496) + ((((Int.toNat (((-((k : Nat) : Int)) + 1) + 1075)) * 4503599627370496) : Nat) : Int)) = ((ratN a b : Nat) : Int) := by
       have hr := hrat (by omega)
       have hq3 := (hq2 (by omega)).2
       have hq4 := (hq2 (by omega)).1
       clear hrat hq2 hkk hq
       generalize a * 2 ^ k / b = q at *
       generalize a * 2 ^ k % b = r at *
       first | rw [rndQ_up (by omega) (by omega)] at hr | rw [rndQ_same (by omega)] at hr
       rw [hr]; omega
      exact xr 2 (v := .int .u64 (((((((a * 2 ^ k / b) / 2) + 1) : Nat) : Int) - 4503599627370496) + ((((Int.toNat (((-((k : Nat) : Int)) + 1) + 1075)) * 4503599627370496) : Nat) : Int))) Tryz.func133 hR ⟨ret_int hv_, hM⟩
    ·
     refine xo 1 .rem (.int .u64 ((((a * 2 ^ k / b) / 2) : Nat) : Int)) (.int .u64 2) (v := .int .u64 (((((a * 2 ^ k / b) / 2) % 2) : Nat) : Int)) (fun _ => f_rem (by decide) ((IntWalk.rem_in _ _ (by omega)).trans (by omega))) ?_
     refine xc 4 ((((((a * 2 ^ k / b) / 2) % 2) : Nat) : Int) = 1) (fun h22p => ?_) (fun h22p => ?_)
     ·
      refine xadd 2 .u64 ((((a * 2 ^ k / b) / 2) : Nat) : Int) 1 (((((a * 2 ^ k / b) / 2) + 1) : Nat) : Int) (by rw [show ((((a * 2 ^ k / b) / 2) : Nat) : Int) + 1 = (((((a * 2 ^ k / b) / 2) + 1) : Nat) : Int) by omega]; exact IntWalk.u64_in _ (by omega)) ?_
      refine xc 8 ((((((a * 2 ^ k / b) / 2) + 1) : Nat) : Int) = 9007199254740992) (fun h24p => ?_) (fun h24p => ?_)
      ·
       refine xo 3 .quo (.int .u64 (((((a * 2 ^ k / b) / 2) + 1) : Nat) : Int)) (.int .u64 2) (v := .int .u64 ((((((a * 2 ^ k / b) / 2) + 1) / 2) : Nat) : Int)) (fun _ => f_quo (by decide) ((IntWalk.u64_quo _ _ (by omega)).trans (by omega))) ?_
       refine xa 4 ((-((k : Nat) : Int)) + 1) 1 (((-((k : Nat) : Int)) + 1) + 1) ?_
       refine xsub 5 .u64 ((((((a * 2 ^ k / b) / 2) + 1) / 2) : Nat) : Int) 4503599627370496 (((((((a * 2 ^ k / b) / 2) + 1) / 2) : Nat) : Int) - 4503599627370496) (IntWalk.u64_in _ (by omega)) ?_
       refine xa 1 (((-((k : Nat) : Int)) + 1) + 1) 1075 ((((-((k : Nat) : Int)) + 1) + 1) + 1075) ?_
       refine xcv 0 .i64 .u64 ((((-((k : Nat) : Int)) + 1) + 1) + 1075) (((Int.toNat ((((-((k : Nat) : Int)) + 1) + 1) + 1075)) : Nat) : Int) ((IntWalk.u64_in _ (by omega)).trans (by omega)) ?_
       refine xmul 0 .u64 (((Int.toNat ((((-((k : Nat) : Int)) + 1) + 1) + 1075)) : Nat) : Int) 4503599627370496 ((((Int.toNat ((((-((k : Nat) : Int)) + 1) + 1) + 1075)) * 4503599627370496) : Nat) : Int) (by rw [show (((Int.toNat ((((-((k : Nat) : Int)) + 1) + 1) + 1075)) : Nat) : Int) * 4503599627370496 = ((((Int.toNat ((((-((k : Nat) : Int)) + 1) + 1) + 1075)) * 4503599627370496) : Nat) : Int) by omega]; exact IntWalk.u64_in _ (by omega)) ?_
       refine xadd 0 .u64 (((((((a * 2 ^ k / b) / 2) + 1) / 2) : Nat) : Int) - 4503599627370496) ((((Int.toNat ((((-((k : Nat) : Int)) + 1) + 1) + 1075)) * 4503599627370496) : Nat) : Int) ((((((((a * 2 ^ k / b) / 2) + 1) / 2) : Nat) : Int) - 4503599627370496) + ((((Int.toNat ((((-((k : Nat) : Int)) + 1) + 1) + 1075)) * 4503599627370496) : Nat) : Int)) (IntWalk.u64_in _ (by omega)) ?_
       have hv_ : ((((((((a * 2 ^ k / b) / 2) + 1) / 2) : Nat) : Int) - 4503599627370496) + ((((Int.toNat ((((-((k : Nat) : Int)) + 1) + 1) + 1075)) * 4503599627370496) : Nat) : Int)) = ((ratN a b : Nat) : Int) := by
        have hr := hrat (by omega)
        have hq3 := (hq2 (by omega)).2
        have hq4 := (hq2 (by omega)).1
        clear hrat hq2 hkk hq
        generalize a * 2 ^ k / b = q at *
        generalize a * 2 ^ k % b = r at *
        first | rw [rndQ_up (by omega) (by omega)] at hr | rw [rndQ_same (by omega)] at hr
        rw [hr]; omega
       exact xr 2 (v := .int .u64 ((((((((a * 2 ^ k / b) / 2) + 1) / 2) : Nat) : Int) - 4503599627370496) + ((((Int.toNat ((((-((k : Nat) : Int)) + 1) + 1) + 1075)) * 4503599627370496) : Nat) : Int))) Tryz.func133 hR ⟨ret_int hv_, hM⟩
      ·
       refine xsub 4 .u64 (((((a * 2 ^ k / b) / 2) + 1) : Nat) : Int) 4503599627370496 ((((((a * 2 ^ k / b) / 2) + 1) : Nat) : Int) - 4503599627370496) (IntWalk.u64_in _ (by omega)) ?_
       refine xa 1 ((-((k : Nat) : Int)) + 1) 1075 (((-((k : Nat) : Int)) + 1) + 1075) ?_
       refine xcv 0 .i64 .u64 (((-((k : Nat) : Int)) + 1) + 1075) (((Int.toNat (((-((k : Nat) : Int)) + 1) + 1075)) : Nat) : Int) ((IntWalk.u64_in _ (by omega)).trans (by omega)) ?_
       refine xmul 0 .u64 (((Int.toNat (((-((k : Nat) : Int)) + 1) + 1075)) : Nat) : Int) 4503599627370496 ((((Int.toNat (((-((k : Nat) : Int)) + 1) + 1075)) * 4503599627370496) : Nat) : Int) (by rw [show (((Int.toNat (((-((k : Nat) : Int)) + 1) + 1075)) : Nat) : Int) * 4503599627370496 = ((((Int.toNat (((-((k : Nat) : Int)) + 1) + 1075)) * 4503599627370496) : Nat) : Int) by omega]; exact IntWalk.u64_in _ (by omega)) ?_
       refine xadd 0 .u64 ((((((a * 2 ^ k / b) / 2) + 1) : Nat) : Int) - 4503599627370496) ((((Int.toNat (((-((k : Nat) : Int)) + 1) + 1075)) * 4503599627370496) : Nat) : Int) (((((((a * 2 ^ k / b) / 2) + 1) : Nat) : Int) - 4503599627370496) + ((((Int.toNat (((-((k : Nat) : Int)) + 1) + 1075)) * 4503599627370496) : Nat) : Int)) (IntWalk.u64_in _ (by omega)) ?_
       have hv_ : (((((((a * 2 ^ k / b) / 2) + 1) : Nat) : Int) - 4503599627370496) + ((((Int.toNat (((-((k : Nat) : Int)) + 1) + 1075)) * 4503599627370496) : Nat) : Int)) = ((ratN a b : Nat) : Int) := by
        have hr := hrat (by omega)
        have hq3 := (hq2 (by omega)).2
        have hq4 := (hq2 (by omega)).1
        clear hrat hq2 hkk hq
        generalize a * 2 ^ k / b = q at *
        generalize a * 2 ^ k % b = r at *
        first | rw [rndQ_up (by omega) (by omega)] at hr | rw [rndQ_same (by omega)] at hr
        rw [hr]; omega
       exact xr 2 (v := .int .u64 (((((((a * 2 ^ k / b) / 2) + 1) : Nat) : Int) - 4503599627370496) + ((((Int.toNat (((-((k : Nat) : Int)) + 1) + 1075)) * 4503599627370496) : Nat) : Int))) Tryz.func133 hR ⟨ret_int hv_, hM⟩
     ·
      refine xc 7 (((((a * 2 ^ k / b) / 2) : Nat) : Int) = 9007199254740992) (fun h37p => ?_) (fun h37p => ?_)
      ·
       refine xo 3 .quo (.int .u64 ((((a * 2 ^ k / b) / 2) : Nat) : Int)) (.int .u64 2) (v := .int .u64 (((((a * 2 ^ k / b) / 2) / 2) : Nat) : Int)) (fun _ => f_quo (by decide) ((IntWalk.u64_quo _ _ (by omega)).trans (by omega))) ?_
       refine xa 4 ((-((k : Nat) : Int)) + 1) 1 (((-((k : Nat) : Int)) + 1) + 1) ?_
       refine xsub 5 .u64 (((((a * 2 ^ k / b) / 2) / 2) : Nat) : Int) 4503599627370496 ((((((a * 2 ^ k / b) / 2) / 2) : Nat) : Int) - 4503599627370496) (IntWalk.u64_in _ (by omega)) ?_
       refine xa 1 (((-((k : Nat) : Int)) + 1) + 1) 1075 ((((-((k : Nat) : Int)) + 1) + 1) + 1075) ?_
       refine xcv 0 .i64 .u64 ((((-((k : Nat) : Int)) + 1) + 1) + 1075) (((Int.toNat ((((-((k : Nat) : Int)) + 1) + 1) + 1075)) : Nat) : Int) ((IntWalk.u64_in _ (by omega)).trans (by omega)) ?_
       refine xmul 0 .u64 (((Int.toNat ((((-((k : Nat) : Int)) + 1) + 1) + 1075)) : Nat) : Int) 4503599627370496 ((((Int.toNat ((((-((k : Nat) : Int)) + 1) + 1) + 1075)) * 4503599627370496) : Nat) : Int) (by rw [show (((Int.toNat ((((-((k : Nat) : Int)) + 1) + 1) + 1075)) : Nat) : Int) * 4503599627370496 = ((((Int.toNat ((((-((k : Nat) : Int)) + 1) + 1) + 1075)) * 4503599627370496) : Nat) : Int) by omega]; exact IntWalk.u64_in _ (by omega)) ?_
       refine xadd 0 .u64 ((((((a * 2 ^ k / b) / 2) / 2) : Nat) : Int) - 4503599627370496) ((((Int.toNat ((((-((k : Nat) : Int)) + 1) + 1) + 1075)) * 4503599627370496) : Nat) : Int) (((((((a * 2 ^ k / b) / 2) / 2) : Nat) : Int) - 4503599627370496) + ((((Int.toNat ((((-((k : Nat) : Int)) + 1) + 1) + 1075)) * 4503599627370496) : Nat) : Int)) (IntWalk.u64_in _ (by omega)) ?_
       have hv_ : (((((((a * 2 ^ k / b) / 2) / 2) : Nat) : Int) - 4503599627370496) + ((((Int.toNat ((((-((k : Nat) : Int)) + 1) + 1) + 1075)) * 4503599627370496) : Nat) : Int)) = ((ratN a b : Nat) : Int) := by
        have hr := hrat (by omega)
        have hq3 := (hq2 (by omega)).2
        have hq4 := (hq2 (by omega)).1
        clear hrat hq2 hkk hq
        generalize a * 2 ^ k / b = q at *
        generalize a * 2 ^ k % b = r at *
        first | rw [rndQ_up (by omega) (by omega)] at hr | rw [rndQ_same (by omega)] at hr
        rw [hr]; omega
       exact xr 2 (v := .int .u64 (((((((a * 2 ^ k / b) / 2) / 2) : Nat) : Int) - 4503599627370496) + ((((Int.toNat ((((-((k : Nat) : Int)) + 1) + 1) + 1075)) * 4503599627370496) : Nat) : Int))) Tryz.func133 hR ⟨ret_int hv_, hM⟩
      ·
       refine xsub 4 .u64 ((((a * 2 ^ k / b) / 2) : Nat) : Int) 4503599627370496 (((((a * 2 ^ k / b) / 2) : Nat) : Int) - 4503599627370496) (IntWalk.u64_in _ (by omega)) ?_
       refine xa 1 ((-((k : Nat) : Int)) + 1) 1075 (((-((k : Nat) : Int)) + 1) + 1075) ?_
       refine xcv 0 .i64 .u64 (((-((k : Nat) : Int)) + 1) + 1075) (((Int.toNat (((-((k : Nat) : Int)) + 1) + 1075)) : Nat) : Int) ((IntWalk.u64_in _ (by omega)).trans (by omega)) ?_
       refine xmul 0 .u64 (((Int.toNat (((-((k : Nat) : Int)) + 1) + 1075)) : Nat) : Int) 4503599627370496 ((((Int.toNat (((-((k : Nat) : Int)) + 1) + 1075)) * 4503599627370496) : Nat) : Int) (by rw [show (((Int.toNat (((-((k : Nat) : Int)) + 1) + 1075)) : Nat) : Int) * 4503599627370496 = ((((Int.toNat (((-((k : Nat) : Int)) + 1) + 1075)) * 4503599627370496) : Nat) : Int) by omega]; exact IntWalk.u64_in _ (by omega)) ?_
       refine xadd 0 .u64 (((((a * 2 ^ k / b) / 2) : Nat) : Int) - 4503599627370496) ((((Int.toNat (((-((k : Nat) : Int)) + 1) + 1075)) * 4503599627370496) : Nat) : Int) ((((((a * 2 ^ k / b) / 2) : Nat) : Int) - 4503599627370496) + ((((Int.toNat (((-((k : Nat) : Int)) + 1) + 1075)) * 4503599627370496) : Nat) : Int)) (IntWalk.u64_in _ (by omega)) ?_
       have hv_ : ((((((a * 2 ^ k / b) / 2) : Nat) : Int) - 4503599627370496) + ((((Int.toNat (((-((k : Nat) : Int)) + 1) + 1075)) * 4503599627370496) : Nat) : Int)) = ((ratN a b : Nat) : Int) := by
        have hr := hrat (by omega)
        have hq3 := (hq2 (by omega)).2
        have hq4 := (hq2 (by omega)).1
        clear hrat hq2 hkk hq
        generalize a * 2 ^ k / b = q at *
        generalize a * 2 ^ k % b = r at *
        first | rw [rndQ_up (by omega) (by omega)] at hr | rw [rndQ_same (by omega)] at hr
        rw [hr]; omega
       exact xr 2 (v := .int .u64 ((((((a * 2 ^ k / b) / 2) : Nat) : Int) - 4503599627370496) + ((((Int.toNat (((-((k : Nat) : Int)) + 1) + 1075)) * 4503599627370496) : Nat) : Int))) Tryz.func133 hR ⟨ret_int hv_, hM⟩
   ·
    refine xc 17 (((((a * 2 ^ k / b) / 2) : Nat) : Int) = 9007199254740992) (fun h50p => ?_) (fun h50p => ?_)
    ·
     refine xo 3 .quo (.int .u64 ((((a * 2 ^ k / b) / 2) : Nat) : Int)) (.int .u64 2) (v := .int .u64 (((((a * 2 ^ k / b) / 2) / 2) : Nat) : Int)) (fun _ => f_quo (by decide) ((IntWalk.u64_quo _ _ (by omega)).trans (by omega))) ?_
     refine xa 4 ((-((k : Nat) : Int)) + 1) 1 (((-((k : Nat) : Int)) + 1) + 1) ?_
     refine xsub 5 .u64 (((((a * 2 ^ k / b) / 2) / 2) : Nat) : Int) 4503599627370496 ((((((a * 2 ^ k / b) / 2) / 2) : Nat) : Int) - 4503599627370496) (IntWalk.u64_in _ (by omega)) ?_
     refine xa 1 (((-((k : Nat) : Int)) + 1) + 1) 1075 ((((-((k : Nat) : Int)) + 1) + 1) + 1075) ?_
     refine xcv 0 .i64 .u64 ((((-((k : Nat) : Int)) + 1) + 1) + 1075) (((Int.toNat ((((-((k : Nat) : Int)) + 1) + 1) + 1075)) : Nat) : Int) ((IntWalk.u64_in _ (by omega)).trans (by omega)) ?_
     refine xmul 0 .u64 (((Int.toNat ((((-((k : Nat) : Int)) + 1) + 1) + 1075)) : Nat) : Int) 4503599627370496 ((((Int.toNat ((((-((k : Nat) : Int)) + 1) + 1) + 1075)) * 4503599627370496) : Nat) : Int) (by rw [show (((Int.toNat ((((-((k : Nat) : Int)) + 1) + 1) + 1075)) : Nat) : Int) * 4503599627370496 = ((((Int.toNat ((((-((k : Nat) : Int)) + 1) + 1) + 1075)) * 4503599627370496) : Nat) : Int) by omega]; exact IntWalk.u64_in _ (by omega)) ?_
     refine xadd 0 .u64 ((((((a * 2 ^ k / b) / 2) / 2) : Nat) : Int) - 4503599627370496) ((((Int.toNat ((((-((k : Nat) : Int)) + 1) + 1) + 1075)) * 4503599627370496) : Nat) : Int) (((((((a * 2 ^ k / b) / 2) / 2) : Nat) : Int) - 4503599627370496) + ((((Int.toNat ((((-((k : Nat) : Int)) + 1) + 1) + 1075)) * 4503599627370496) : Nat) : Int)) (IntWalk.u64_in _ (by omega)) ?_
     have hv_ : (((((((a * 2 ^ k / b) / 2) / 2) : Nat) : Int) - 4503599627370496) + ((((Int.toNat ((((-((k : Nat) : Int)) + 1) + 1) + 1075)) * 4503599627370496) : Nat) : Int)) = ((ratN a b : Nat) : Int) := by
      have hr := hrat (by omega)
      have hq3 := (hq2 (by omega)).2
      have hq4 := (hq2 (by omega)).1
      clear hrat hq2 hkk hq
      generalize a * 2 ^ k / b = q at *
      generalize a * 2 ^ k % b = r at *
      first | rw [rndQ_up (by omega) (by omega)] at hr | rw [rndQ_same (by omega)] at hr
      rw [hr]; omega
     exact xr 2 (v := .int .u64 (((((((a * 2 ^ k / b) / 2) / 2) : Nat) : Int) - 4503599627370496) + ((((Int.toNat ((((-((k : Nat) : Int)) + 1) + 1) + 1075)) * 4503599627370496) : Nat) : Int))) Tryz.func133 hR ⟨ret_int hv_, hM⟩
    ·
     refine xsub 4 .u64 ((((a * 2 ^ k / b) / 2) : Nat) : Int) 4503599627370496 (((((a * 2 ^ k / b) / 2) : Nat) : Int) - 4503599627370496) (IntWalk.u64_in _ (by omega)) ?_
     refine xa 1 ((-((k : Nat) : Int)) + 1) 1075 (((-((k : Nat) : Int)) + 1) + 1075) ?_
     refine xcv 0 .i64 .u64 (((-((k : Nat) : Int)) + 1) + 1075) (((Int.toNat (((-((k : Nat) : Int)) + 1) + 1075)) : Nat) : Int) ((IntWalk.u64_in _ (by omega)).trans (by omega)) ?_
     refine xmul 0 .u64 (((Int.toNat (((-((k : Nat) : Int)) + 1) + 1075)) : Nat) : Int) 4503599627370496 ((((Int.toNat (((-((k : Nat) : Int)) + 1) + 1075)) * 4503599627370496) : Nat) : Int) (by rw [show (((Int.toNat (((-((k : Nat) : Int)) + 1) + 1075)) : Nat) : Int) * 4503599627370496 = ((((Int.toNat (((-((k : Nat) : Int)) + 1) + 1075)) * 4503599627370496) : Nat) : Int) by omega]; exact IntWalk.u64_in _ (by omega)) ?_
     refine xadd 0 .u64 (((((a * 2 ^ k / b) / 2) : Nat) : Int) - 4503599627370496) ((((Int.toNat (((-((k : Nat) : Int)) + 1) + 1075)) * 4503599627370496) : Nat) : Int) ((((((a * 2 ^ k / b) / 2) : Nat) : Int) - 4503599627370496) + ((((Int.toNat (((-((k : Nat) : Int)) + 1) + 1075)) * 4503599627370496) : Nat) : Int)) (IntWalk.u64_in _ (by omega)) ?_
     have hv_ : ((((((a * 2 ^ k / b) / 2) : Nat) : Int) - 4503599627370496) + ((((Int.toNat (((-((k : Nat) : Int)) + 1) + 1075)) * 4503599627370496) : Nat) : Int)) = ((ratN a b : Nat) : Int) := by
      have hr := hrat (by omega)
      have hq3 := (hq2 (by omega)).2
      have hq4 := (hq2 (by omega)).1
      clear hrat hq2 hkk hq
      generalize a * 2 ^ k / b = q at *
      generalize a * 2 ^ k % b = r at *
      first | rw [rndQ_up (by omega) (by omega)] at hr | rw [rndQ_same (by omega)] at hr
      rw [hr]; omega
     exact xr 2 (v := .int .u64 ((((((a * 2 ^ k / b) / 2) : Nat) : Int) - 4503599627370496) + ((((Int.toNat (((-((k : Nat) : Int)) + 1) + 1075)) * 4503599627370496) : Nat) : Int))) Tryz.func133 hR ⟨ret_int hv_, hM⟩

set_option maxHeartbeats 400000 in
theorem rratio_c (a b : Nat) (ha : a < 9007199254740992) (hb : 0 < b) (hb2 : b ≤ 1000) (w : World) :
  Calls Tryz.prog 133 #[.int .u64 ((a : Nat) : Int), .int .u64 ((b : Nat) : Int)] w (fun e w' => e = .returned (.int .u64 ((ratN a b : Nat) : Int)) ∧ Mem [] w w' []) := by
 refine xe 65 Tryz.func133 (fun R hR => ?_)
 have hM0 := Mem.start w
 refine xc 10 (((a : Nat) : Int) = 0) (fun h1p => ?_) (fun h1p => ?_)
 ·
  obtain rfl : a = 0 := by omega
  exact xr 4 (v := .int .u64 0) Tryz.func133 hR ⟨ret_int (by rw [ratN_zero hb (by omega)]; rfl), hM0⟩
 ·
  refine xh 2 [] hM0 sR (fun w2 hM3 hS4 => ?_)
  refine yv [0,1] 2 (fun W_ hW_ => (show (binOp .quo 22 (.int .u64 ((a : Nat) : Int)) (.int .u64 ((b : Nat) : Int))).run Tryz.prog W_ = .ok (.int .u64 (((a : Nat) : Int) / ((b : Nat) : Int))) W_ from f_quo (by omega) (IntWalk.u64_quo _ _ (by omega)))) hS4 ?_
  refine yv [3,4] 5 (fun W_ hW_ => (show (binOp .rem 22 (.int .u64 ((a : Nat) : Int)) (.int .u64 ((b : Nat) : Int))).run Tryz.prog W_ = .ok (.int .u64 (((a : Nat) : Int) % ((b : Nat) : Int))) W_ from f_rem (by omega) (IntWalk.rem_in _ _ (by omega)))) hS4 ?_
  refine ydp [6,7] hS4 ?_
  exact xl 7 (l := [(1, .int .u64 ((b : Nat) : Int)), (5, .int .u64 (((a : Nat) : Int) / ((b : Nat) : Int))), (6, .int .u64 (((a : Nat) : Int) % ((b : Nat) : Int))), (7, .int .i64 0)]) (GoS.cast (by rw [Nat.pow_zero, Nat.mul_one]; rfl) (rratio_L a b (by omega) ha hb hb2 R hR 65 0 w2 (by omega) (.inl rfl) hM3 (by omega)))


end Go.Proofs.YthpodbngljfdmaaGreatDoor


namespace Go.Proofs.YthpodbngljfdmaaGreatDoor
open Go Go.Gw Go.RealP Go.RealQ Go.RowKit
set_option linter.unusedVariables false
set_option linter.unusedSimpArgs false
set_option maxRecDepth 20000


set_option maxHeartbeats 400000 in
theorem rparse_L (mi x m y : Nat) (hm : m ≤ 3) (hx : x < 1000000000000) (hy : y < 1000) (hmi : mi = 0 ∨ mi = 9223372036854775808) {w0 : World} (R : Ending → World → Prop) (hR : R = (fun e w' => e = .returned (.tuple #[.int .u64 ((ratN (x * 10 ^ m + y) (10 ^ m) + mi : Nat) : Int), .int .i64 (0)]) ∧ Mem [] w0 w' [])) : ∀ (N : Nat) (j : Nat) (w : World) (hj : j ≤ m) (hM : Mem [] w0 w []) (hN : m - j < N), GoS Tryz.prog 108 R 77 [iC Tryz.f108 [1,1,1,1,1,1,1,1,1,1,0,1,0,1,1,0,1,0,0], iL Tryz.f108 [1,1,1,1,1,1,1,1,1,1,0,1,0,1,1,0,1,0,0], .inBlock 0, iC Tryz.f108 [1,1,1,1,1,1,1,1,1,1,0,1,0,1,1,1], iC Tryz.f108 [1,1,1,1,1,1,1,1,1,1,1]] [(4, .int .u64 ((mi : Nat) : Int)), (6, .int .u64 ((x : Nat) : Int)), (7, .int .u64 (((10 ^ j) : Nat) : Int)), (8, iN m), (9, .int .u64 ((y : Nat) : Int)), (10, iN j)] w := by
 intro N
 induction N with
 | zero => intro j w hj hM hN; exact absurd hN (Nat.not_lt_zero _)
 | succ N ih =>
  intro j w hj hM hN
  have hsb := sc_bd (d := j) (by omega)
  refine xs ?_
  refine xc 7 (((j : Nat) : Int) < ((m : Nat) : Int)) (fun h1p => ?_) (fun h1p => ?_)
  ·
   refine xmul 5 .u64 10 (((10 ^ j) : Nat) : Int) (((10 * (10 ^ j)) : Nat) : Int) (by rw [show 10 * (((10 ^ j) : Nat) : Int) = (((10 * (10 ^ j)) : Nat) : Int) by omega]; exact IntWalk.u64_in _ (by omega)) ?_
   refine xa 5 ((j : Nat) : Int) 1 (((j + 1) : Nat) : Int) ?_
   exact xl 3 (l := [(4, .int .u64 ((mi : Nat) : Int)), (6, .int .u64 ((x : Nat) : Int)), (7, .int .u64 (((10 * (10 ^ j)) : Nat) : Int)), (8, iN m), (9, .int .u64 ((y : Nat) : Int)), (10, iN (j + 1))]) (GoS.cast (by rw [show 10 * 10 ^ j = 10 ^ (j + 1) by rw [Nat.pow_succ, Nat.mul_comm]]; first | done | rfl) (ih (j + 1) _ (by omega) hM (by omega)))
  ·
   have hxm := xm_bd hx (show j ≤ 3 by omega)
   refine xmul 4 .u64 ((x : Nat) : Int) (((10 ^ j) : Nat) : Int) (((x * (10 ^ j)) : Nat) : Int) (by rw [show ((x : Nat) : Int) * (((10 ^ j) : Nat) : Int) = (((x * (10 ^ j)) : Nat) : Int) by omega]; exact IntWalk.u64_in _ (by omega)) ?_
   refine xadd 1 .u64 (((x * (10 ^ j)) : Nat) : Int) ((y : Nat) : Int) ((((x * (10 ^ j)) + y) : Nat) : Int) (by rw [show (((x * (10 ^ j)) : Nat) : Int) + ((y : Nat) : Int) = ((((x * (10 ^ j)) + y) : Nat) : Int) by omega]; exact IntWalk.u64_in _ (by omega)) ?_
   refine xk 6 (rratio_c ((x * (10 ^ j)) + y) (10 ^ j) (by omega) (by omega) (by omega) w) (fun w4 m5 => ?_)
   have hM6 : Mem [] w0 w4 [] := Mem.join (R := []) hM m5
   have hrl7 := ratN_lt (a := ((x * (10 ^ j)) + y)) (b := (10 ^ j)) (by omega) (by omega) (by omega)
   refine xadd 1 .u64 (((ratN ((x * (10 ^ j)) + y) (10 ^ j)) : Nat) : Int) ((mi : Nat) : Int) ((((ratN ((x * (10 ^ j)) + y) (10 ^ j)) + mi) : Nat) : Int) (by rw [show (((ratN ((x * (10 ^ j)) + y) (10 ^ j)) : Nat) : Int) + ((mi : Nat) : Int) = ((((ratN ((x * (10 ^ j)) + y) (10 ^ j)) + mi) : Nat) : Int) by omega]; exact IntWalk.u64_in _ (by omega)) ?_
   obtain rfl : j = m := by omega
   exact xr 3 Tryz.func108 hR ⟨rfl, hM6⟩

set_option maxHeartbeats 400000 in
theorem rparse_c (s : List UInt8) (hs : s.length ≤ 9223372036854775807) (w : World) :
  Calls Tryz.prog 108 #[sS s] w (fun e w' => e = .returned (.tuple #[.int .u64 ((parseV s : Nat) : Int), .int .i64 (parseE s)]) ∧ Mem [] w w' []) := by
 refine xe 77 Tryz.func108 (fun R hR => ?_)
 have hM0 := Mem.start w
 refine xq 9 s ([110, 97, 110] : List UInt8) ?_
 refine xc 1 (s = ([110, 97, 110] : List UInt8)) (fun h2p => ?_) (fun h2p => ?_)
 ·
  obtain ⟨e1, e2⟩ := parse_nan h2p
  exact xr 5 (v := .tuple #[.int .u64 9221120237041090560, .int .i64 0]) Tryz.func108 hR ⟨by rw [e1, e2]; rfl, hM0⟩
 ·
  refine xq 5 s ([105, 110, 102] : List UInt8) ?_
  refine xc 1 (s = ([105, 110, 102] : List UInt8)) (fun h4p => ?_) (fun h4p => ?_)
  ·
   obtain ⟨e1, e2⟩ := parse_inf h2p h4p
   exact xr 5 (v := .tuple #[.int .u64 9218868437227405312, .int .i64 0]) Tryz.func108 hR ⟨by rw [e1, e2]; rfl, hM0⟩
  ·
   refine xq 5 s ([45, 105, 110, 102] : List UInt8) ?_
   refine xc 1 (s = ([45, 105, 110, 102] : List UInt8)) (fun h6p => ?_) (fun h6p => ?_)
   ·
    obtain ⟨e1, e2⟩ := parse_ninf h2p h4p h6p
    exact xr 5 (v := .tuple #[.int .u64 18442240474082181120, .int .i64 0]) Tryz.func108 hR ⟨by rw [e1, e2]; rfl, hM0⟩
   ·
    refine xn 9 s ?_
    refine xfc 2 20 (((s.length : Nat) : Int) > 0) (fun h8p => ?_) (fun h8p => ?_)
    ·
     have hb9 := bl_bd s 0
     refine xi 1 s 0 0 ?_ (hlt := by first | omega | exact List.length_pos_iff.2 (by assumption))
     refine xc 3 ((bl s 0) = 45) (fun h11p => ?_) (fun h11p => ?_)
     ·
      have h11 : ((bl s 0) == 45) = true := by simpa using h11p
      refine xsl 6 s 1 1 ?_ (hlt := by first | omega | exact List.length_pos_iff.2 (by assumption))
      refine xka 5 (rdigits_c (List.drop 1 s) (by first | omega | (simp only [List.length_drop]; omega)) 12 (by omega) w) ?_
      have hdb13 := dgF_bd 12 0 (List.drop 1 s)
      have hdv14 := dg12 (List.drop 1 s)
      refine xc 12 ((((dgF 12 0 (List.drop 1 s)).1 : Nat) : Int) = 0) (fun h15p => ?_) (fun h15p => ?_)
      ·
       obtain ⟨e1, e2⟩ := parse_neg h2p h4p h6p (minus_yes (List.length_pos_iff.1 (by omega)) h11)
       have hX : scan false 0 0 ((List.drop 1 s).drop 0) = none := by
        rw [List.drop_zero, ← refP_scan]; unfold refP; rw [if_pos (by omega)]
       exact xr 5 (v := .tuple #[.int .u64 0, .int .i64 3]) Tryz.func108 hR ⟨by rw [e1, e2, hX]; simp only [valP, errP, Nat.pow_zero, Nat.add_zero, cond_true, cond_false]; first | done | rfl, hM0⟩
      ·
       refine xsl 5 (List.drop 1 s) (((dgF 12 0 (List.drop 1 s)).1 : Nat) : Int) ((dgF 12 0 (List.drop 1 s)).1) ?_ (hlt := by first | omega | exact List.length_pos_iff.2 (by assumption))
       refine xn 10 (List.drop ((dgF 12 0 (List.drop 1 s)).1) (List.drop 1 s)) ?_
       refine xc 2 ((((List.drop ((dgF 12 0 (List.drop 1 s)).1) (List.drop 1 s)).length : Nat) : Int) > 0) (fun h18p => ?_) (fun h18p => ?_)
       ·
        refine xsl 3 (List.drop ((dgF 12 0 (List.drop 1 s)).1) (List.drop 1 s)) 1 1 ?_ (hlt := by first | omega | exact List.length_pos_iff.2 (by assumption))
        refine xka 0 (rdigits_c (List.drop 1 (List.drop ((dgF 12 0 (List.drop 1 s)).1) (List.drop 1 s))) (by first | omega | (simp only [List.length_drop]; omega)) 3 (by omega) w) ?_
        have hdb20 := dgF_bd 3 0 (List.drop 1 (List.drop ((dgF 12 0 (List.drop 1 s)).1) (List.drop 1 s)))
        have hdv21 := dg3 (List.drop 1 (List.drop ((dgF 12 0 (List.drop 1 s)).1) (List.drop 1 s)))
        have hb22 := bl_bd (List.drop ((dgF 12 0 (List.drop 1 s)).1) (List.drop 1 s)) 0
        refine xi 10 (List.drop ((dgF 12 0 (List.drop 1 s)).1) (List.drop 1 s)) 0 0 ?_ (hlt := by first | omega | exact List.length_pos_iff.2 (by assumption))
        refine xfn 2 49 ((bl (List.drop ((dgF 12 0 (List.drop 1 s)).1) (List.drop 1 s)) 0) = 46) (fun h24p => ?_) (fun h24p => ?_)
        ·
         obtain ⟨e1, e2⟩ := parse_neg h2p h4p h6p (minus_yes (List.length_pos_iff.1 (by omega)) h11)
         have hX : scan false 0 0 ((List.drop 1 s).drop 0) = none := by
          rw [List.drop_zero, ← refP_scan]; unfold refP; rw [if_neg (by omega), if_neg (by omega), if_pos (by omega)]
         exact xr 17 (v := .tuple #[.int .u64 0, .int .i64 3]) Tryz.func108 hR ⟨by rw [e1, e2, hX]; simp only [valP, errP, Nat.pow_zero, Nat.add_zero, cond_true, cond_false]; first | done | rfl, hM0⟩
        ·
         refine xfc 4 53 ((((dgF 3 0 (List.drop 1 (List.drop ((dgF 12 0 (List.drop 1 s)).1) (List.drop 1 s)))).1 : Nat) : Int) = 0) (fun h25p => ?_) (fun h25p => ?_)
         ·
          obtain ⟨e1, e2⟩ := parse_neg h2p h4p h6p (minus_yes (List.length_pos_iff.1 (by omega)) h11)
          have hX : scan false 0 0 ((List.drop 1 s).drop 0) = none := by
           rw [List.drop_zero, ← refP_scan]; unfold refP; rw [if_neg (by omega), if_neg (by omega), if_pos (by omega)]
          exact xr 13 (v := .tuple #[.int .u64 0, .int .i64 3]) Tryz.func108 hR ⟨by rw [e1, e2, hX]; simp only [valP, errP, Nat.pow_zero, Nat.add_zero, cond_true, cond_false]; first | done | rfl, hM0⟩
         ·
          refine xn 2 (List.drop ((dgF 12 0 (List.drop 1 s)).1) (List.drop 1 s)) ?_
          refine xsub 0 .i64 (((List.drop ((dgF 12 0 (List.drop 1 s)).1) (List.drop 1 s)).length : Nat) : Int) 1 ((((List.drop ((dgF 12 0 (List.drop 1 s)).1) (List.drop 1 s)).length : Nat) : Int) - 1) (IntWalk.i64_in _ (by first | omega | (simp only [List.length_drop]; omega))) ?_
          refine xcn 3 ((((dgF 3 0 (List.drop 1 (List.drop ((dgF 12 0 (List.drop 1 s)).1) (List.drop 1 s)))).1 : Nat) : Int) = ((((List.drop ((dgF 12 0 (List.drop 1 s)).1) (List.drop 1 s)).length : Nat) : Int) - 1)) (fun h28p => ?_) (fun h28p => ?_)
          ·
           obtain ⟨e1, e2⟩ := parse_neg h2p h4p h6p (minus_yes (List.length_pos_iff.1 (by omega)) h11)
           have hX : scan false 0 0 ((List.drop 1 s).drop 0) = none := by
            rw [List.drop_zero, ← refP_scan]; unfold refP; rw [if_neg (by omega), if_neg (by omega), if_pos (by omega)]
           exact xr 5 (v := .tuple #[.int .u64 0, .int .i64 3]) Tryz.func108 hR ⟨by rw [e1, e2, hX]; simp only [valP, errP, Nat.pow_zero, Nat.add_zero, cond_true, cond_false]; first | done | rfl, hM0⟩
          ·
           obtain ⟨e1, e2⟩ := parse_neg h2p h4p h6p (minus_yes (List.length_pos_iff.1 (by omega)) h11)
           have hX : scan false 0 0 ((List.drop 1 s).drop 0) = some ((dgF 12 0 (List.drop 1 s)).2 * 10 ^ (dgF 3 0 (List.drop 1 (List.drop ((dgF 12 0 (List.drop 1 s)).1) (List.drop 1 s)))).1 + (dgF 3 0 (List.drop 1 (List.drop ((dgF 12 0 (List.drop 1 s)).1) (List.drop 1 s)))).2, (dgF 3 0 (List.drop 1 (List.drop ((dgF 12 0 (List.drop 1 s)).1) (List.drop 1 s)))).1) := by
            rw [List.drop_zero, ← refP_scan]; unfold refP; rw [if_neg (by omega), if_neg (by omega), if_neg (by omega)]
           exact xl 8 (l := [(4, .int .u64 9223372036854775808), (6, .int .u64 (((dgF 12 0 (List.drop 1 s)).2 : Nat) : Int)), (7, .int .u64 1), (8, iN ((dgF 3 0 (List.drop 1 (List.drop ((dgF 12 0 (List.drop 1 s)).1) (List.drop 1 s)))).1)), (9, .int .u64 (((dgF 3 0 (List.drop 1 (List.drop ((dgF 12 0 (List.drop 1 s)).1) (List.drop 1 s)))).2 : Nat) : Int)), (10, .int .i64 0)]) (GoS.cast (by rw [Nat.pow_zero]; first | done | rfl) (rparse_L 9223372036854775808 (dgF 12 0 (List.drop 1 s)).2 (dgF 3 0 (List.drop 1 (List.drop ((dgF 12 0 (List.drop 1 s)).1) (List.drop 1 s)))).1 (dgF 3 0 (List.drop 1 (List.drop ((dgF 12 0 (List.drop 1 s)).1) (List.drop 1 s)))).2 (by omega) (by omega) (by omega) (by first | exact .inl rfl | exact .inr rfl) R (by rw [hR, e1, e2, hX]; simp only [valP, errP, cond_true, cond_false]; first | done | rfl) 4 0 w (by omega) hM0 (by omega)))
       ·
        refine xk 5 (rratio_c ((dgF 12 0 (List.drop 1 s)).2) 1 (by omega) (by omega) (by omega) w) (fun w29 m30 => ?_)
        have hM31 : Mem [] w w29 [] := Mem.join (R := []) hM0 m30
        have hrl32 := ratN_lt (a := ((dgF 12 0 (List.drop 1 s)).2)) (b := 1) (by omega) (by omega) (by omega)
        refine xadd 1 .u64 (((ratN ((dgF 12 0 (List.drop 1 s)).2) 1) : Nat) : Int) 9223372036854775808 ((((ratN ((dgF 12 0 (List.drop 1 s)).2) 1) + 9223372036854775808) : Nat) : Int) (by rw [show (((ratN ((dgF 12 0 (List.drop 1 s)).2) 1) : Nat) : Int) + 9223372036854775808 = ((((ratN ((dgF 12 0 (List.drop 1 s)).2) 1) + 9223372036854775808) : Nat) : Int) by omega]; exact IntWalk.u64_in _ (by first | omega | (simp only [List.length_drop]; omega))) ?_
        obtain ⟨e1, e2⟩ := parse_neg h2p h4p h6p (minus_yes (List.length_pos_iff.1 (by omega)) h11)
        have hX : scan false 0 0 ((List.drop 1 s).drop 0) = some ((dgF 12 0 (List.drop 1 s)).2, 0) := by
         rw [List.drop_zero, ← refP_scan]; unfold refP; rw [if_neg (by omega), if_pos (by omega)]
        exact xr 3 (v := .tuple #[.int .u64 ((((ratN ((dgF 12 0 (List.drop 1 s)).2) 1) + 9223372036854775808) : Nat) : Int), .int .i64 0]) Tryz.func108 hR ⟨by rw [e1, e2, hX]; simp only [valP, errP, Nat.pow_zero, Nat.add_zero, cond_true, cond_false]; first | done | rfl, hM31⟩
     ·
      have h11 : ((bl s 0) == 45) = false := by simpa using h11p
      refine xka 4 (rdigits_c s (by first | omega | (simp only [List.length_drop]; omega)) 12 (by omega) w) ?_
      have hdb34 := dgF_bd 12 0 s
      have hdv35 := dg12 s
      refine xc 12 ((((dgF 12 0 s).1 : Nat) : Int) = 0) (fun h36p => ?_) (fun h36p => ?_)
      ·
       obtain ⟨e1, e2⟩ := parse_pos h2p h4p h6p (minus_no h11)
       have hX : scan false 0 0 (s.drop 0) = none := by
        rw [List.drop_zero, ← refP_scan]; unfold refP; rw [if_pos (by omega)]
       exact xr 5 (v := .tuple #[.int .u64 0, .int .i64 3]) Tryz.func108 hR ⟨by rw [e1, e2, hX]; simp only [valP, errP, Nat.pow_zero, Nat.add_zero, cond_true, cond_false]; first | done | rfl, hM0⟩
      ·
       refine xsl 5 s (((dgF 12 0 s).1 : Nat) : Int) ((dgF 12 0 s).1) ?_ (hlt := by first | omega | exact List.length_pos_iff.2 (by assumption))
       refine xn 10 (List.drop ((dgF 12 0 s).1) s) ?_
       refine xc 2 ((((List.drop ((dgF 12 0 s).1) s).length : Nat) : Int) > 0) (fun h39p => ?_) (fun h39p => ?_)
       ·
        refine xsl 3 (List.drop ((dgF 12 0 s).1) s) 1 1 ?_ (hlt := by first | omega | exact List.length_pos_iff.2 (by assumption))
        refine xka 0 (rdigits_c (List.drop 1 (List.drop ((dgF 12 0 s).1) s)) (by first | omega | (simp only [List.length_drop]; omega)) 3 (by omega) w) ?_
        have hdb41 := dgF_bd 3 0 (List.drop 1 (List.drop ((dgF 12 0 s).1) s))
        have hdv42 := dg3 (List.drop 1 (List.drop ((dgF 12 0 s).1) s))
        have hb43 := bl_bd (List.drop ((dgF 12 0 s).1) s) 0
        refine xi 10 (List.drop ((dgF 12 0 s).1) s) 0 0 ?_ (hlt := by first | omega | exact List.length_pos_iff.2 (by assumption))
        refine xfn 2 49 ((bl (List.drop ((dgF 12 0 s).1) s) 0) = 46) (fun h45p => ?_) (fun h45p => ?_)
        ·
         obtain ⟨e1, e2⟩ := parse_pos h2p h4p h6p (minus_no h11)
         have hX : scan false 0 0 (s.drop 0) = none := by
          rw [List.drop_zero, ← refP_scan]; unfold refP; rw [if_neg (by omega), if_neg (by omega), if_pos (by omega)]
         exact xr 17 (v := .tuple #[.int .u64 0, .int .i64 3]) Tryz.func108 hR ⟨by rw [e1, e2, hX]; simp only [valP, errP, Nat.pow_zero, Nat.add_zero, cond_true, cond_false]; first | done | rfl, hM0⟩
        ·
         refine xfc 4 53 ((((dgF 3 0 (List.drop 1 (List.drop ((dgF 12 0 s).1) s))).1 : Nat) : Int) = 0) (fun h46p => ?_) (fun h46p => ?_)
         ·
          obtain ⟨e1, e2⟩ := parse_pos h2p h4p h6p (minus_no h11)
          have hX : scan false 0 0 (s.drop 0) = none := by
           rw [List.drop_zero, ← refP_scan]; unfold refP; rw [if_neg (by omega), if_neg (by omega), if_pos (by omega)]
          exact xr 13 (v := .tuple #[.int .u64 0, .int .i64 3]) Tryz.func108 hR ⟨by rw [e1, e2, hX]; simp only [valP, errP, Nat.pow_zero, Nat.add_zero, cond_true, cond_false]; first | done | rfl, hM0⟩
         ·
          refine xn 2 (List.drop ((dgF 12 0 s).1) s) ?_
          refine xsub 0 .i64 (((List.drop ((dgF 12 0 s).1) s).length : Nat) : Int) 1 ((((List.drop ((dgF 12 0 s).1) s).length : Nat) : Int) - 1) (IntWalk.i64_in _ (by first | omega | (simp only [List.length_drop]; omega))) ?_
          refine xcn 3 ((((dgF 3 0 (List.drop 1 (List.drop ((dgF 12 0 s).1) s))).1 : Nat) : Int) = ((((List.drop ((dgF 12 0 s).1) s).length : Nat) : Int) - 1)) (fun h49p => ?_) (fun h49p => ?_)
          ·
           obtain ⟨e1, e2⟩ := parse_pos h2p h4p h6p (minus_no h11)
           have hX : scan false 0 0 (s.drop 0) = none := by
            rw [List.drop_zero, ← refP_scan]; unfold refP; rw [if_neg (by omega), if_neg (by omega), if_pos (by omega)]
           exact xr 5 (v := .tuple #[.int .u64 0, .int .i64 3]) Tryz.func108 hR ⟨by rw [e1, e2, hX]; simp only [valP, errP, Nat.pow_zero, Nat.add_zero, cond_true, cond_false]; first | done | rfl, hM0⟩
          ·
           obtain ⟨e1, e2⟩ := parse_pos h2p h4p h6p (minus_no h11)
           have hX : scan false 0 0 (s.drop 0) = some ((dgF 12 0 s).2 * 10 ^ (dgF 3 0 (List.drop 1 (List.drop ((dgF 12 0 s).1) s))).1 + (dgF 3 0 (List.drop 1 (List.drop ((dgF 12 0 s).1) s))).2, (dgF 3 0 (List.drop 1 (List.drop ((dgF 12 0 s).1) s))).1) := by
            rw [List.drop_zero, ← refP_scan]; unfold refP; rw [if_neg (by omega), if_neg (by omega), if_neg (by omega)]
           exact xl 8 (l := [(4, .int .u64 0), (6, .int .u64 (((dgF 12 0 s).2 : Nat) : Int)), (7, .int .u64 1), (8, iN ((dgF 3 0 (List.drop 1 (List.drop ((dgF 12 0 s).1) s))).1)), (9, .int .u64 (((dgF 3 0 (List.drop 1 (List.drop ((dgF 12 0 s).1) s))).2 : Nat) : Int)), (10, .int .i64 0)]) (GoS.cast (by rw [Nat.pow_zero]; first | done | rfl) (rparse_L 0 (dgF 12 0 s).2 (dgF 3 0 (List.drop 1 (List.drop ((dgF 12 0 s).1) s))).1 (dgF 3 0 (List.drop 1 (List.drop ((dgF 12 0 s).1) s))).2 (by omega) (by omega) (by omega) (by first | exact .inl rfl | exact .inr rfl) R (by rw [hR, e1, e2, hX]; simp only [valP, errP, cond_true, cond_false]; first | done | rfl) 4 0 w (by omega) hM0 (by omega)))
       ·
        refine xk 5 (rratio_c ((dgF 12 0 s).2) 1 (by omega) (by omega) (by omega) w) (fun w50 m51 => ?_)
        have hM52 : Mem [] w w50 [] := Mem.join (R := []) hM0 m51
        have hrl53 := ratN_lt (a := ((dgF 12 0 s).2)) (b := 1) (by omega) (by omega) (by omega)
        refine xadd 1 .u64 (((ratN ((dgF 12 0 s).2) 1) : Nat) : Int) 0 (((ratN ((dgF 12 0 s).2) 1) : Nat) : Int) (by rw [show (((ratN ((dgF 12 0 s).2) 1) : Nat) : Int) + 0 = (((ratN ((dgF 12 0 s).2) 1) : Nat) : Int) by omega]; exact IntWalk.u64_in _ (by first | omega | (simp only [List.length_drop]; omega))) ?_
        obtain ⟨e1, e2⟩ := parse_pos h2p h4p h6p (minus_no h11)
        have hX : scan false 0 0 (s.drop 0) = some ((dgF 12 0 s).2, 0) := by
         rw [List.drop_zero, ← refP_scan]; unfold refP; rw [if_neg (by omega), if_pos (by omega)]
        exact xr 3 (v := .tuple #[.int .u64 (((ratN ((dgF 12 0 s).2) 1) : Nat) : Int), .int .i64 0]) Tryz.func108 hR ⟨by rw [e1, e2, hX]; simp only [valP, errP, Nat.pow_zero, Nat.add_zero, cond_true, cond_false]; first | done | rfl, hM52⟩
    ·
     refine xka 10 (rdigits_c s (by first | omega | (simp only [List.length_drop]; omega)) 12 (by omega) w) ?_
     have hdb55 := dgF_bd 12 0 s
     have hdv56 := dg12 s
     refine xc 12 ((((dgF 12 0 s).1 : Nat) : Int) = 0) (fun h57p => ?_) (fun h57p => ?_)
     ·
      obtain ⟨e1, e2⟩ := parse_pos h2p h4p h6p (minus_nil (List.eq_nil_of_length_eq_zero (by omega)))
      have hX : scan false 0 0 (s.drop 0) = none := by
       rw [List.drop_zero, ← refP_scan]; unfold refP; rw [if_pos (by omega)]
      exact xr 5 (v := .tuple #[.int .u64 0, .int .i64 3]) Tryz.func108 hR ⟨by rw [e1, e2, hX]; simp only [valP, errP, Nat.pow_zero, Nat.add_zero, cond_true, cond_false]; first | done | rfl, hM0⟩
     ·
      refine xsl 5 s (((dgF 12 0 s).1 : Nat) : Int) ((dgF 12 0 s).1) ?_ (hlt := by first | omega | exact List.length_pos_iff.2 (by assumption))
      refine xn 10 (List.drop ((dgF 12 0 s).1) s) ?_
      refine xc 2 ((((List.drop ((dgF 12 0 s).1) s).length : Nat) : Int) > 0) (fun h60p => ?_) (fun h60p => ?_)
      ·
       refine xsl 3 (List.drop ((dgF 12 0 s).1) s) 1 1 ?_ (hlt := by first | omega | exact List.length_pos_iff.2 (by assumption))
       refine xka 0 (rdigits_c (List.drop 1 (List.drop ((dgF 12 0 s).1) s)) (by first | omega | (simp only [List.length_drop]; omega)) 3 (by omega) w) ?_
       have hdb62 := dgF_bd 3 0 (List.drop 1 (List.drop ((dgF 12 0 s).1) s))
       have hdv63 := dg3 (List.drop 1 (List.drop ((dgF 12 0 s).1) s))
       have hb64 := bl_bd (List.drop ((dgF 12 0 s).1) s) 0
       refine xi 10 (List.drop ((dgF 12 0 s).1) s) 0 0 ?_ (hlt := by first | omega | exact List.length_pos_iff.2 (by assumption))
       refine xfn 2 49 ((bl (List.drop ((dgF 12 0 s).1) s) 0) = 46) (fun h66p => ?_) (fun h66p => ?_)
       ·
        obtain ⟨e1, e2⟩ := parse_pos h2p h4p h6p (minus_nil (List.eq_nil_of_length_eq_zero (by omega)))
        have hX : scan false 0 0 (s.drop 0) = none := by
         rw [List.drop_zero, ← refP_scan]; unfold refP; rw [if_neg (by omega), if_neg (by omega), if_pos (by omega)]
        exact xr 17 (v := .tuple #[.int .u64 0, .int .i64 3]) Tryz.func108 hR ⟨by rw [e1, e2, hX]; simp only [valP, errP, Nat.pow_zero, Nat.add_zero, cond_true, cond_false]; first | done | rfl, hM0⟩
       ·
        refine xfc 4 53 ((((dgF 3 0 (List.drop 1 (List.drop ((dgF 12 0 s).1) s))).1 : Nat) : Int) = 0) (fun h67p => ?_) (fun h67p => ?_)
        ·
         obtain ⟨e1, e2⟩ := parse_pos h2p h4p h6p (minus_nil (List.eq_nil_of_length_eq_zero (by omega)))
         have hX : scan false 0 0 (s.drop 0) = none := by
          rw [List.drop_zero, ← refP_scan]; unfold refP; rw [if_neg (by omega), if_neg (by omega), if_pos (by omega)]
         exact xr 13 (v := .tuple #[.int .u64 0, .int .i64 3]) Tryz.func108 hR ⟨by rw [e1, e2, hX]; simp only [valP, errP, Nat.pow_zero, Nat.add_zero, cond_true, cond_false]; first | done | rfl, hM0⟩
        ·
         refine xn 2 (List.drop ((dgF 12 0 s).1) s) ?_
         refine xsub 0 .i64 (((List.drop ((dgF 12 0 s).1) s).length : Nat) : Int) 1 ((((List.drop ((dgF 12 0 s).1) s).length : Nat) : Int) - 1) (IntWalk.i64_in _ (by first | omega | (simp only [List.length_drop]; omega))) ?_
         refine xcn 3 ((((dgF 3 0 (List.drop 1 (List.drop ((dgF 12 0 s).1) s))).1 : Nat) : Int) = ((((List.drop ((dgF 12 0 s).1) s).length : Nat) : Int) - 1)) (fun h70p => ?_) (fun h70p => ?_)
         ·
          obtain ⟨e1, e2⟩ := parse_pos h2p h4p h6p (minus_nil (List.eq_nil_of_length_eq_zero (by omega)))
          have hX : scan false 0 0 (s.drop 0) = none := by
           rw [List.drop_zero, ← refP_scan]; unfold refP; rw [if_neg (by omega), if_neg (by omega), if_pos (by omega)]
          exact xr 5 (v := .tuple #[.int .u64 0, .int .i64 3]) Tryz.func108 hR ⟨by rw [e1, e2, hX]; simp only [valP, errP, Nat.pow_zero, Nat.add_zero, cond_true, cond_false]; first | done | rfl, hM0⟩
         ·
          obtain ⟨e1, e2⟩ := parse_pos h2p h4p h6p (minus_nil (List.eq_nil_of_length_eq_zero (by omega)))
          have hX : scan false 0 0 (s.drop 0) = some ((dgF 12 0 s).2 * 10 ^ (dgF 3 0 (List.drop 1 (List.drop ((dgF 12 0 s).1) s))).1 + (dgF 3 0 (List.drop 1 (List.drop ((dgF 12 0 s).1) s))).2, (dgF 3 0 (List.drop 1 (List.drop ((dgF 12 0 s).1) s))).1) := by
           rw [List.drop_zero, ← refP_scan]; unfold refP; rw [if_neg (by omega), if_neg (by omega), if_neg (by omega)]
          exact xl 8 (l := [(4, .int .u64 0), (6, .int .u64 (((dgF 12 0 s).2 : Nat) : Int)), (7, .int .u64 1), (8, iN ((dgF 3 0 (List.drop 1 (List.drop ((dgF 12 0 s).1) s))).1)), (9, .int .u64 (((dgF 3 0 (List.drop 1 (List.drop ((dgF 12 0 s).1) s))).2 : Nat) : Int)), (10, .int .i64 0)]) (GoS.cast (by rw [Nat.pow_zero]; first | done | rfl) (rparse_L 0 (dgF 12 0 s).2 (dgF 3 0 (List.drop 1 (List.drop ((dgF 12 0 s).1) s))).1 (dgF 3 0 (List.drop 1 (List.drop ((dgF 12 0 s).1) s))).2 (by omega) (by omega) (by omega) (by first | exact .inl rfl | exact .inr rfl) R (by rw [hR, e1, e2, hX]; simp only [valP, errP, cond_true, cond_false]; first | done | rfl) 4 0 w (by omega) hM0 (by omega)))
      ·
       refine xk 5 (rratio_c ((dgF 12 0 s).2) 1 (by omega) (by omega) (by omega) w) (fun w71 m72 => ?_)
       have hM73 : Mem [] w w71 [] := Mem.join (R := []) hM0 m72
       have hrl74 := ratN_lt (a := ((dgF 12 0 s).2)) (b := 1) (by omega) (by omega) (by omega)
       refine xadd 1 .u64 (((ratN ((dgF 12 0 s).2) 1) : Nat) : Int) 0 (((ratN ((dgF 12 0 s).2) 1) : Nat) : Int) (by rw [show (((ratN ((dgF 12 0 s).2) 1) : Nat) : Int) + 0 = (((ratN ((dgF 12 0 s).2) 1) : Nat) : Int) by omega]; exact IntWalk.u64_in _ (by first | omega | (simp only [List.length_drop]; omega))) ?_
       obtain ⟨e1, e2⟩ := parse_pos h2p h4p h6p (minus_nil (List.eq_nil_of_length_eq_zero (by omega)))
       have hX : scan false 0 0 (s.drop 0) = some ((dgF 12 0 s).2, 0) := by
        rw [List.drop_zero, ← refP_scan]; unfold refP; rw [if_neg (by omega), if_pos (by omega)]
       exact xr 3 (v := .tuple #[.int .u64 (((ratN ((dgF 12 0 s).2) 1) : Nat) : Int), .int .i64 0]) Tryz.func108 hR ⟨by rw [e1, e2, hX]; simp only [valP, errP, Nat.pow_zero, Nat.add_zero, cond_true, cond_false]; first | done | rfl, hM73⟩


end Go.Proofs.YthpodbngljfdmaaGreatDoor


namespace Go.Gw
set_option linter.unusedVariables false
set_option linter.unusedSimpArgs false
section
variable {P : Program} {w w0 : World} {S : List Nat}
theorem Mem.rdm {R : List Row} {r : Row} (h : Mem S w0 w R) (hr : r ∈ R) : Rd w r.k r.v r.n r.xs := own_rd (h.owns r hr)
end
end Go.Gw
namespace Go.Gw
open Go.RowKit
end Go.Gw

