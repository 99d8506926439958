/-
  A region that draws its order and writes: what yields one value in all worlds of a condition is taken first; of the rest one is ready at a time. No condition.
-/
import Derived.Test.YtnhplkkbpmijdaaGw
import Derived.OrdersHeld
import Derived.StillTail
namespace Go.Gw
set_option linter.unusedVariables false
set_option linter.unusedSimpArgs false
section
variable {P : Program} {f : FuncId} {R : Ending → World → Prop} {n : Nat} {k : List Item} {l : Sl} {w : World} {ops : Array Oper} {S : World → Prop} {Wr : List Nat}

/-- whatever order is picked from here on; S holds behind each operation but the writes -/
def AnyW (P : Program) (ops : Array Oper) (Q : Exit → Act → World → Prop) (S : World → Prop) (Wr : List Nat) : Nat → Array Bool → Act → World → Prop
  | 0, listed, a, w => Region.ready .any ops listed = [] ∧ Q .normal a w
  | fuel + 1, listed, a, w =>
    (Region.ready .any ops listed = [] → Q .normal a w) ∧
    ∀ i ∈ Region.ready .any ops listed, wpOp P ops Q i (fun a' w' => (Wr.contains i = true ∨ S w') ∧ AnyW P ops Q S Wr fuel (listed.setIfInBounds i true) a' w') a w
theorem AnyW.any {Q : Exit → Act → World → Prop} {Wr : List Nat} : ∀ (fuel : Nat) (listed : Array Bool) (a : Act) (w : World), AnyW P ops Q S Wr fuel listed a w → wpAny P .any ops Q fuel listed a w
  | 0, _, _, _, h => h
  | fuel + 1, _, _, _, h => ⟨h.1, fun i hi => wpOp_mono (fun a' w' h' => AnyW.any fuel _ a' w' h'.2) (h.2 i hi)⟩
/-- every write waits for number i -/
def allWait (ops : Array Oper) (Wr : List Nat) (i : Nat) : Bool := Wr.all fun j => Region.waitsFor .any ops j i
theorem AnyW.first {Q : Exit → Act → World → Prop} {Wr : List Nat} {i : Nat} {oi : Oper} {v : Value} (hi : ops[i]? = some oi) (hsel : ∀ (j : Nat) (o : Oper) cs b, ops[j]? = some o → o.op ≠ .select cs b)
    (hQ : ∀ c a w, Q (.panic c) (a.put oi.dst v) w → Q (.panic c) a w) (hWr : allWait ops Wr i = true) :
    ∀ (fuel : Nat) (listed : Array Bool) (a : Act) (w : World),
      (∀ j oj, ops[j]? = some oj → j ≠ i → listed.getD j true = false → (∀ e ∈ oj.after, Region.binds .any e = true → e.on ≠ i) → oi.apart ops oj = true) →
      i ∈ Region.ready .any ops listed → YieldsIf P ops S oi v a → S w →
      AnyW P ops Q S Wr fuel (listed.setIfInBounds i true) (a.put oi.dst v) w → AnyW P ops Q S Wr (fuel + 1) listed a w := by
  intro fuel
  induction fuel with
  | zero =>
    intro listed a w _ hr hy hS H
    refine ⟨fun h => (by rw [h] at hr; cases hr), fun j hj => ?_⟩
    rcases Decidable.em (j = i) with rfl | hji
    · exact hy.wpOp hi hS ⟨.inr hS, H⟩
    · have h1 := ready_mono hj hji
      rw [H.1] at h1; cases h1
  | succ fuel ih =>
    intro listed a w hfree hr hy hS H
    refine ⟨fun h => (by rw [h] at hr; cases hr), fun j hj => ?_⟩
    rcases Decidable.em (j = i) with rfl | hji
    · exact hy.wpOp hi hS ⟨.inr hS, H⟩
    · have h1 := H.2 j (ready_mono hj hji)
      obtain ⟨hjun, oj, hoj, hall⟩ := mem_ready.1 hj
      have hnot : ∀ e ∈ oj.after, Region.binds .any e = true → e.on ≠ i := fun e he hb heq => by
        have h1 := hall e he hb
        have h0 := (mem_ready.1 hr).1
        rw [heq] at h1
        rw [getD_both h0] at h1; cases h1
      have hjW : Wr.contains j = false := by
        cases hq : Wr.contains j with
        | false => rfl
        | true =>
          have hm : j ∈ Wr := by simpa using hq
          obtain ⟨oj', hoj', e, he, hb, hon⟩ := Region.waitsFor_spec (List.all_eq_true.1 hWr j hm)
          obtain rfl : oj' = oj := Option.some.inj (hoj'.symm.trans hoj)
          exact absurd hon (hnot e he hb)
      have h2 := wpOp_putIf hoj (hfree j oj hoj hji hjun hnot) (fun cs b => hsel i oi cs b hi) (fun cs b => hsel j oj cs b hoj) hQ hy h1
      refine wpOp_mono (fun a' w' h3 => ?_) h2
      have hS' : S w' := h3.2.1.resolve_left (by rw [hjW]; simp)
      refine ⟨.inr hS', ih (listed.setIfInBounds j true) a' w' (fun k ok hk hki hun hno => ?_) (ready_mono hr (Ne.symm hji)) h3.1 hS' ?_⟩
      · refine hfree k ok hk hki ?_ hno
        rcases Decidable.em (j = k) with rfl | hjk
        · exact hjun
        · rw [getD_set_ne true hjk] at hun; exact hun
      · rw [Array.setIfInBounds_comm _ _ hji]
        exact h3.2.2

/-- in the midst of a region: these have come up, whatever comes next -/
def GoH (P : Program) (f : FuncId) (R : Ending → World → Prop) (n : Nat) (ops : Array Oper) (S : World → Prop) (Wr : List Nat) (k : List Item) (fuel : Nat) (listed : Array Bool) (l : Sl) (w : World) : Prop :=
  ∀ a, Fits a n l → AnyW P ops (fun e a' w' => e = .normal ∧ Goes P f R k a' w') S Wr fuel listed a w

theorem GoS.held {c : Code} (S : World → Prop) (Wr : List Nat) (id : Nat) (hc : c = .region id (cops c) true) (hm : P.follows .mixedOrders = true) (m : Nat) (hsz : (cops c).size = m)
    (h : GoH P f R n (cops c) S Wr k m (Array.replicate m false) l (w.drewN 1)) : GoS P f R n (.code c :: k) l w := by
  intro a ha
  have : Goes P f R (.code (.region id (cops c) true) :: k) a w := by
    refine Goes.wp (wp_region_any hm (AnyW.any (S := S) (Wr := Wr) _ _ _ _ ?_))
    rw [hsz]
    exact h a ha
  rwa [← hc] at this

/-- what may be told of number i: its value, fixed in all worlds of S -/
structure TakeOk (n : Nat) (ops : Array Oper) (listed : Array Bool) (l : Sl) (i : Nat) (o : Oper) : Prop where
  op : ops[i]? = some o
  free : Region.free .any ops listed i = true
  ready : (Region.ready .any ops listed).contains i = true
  dst : inB n o.dst = true
/-- the same as one Bool -/
def takeB (n : Nat) (ops : Array Oper) (Wr : List Nat) (listed : Array Bool) (i : Nat) : Bool :=
  match ops[i]? with
  | some o => Region.free .any ops listed i && (Region.ready .any ops listed).contains i && inB n o.dst && allWait ops Wr i
  | none => false

theorem GoH.take {fuel : Nat} {listed : Array Bool} (i : Nat) (v : Value) (o : Oper) (ho : ops[i]? = some o) (hs : Region.noSelect ops = true) (hB : takeB n ops Wr listed i = true)
    (hw : wantedS ops l o = some true) (hk : known l o.op.operands.toList = true) (hn : (noSel o.op && !isStore o.op) = true)
    (hv : ∀ W, S W → owed P o (rho l) W v W) (hS : S w) (h : GoH P f R n ops S Wr k fuel (listed.setIfInBounds i true) (putS l o.dst v) w) : GoH P f R n ops S Wr k (fuel + 1) listed l w := by
  intro a ha
  unfold takeB at hB
  rw [ho] at hB
  simp only [Bool.and_eq_true] at hB hn
  obtain ⟨⟨⟨h1, h2⟩, h3⟩, h4⟩ := hB
  refine AnyW.first (v := v) ho (Region.noSelect_spec hs) (fun c a w hq => by cases hq.1) h4 _ _ _ _ (Region.free_spec ho h1) (by simpa using h2) (.inl ⟨wanted_eq ha hw, fun W hW => ?_⟩) hS (h _ (ha.put _ _ h3))
  rw [exec_eq ha hk hn.1]
  rcases owed_run2 (hv W hW) with e | ⟨_, _, e⟩
  · exact e
  · rw [e] at hn; cases hn.2
/-- one whose value the kernel reckons, in whatever world -/
theorem GoH.takeN {fuel : Nat} {listed : Array Bool} (i : Nat) (v : Value) (o : Oper) (ho : ops[i]? = some o) (hs : Region.noSelect ops = true) (hB : takeB n ops Wr listed i = true)
    (hw : wantedS ops l o = some true) (hk : known l o.op.operands.toList = true) (hn : noSel o.op = true)
    (hv : ∀ W, (execOp (rho l) o).run P W = .ok (.value v) W) (hS : S w) (h : GoH P f R n ops S Wr k fuel (listed.setIfInBounds i true) (putS l o.dst v) w) : GoH P f R n ops S Wr k (fuel + 1) listed l w := by
  intro a ha
  unfold takeB at hB
  rw [ho] at hB
  simp only [Bool.and_eq_true] at hB
  obtain ⟨⟨⟨h1, h2⟩, h3⟩, h4⟩ := hB
  refine AnyW.first (v := v) ho (Region.noSelect_spec hs) (fun c a w hq => by cases hq.1) h4 _ _ _ _ (Region.free_spec ho h1) (by simpa using h2) (.inl ⟨wanted_eq ha hw, fun W hW => ?_⟩) hS (h _ (ha.put _ _ h3))
  rw [exec_eq ha hk hn]
  exact hv W
/-- one that isn't wanted -/
theorem GoH.skip {fuel : Nat} {listed : Array Bool} (i : Nat) (o : Oper) (ho : ops[i]? = some o) (hs : Region.noSelect ops = true) (hB : takeB n ops Wr listed i = true)
    (hw : wantedS ops l o = some false) (hS : S w) (h : GoH P f R n ops S Wr k fuel (listed.setIfInBounds i true) (putS l o.dst undef) w) : GoH P f R n ops S Wr k (fuel + 1) listed l w := by
  intro a ha
  unfold takeB at hB
  rw [ho] at hB
  simp only [Bool.and_eq_true] at hB
  obtain ⟨⟨⟨h1, h2⟩, h3⟩, h4⟩ := hB
  exact AnyW.first (v := undef) ho (Region.noSelect_spec hs) (fun c a w hq => by cases hq.1) h4 _ _ _ _ (Region.free_spec ho h1) (by simpa using h2) (.inr ⟨wanted_eq ha hw, rfl⟩) hS (h _ (ha.put _ _ h3))
/-- the only one that may come up: run as the world stands -/
theorem GoH.step {fuel : Nat} {listed : Array Bool} (i : Nat) (v : Value) (w1 : World) (o : Oper) (ho : ops[i]? = some o) (hr : Region.ready .any ops listed = [i])
    (hd : inB n o.dst = true) (hw : wantedS ops l o = some true) (hk : known l o.op.operands.toList = true) (hn : noSel o.op = true)
    (hv : owed P o (rho l) w v w1) (hS : Wr.contains i = true ∨ S w1) (h : GoH P f R n ops S Wr k fuel (listed.setIfInBounds i true) (putS l o.dst v) w1) : GoH P f R n ops S Wr k (fuel + 1) listed l w := by
  intro a ha
  refine ⟨fun h0 => by (rw [hr] at h0; cases h0), fun j hj => ?_⟩
  rw [hr, List.mem_singleton] at hj
  subst hj
  unfold wpOp
  simp only [ho, wanted_eq ha hw, if_true]
  left
  unfold Oper.wp
  rw [exec_eq ha hk hn]
  rcases owed_run2 hv with e | ⟨e, rfl, _⟩
  · rw [e]; exact ⟨hS, h _ (ha.put _ _ hd)⟩
  · rw [e]; exact ⟨hS, h _ (ha.put _ _ hd)⟩
/-- a call, the only one that may come up -/
theorem GoH.call {fuel : Nat} {listed : Array Bool} (i : Nat) (g : FuncId) (args : Array Value) (o : Oper) (ho : ops[i]? = some o) (hr : Region.ready .any ops listed = [i])
    (hd : inB n o.dst = true) (hw : wantedS ops l o = some true) (hk : known l o.op.operands.toList = true) (hn : noSel o.op = true)
    (hv : (execOp (rho l) o).run P w = .ok (.enter g args) w) {T : Ending → World → Prop} (hc : Calls P g args w T)
    (h : ∀ e w1, T e w1 → ∃ v, e = .returned v ∧ (Wr.contains i = true ∨ S w1) ∧ GoH P f R n ops S Wr k fuel (listed.setIfInBounds i true) (putS l o.dst v) w1) : GoH P f R n ops S Wr k (fuel + 1) listed l w := by
  intro a ha
  refine ⟨fun h0 => by (rw [hr] at h0; cases h0), fun j hj => ?_⟩
  rw [hr, List.mem_singleton] at hj
  subst hj
  unfold wpOp
  simp only [ho, wanted_eq ha hw, if_true]
  left
  unfold Oper.wp
  rw [exec_eq ha hk hn, hv]
  show Calls P _ _ _ _
  refine hc.mono fun e w1 hT => ?_
  obtain ⟨v, rfl, hS, hg⟩ := h e w1 hT
  exact ⟨hS, hg _ (ha.put _ _ hd)⟩
theorem GoH.done {fuel : Nat} {listed : Array Bool} (ts : List Nat) (l' : Sl) (hr : Region.ready .any ops listed = []) (hk : keep l ts = l') (h : GoS P f R n k l' w) : GoH P f R n ops S Wr k fuel listed l w := by
  intro a ha
  have h1 := ha.keep ts
  rw [hk] at h1
  have h2 := h a h1
  cases fuel with
  | zero => exact ⟨hr, rfl, h2⟩
  | succ m => exact ⟨fun _ => ⟨rfl, h2⟩, by rw [hr]; simp⟩

/-! ### the same, told by what is reckoned -/
def takeS (P : Program) (n : Nat) (ops : Array Oper) (Wr : List Nat) (listed : Array Bool) (l : Sl) (i : Nat) (v : Value) (W : World) : Option (Prop × Option Tmp) :=
  match ops[i]? with
  | none => none
  | some o => match Region.noSelect ops && takeB n ops Wr listed i && known l o.op.operands.toList && (noSel o.op && !isStore o.op), wantedS ops l o with
    | true, some true => some (owed P o (rho l) W v W, o.dst)
    | _, _ => none
theorem GoH.takeF {fuel : Nat} {listed : Array Bool} (i : Nat) (v : Value) (p : World → Prop) (dst : Option Tmp) (h : ∀ W, takeS P n ops Wr listed l i v W = some (p W, dst)) (hv : ∀ W, S W → p W) (hS : S w)
    (hn : GoH P f R n ops S Wr k fuel (listed.setIfInBounds i true) (putS l dst v) w) : GoH P f R n ops S Wr k (fuel + 1) listed l w := by
  have h0 := h w
  unfold takeS at h0
  split at h0
  · cases h0
  · rename_i o ho
    split at h0
    · rename_i hb hw
      simp only [Bool.and_eq_true] at hb
      obtain ⟨⟨⟨b1, b2⟩, b3⟩, b4⟩ := hb
      simp only [Option.some.injEq, Prod.mk.injEq] at h0
      refine GoH.take i v o ho b1 b2 hw b3 (by simpa using b4) (fun W hW => ?_) hS (h0.2 ▸ hn)
      have hW2 := h W
      unfold takeS at hW2
      simp only [ho, b1, b2, b3, b4, hw, Bool.and_self, Bool.and_true, Bool.true_and] at hW2
      simp only [Option.some.injEq, Prod.mk.injEq] at hW2
      rw [hW2.1]; exact hv W hW
    · cases h0
def takeNS (P : Program) (n : Nat) (ops : Array Oper) (Wr : List Nat) (listed : Array Bool) (l : Sl) (i : Nat) (v : Value) (W : World) : Option (Result Next × Option Tmp) :=
  match ops[i]? with
  | none => none
  | some o => match Region.noSelect ops && takeB n ops Wr listed i && known l o.op.operands.toList && noSel o.op, wantedS ops l o with
    | true, some true => some ((execOp (rho l) o).run P W, o.dst)
    | _, _ => none
theorem GoH.takeV {fuel : Nat} {listed : Array Bool} (i : Nat) (v0 v : Value) (dst : Option Tmp) (h : ∀ W, takeNS P n ops Wr listed l i v W = some (.ok (.value v0) W, dst)) (e : v0 = v) (hS : S w)
    (hn : GoH P f R n ops S Wr k fuel (listed.setIfInBounds i true) (putS l dst v) w) : GoH P f R n ops S Wr k (fuel + 1) listed l w := by
  subst e
  have h0 := h w
  unfold takeNS at h0
  split at h0
  · cases h0
  · rename_i o ho
    split at h0
    · rename_i hb hw
      simp only [Bool.and_eq_true] at hb
      obtain ⟨⟨⟨b1, b2⟩, b3⟩, b4⟩ := hb
      simp only [Option.some.injEq, Prod.mk.injEq] at h0
      refine GoH.takeN i v0 o ho b1 b2 hw b3 b4 (fun W => ?_) hS (h0.2 ▸ hn)
      have hW2 := h W
      unfold takeNS at hW2
      simp only [ho, b1, b2, b3, b4, hw, Bool.and_self, Bool.and_true, Bool.true_and] at hW2
      simp only [Option.some.injEq, Prod.mk.injEq] at hW2
      exact hW2.1
    · cases h0
def skipS (n : Nat) (ops : Array Oper) (Wr : List Nat) (listed : Array Bool) (l : Sl) (i : Nat) : Option (Option Tmp) :=
  match ops[i]? with
  | none => none
  | some o => match Region.noSelect ops && takeB n ops Wr listed i, wantedS ops l o with
    | true, some false => some o.dst
    | _, _ => none
theorem GoH.skipF {fuel : Nat} {listed : Array Bool} (i : Nat) (dst : Option Tmp) (h : skipS n ops Wr listed l i = some dst) (hS : S w)
    (hn : GoH P f R n ops S Wr k fuel (listed.setIfInBounds i true) (putS l dst undef) w) : GoH P f R n ops S Wr k (fuel + 1) listed l w := by
  unfold skipS at h
  split at h
  · cases h
  · rename_i o ho
    split at h
    · rename_i hb hw
      simp only [Bool.and_eq_true] at hb
      simp only [Option.some.injEq] at h
      exact GoH.skip i o ho hb.1 hb.2 hw hS (h ▸ hn)
    · cases h
def stepHS (P : Program) (n : Nat) (ops : Array Oper) (listed : Array Bool) (l : Sl) (i : Nat) (v : Value) (w w1 : World) : Option (Prop × Option Tmp) :=
  match ops[i]? with
  | none => none
  | some o => match decide (Region.ready .any ops listed = [i]) && inB n o.dst && known l o.op.operands.toList && noSel o.op, wantedS ops l o with
    | true, some true => some (owed P o (rho l) w v w1, o.dst)
    | _, _ => none
theorem GoH.stepF {fuel : Nat} {listed : Array Bool} (i : Nat) (v : Value) (w1 : World) (p : Prop) (dst : Option Tmp) (h : stepHS P n ops listed l i v w w1 = some (p, dst)) (hv : p) (hS : Wr.contains i = true ∨ S w1)
    (hn : GoH P f R n ops S Wr k fuel (listed.setIfInBounds i true) (putS l dst v) w1) : GoH P f R n ops S Wr k (fuel + 1) listed l w := by
  unfold stepHS at h
  split at h
  · cases h
  · rename_i o ho
    split at h
    · rename_i hb hw
      simp only [Bool.and_eq_true, decide_eq_true_eq] at hb
      obtain ⟨⟨⟨b1, b2⟩, b3⟩, b4⟩ := hb
      simp only [Option.some.injEq, Prod.mk.injEq] at h
      exact GoH.step i v w1 o ho b1 b2 hw b3 b4 (h.1 ▸ hv) hS (h.2 ▸ hn)
    · cases h
def callHS (P : Program) (n : Nat) (ops : Array Oper) (listed : Array Bool) (l : Sl) (i : Nat) (w : World) : Option (Result Next × Option Tmp) :=
  match ops[i]? with
  | none => none
  | some o => match decide (Region.ready .any ops listed = [i]) && inB n o.dst && known l o.op.operands.toList && noSel o.op, wantedS ops l o with
    | true, some true => some ((execOp (rho l) o).run P w, o.dst)
    | _, _ => none
theorem GoH.callF {fuel : Nat} {listed : Array Bool} (i : Nat) (g : FuncId) (args : Array Value) (dst : Option Tmp) (h : callHS P n ops listed l i w = some (.ok (.enter g args) w, dst)) {T : Ending → World → Prop} (hc : Calls P g args w T)
    (hn : ∀ e w1, T e w1 → ∃ v, e = .returned v ∧ (Wr.contains i = true ∨ S w1) ∧ GoH P f R n ops S Wr k fuel (listed.setIfInBounds i true) (putS l dst v) w1) : GoH P f R n ops S Wr k (fuel + 1) listed l w := by
  unfold callHS at h
  split at h
  · cases h
  · rename_i o ho
    split at h
    · rename_i hb hw
      simp only [Bool.and_eq_true, decide_eq_true_eq] at hb
      obtain ⟨⟨⟨b1, b2⟩, b3⟩, b4⟩ := hb
      simp only [Option.some.injEq, Prod.mk.injEq] at h
      obtain ⟨h1, rfl⟩ := h
      exact GoH.call i g args o ho b1 b2 hw b3 b4 h1 hc hn
    · cases h

/-! ### more than one may come up: each is gone -/
def GoI (P : Program) (f : FuncId) (R : Ending → World → Prop) (n : Nat) (ops : Array Oper) (S : World → Prop) (Wr : List Nat) (k : List Item) (fuel : Nat) (listed : Array Bool) (l : Sl) (w : World) (i : Nat) : Prop :=
  ∀ a, Fits a n l → wpOp P ops (fun e a' w' => e = .normal ∧ Goes P f R k a' w') i (fun a' w' => (Wr.contains i = true ∨ S w') ∧ AnyW P ops (fun e a' w' => e = .normal ∧ Goes P f R k a' w') S Wr fuel (listed.setIfInBounds i true) a' w') a w
def AllI (p : Nat → Prop) : List Nat → Prop
  | [] => True
  | i :: is => p i ∧ AllI p is
theorem AllI.mem {p : Nat → Prop} : ∀ {is : List Nat}, AllI p is → ∀ i ∈ is, p i
  | _ :: _, h, _, .head _ => h.1
  | _ :: _, h, i, .tail _ hi => h.2.mem i hi
theorem GoH.each {fuel : Nat} {listed : Array Bool} (is : List Nat) (hr : Region.ready .any ops listed = is) (hne : is.isEmpty = false) (h : AllI (GoI P f R n ops S Wr k fuel listed l w) is) : GoH P f R n ops S Wr k (fuel + 1) listed l w := by
  intro a ha
  refine ⟨fun h0 => ?_, fun j hj => ?_⟩
  · rw [hr] at h0; subst h0; cases hne
  · rw [hr] at hj; exact h.mem j hj a ha
theorem GoI.step {fuel : Nat} {listed : Array Bool} (i : Nat) (v : Value) (w1 : World) (o : Oper) (ho : ops[i]? = some o)
    (hd : inB n o.dst = true) (hw : wantedS ops l o = some true) (hk : known l o.op.operands.toList = true) (hn : noSel o.op = true)
    (hv : owed P o (rho l) w v w1) (hS : Wr.contains i = true ∨ S w1) (h : GoH P f R n ops S Wr k fuel (listed.setIfInBounds i true) (putS l o.dst v) w1) : GoI P f R n ops S Wr k fuel listed l w i := by
  intro a ha
  unfold wpOp
  simp only [ho, wanted_eq ha hw, if_true]
  left
  unfold Oper.wp
  rw [exec_eq ha hk hn]
  rcases owed_run2 hv with e | ⟨e, rfl, _⟩
  · rw [e]; exact ⟨hS, h _ (ha.put _ _ hd)⟩
  · rw [e]; exact ⟨hS, h _ (ha.put _ _ hd)⟩
theorem GoI.call {fuel : Nat} {listed : Array Bool} (i : Nat) (g : FuncId) (args : Array Value) (o : Oper) (ho : ops[i]? = some o)
    (hd : inB n o.dst = true) (hw : wantedS ops l o = some true) (hk : known l o.op.operands.toList = true) (hn : noSel o.op = true)
    (hv : (execOp (rho l) o).run P w = .ok (.enter g args) w) {T : Ending → World → Prop} (hc : Calls P g args w T)
    (h : ∀ e w1, T e w1 → ∃ v, e = .returned v ∧ (Wr.contains i = true ∨ S w1) ∧ GoH P f R n ops S Wr k fuel (listed.setIfInBounds i true) (putS l o.dst v) w1) : GoI P f R n ops S Wr k fuel listed l w i := by
  intro a ha
  unfold wpOp
  simp only [ho, wanted_eq ha hw, if_true]
  left
  unfold Oper.wp
  rw [exec_eq ha hk hn, hv]
  show Calls P _ _ _ _
  refine hc.mono fun e w1 hT => ?_
  obtain ⟨v, rfl, hS, hg⟩ := h e w1 hT
  exact ⟨hS, hg _ (ha.put _ _ hd)⟩
def stepIS (P : Program) (n : Nat) (ops : Array Oper) (l : Sl) (i : Nat) (v : Value) (w w1 : World) : Option (Prop × Option Tmp) :=
  match ops[i]? with
  | none => none
  | some o => match inB n o.dst && known l o.op.operands.toList && noSel o.op, wantedS ops l o with
    | true, some true => some (owed P o (rho l) w v w1, o.dst)
    | _, _ => none
theorem GoI.stepF {fuel : Nat} {listed : Array Bool} (i : Nat) (v : Value) (w1 : World) (p : Prop) (dst : Option Tmp) (h : stepIS P n ops l i v w w1 = some (p, dst)) (hv : p) (hS : Wr.contains i = true ∨ S w1)
    (hn : GoH P f R n ops S Wr k fuel (listed.setIfInBounds i true) (putS l dst v) w1) : GoI P f R n ops S Wr k fuel listed l w i := by
  unfold stepIS at h
  split at h
  · cases h
  · rename_i o ho
    split at h
    · rename_i hb hw
      simp only [Bool.and_eq_true] at hb
      obtain ⟨⟨b2, b3⟩, b4⟩ := hb
      simp only [Option.some.injEq, Prod.mk.injEq] at h
      exact GoI.step i v w1 o ho b2 hw b3 b4 (h.1 ▸ hv) hS (h.2 ▸ hn)
    · cases h
/-- one whose value the kernel reckons -/
def stepNS (P : Program) (n : Nat) (ops : Array Oper) (l : Sl) (i : Nat) (w : World) : Option (Result Next × Option Tmp) :=
  match ops[i]? with
  | none => none
  | some o => match inB n o.dst && known l o.op.operands.toList && noSel o.op, wantedS ops l o with
    | true, some true => some ((execOp (rho l) o).run P w, o.dst)
    | _, _ => none
theorem GoI.stepV {fuel : Nat} {listed : Array Bool} (i : Nat) (v : Value) (dst : Option Tmp) (h : stepNS P n ops l i w = some (.ok (.value v) w, dst)) (hS : Wr.contains i = true ∨ S w)
    (hn : GoH P f R n ops S Wr k fuel (listed.setIfInBounds i true) (putS l dst v) w) : GoI P f R n ops S Wr k fuel listed l w i := by
  unfold stepNS at h
  split at h
  · cases h
  · rename_i o ho
    split at h
    · rename_i hb hw
      simp only [Bool.and_eq_true] at hb
      obtain ⟨⟨b2, b3⟩, b4⟩ := hb
      simp only [Option.some.injEq, Prod.mk.injEq] at h
      intro a ha
      unfold wpOp
      simp only [ho, wanted_eq ha hw, if_true]
      left
      unfold Oper.wp
      rw [exec_eq ha b3 b4, h.1]
      exact ⟨hS, (h.2 ▸ hn) _ (by have := ha.put o.dst v b2; rw [h.2] at this; rw [h.2]; exact this)⟩
    · cases h
theorem GoI.callF {fuel : Nat} {listed : Array Bool} (i : Nat) (g : FuncId) (args : Array Value) (dst : Option Tmp) (h : stepNS P n ops l i w = some (.ok (.enter g args) w, dst)) {T : Ending → World → Prop} (hc : Calls P g args w T)
    (hn : ∀ e w1, T e w1 → ∃ v, e = .returned v ∧ (Wr.contains i = true ∨ S w1) ∧ GoH P f R n ops S Wr k fuel (listed.setIfInBounds i true) (putS l dst v) w1) : GoI P f R n ops S Wr k fuel listed l w i := by
  unfold stepNS at h
  split at h
  · cases h
  · rename_i o ho
    split at h
    · rename_i hb hw
      simp only [Bool.and_eq_true] at hb
      obtain ⟨⟨b2, b3⟩, b4⟩ := hb
      simp only [Option.some.injEq, Prod.mk.injEq] at h
      obtain ⟨h1, rfl⟩ := h
      exact GoI.call i g args o ho b2 hw b3 b4 h1 hc hn
    · cases h
end
end Go.Gw
