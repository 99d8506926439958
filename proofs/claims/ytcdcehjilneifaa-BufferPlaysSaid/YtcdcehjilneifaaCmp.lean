/-
  Two texts compared: what the model's own entry hands back; how it stands to 'less'. No condition beyond those that each theorem names.
-/
import Derived.Test.YtcdcehjilneifaaFacts
import Derived.Lib.Bytealg
namespace Go.Gw
set_option linter.unusedVariables false
set_option linter.unusedSimpArgs false
section
variable {P : Program}
theorem x_cmp {f : FuncId} {fn : Func} (hf : P.funcs[f]? = some fn) (hname : (fn.name == "runtime.NumGoroutine") = false) (hb : fn.body.isNone = true) (hn : Extern.findNext fn = none) (he : Extern.find fn = some Extern.BytealgCompare.compare) (a b : List UInt8) (w : World) :
    (callFunc f #[.string (sb a), .string (sb b)]).run P w = .ok (.value (.int .i64 (Lib.compareBytes a b))) w := by
  rw [run_callFunc_extern hf hname hb hn he, Lib.run_compareString]; rfl
theorem cmp_less : ∀ a b : List UInt8, decide (Lib.compareBytes a b < 0) = Op.bytesLess a b
  | [], [] => rfl
  | [], _ :: _ => rfl
  | _ :: _, [] => rfl
  | x :: a, y :: b => by
    have ih := cmp_less a b
    have e2 : Op.bytesLess (x :: a) (y :: b) = (decide (x < y) || (x == y && Op.bytesLess a b)) := rfl
    have e3 : Lib.compareBytes (x :: a) (y :: b) = if x < y then -1 else if y < x then 1 else Lib.compareBytes a b := by rw [Lib.compareBytes]
    rw [e2, ← ih, e3]
    by_cases h1 : x < y
    · simp [h1]
    · by_cases h2 : y < x
      · have h3 : x ≠ y := by intro e; subst e; exact h1 h2
        simp [h1, h2, h3]
      · have h3 : x = y := UInt8.toNat.inj (by rw [UInt8.lt_iff_toNat_lt] at h1 h2; omega)
        subst h3
        simp
theorem bless_irrefl : ∀ a : List UInt8, Op.bytesLess a a = false
  | [] => rfl
  | x :: a => by
    have h : ¬ x < x := by rw [UInt8.lt_iff_toNat_lt]; omega
    simp [Op.bytesLess, bless_irrefl a]
theorem bless_trans : ∀ {a b c : List UInt8}, Op.bytesLess a b = true → Op.bytesLess b c = true → Op.bytesLess a c = true
  | _, [], _, h, _ => by simp [Op.bytesLess] at h
  | _, _ :: _, [], _, h => by simp [Op.bytesLess] at h
  | [], _ :: _, _ :: _, _, _ => rfl
  | x :: a, y :: b, z :: c, h, k => by
    simp only [Op.bytesLess, Bool.or_eq_true, Bool.and_eq_true, decide_eq_true_eq, beq_iff_eq, UInt8.lt_iff_toNat_lt] at h k ⊢
    rcases h with h | ⟨h1, h2⟩
    · rcases k with k | ⟨k1, k2⟩
      · left; omega
      · subst k1; left; exact h
    · subst h1
      rcases k with k | ⟨k1, k2⟩
      · left; exact k
      · right; exact ⟨k1, bless_trans h2 k2⟩
theorem bless_tot : ∀ {a b : List UInt8}, Op.bytesLess a b = false → Op.bytesLess b a = false → a = b
  | [], [], _, _ => rfl
  | [], _ :: _, h, _ => by simp [Op.bytesLess] at h
  | _ :: _, [], _, h => by simp [Op.bytesLess] at h
  | x :: a, y :: b, h, k => by
    simp only [Op.bytesLess, Bool.or_eq_false_iff, Bool.and_eq_false_iff, decide_eq_false_iff_not, beq_eq_false_iff_ne, UInt8.lt_iff_toNat_lt] at h k
    have e : x = y := UInt8.toNat.inj (by omega)
    subst e
    have h2 : Op.bytesLess a b = false := by rcases h.2 with z | z; exact absurd rfl z; exact z
    have k2 : Op.bytesLess b a = false := by rcases k.2 with z | z; exact absurd rfl z; exact z
    rw [bless_tot h2 k2]
theorem bless_asymm {a b : List UInt8} (h : Op.bytesLess a b = true) : Op.bytesLess b a = false := by
  cases k : Op.bytesLess b a with
  | false => rfl
  | true => have := bless_trans h k; rw [bless_irrefl] at this; cases this
theorem le_less : ∀ a b : List UInt8, (Op.bytesLess a b || a == b) = !Op.bytesLess b a := by
  intro a b
  cases h1 : Op.bytesLess b a with
  | true =>
    have h2 := bless_asymm h1
    have h3 : a ≠ b := by intro e; subst e; rw [bless_irrefl] at h1; cases h1
    simp [h2, h3]
  | false =>
    cases h2 : Op.bytesLess a b with
    | true => rfl
    | false => simp [bless_tot h2 h1]
theorem f_strle {t : TypeId} (a b : List UInt8) (w : World) : Sem.run P (do pure (Next.value (← binOp .leq t (.string (sb a)) (.string (sb b))))) w = .ok (.value (.bool (!Op.bytesLess b a))) w := by
  simp [binOp, Op.stringOp, sb_toList]
  first | exact le_less a b | (rw [← le_less a b])
/-- a list kept in the order of a text -/
def ins {β : Type} (key : β → List UInt8) (x : β) : List β → List β
  | [] => [x]
  | y :: r => if Op.bytesLess (key x) (key y) = true then x :: y :: r else y :: ins key x r
def isort {β : Type} (key : β → List UInt8) (l : List β) : List β := l.foldl (fun L x => ins key x L) []
section
variable {β γ : Type} {key : β → List UInt8}
theorem isort_snoc (l : List β) (x : β) : isort key (l ++ [x]) = ins key x (isort key l) := by unfold isort; rw [List.foldl_append]; rfl
theorem ins_perm (x : β) : ∀ l : List β, (ins key x l).Perm (x :: l)
  | [] => List.Perm.refl _
  | y :: r => by
    unfold ins
    split
    · exact List.Perm.refl _
    · exact ((ins_perm x r).cons y).trans (List.Perm.swap x y r)
theorem fold_perm (l : List β) : ∀ L : List β, (l.foldl (fun L x => ins key x L) L).Perm (l ++ L) := by
  induction l with
  | nil => intro L; exact List.Perm.refl _
  | cons x l ih => intro L; exact (ih _).trans (((ins_perm x L).append_left l).trans List.perm_middle)
theorem isort_perm (l : List β) : (isort key l).Perm l := by have := fold_perm (key := key) l []; rwa [List.append_nil] at this
theorem isort_len (l : List β) : (isort key l).length = l.length := (isort_perm l).length_eq
theorem ins_map (f : γ → β) (x : γ) : ∀ l : List γ, ins key (f x) (l.map f) = (ins (key ∘ f) x l).map f
  | [] => rfl
  | y :: r => by
    simp only [List.map_cons, ins, Function.comp]
    split
    · rfl
    · rw [List.map_cons]; exact congrArg _ (ins_map f x r)
theorem isort_map (f : γ → β) (l : List γ) : isort key (l.map f) = (isort (key ∘ f) l).map f := by
  unfold isort
  have : ∀ (l L : List γ), (l.map f).foldl (fun L x => ins key x L) (L.map f) = (l.foldl (fun L x => ins (key ∘ f) x L) L).map f := by
    intro l
    induction l with
    | nil => intro L; rfl
    | cons x l ih => intro L; simp only [List.map_cons, List.foldl_cons]; rw [ins_map]; exact ih _
  exact this l []
/-- strictly rising -/
abbrev Rise (key : β → List UInt8) (l : List β) : Prop := l.Pairwise fun a b => Op.bytesLess (key a) (key b) = true
theorem ins_rise {x : β} : ∀ {l : List β}, Rise key l → (∀ y ∈ l, key y ≠ key x) → Rise key (ins key x l)
  | [], _, _ => by simp [ins]
  | y :: r, h, hn => by
    obtain ⟨h1, h2⟩ := List.pairwise_cons.1 h
    unfold ins
    split
    · rename_i hx
      refine List.pairwise_cons.2 ⟨fun z hz => ?_, h⟩
      rcases List.mem_cons.1 hz with rfl | hz
      · exact hx
      · exact bless_trans hx (h1 z hz)
    · rename_i hx
      refine List.pairwise_cons.2 ⟨fun z hz => ?_, ins_rise h2 (fun z hz => hn z (List.mem_cons_of_mem _ hz))⟩
      rcases List.mem_cons.1 ((ins_perm x r).mem_iff.1 hz) with rfl | hz
      · cases hy : Op.bytesLess (key y) (key z) with
        | true => rfl
        | false => exact absurd (bless_tot hy (by simpa using hx)) (hn y (List.mem_cons_self ..))
      · exact h1 z hz
theorem isort_rise (l : List β) (hn : (l.map key).Nodup) : Rise key (isort key l) := by
  unfold isort
  have : ∀ (l L : List β), Rise key L → ((L ++ l).map key).Nodup → Rise key (l.foldl (fun L x => ins key x L) L) := by
    intro l
    induction l with
    | nil => intro L h _; exact h
    | cons x l ih =>
      intro L h hn
      refine ih _ (ins_rise h fun y hy e => ?_) ?_
      · rw [List.map_append, List.nodup_append] at hn
        exact hn.2.2 (key y) (List.mem_map_of_mem hy) (key x) (by simp) e
      · have hp : (ins key x L ++ l).Perm (L ++ x :: l) := ((ins_perm x L).append_right l).trans List.perm_middle.symm
        exact ((hp.map key).nodup_iff).2 hn
  exact this l [] List.Pairwise.nil (by simpa using hn)
theorem rise_uniq : ∀ {l m : List β}, Rise key l → Rise key m → l.Perm m → l = m
  | [], m, _, _, hp => by simpa using hp.symm
  | x :: l, [], _, _, hp => by simp at hp
  | x :: l, y :: m, h, k, hp => by
    obtain ⟨h1, h2⟩ := List.pairwise_cons.1 h
    obtain ⟨k1, k2⟩ := List.pairwise_cons.1 k
    have e : x = y := by
      rcases List.mem_cons.1 (hp.mem_iff.1 (List.mem_cons_self ..)) with e | e
      · exact e
      · rcases List.mem_cons.1 (hp.mem_iff.2 (List.mem_cons_self ..)) with e2 | e2
        · exact e2.symm
        · have z := bless_asymm (k1 x e); rw [h1 y e2] at z; cases z
    subst e
    rw [rise_uniq h2 k2 (List.Perm.cons_inv hp)]
theorem isort_id {l : List β} (h : Rise key l) : isort key l = l := by
  have hn : (l.map key).Nodup := by
    have : (l.map key).Pairwise (· ≠ ·) := by
      rw [List.pairwise_map]
      refine h.imp fun {a b} hab e => ?_
      rw [e, bless_irrefl] at hab; cases hab
    exact this
  exact rise_uniq (isort_rise l hn) h (isort_perm l)
theorem isort_congr {l m : List β} (hn : (l.map key).Nodup) (hp : l.Perm m) : isort key l = isort key m :=
  rise_uniq (isort_rise l hn) (isort_rise m (((hp.map key).nodup_iff).1 hn)) ((isort_perm l).trans (hp.trans (isort_perm m).symm))
end
end
end Go.Gw
