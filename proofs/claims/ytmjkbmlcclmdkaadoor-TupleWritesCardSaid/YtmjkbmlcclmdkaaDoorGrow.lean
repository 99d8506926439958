/-
  A buffer with room for all that is written into it; the model's entries for bytes. No condition beyond those that each theorem names.
-/
import Derived.Test.YtmjkbmlcclmdkaaDoorObj
import Derived.Test.YtmjkbmlcclmdkaaDoorBts
import Derived.Test.YtmjkbmlcclmdkaaDoorRec
import Derived.Lib.AppendStr
import Derived.Lib.MakeNoZero
import Derived.Lib.Bytealg
namespace Go.Gw
set_option linter.unusedVariables false
set_option linter.unusedSimpArgs false
section
variable {P : Program} {t u E : TypeId} {k n N : Nat} {w w0 : World} {S : List Nat} {L : List Row} {xs : List Value}
theorem cut_one {v : Value} {w : World} (h : w.ownsRow 0 E k v n xs) (m : Nat) : (cut v m).oneCell' = true ∧ (cut v m).cells = #[cut v m] ∧ (cut v m).cells.toList = [cut v m] := by
  rcases h.2 with ⟨rfl, _⟩ | ⟨g, cap, cur, rfl, _⟩
  · exact ⟨rfl, rfl, rfl⟩
  · exact ⟨rfl, rfl, rfl⟩
theorem strCells_sb (s : List UInt8) : Lib.strCells (sb s) = u8s s := by simp [Lib.strCells, sb, u8s]
/-- what stands in the buffer behind a write -/
def gapp (xs : List Value) (m : Nat) (s : List UInt8) : List Value := xs.take m ++ u8s s ++ xs.drop (m + s.length)
theorem gapp_take {xs : List Value} {acc s : List UInt8} {N : Nat} (hx : xs.take acc.length = u8s acc) (hl : xs.length = N) (h : acc.length + s.length ≤ N) : (gapp xs acc.length s).take (acc ++ s).length = u8s (acc ++ s) ∧ (gapp xs acc.length s).length = N := by
  unfold gapp
  refine ⟨?_, by simp [u8s_len]; omega⟩
  rw [hx, u8s_app, List.take_append_of_le_length (by rw [u8s_len]; exact Nat.le_refl _), List.take_of_length_le (by rw [u8s_len]; exact Nat.le_refl _)]
/-- a string written behind the first m places, where there is room -/
theorem m_approom {b : Nat} {z : Value} (hT : SliceT P t E 1 b z) (hu : P.underlying u = some .string) (hM : Mem S w0 w L) (i : Nat) {v : Value} (hr : L[i]? = some ⟨E, 1, v, N, xs⟩) (m : Nat) (s : List UInt8) (hfit : m + s.length ≤ N) (h0 : 0 < N) (ty : TypeId) :
    ∃ w', (Builtin.append_ #[t, u] ty #[cut v m, .string (sb s)]).run P w = .ok (cut v (m + s.length)) w' ∧ Mem S w0 w' (L.set i ⟨E, 1, v, N, gapp xs m s⟩) := by
  have hown : w.ownsRow 0 E 1 v N xs := hM.get i hr
  obtain ⟨ti, hi, _, hs1, _⟩ := hT.info
  have ht := hT.under
  rcases hown.2 with ⟨_, e⟩ | ⟨g, cap, cur, rfl, hb, hg, hn, hcm, hcs, htk⟩
  · omega
  · have hcs' : cur.size = cap := by simpa using hcs
    have hr2 := Lib.run_append_room_string (P := P) w t u ty E ti ht hu hi hs1 g m cap cur hg (sb s) (by rw [sb_size]; omega) (by rw [sb_size]; omega)
    rw [sb_size] at hr2
    refine ⟨_, hr2, ?_⟩
    have hg2 : w.grownBy (w.setRow g (cur.toList.take m ++ Lib.strCells (sb s) ++ cur.toList.drop (m + s.length)).toArray) (some g) := ⟨rfl, rfl, rfl, by simp, fun k _ hk => setRow_other w g k _ (fun e => hk (by rw [e]))⟩
    refine hM.grow i hr (.inr rfl) (by exact hg2) _ _ _ ?_ (fun b hb => .inl hb)
    have htk' : cur.toList.take N = xs := by simpa using htk
    have hxl : xs.length = N := by simpa using hown.1
    have hcl : cur.toList.length = cap := by simpa using hcs'
    refine ⟨by unfold gapp; simp [u8s_len]; omega, .inr ⟨g, cap, _, rfl, hb, setRow_heap w g cur _ E _ hg, hn, hcm, ?_, ?_⟩⟩
    · rw [strCells_sb]; simp [u8s_len]; omega
    · rw [strCells_sb, Nat.mul_one]
      show List.take N (cur.toList.take m ++ u8s s ++ cur.toList.drop (m + s.length)) = gapp xs m s
      unfold gapp
      rw [← htk', List.take_append, List.take_of_length_le (by simp [u8s_len]; omega)]
      have e1 : (cur.toList.take N).take m = cur.toList.take m := by rw [List.take_take, Nat.min_eq_left (by omega)]
      rw [e1, List.drop_take]
      congr 2
      simp [u8s_len]; omega
/-- n bytes of memory, whatever stands there -/
theorem m_mnz {f : FuncId} {fn : Func} {ps : Array TypeId} (hf : P.funcs[f]? = some fn) (hname : (fn.name == "runtime.NumGoroutine") = false) (hb : fn.body.isNone = true) (hn : Extern.findNext fn = none) (he : Extern.find fn = some (Extern.BytealgMakeNoZero.makeNoZero ps #[t]))
    (ht : P.underlying t = some (.slice E)) (hM : Mem S w0 w L) (n : Nat) (h : n ≤ 281474976710656) :
    ∃ v w' xs, (callFunc f #[.int .i64 ((n : Nat) : Int)]).run P w = .ok (.value v) w' ∧ xs.length = n ∧ Mem S w0 w' (⟨E, 1, v, n, xs⟩ :: L) := by
  obtain ⟨cs, hrun, h1, h2⟩ := Lib.run_makeNoZero (P := P) w ps t E ht n h
  have hcm := h2 (by unfold maxLen; omega)
  refine ⟨.slice (some ⟨w.heap.size, 0, none⟩) n cs.size, w.drew.drew.alloc (.cells cs E), cs.toList.take n, ?_, by simp; omega, ?_⟩
  · rw [run_callFunc_extern hf hname hb hn he, hrun]; rfl
  · have hg : w.grownBy (w.drew.drew.alloc (.cells cs E)) none := ⟨rfl, rfl, rfl, by simp, fun k hk _ => heap_alloc_old w.drew.drew _ hk⟩
    refine hM.push hg ⟨E, 1, _, n, _⟩ ?_ (fun b hb => ?_)
    · exact ⟨by simp; omega, .inr ⟨w.heap.size, cs.size, cs, rfl, Nat.zero_le _, heap_alloc_new w.drew.drew _, h1, hcm, by simp, by rw [Nat.mul_one]⟩⟩
    · simp [Value.ownBlock] at hb; omega
theorem f_copy0 {v : Value} {w : World} {m : Nat} {b : Nat} {z : Value} (hT : SliceT P t E k b z) (h : w.ownsRow 0 E k v n xs) (t2 ty : TypeId) :
    (Builtin.copy_ #[t, t2] ty #[cut v m, .slice none 0 0]).run P w = .ok (.int .i64 0) w := by
  obtain ⟨ti, hi, _⟩ := hT.info
  rcases h.2 with ⟨rfl, _⟩ | ⟨g, cap, cur, rfl, _⟩
  · simp [Builtin.copy_, cut, run_underlying hT.under, sizeOf, typeInfo, hi, Builtin.lenOf, Builtin.firstCells]; rfl
  · simp [Builtin.copy_, cut, run_underlying hT.under, sizeOf, typeInfo, hi, Builtin.lenOf, Builtin.firstCells, storeCells]; rfl
theorem u8_of (c : UInt8) : ((c.toNat : Int)).toNat.toUInt8 = c := by simp
/-- the entries for bytes of strings -/
theorem x_count {f : FuncId} {fn : Func} (hf : P.funcs[f]? = some fn) (hname : (fn.name == "runtime.NumGoroutine") = false) (hb : fn.body.isNone = true) (hn : Extern.findNext fn = none) (he : Extern.find fn = some Extern.BytealgCount.count) (s : List UInt8) (c : Int) (w : World) :
    (callFunc f #[.string (sb s), .int .u8 c]).run P w = .ok (.value (.int .i64 ((List.count c.toNat.toUInt8 s : Nat) : Int))) w := by
  rw [run_callFunc_extern hf hname hb hn he, Lib.run_countString, sb_data]; rfl
theorem x_index {f : FuncId} {fn : Func} (hf : P.funcs[f]? = some fn) (hname : (fn.name == "runtime.NumGoroutine") = false) (hb : fn.body.isNone = true) (hn : Extern.findNext fn = none) (he : Extern.find fn = some Extern.BytealgIndexByte.indexByte) (s : List UInt8) (c : Int) (w : World) :
    (callFunc f #[.string (sb s), .int .u8 c]).run P w = .ok (.value (.int .i64 (Lib.indexByte s c.toNat.toUInt8))) w := by
  rw [run_callFunc_extern hf hname hb hn he, Lib.run_indexByteString, sb_data]; rfl
end
theorem gt_less : ∀ a b : List UInt8, (!Op.bytesLess a b && !a == b) = Op.bytesLess b a
  | [], [] => rfl
  | [], _ :: _ => rfl
  | _ :: _, [] => rfl
  | c :: a, d :: b => by
    have ih := gt_less a b
    have e1 : Op.bytesLess (c :: a) (d :: b) = (decide (c < d) || (c == d && Op.bytesLess a b)) := rfl
    have e2 : Op.bytesLess (d :: b) (c :: a) = (decide (d < c) || (d == c && Op.bytesLess b a)) := rfl
    have e3 : ((c :: a) == (d :: b)) = (c == d && a == b) := rfl
    rw [e1, e2, e3, ← ih]
    by_cases h : c = d
    · subst h
      have h1 : ¬ c < c := by rw [UInt8.lt_iff_toNat_lt]; omega
      rw [decide_eq_false h1]; simp
    · have h2 : (c == d) = false := beq_eq_false_iff_ne.2 h
      have h3 : (d == c) = false := beq_eq_false_iff_ne.2 (fun z => h z.symm)
      rw [h2, h3]
      have h4 : c.toNat ≠ d.toNat := fun z => h (UInt8.toNat.inj z)
      simp only [Bool.false_and, Bool.or_false, Bool.not_false, Bool.and_true]
      by_cases g : c < d
      · rw [decide_eq_true g, decide_eq_false (by rw [UInt8.lt_iff_toNat_lt] at *; omega)]; rfl
      · rw [decide_eq_false g, decide_eq_true (by rw [UInt8.lt_iff_toNat_lt] at *; omega)]; rfl
/-- the owed run of 'a > b' at texts -/
theorem f_strgt {P : Program} {t : TypeId} (a b : List UInt8) (w : World) : Sem.run P (do pure (Next.value (← binOp .gtr t (.string (sb a)) (.string (sb b))))) w = .ok (.value (.bool (Op.bytesLess b a))) w := by
  simp [binOp, Op.stringOp, sb_toList]
  exact gt_less a b
end Go.Gw
