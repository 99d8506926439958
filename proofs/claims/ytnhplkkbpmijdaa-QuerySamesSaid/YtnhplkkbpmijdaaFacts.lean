/-
  What single operations give, as facts that a walk lays before a run. No condition beyond those that each theorem names.
-/
import Derived.Test.YtnhplkkbpmijdaaGw
import Derived.KernelRfl
import Derived.IntWalk
namespace Go.Gw
set_option linter.unusedVariables false
set_option linter.unusedSimpArgs false

/-- a text by its bytes -/
def sb (l : List UInt8) : ByteArray := ⟨l.toArray⟩
/-- the byte at a place, as a number -/
def bl (l : List UInt8) (i : Nat) : Int := ((l.getD i 0).toNat : Int)
theorem bl_bd (l : List UInt8) (i : Nat) : 0 ≤ bl l i ∧ bl l i ≤ 255 := by
  unfold bl; have := (l.getD i 0).toNat_lt; omega
theorem sb_size (l : List UInt8) : (sb l).size = l.length := by simp [sb, ByteArray.size]
theorem sb_data (l : List UInt8) : (sb l).data.toList = l := by simp [sb]
theorem sb_toList (l : List UInt8) : (sb l).toList = l := by
  rw [ByteArray.toList_eq, sb_data]
theorem sb_extract (l : List UInt8) (a b : Nat) : (sb l).extract a b = sb ((l.take b).drop a) := by
  apply ByteArray.ext
  rw [ByteArray.data_extract]
  simp [sb, List.extract_eq_take_drop, List.drop_take]
theorem sb_from (l : List UInt8) (a : Nat) : (sb l).extract a l.length = sb (l.drop a) := by
  rw [sb_extract, List.take_length]
theorem sb_upto (l : List UInt8) (b : Nat) : (sb l).extract 0 b = sb (l.take b) := by
  rw [sb_extract, List.drop_zero]
theorem sb_of (s : ByteArray) : sb s.data.toList = s := by cases s; simp [sb]
theorem sb_inj {a b : List UInt8} (h : sb a = sb b) : a = b := by
  have := congrArg (fun s => s.data.toList) h; simpa [sb] using this

section
variable {P : Program} {w : World}

theorem f_add {k : IntKind} {t : TypeId} {x y z : Int} (h : k.wrap (x + y) = z) : (binOp .add t (.int k x) (.int k y)).run P w = .ok (.int k z) w := by
  subst h; simp [binOp, Op.intArith]
theorem f_sub {k : IntKind} {t : TypeId} {x y z : Int} (h : k.wrap (x - y) = z) : (binOp .sub t (.int k x) (.int k y)).run P w = .ok (.int k z) w := by
  subst h; simp [binOp, Op.intArith]
theorem f_mul {k : IntKind} {t : TypeId} {x y z : Int} (h : k.wrap (x * y) = z) : (binOp .mul t (.int k x) (.int k y)).run P w = .ok (.int k z) w := by
  subst h; simp [binOp, Op.intArith]
theorem f_quo {k : IntKind} {t : TypeId} {x y z : Int} (hy : y ≠ 0) (h : k.wrap (x.tdiv y) = z) : (binOp .quo t (.int k x) (.int k y)).run P w = .ok (.int k z) w := by
  subst h; simp [binOp, Op.intDiv, hy]
theorem f_rem {k : IntKind} {t : TypeId} {x y z : Int} (hy : y ≠ 0) (h : x.tmod y = z) : (binOp .rem t (.int k x) (.int k y)).run P w = .ok (.int k z) w := by
  subst h; simp [binOp, Op.intDiv, hy]
theorem f_and {k : IntKind} {t : TypeId} {x y z : Int} (h : k.wrap ((BitVec.ofInt k.bits x &&& BitVec.ofInt k.bits y).toNat : Int) = z) : (binOp .and t (.int k x) (.int k y)).run P w = .ok (.int k z) w := by
  subst h; simp only [binOp, Op.intBits, ne_eq, not_true_eq_false, if_false]; rfl
theorem f_or {k : IntKind} {t : TypeId} {x y z : Int} (h : k.wrap ((BitVec.ofInt k.bits x ||| BitVec.ofInt k.bits y).toNat : Int) = z) : (binOp .or t (.int k x) (.int k y)).run P w = .ok (.int k z) w := by
  subst h; simp only [binOp, Op.intBits, ne_eq, not_true_eq_false, if_false]; rfl
theorem f_xor {k : IntKind} {t : TypeId} {x y z : Int} (h : k.wrap ((BitVec.ofInt k.bits x ^^^ BitVec.ofInt k.bits y).toNat : Int) = z) : (binOp .xor t (.int k x) (.int k y)).run P w = .ok (.int k z) w := by
  subst h; simp only [binOp, Op.intBits, ne_eq, not_true_eq_false, if_false]; rfl
theorem f_shl {k k' : IntKind} {t : TypeId} {x y z : Int} (hy : 0 ≤ y) (h : k.wrap (x * 2 ^ (min y.toNat k.bits)) = z) : (binOp .shl t (.int k x) (.int k' y)).run P w = .ok (.int k z) w := by
  subst h; have : ¬ y < 0 := by omega
  simp [binOp, Op.shift, this]
theorem f_shr {k k' : IntKind} {t : TypeId} {x y z : Int} (hy : 0 ≤ y) (h : x.fdiv (2 ^ (min y.toNat k.bits)) = z) : (binOp .shr t (.int k x) (.int k' y)).run P w = .ok (.int k z) w := by
  subst h; have : ¬ y < 0 := by omega
  simp [binOp, Op.shift, this]

theorem f_conv {s d : TypeId} {u : TypeDesc} {k k' : IntKind} {x z : Int} (hs : P.underlying s = some u) (hd : P.underlying d = some (.int k')) (h : k'.wrap x = z) :
    (convert s d (.int k x)).run P w = .ok (.int k' z) w := by
  subst h
  simp [convert, run_underlying hs, run_underlying hd, Conv.intToInt]

theorem f_index {t : TypeId} {k : IntKind} {l : List UInt8} {i : Int} (j : Nat) (ht : P.underlying t = some .string) (hj : i = (j : Int)) (hlt : j < l.length) :
    (Instr.index t (.string (sb l)) (.int k i)).run P w = .ok (.int .u8 (bl l j)) w := by
  subst hj
  have hs : j < (sb l).size := by rw [sb_size]; exact hlt
  rw [run_index_string _ _ _ _ _ ht, dif_pos ⟨by omega, by omega⟩]
  congr 2
  simp only [bl, Int.toNat_natCast]
  congr 1
  rw [List.getD_eq_getElem?_getD, List.getElem?_eq_getElem hlt]
  simp [sb, ByteArray.getElem_eq_getElem_data]

theorem f_slice_lo {t : TypeId} {k : IntKind} {l : List UInt8} {i : Int} (a : Nat) (ht : P.underlying t = some .string) (ha : i = (a : Int)) (h : a ≤ l.length) :
    (Instr.sliceAt t (.string (sb l)) (some (.int k i)) none none).run P w = .ok (.string (sb (l.drop a))) w := by
  subst ha
  have e := run_slice_string_l (P := P) w t (sb l) ht k a (by omega) (by rw [sb_size]; omega)
  simp only [Instr.sliceAt, Sem.run_bind, run_underlying ht, Result.andThen_ok]
  rw [e, sb_size, Int.toNat_natCast, sb_from]
theorem f_slice_hi {t : TypeId} {k : IntKind} {l : List UInt8} {i : Int} (b : Nat) (ht : P.underlying t = some .string) (hb : i = (b : Int)) (h : b ≤ l.length) :
    (Instr.sliceAt t (.string (sb l)) none (some (.int k i)) none).run P w = .ok (.string (sb (l.take b))) w := by
  subst hb
  have e := run_slice_string_h (P := P) w t (sb l) ht k b (by omega) (by rw [sb_size]; omega)
  simp only [Instr.sliceAt, Sem.run_bind, run_underlying ht, Result.andThen_ok]
  rw [e, Int.toNat_natCast, sb_upto]
theorem f_slice_lohi {t : TypeId} {k k' : IntKind} {l : List UInt8} {i j : Int} (a b : Nat) (ht : P.underlying t = some .string) (ha : i = (a : Int)) (hb : j = (b : Int)) (hab : a ≤ b) (h : b ≤ l.length) :
    (Instr.sliceAt t (.string (sb l)) (some (.int k i)) (some (.int k' j)) none).run P w = .ok (.string (sb ((l.take b).drop a))) w := by
  subst ha; subst hb
  have e : (Instr.slice t (.string (sb l)) (some (.int k (a : Int))) (some (.int k' (b : Int))) none).run P w = .ok (.string ((sb l).extract a b)) w := by
    have hs := sb_size l
    simp [Instr.slice, run_underlying ht, Instr.sliceBounds, run_sliceBound, hs, h, hab]
  simp only [Instr.sliceAt, Sem.run_bind, run_underlying ht, Result.andThen_ok]
  rw [e, sb_extract]

theorem f_streq {t : TypeId} {a b : List UInt8} : (binOp .eql t (.string (sb a)) (.string (sb b))).run P w = .ok (.bool (decide (a = b))) w := by
  simp only [binOp, Op.stringOp, sb_toList]
  show Result.ok _ w = _
  congr 2
  exact (Bool.eq_iff_iff.2 (by simp))
theorem f_strneq {t : TypeId} {a b : List UInt8} : (binOp .neq t (.string (sb a)) (.string (sb b))).run P w = .ok (.bool (!decide (a = b))) w := by
  simp only [binOp, Op.stringOp, sb_toList]
  show Result.ok _ w = _
  congr 2
  exact (Bool.eq_iff_iff.2 (by simp))
theorem f_streq_yes {t : TypeId} {a b : List UInt8} (h : a = b) : (binOp .eql t (.string (sb a)) (.string (sb b))).run P w = .ok (.bool true) w := by
  rw [f_streq]; simp [h]
theorem f_streq_no {t : TypeId} {a b : List UInt8} (h : a ≠ b) : (binOp .eql t (.string (sb a)) (.string (sb b))).run P w = .ok (.bool false) w := by
  rw [f_streq]; simp [h]
theorem f_strneq_yes {t : TypeId} {a b : List UInt8} (h : a = b) : (binOp .neq t (.string (sb a)) (.string (sb b))).run P w = .ok (.bool false) w := by
  rw [f_strneq]; simp [h]
theorem f_strneq_no {t : TypeId} {a b : List UInt8} (h : a ≠ b) : (binOp .neq t (.string (sb a)) (.string (sb b))).run P w = .ok (.bool true) w := by
  rw [f_strneq]; simp [h]
theorem f_stradd {t : TypeId} {a b : List UInt8} (h : a.length + b.length ≤ 9223372036854775807) : (binOp .add t (.string (sb a)) (.string (sb b))).run P w = .ok (.string (sb (a ++ b))) w := by
  have e : ¬ (((sb a).size + (sb b).size : Nat) : Int) > IntKind.i64.max := by
    rw [sb_size, sb_size]; simp [IntKind.max, IntKind.signed, IntKind.bits]; omega
  have e2 : sb a ++ sb b = sb (a ++ b) := by simp [sb, ByteArray.ext_iff]
  simp only [binOp, Op.stringOp, if_neg e, e2]
  rfl

theorem f_len {t ty : TypeId} {l : List UInt8} (ht : P.underlying t = some .string) : (Builtin.len_ #[t] ty #[.string (sb l)]).run P w = .ok (.int .i64 ((l.length : Nat) : Int)) w := by
  simp [Builtin.len_, run_underlying ht, goInt, sb_size]
theorem f_min {ts : Array TypeId} {ty : TypeId} {k : IntKind} {a b z : Int} (h : (if b < a then b else a) = z) : (Builtin.min_ ts ty #[.int k a, .int k b]).run P w = .ok (.int k z) w := by
  subst h; kernel_rfl
theorem f_max {ts : Array TypeId} {ty : TypeId} {k : IntKind} {a b z : Int} (h : (if a < b then b else a) = z) : (Builtin.max_ ts ty #[.int k a, .int k b]).run P w = .ok (.int k z) w := by
  subst h; kernel_rfl
theorem f_strlt {t : TypeId} {a b : List UInt8} : (binOp .lss t (.string (sb a)) (.string (sb b))).run P w = .ok (.bool (Op.bytesLess a b)) w := by
  simp only [binOp, Op.stringOp, sb_toList]
  rfl
theorem fdiv_pow (x : Int) (n : Nat) (m : Int) (h : (2 : Int) ^ n = m) (hm : 0 ≤ m) : x.fdiv (2 ^ n) = x / m := by
  rw [h]; exact Int.fdiv_eq_ediv_of_nonneg _ hm

theorem p_no {b : Bool} {p : Prop} (i : b = true ↔ p) (h : b = false) : ¬ p := fun z => Bool.noConfusion ((i.2 z).symm.trans h)
theorem p_inot {b : Bool} {p : Prop} (i : b = true ↔ p) : (!b) = true ↔ ¬ p := by
  cases b <;> simp_all
theorem p_iand {a b : Bool} {p q : Prop} (i : a = true ↔ p) (j : b = true ↔ q) : (a && b) = true ↔ p ∧ q := by
  rw [Bool.and_eq_true, i, j]
theorem p_ior {a b : Bool} {p q : Prop} (i : a = true ↔ p) (j : b = true ↔ q) : (a || b) = true ↔ p ∨ q := by
  rw [Bool.or_eq_true, i, j]
theorem p_ibif {c a b : Bool} {r p q : Prop} (k : c = true ↔ r) (i : a = true ↔ p) (j : b = true ↔ q) : (bif c then a else b) = true ↔ (r ∧ p) ∨ (¬ r ∧ q) := by
  cases c <;> simp_all
theorem p_iconst (b : Bool) : b = true ↔ (if b then True else False) := by cases b <;> simp
theorem p_nf {b : Bool} (h : (!b) = true) : b = false := by simpa using h
theorem p_nt {b : Bool} (h : (!b) = false) : b = true := by simpa using h
theorem p_andl {a b : Bool} (h : (a && b) = true) : a = true := by simp at h; exact h.1
theorem p_andr {a b : Bool} (h : (a && b) = true) : b = true := by simp at h; exact h.2
theorem p_orl {a b : Bool} (h : (a || b) = false) : a = false := by simp at h; exact h.1
theorem p_orr {a b : Bool} (h : (a || b) = false) : b = false := by simp at h; exact h.2
theorem p_andno {a b : Bool} (h : (a && b) = false) : a = false ∨ b = false := by cases a <;> simp_all
theorem p_oryes {a b : Bool} (h : (a || b) = true) : a = true ∨ b = true := by simpa using h
theorem p_ne {x y : Int} (h : (x == y) = false) : ¬ (x = y) := by simpa using h
theorem p_eq {x y : Int} (h : (x != y) = false) : x = y := by simpa using h
end
theorem ret_bool {a b : Bool} (h : a = b) : Ending.returned (.bool a) = .returned (.bool b) := by rw [h]
theorem ret_int {k : IntKind} {a b : Int} (h : a = b) : Ending.returned (.int k a) = .returned (.int k b) := by rw [h]
theorem ret_str {a b : List UInt8} (h : a = b) : Ending.returned (.string (sb a)) = .returned (.string (sb b)) := by rw [h]
theorem ret_int3 {k k' k'' : IntKind} {a b c a' b' c' : Int} (h : a = a') (h' : b = b') (h'' : c = c') : Ending.returned (.tuple #[.int k a, .int k' b, .int k'' c]) = .returned (.tuple #[.int k a', .int k' b', .int k'' c']) := by rw [h, h', h'']
theorem ret_int2 {k k' : IntKind} {a b a' b' : Int} (h : a = a') (h' : b = b') : Ending.returned (.tuple #[.int k a, .int k' b]) = .returned (.tuple #[.int k a', .int k' b']) := by rw [h, h']
theorem ret_str2 {k : IntKind} {a a' : List UInt8} {b b' : Int} (h : a = a') (h' : b = b') : Ending.returned (.tuple #[.string (sb a), .int k b]) = .returned (.tuple #[.string (sb a'), .int k b']) := by rw [h, h']
end Go.Gw
