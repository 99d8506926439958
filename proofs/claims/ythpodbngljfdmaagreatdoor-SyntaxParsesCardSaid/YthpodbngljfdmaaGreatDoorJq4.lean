/-
  Joined texts. No condition beyond those that each theorem names. What they say:
  The walks of the making of the table, once.
  What a text with its quotes and backslashes escaped is, by its beginnings: plain laws. No condition.
  The walk of the replacing of bytes.
  What the printer of queries writes, part by part; joined texts; small numbers. No condition beyond those that each theorem names.
  The document's reader of queries: a value or a default, told by what the parser reads. No condition.
  The walks of the reader: c, fault, blanks, must.
  The walks of the reader: letter, small.
  The walk of the reader: quoted.
  The walk of unhex.
  The walk of the reader: number.
  The walk of the reader: leaf.
  The walk of the reader: what stands behind the loop of row.
  The walks of the reader: row, of each kind.
  The walk of the reader: one; all three.
  Trees whose rows are written over: by shape alone. No condition.
  The walk of the document's Parse.
  The walk of spoil.
  A call whose callee is found at the run: a method of what an interface holds. No condition beyond those that each theorem names.
  The walks of the replacer and of quote.
  The walks of inner and joined, over shorter texts.
  The walk of text.
  The walks of Print and awake.
-/
import Derived.Shelf.Strings.OnBuilder
import Derived.Lib.Join
import Derived.Test.YthpodbngljfdmaaGreatDoorChecked
import Derived.Test.YthpodbngljfdmaaGreatDoorJq3
namespace Go.Proofs.YthpodbngljfdmaaGreatDoor
open Go Go.Gw Go.UtfP Go.TokP Go.QryP Go.SynP Go.RealQ Go.SynV Go.RowKit
set_option linter.unusedVariables false
set_option linter.unusedSimpArgs false
set_option maxRecDepth 20000


set_option maxHeartbeats 1000000 in
theorem ronce_c {S : List Nat} {w0 w : World} {L : List Row} (b : Nat) (on : Value) (d m q : Int) (hM : Mem S w0 w (⟨113, 5, (obj b), 1, [.int .u32 d, .int .i32 m, .int .u32 q, .nilIface, on]⟩ :: ⟨9, 1, on, 4, [sS ([92] : List UInt8), sS ([92, 92] : List UInt8), sS ([34] : List UInt8), sS ([92, 34] : List UInt8)]⟩ :: L)) :
  Calls Tryz.prog 69 #[pq b] w (fun e w' => ∃ c x y z, e = .returned (.tuple #[]) ∧ Mem S w0 w' (⟨170, 257, obj c, 1, rp z x y⟩ :: ⟨9, 1, z, 2, svals [[34], [92]]⟩ :: ⟨113, 5, (obj b), 1, [.int .u32 d, .int .i32 m, .int .u32 q, (.iface 171 (.pointer (some ⟨c, 0, none⟩))), .slice none 0 0]⟩ :: ⟨9, 1, on, 4, [sS ([92] : List UInt8), sS ([92, 92] : List UInt8), sS ([34] : List UInt8), sS ([92, 34] : List UInt8)]⟩ :: L) ∧ Fz w' (⟨170, 257, obj c, 1, rp z x y⟩ :: ⟨9, 1, z, 2, svals [[34], [92]]⟩ :: ⟨113, 5, (obj b), 1, [.int .u32 d, .int .i32 m, .int .u32 q, (.iface 171 (.pointer (some ⟨c, 0, none⟩))), .slice none 0 0]⟩ :: ⟨9, 1, on, 4, [sS ([92] : List UInt8), sS ([92, 92] : List UInt8), sS ([34] : List UInt8), sS ([92, 34] : List UInt8)]⟩ :: L) x [92, 34] ∧ Fz w' (⟨170, 257, obj c, 1, rp z x y⟩ :: ⟨9, 1, z, 2, svals [[34], [92]]⟩ :: ⟨113, 5, (obj b), 1, [.int .u32 d, .int .i32 m, .int .u32 q, (.iface 171 (.pointer (some ⟨c, 0, none⟩))), .slice none 0 0]⟩ :: ⟨9, 1, on, 4, [sS ([92] : List UInt8), sS ([92, 92] : List UInt8), sS ([34] : List UInt8), sS ([92, 34] : List UInt8)]⟩ :: L) y [92, 92]) := by
 refine xe 10 Tryz.func69 (fun R hR => ?_)
 refine xcg 4 (rbuild_c b on d m q hM) ?_
 rintro _ w5 ⟨c1, x2, y3, z4, rfl, hM6, hF7, hF8⟩
 refine ⟨_, rfl, ?_⟩
 have hM9 := hM6.all
 refine xst 2 (c_store (E := 111) (u := (.iface 171 (.pointer (some ⟨c1, 0, none⟩)))) (by kernel_rfl) hM9 2 rfl (cel_obj b 3) (by decide) rfl rfl) (fun w10 hM12 => ?_)
 refine xst 5 (c_store (E := 64) (u := .slice none 0 0) (by kernel_rfl) hM12 2 rfl (cel_obj b 4) (by decide) rfl rfl) (fun w14 hM16 => ?_)
 exact xr 1 (v := .tuple #[]) Tryz.func69 hR ⟨c1, x2, y3, z4, rfl, (hM6.home hM16), (hF7.go hM16), (hF8.go hM16)⟩

set_option maxHeartbeats 1000000 in
theorem slow_c {S : List Nat} {w0 w : World} {L : List Row} (b : Nat) (on : Value) (q : Int) (hM : Mem S w0 w (⟨113, 5, (obj b), 1, [.int .u32 0, .int .i32 0, .int .u32 q, .nilIface, on]⟩ :: ⟨9, 1, on, 4, [sS ([92] : List UInt8), sS ([92, 92] : List UInt8), sS ([34] : List UInt8), sS ([92, 34] : List UInt8)]⟩ :: L)) :
  Calls Tryz.prog 97 #[pq b, .func (.func 69) #[pq b] #[]] w (fun e w' => ∃ c x y z, e = .returned (.tuple #[]) ∧ Mem S w0 w' (⟨170, 257, obj c, 1, rp z x y⟩ :: ⟨9, 1, z, 2, svals [[34], [92]]⟩ :: ⟨113, 5, (obj b), 1, [.int .u32 1, .int .i32 0, .int .u32 q, (.iface 171 (.pointer (some ⟨c, 0, none⟩))), .slice none 0 0]⟩ :: ⟨9, 1, on, 4, [sS ([92] : List UInt8), sS ([92, 92] : List UInt8), sS ([34] : List UInt8), sS ([92, 34] : List UInt8)]⟩ :: L) ∧ Fz w' (⟨170, 257, obj c, 1, rp z x y⟩ :: ⟨9, 1, z, 2, svals [[34], [92]]⟩ :: ⟨113, 5, (obj b), 1, [.int .u32 1, .int .i32 0, .int .u32 q, (.iface 171 (.pointer (some ⟨c, 0, none⟩))), .slice none 0 0]⟩ :: ⟨9, 1, on, 4, [sS ([92] : List UInt8), sS ([92, 92] : List UInt8), sS ([34] : List UInt8), sS ([92, 34] : List UInt8)]⟩ :: L) x [92, 34] ∧ Fz w' (⟨170, 257, obj c, 1, rp z x y⟩ :: ⟨9, 1, z, 2, svals [[34], [92]]⟩ :: ⟨113, 5, (obj b), 1, [.int .u32 1, .int .i32 0, .int .u32 q, (.iface 171 (.pointer (some ⟨c, 0, none⟩))), .slice none 0 0]⟩ :: ⟨9, 1, on, 4, [sS ([92] : List UInt8), sS ([92, 92] : List UInt8), sS ([34] : List UInt8), sS ([92, 34] : List UInt8)]⟩ :: L) y [92, 92]) := by
 refine xe 21 Tryz.func97 (fun R hR => ?_)
 refine xk 5 ((calls_imp (lock_c ⟨b, 1, none⟩ w ((m_cell hM 0 rfl (by decide)).trans rfl) (m_froz hM 0 rfl 1)) (fun e w2 h_ => (⟨h_.1, h_.2 ▸ m_set hM 0 rfl _⟩ : e = .returned (.tuple #[]) ∧ Mem S w0 w2 (⟨113, 5, (obj b), 1, [.int .u32 0, .int .i32 1, .int .u32 q, .nilIface, on]⟩ :: ⟨9, 1, on, 4, [sS ([92] : List UInt8), sS ([92, 92] : List UInt8), sS ([34] : List UInt8), sS ([92, 34] : List UInt8)]⟩ :: L))))) (fun w1 hM2 => ?_)
 refine xdf 6 (d := { target := .fn (.func 120) #[], args := #[.pointer (some (⟨b, 1, none⟩))] }) ?_
 refine xcg 6 (bload_c ⟨b, 0, none⟩ w1 ((m_cell hM2 0 rfl (by decide)).trans rfl)) ?_
 rintro _ _ ⟨rfl, rfl⟩
 refine ⟨_, rfl, ?_⟩
 refine xdf 8 (d := { target := .fn (.func 121) #[], args := #[pq b, .bool true] }) ?_
 refine xcg 3 (ronce_c b on 0 1 q hM2) ?_
 rintro _ w7 ⟨c3, x4, y5, z6, rfl, hM8, hF9, hF10⟩
 refine ⟨_, rfl, ?_⟩
 have hM11 := hM8.all
 have d1_ := hM11.drewN 1
 have d2_ := m_set (c := 0) d1_ 2 rfl (.int .u32 1)
 have d3_ := m_set (c := 1) d2_ 2 rfl (.int .i32 0)
 exact xrd 1 [] Tryz.func97 (Lv.two (rs := []) (bstore_d ⟨b, 0, none⟩ _ .returning w7 ((m_cell hM11 2 rfl (by decide)).trans rfl) (m_froz hM11 2 rfl 0)) (unlock_d ⟨b, 1, none⟩ .returning _ ((m_cell d2_ 2 rfl (by decide)).trans rfl) (m_froz d2_ 2 rfl 1)) ⟨[], ResC.nil, by rw [hR]; exact ⟨c3, x4, y5, z6, rfl, (hM8.home d3_), (hF9.go d3_), (hF10.go d3_)⟩⟩)

set_option maxHeartbeats 1000000 in
theorem do_c {S : List Nat} {w0 w : World} {L : List Row} (b : Nat) (on : Value) (q : Int) (hM : Mem S w0 w (⟨113, 5, (obj b), 1, [.int .u32 0, .int .i32 0, .int .u32 q, .nilIface, on]⟩ :: ⟨9, 1, on, 4, [sS ([92] : List UInt8), sS ([92, 92] : List UInt8), sS ([34] : List UInt8), sS ([92, 34] : List UInt8)]⟩ :: L)) :
  Calls Tryz.prog 68 #[pq b, .func (.func 69) #[pq b] #[]] w (fun e w' => ∃ c x y z, e = .returned (.tuple #[]) ∧ Mem S w0 w' (⟨170, 257, obj c, 1, rp z x y⟩ :: ⟨9, 1, z, 2, svals [[34], [92]]⟩ :: ⟨113, 5, (obj b), 1, [.int .u32 1, .int .i32 0, .int .u32 q, (.iface 171 (.pointer (some ⟨c, 0, none⟩))), .slice none 0 0]⟩ :: ⟨9, 1, on, 4, [sS ([92] : List UInt8), sS ([92, 92] : List UInt8), sS ([34] : List UInt8), sS ([92, 34] : List UInt8)]⟩ :: L) ∧ Fz w' (⟨170, 257, obj c, 1, rp z x y⟩ :: ⟨9, 1, z, 2, svals [[34], [92]]⟩ :: ⟨113, 5, (obj b), 1, [.int .u32 1, .int .i32 0, .int .u32 q, (.iface 171 (.pointer (some ⟨c, 0, none⟩))), .slice none 0 0]⟩ :: ⟨9, 1, on, 4, [sS ([92] : List UInt8), sS ([92, 92] : List UInt8), sS ([34] : List UInt8), sS ([92, 34] : List UInt8)]⟩ :: L) x [92, 34] ∧ Fz w' (⟨170, 257, obj c, 1, rp z x y⟩ :: ⟨9, 1, z, 2, svals [[34], [92]]⟩ :: ⟨113, 5, (obj b), 1, [.int .u32 1, .int .i32 0, .int .u32 q, (.iface 171 (.pointer (some ⟨c, 0, none⟩))), .slice none 0 0]⟩ :: ⟨9, 1, on, 4, [sS ([92] : List UInt8), sS ([92, 92] : List UInt8), sS ([34] : List UInt8), sS ([92, 34] : List UInt8)]⟩ :: L) y [92, 92]) := by
 refine xe 12 Tryz.func68 (fun R hR => ?_)
 refine xcg 5 (bload_c ⟨b, 0, none⟩ w ((m_cell hM 0 rfl (by decide)).trans rfl)) ?_
 rintro _ _ ⟨rfl, rfl⟩
 refine ⟨_, rfl, ?_⟩
 refine xcg 6 (slow_c b on q hM) ?_
 rintro _ w5 ⟨c1, x2, y3, z4, rfl, hM6, hF7, hF8⟩
 refine ⟨_, rfl, ?_⟩
 have hM9 := hM6.all
 exact xr 1 (v := .tuple #[]) Tryz.func68 hR ⟨c1, x2, y3, z4, rfl, (hM6.home hM9), (hF7.go hM9), (hF8.go hM9)⟩


end Go.Proofs.YthpodbngljfdmaaGreatDoor


namespace Go.SynP
set_option linter.unusedVariables false
open Go Go.Gw Go.UtfP Go.QryP
/-- how long the escaped beginning is -/
def escN (s : List UInt8) (i : Nat) : Nat := ((s.take i).flatMap escP).length
def escW (s : List UInt8) : List UInt8 := s.flatMap escP
theorem take_snoc {s : List UInt8} {i : Nat} (h : i < s.length) : s.take (i + 1) = s.take i ++ [s.getD i 0] := by
  rw [List.take_succ_eq_append_getElem h, List.getD_eq_getElem?_getD, List.getElem?_eq_getElem h]; rfl
theorem esc_of (c : UInt8) : escP c = if (c.toNat : Int) = 34 ∨ (c.toNat : Int) = 92 then [92, c] else [c] := by
  unfold escP
  by_cases h1 : c = 92
  · subst h1; rfl
  · by_cases h2 : c = 34
    · subst h2; rfl
    · have n1 : ¬ c.toNat = 92 := fun g => h1 (UInt8.toNat_inj.1 g)
      have n2 : ¬ c.toNat = 34 := fun g => h2 (UInt8.toNat_inj.1 g)
      rw [if_neg h1, if_neg h2, if_neg (by omega)]
section
variable {s : List UInt8} {i : Nat}
theorem esc_go (h : i < s.length) : (s.take (i + 1)).flatMap escP = (s.take i).flatMap escP ++ escP (s.getD i 0) := by
  rw [take_snoc h, List.flatMap_append, List.flatMap_singleton]
theorem escN_zero (s : List UInt8) : escN s 0 = 0 := rfl
theorem escN_two (h : i < s.length) (hc : bl s i = 34 ∨ bl s i = 92) : escN s (i + 1) = escN s i + 2 := by
  unfold escN; rw [esc_go h, List.length_append, esc_of, if_pos (by unfold bl at hc; exact hc)]; rfl
theorem escN_one (h : i < s.length) (hc : ¬ bl s i = 34) (hd : ¬ bl s i = 92) : escN s (i + 1) = escN s i + 1 := by
  unfold escN; rw [esc_go h, List.length_append, esc_of, if_neg (by unfold bl at hc hd; omega)]; rfl
theorem escN_all (h : ¬ i < s.length) : escN s i = (escW s).length := by unfold escN escW; rw [List.take_of_length_le (by omega)]
theorem escN_le (s : List UInt8) : ∀ (i : Nat), escN s i ≤ (escW s).length := by
  intro i
  unfold escN escW
  have := congrArg (fun l : List UInt8 => (l.flatMap escP).length) (List.take_append_drop i s)
  simp only [List.flatMap_append, List.length_append] at this
  omega
theorem esc_bd : ∀ (s : List UInt8), s.length ≤ (escW s).length ∧ (escW s).length ≤ 2 * s.length
  | [] => ⟨Nat.le_refl _, Nat.le_refl _⟩
  | c :: s => by
    have ih := esc_bd s
    unfold escW at ih ⊢
    rw [List.flatMap_cons, List.length_append, List.length_cons]
    have : 1 ≤ (escP c).length ∧ (escP c).length ≤ 2 := by rw [esc_of]; split <;> simp
    omega
theorem escN_ge (s : List UInt8) (i : Nat) (h : i ≤ s.length) : i ≤ escN s i := by
  have := (esc_bd (s.take i)).1
  rw [List.length_take, Nat.min_eq_left h] at this; exact this
theorem esc_count : ∀ (s : List UInt8), (escW s).length = s.length + s.count 34 + s.count 92
  | [] => rfl
  | c :: s => by
    have ih := esc_count s
    unfold escW at ih ⊢
    rw [List.flatMap_cons, List.length_append, List.length_cons, List.count_cons, List.count_cons, ih]
    unfold escP
    by_cases h1 : c = 92
    · subst h1; simp; omega
    · by_cases h2 : c = 34
      · subst h2; simp; omega
      · simp [h1, h2]; omega
theorem esc_same : ∀ (s : List UInt8), (escW s).length ≤ s.length → escW s = s
  | [], _ => rfl
  | c :: s, h => by
    have h1 := (esc_bd s).1
    have ih := esc_same s
    unfold escW at *
    rw [List.flatMap_cons, List.length_append, List.length_cons] at h
    rw [List.flatMap_cons]
    have h2 : escP c = [c] := by
      rw [esc_of] at h ⊢
      split
      · rename_i g; rw [if_pos g] at h; simp only [List.length_cons, List.length_nil] at h; omega
      · rfl
    rw [h2] at h ⊢
    rw [ih (by simp only [List.length_cons, List.length_nil] at h; omega)]; rfl
/-- the buffer's beginning -/
theorem buf_one {l : List Int} (h : i < s.length) (hc : ¬ bl s i = 34) (hd : ¬ bl s i = 92) (hl : l.take (escN s i) = numsOf ((s.take i).flatMap escP)) (hn : escN s i < l.length) : (l.set (escN s i) (bl s i)).take (escN s (i + 1)) = numsOf ((s.take (i + 1)).flatMap escP) := by
  rw [escN_one h hc hd, esc_go h, esc_of, if_neg (by unfold bl at hc hd; omega)]
  rw [List.take_succ_eq_append_getElem (by rw [List.length_set]; exact hn), List.take_set_of_le (Nat.le_refl _), hl, List.getElem_set_self]
  unfold numsOf bl; simp
theorem buf_two {l : List Int} (h : i < s.length) (hc : bl s i = 34 ∨ bl s i = 92) (hl : l.take (escN s i) = numsOf ((s.take i).flatMap escP)) (hn : escN s i ≤ l.length) : (l.take (escN s i) ++ [92, bl s i] ++ l.drop (escN s i + 2)).take (escN s (i + 1)) = numsOf ((s.take (i + 1)).flatMap escP) := by
  rw [escN_two h hc, esc_go h, esc_of, if_pos (by unfold bl at hc; exact hc)]
  rw [List.take_append_of_le_length (by rw [List.length_append, List.length_take]; simp only [List.length_cons, List.length_nil]; omega), List.take_of_length_le (by rw [List.length_append, List.length_take]; simp only [List.length_cons, List.length_nil]; omega), hl]
  unfold numsOf bl; simp
theorem buf_all {l : List Int} (h : ¬ i < s.length) (hl : l.take (escN s i) = numsOf ((s.take i).flatMap escP)) (hn : l.length = (escW s).length) : l = numsOf (escW s) := by
  rw [escN_all h, List.take_of_length_le (by omega), List.take_of_length_le (by omega)] at hl; exact hl
theorem splice_i {l : List Int} {j : Nat} {ys : List Int} {k : IntKind} : splice (ivals k l) j (ivals k ys) = ivals k (l.take j ++ ys ++ l.drop (j + ys.length)) := by
  unfold splice ivals; simp [List.map_take, List.map_drop]
end
end Go.SynP


namespace Go.Proofs.YthpodbngljfdmaaGreatDoor
open Go Go.Gw Go.UtfP Go.TokP Go.QryP Go.SynP Go.RealQ Go.SynV Go.RowKit
set_option linter.unusedVariables false
set_option linter.unusedSimpArgs false
set_option maxRecDepth 20000

abbrev uRepC0 : List Nat := [1,1,1,1,0,0]
abbrev uRepC1 : List Nat := [1,1,1,1,0,1]
abbrev uRepC2 : List Nat := [1,1,1,1,1,1,1,0,1,0,0]
set_option maxHeartbeats 2000000 in
theorem rrep_L (s : List UInt8) (hs : s.length ≤ 17592186044416) (c : Nat) (z : Value) (ax ay : Addr) (n1 m1 n2 m2 : Nat) {w : World} (hc : Rd w 257 (obj c) 1 (rp z (.slice (some ax) n1 m1) (.slice (some ay) n2 m2))) (hz : Rd w 1 z 2 [sS ([34] : List UInt8), sS ([92] : List UInt8)]) (hx : Rd w 1 (.slice (some ax) n1 m1) 2 (ivals .u8 [92, 34])) (hy : Rd w 1 (.slice (some ay) n2 m2) 2 (ivals .u8 [92, 92])) (v : Value)  (R : Ending → World → Prop) (hR : R = (fun e w' => e = .returned (sS (escW s)) ∧ Mem [] w w' [])) : ∀ (N : Nat) (i : Nat) (l : List Int) (w1 : World) (hi : i ≤ s.length) (hl : l.length = (escW s).length) (ht : l.take (escN s i) = numsOf ((s.take i).flatMap escP)) (hM : Mem [] w w1 [⟨5, 1, v, (List.length (escW s)), (ivals .u8 l)⟩]) (hN : s.length - i < N), GoS Tryz.prog 222 R 122 [iC Tryz.f222 uRepC2, iL Tryz.f222 uRepC2, .inBlock 4, iC Tryz.f222 [1,1,1,1,1,1,1,1]] [(0, pq c), (1, sS s), (12, v), (13, iN (escN s i)), (14, iN i)] w1 := by
 intro N
 induction N with
 | zero => intro i l w1 hi hl ht hM hN; exact absurd hN (Nat.not_lt_zero _)
 | succ N ih =>
  intro i l w1 hi hl ht hM hN
  have hbd_ := esc_bd s
  have hle0_ := escN_le s i
  refine xs ?_
  refine xn 5 s ?_
  refine xc 2 (((i : Nat) : Int) < ((s.length : Nat) : Int)) (fun h2p => ?_) (fun h2p => ?_)
  ·
   have hb5 := bl_bd s i
   refine xi 7 s ((i : Nat) : Int) i ?_
   refine xl 3 (k := [iC Tryz.f222 [1,1,1,1,1,1,1,0,1,0,0,1,0,0,1,0], iC Tryz.f222 [1,1,1,1,1,1,1,0,1,0,0,1,0,0,1,1], .inBlock 5, iC Tryz.f222 [1,1,1,1,1,1,1,0,1,0,0,1,1], iL Tryz.f222 uRepC2, .inBlock 4, iC Tryz.f222 [1,1,1,1,1,1,1,1]]) (l := [(0, pq c), (1, sS s), (12, v), (13, iN (escN s i)), (14, iN i), (15, .int .u8 (bl s i))]) ?_
   skip
   by_cases hq34_ : bl s i = 34
   ·
    rw [hq34_]
    have he_ := escN_two (s := s) (i := i) (by omega) (by omega)
    have hle_ := escN_le s (i + 1)
    have hg_ := escN_ge s i (by omega)
    refine xs ?_
    refine xv 5 (show (Instr.indexAt 168 (pq c) (.int .u8 34)).run Tryz.prog w1 = .ok (.pointer (some (Addr.add (⟨c, 0, none⟩) (34 * 1)))) w1 from f_arrAt (n := 256) (m := 1) Tryz.underlying168 (fun W => by kernel_rfl) 34 (by omega) (by first | omega | (dsimp only; omega)) _ _ _) ?_
    refine xv 0 (c_load pE76 (hc.kept0 hM.kept) (Cel.cast (d := 34) (Cel.add (cel_obj c 0) (34 * 1)) (by omega)) (rp_34 _ _ _)) ?_
    refine xh 3 [] hM (sD sR) (fun w9 hM10 hS11 => ?_)
    refine yv [0,1,2,4,5,6,7] 8 (fun W_ hW_ => (show (Instr.indexAt 168 (pq c) (.int .u8 34)).run Tryz.prog W_ = .ok (.pointer (some (Addr.add (⟨c, 0, none⟩) (34 * 1)))) W_ from f_arrAt (n := 256) (m := 1) Tryz.underlying168 (fun W => by kernel_rfl) 34 (by omega) (by first | omega | (dsimp only; omega)) _ _ _)) hS11 ?_
    refine yla [] 9 hS11 pE76 hc kp0 (Cel.cast (d := 34) (Cel.add (cel_obj c 0) (34 * 1)) (by omega)) (rp_34 _ _ _) ?_
    have hS13 := hM10.sub (sD sR)
    refine yg [] 3 ((subv v (escN s i))) (w1 := w9) (show (Instr.sliceAt 76 (v) (some (iN (escN s i))) none none).run Tryz.prog w9 = .ok (subv v (escN s i)) w9 from f_subv sT76 (hM10.get 0 rfl) (escN s i) rfl (by show (escN s i) < List.length (escW s); omega) _ _) hS11 (.inr hS13) ?_
    obtain ⟨w14, hr15, hM16⟩ := m_copy sT76 hM10 0 rfl (hx.kept0 hM10.kept) (ivals_one _ _) (escN s i) (by omega) (by decide) 76 3
    have hM17 : Mem [] w w14 [⟨5, 1, v, (List.length (escW s)), (ivals .u8 (List.take (escN s i) l ++ ([92, 34] : List Int) ++ List.drop ((escN s i) + 2) l))⟩] := hM16.cast (by show List.set _ _ _ = _; rw [splice_i]; rfl)
    have hS18 := hM17.sub (sD sR)
    refine yg [] 10 (.int .i64 2) (w1 := w14) (show (Builtin.copy_ #[76, 76] 3 #[(subv v (escN s i)), (.slice (some ax) n1 m1)]).run Tryz.prog w9 = .ok (.int .i64 2) w14 from hr15) hS13 (.inr hS18) ?_
    refine yv [] 11 (fun W_ hW_ => (show (binOp .add 3 (iN (escN s i)) (.int .i64 2)).run Tryz.prog W_ = .ok (iN ((escN s i) + 2)) W_ from f_add (by rw [show (((escN s i) : Nat) : Int) + 2 = ((((escN s i) + 2) : Nat) : Int) by omega]; exact IntWalk.i64_in _ (by omega)))) hS18 ?_
    refine ydp [12] hS18 ?_
    refine xadd 3 .i64 ((i : Nat) : Int) 1 (((i + 1) : Nat) : Int) (by rw [show ((i : Nat) : Int) + 1 = (((i + 1) : Nat) : Int) by omega]; exact IntWalk.i64_in _ (by omega)) ?_
    have hb_ := buf_two (s := s) (i := i) (l := l) (by omega) (by omega) ht (by omega)
    rw [hq34_] at hb_
    rw [← he_]
    exact xl 3 (ih (i + 1) _ _ (by omega) (by simp; omega) hb_ (hM17.sub (sK sN)) (by omega))
   by_cases hq92_ : bl s i = 92
   ·
    rw [hq92_]
    have he_ := escN_two (s := s) (i := i) (by omega) (by omega)
    have hle_ := escN_le s (i + 1)
    have hg_ := escN_ge s i (by omega)
    refine xs ?_
    refine xv 5 (show (Instr.indexAt 168 (pq c) (.int .u8 92)).run Tryz.prog w1 = .ok (.pointer (some (Addr.add (⟨c, 0, none⟩) (92 * 1)))) w1 from f_arrAt (n := 256) (m := 1) Tryz.underlying168 (fun W => by kernel_rfl) 92 (by omega) (by first | omega | (dsimp only; omega)) _ _ _) ?_
    refine xv 0 (c_load pE76 (hc.kept0 hM.kept) (Cel.cast (d := 92) (Cel.add (cel_obj c 0) (92 * 1)) (by omega)) (rp_92 _ _ _)) ?_
    refine xh 3 [] hM (sD sR) (fun w22 hM23 hS24 => ?_)
    refine yv [0,1,2,4,5,6,7] 8 (fun W_ hW_ => (show (Instr.indexAt 168 (pq c) (.int .u8 92)).run Tryz.prog W_ = .ok (.pointer (some (Addr.add (⟨c, 0, none⟩) (92 * 1)))) W_ from f_arrAt (n := 256) (m := 1) Tryz.underlying168 (fun W => by kernel_rfl) 92 (by omega) (by first | omega | (dsimp only; omega)) _ _ _)) hS24 ?_
    refine yla [] 9 hS24 pE76 hc kp0 (Cel.cast (d := 92) (Cel.add (cel_obj c 0) (92 * 1)) (by omega)) (rp_92 _ _ _) ?_
    have hS26 := hM23.sub (sD sR)
    refine yg [] 3 ((subv v (escN s i))) (w1 := w22) (show (Instr.sliceAt 76 (v) (some (iN (escN s i))) none none).run Tryz.prog w22 = .ok (subv v (escN s i)) w22 from f_subv sT76 (hM23.get 0 rfl) (escN s i) rfl (by show (escN s i) < List.length (escW s); omega) _ _) hS24 (.inr hS26) ?_
    obtain ⟨w27, hr28, hM29⟩ := m_copy sT76 hM23 0 rfl (hy.kept0 hM23.kept) (ivals_one _ _) (escN s i) (by omega) (by decide) 76 3
    have hM30 : Mem [] w w27 [⟨5, 1, v, (List.length (escW s)), (ivals .u8 (List.take (escN s i) l ++ ([92, 92] : List Int) ++ List.drop ((escN s i) + 2) l))⟩] := hM29.cast (by show List.set _ _ _ = _; rw [splice_i]; rfl)
    have hS31 := hM30.sub (sD sR)
    refine yg [] 10 (.int .i64 2) (w1 := w27) (show (Builtin.copy_ #[76, 76] 3 #[(subv v (escN s i)), (.slice (some ay) n2 m2)]).run Tryz.prog w22 = .ok (.int .i64 2) w27 from hr28) hS26 (.inr hS31) ?_
    refine yv [] 11 (fun W_ hW_ => (show (binOp .add 3 (iN (escN s i)) (.int .i64 2)).run Tryz.prog W_ = .ok (iN ((escN s i) + 2)) W_ from f_add (by rw [show (((escN s i) : Nat) : Int) + 2 = ((((escN s i) + 2) : Nat) : Int) by omega]; exact IntWalk.i64_in _ (by omega)))) hS31 ?_
    refine ydp [12] hS31 ?_
    refine xadd 3 .i64 ((i : Nat) : Int) 1 (((i + 1) : Nat) : Int) (by rw [show ((i : Nat) : Int) + 1 = (((i + 1) : Nat) : Int) by omega]; exact IntWalk.i64_in _ (by omega)) ?_
    have hb_ := buf_two (s := s) (i := i) (l := l) (by omega) (by omega) ht (by omega)
    rw [hq92_] at hb_
    rw [← he_]
    exact xl 3 (ih (i + 1) _ _ (by omega) (by simp; omega) hb_ (hM30.sub (sK sN)) (by omega))
   have he_ := escN_one (s := s) (i := i) (by omega) (by omega) (by omega)
   have hle_ := escN_le s (i + 1)
   have hg_ := escN_ge s i (by omega)
   refine xs ?_
   refine xv 5 (show (Instr.indexAt 168 (pq c) (.int .u8 (bl s i))).run Tryz.prog w1 = .ok (.pointer (some (Addr.add (⟨c, 0, none⟩) ((Int.toNat (bl s i)) * 1)))) w1 from f_arrAt (n := 256) (m := 1) Tryz.underlying168 (fun W => by kernel_rfl) (Int.toNat (bl s i)) (by omega) (by first | omega | (dsimp only; omega)) _ _ _) ?_
   refine xv 0 (c_load pE76 (hc.kept0 hM.kept) (Cel.cast (d := (Int.toNat (bl s i))) (Cel.add (cel_obj c 0) ((Int.toNat (bl s i)) * 1)) (by omega)) (rp_no _ _ _ (by omega) (by omega) (by omega))) ?_
   refine xat 8 sT76 (hM.rd 0 rfl) (((escN s i) : Nat) : Int) (escN s i) (fun p33 hp34 => ?_)
   refine xst 0 (at_store (u := .int .u8 (bl s i)) (by kernel_rfl) hM 0 rfl hp34 (by first | omega | (dsimp only; omega)) rfl rfl) (fun w36 hM38 => ?_)
   have hM39 : Mem [] w w36 [⟨5, 1, v, (List.length (escW s)), (ivals .u8 (List.set l (escN s i) (bl s i)))⟩] := hM38.cast (by simp [ivals, svals, bvals, nvals, u8s, List.map_set])
   refine xadd 3 .i64 (((escN s i) : Nat) : Int) 1 ((((escN s i) + 1) : Nat) : Int) (by rw [show (((escN s i) : Nat) : Int) + 1 = ((((escN s i) + 1) : Nat) : Int) by omega]; exact IntWalk.i64_in _ (by omega)) ?_
   refine xadd 5 .i64 ((i : Nat) : Int) 1 (((i + 1) : Nat) : Int) (by rw [show ((i : Nat) : Int) + 1 = (((i + 1) : Nat) : Int) by omega]; exact IntWalk.i64_in _ (by omega)) ?_
   have hb_ := buf_one (s := s) (i := i) (l := l) (by omega) (by omega) (by omega) ht (by omega)
   rw [← he_]
   exact xl 3 (ih (i + 1) _ _ (by omega) (by simp; omega) hb_ (hM39.sub (sK sN)) (by omega))
  ·
   refine xv 4 (show (convert 76 9 (v)).run Tryz.prog w1 = .ok (sS (bytesOf l)) w1 from f_string_i sT76 (by kernel_rfl) (by kernel_rfl) (hM.rd 0 rfl) (by rw [buf_all (by omega) ht hl]; exact numsOf_bd _)) ?_
   have hM4 := hM.sub (sD sR)
   exact xr 2 (v := sS (bytesOf l)) Tryz.func222 hR ⟨by rw [buf_all (by omega) ht hl, numsOf_bytes], hM4.none⟩

set_option maxHeartbeats 2000000 in
theorem rrep_M (s : List UInt8) (hs : s.length ≤ 17592186044416) (c : Nat) (z : Value) (ax ay : Addr) (n1 m1 n2 m2 : Nat) {w : World} (hc : Rd w 257 (obj c) 1 (rp z (.slice (some ax) n1 m1) (.slice (some ay) n2 m2))) (hz : Rd w 1 z 2 [sS ([34] : List UInt8), sS ([92] : List UInt8)]) (hx : Rd w 1 (.slice (some ax) n1 m1) 2 (ivals .u8 [92, 34])) (hy : Rd w 1 (.slice (some ay) n2 m2) 2 (ivals .u8 [92, 92])) (R : Ending → World → Prop) (hR : R = (fun e w' => e = .returned (sS (escW s)) ∧ Mem [] w w' [])) (any : Bool) (hany : any = decide (s.length < (escW s).length)) (w1 : World) (hM : Mem [] w w1 []) : GoS Tryz.prog 222 R 122 [iC Tryz.f222 uRepC0, iC Tryz.f222 uRepC1, iC Tryz.f222 [1,1,1,1,1]] [(0, pq c), (1, sS s), (5, iN (List.length (escW s))), (6, .bool any)] w1 := by
 have hbd_ := esc_bd s
 refine xs ?_
 refine xb 4 (!any) (fun h1 => ?_) (fun h1 => ?_)
 ·
  exact xr 5 (v := sS s) Tryz.func222 hR ⟨by rw [esc_same s (by simpa [hany] using h1)], hM.none⟩
 ·
  refine xx 4 (m_make (x := (((List.length (escW s)) : Nat) : Int)) (y := (((List.length (escW s)) : Nat) : Int)) sT76 rfl hM (List.length (escW s)) (by omega) (by omega) (by omega) (by omega) .i64 .i64) (fun v2 w3 hM5 => ?_)
  have hM6 : Mem [] w w3 [⟨5, 1, v2, (List.length (escW s)), (ivals .u8 (List.replicate (List.length (escW s)) 0))⟩] := hM5.cast (by simp [ivals, svals, bvals])
  exact xl 13 (rrep_L s hs c z ax ay n1 m1 n2 m2 hc hz hx hy v2 R hR (s.length + 1) 0 (List.replicate (List.length (escW s)) 0) _ (by omega) (by simp) rfl (hM6.sub (sK sN)) (by omega))

set_option maxHeartbeats 2000000 in
theorem rrep_S (s : List UInt8) (hs : s.length ≤ 17592186044416) (c : Nat) (z : Value) (ax ay : Addr) (n1 m1 n2 m2 : Nat) {w : World} (hc : Rd w 257 (obj c) 1 (rp z (.slice (some ax) n1 m1) (.slice (some ay) n2 m2))) (hz : Rd w 1 z 2 [sS ([34] : List UInt8), sS ([92] : List UInt8)]) (hx : Rd w 1 (.slice (some ax) n1 m1) 2 (ivals .u8 [92, 34])) (hy : Rd w 1 (.slice (some ay) n2 m2) 2 (ivals .u8 [92, 92]))  (R : Ending → World → Prop) (hR : R = (fun e w' => e = .returned (sS (escW s)) ∧ Mem [] w w' [])) : ∀ (N : Nat) (i m : Nat) (any : Bool) (hi : i ≤ s.length) (hm : m + i = s.length + escN s i) (hany : any = decide (i < escN s i)) (hN : s.length - i < N), GoS Tryz.prog 222 R 122 [iC Tryz.f222 [1,1,1,0,1,1,1,0,0], iL Tryz.f222 [1,1,1,0,1,1,1,0,0], .inBlock 2, iC Tryz.f222 [1,1,1,1]] [(0, pq c), (1, sS s), (5, iN m), (6, .bool any), (10, iN i)] w := by
 intro N
 induction N with
 | zero => intro i m any hi hm hany hN; exact absurd hN (Nat.not_lt_zero _)
 | succ N ih =>
  intro i m any hi hm hany hN
  have hbd_ := esc_bd s
  have hM0 := Mem.start w
  refine xs ?_
  refine xn 5 s ?_
  refine xc 2 (((i : Nat) : Int) < ((s.length : Nat) : Int)) (fun h2p => ?_) (fun h2p => ?_)
  ·
   have hb3 := bl_bd s i
   refine xi 7 s ((i : Nat) : Int) i ?_
   refine xl 3 (k := [iC Tryz.f222 [1,1,1,0,1,1,1,0,0,1,0,0,1,0], iC Tryz.f222 [1,1,1,0,1,1,1,0,0,1,0,0,1,1], .inBlock 3, iC Tryz.f222 [1,1,1,0,1,1,1,0,0,1,1], iL Tryz.f222 [1,1,1,0,1,1,1,0,0], .inBlock 2, iC Tryz.f222 [1,1,1,1]]) (l := [(0, pq c), (1, sS s), (5, iN m), (6, .bool any), (10, iN i), (11, .int .u8 (bl s i))]) ?_
   skip
   by_cases hq34_ : bl s i = 34
   ·
    rw [hq34_]
    have he_ := escN_two (s := s) (i := i) (by omega) (by omega)
    have hle_ := escN_le s (i + 1)
    have hg_ := escN_ge s i (by omega)
    refine xs ?_
    refine xv 5 (show (Instr.indexAt 168 (pq c) (.int .u8 34)).run Tryz.prog w = .ok (.pointer (some (Addr.add (⟨c, 0, none⟩) (34 * 1)))) w from f_arrAt (n := 256) (m := 1) Tryz.underlying168 (fun W => by kernel_rfl) 34 (by omega) (by first | omega | (dsimp only; omega)) _ _ _) ?_
    refine xv 0 (c_load pE76 (hc.kept0 hM0.kept) (Cel.cast (d := 34) (Cel.add (cel_obj c 0) (34 * 1)) (by omega)) (rp_34 _ _ _)) ?_
    refine xv 10 (show (Instr.indexAt 168 (pq c) (.int .u8 34)).run Tryz.prog w = .ok (.pointer (some (Addr.add (⟨c, 0, none⟩) (34 * 1)))) w from f_arrAt (n := 256) (m := 1) Tryz.underlying168 (fun W => by kernel_rfl) 34 (by omega) (by first | omega | (dsimp only; omega)) _ _ _) ?_
    refine xv 0 (c_load pE76 (hc.kept0 hM0.kept) (Cel.cast (d := 34) (Cel.add (cel_obj c 0) (34 * 1)) (by omega)) (rp_34 _ _ _)) ?_
    refine xv 0 (f_slen sT76 hx 3 w) ?_
    refine xv 0 (show (binOp .sub 3 (.int .i64 2) (.int .i64 1)).run Tryz.prog w = .ok (.int .i64 1) w from (by kernel_rfl)) ?_
    refine xadd 0 .i64 ((m : Nat) : Int) 1 (((m + 1) : Nat) : Int) (by rw [show ((m : Nat) : Int) + 1 = (((m + 1) : Nat) : Int) by omega]; exact IntWalk.i64_in _ (by omega)) ?_
    refine xadd 8 .i64 ((i : Nat) : Int) 1 (((i + 1) : Nat) : Int) (by rw [show ((i : Nat) : Int) + 1 = (((i + 1) : Nat) : Int) by omega]; exact IntWalk.i64_in _ (by omega)) ?_
    exact xl 3 (ih (i + 1) (m + 1) true (by omega) (by omega) (by rw [decide_eq_true (by omega)]) (by omega))
   by_cases hq92_ : bl s i = 92
   ·
    rw [hq92_]
    have he_ := escN_two (s := s) (i := i) (by omega) (by omega)
    have hle_ := escN_le s (i + 1)
    have hg_ := escN_ge s i (by omega)
    refine xs ?_
    refine xv 5 (show (Instr.indexAt 168 (pq c) (.int .u8 92)).run Tryz.prog w = .ok (.pointer (some (Addr.add (⟨c, 0, none⟩) (92 * 1)))) w from f_arrAt (n := 256) (m := 1) Tryz.underlying168 (fun W => by kernel_rfl) 92 (by omega) (by first | omega | (dsimp only; omega)) _ _ _) ?_
    refine xv 0 (c_load pE76 (hc.kept0 hM0.kept) (Cel.cast (d := 92) (Cel.add (cel_obj c 0) (92 * 1)) (by omega)) (rp_92 _ _ _)) ?_
    refine xv 10 (show (Instr.indexAt 168 (pq c) (.int .u8 92)).run Tryz.prog w = .ok (.pointer (some (Addr.add (⟨c, 0, none⟩) (92 * 1)))) w from f_arrAt (n := 256) (m := 1) Tryz.underlying168 (fun W => by kernel_rfl) 92 (by omega) (by first | omega | (dsimp only; omega)) _ _ _) ?_
    refine xv 0 (c_load pE76 (hc.kept0 hM0.kept) (Cel.cast (d := 92) (Cel.add (cel_obj c 0) (92 * 1)) (by omega)) (rp_92 _ _ _)) ?_
    refine xv 0 (f_slen sT76 hy 3 w) ?_
    refine xv 0 (show (binOp .sub 3 (.int .i64 2) (.int .i64 1)).run Tryz.prog w = .ok (.int .i64 1) w from (by kernel_rfl)) ?_
    refine xadd 0 .i64 ((m : Nat) : Int) 1 (((m + 1) : Nat) : Int) (by rw [show ((m : Nat) : Int) + 1 = (((m + 1) : Nat) : Int) by omega]; exact IntWalk.i64_in _ (by omega)) ?_
    refine xadd 8 .i64 ((i : Nat) : Int) 1 (((i + 1) : Nat) : Int) (by rw [show ((i : Nat) : Int) + 1 = (((i + 1) : Nat) : Int) by omega]; exact IntWalk.i64_in _ (by omega)) ?_
    exact xl 3 (ih (i + 1) (m + 1) true (by omega) (by omega) (by rw [decide_eq_true (by omega)]) (by omega))
   have he_ := escN_one (s := s) (i := i) (by omega) (by omega) (by omega)
   have hle_ := escN_le s (i + 1)
   have hg_ := escN_ge s i (by omega)
   refine xs ?_
   refine xv 5 (show (Instr.indexAt 168 (pq c) (.int .u8 (bl s i))).run Tryz.prog w = .ok (.pointer (some (Addr.add (⟨c, 0, none⟩) ((Int.toNat (bl s i)) * 1)))) w from f_arrAt (n := 256) (m := 1) Tryz.underlying168 (fun W => by kernel_rfl) (Int.toNat (bl s i)) (by omega) (by first | omega | (dsimp only; omega)) _ _ _) ?_
   refine xv 0 (c_load pE76 (hc.kept0 hM0.kept) (Cel.cast (d := (Int.toNat (bl s i))) (Cel.add (cel_obj c 0) ((Int.toNat (bl s i)) * 1)) (by omega)) (rp_no _ _ _ (by omega) (by omega) (by omega))) ?_
   refine xadd 7 .i64 ((i : Nat) : Int) 1 (((i + 1) : Nat) : Int) (by rw [show ((i : Nat) : Int) + 1 = (((i + 1) : Nat) : Int) by omega]; exact IntWalk.i64_in _ (by omega)) ?_
   exact xl 3 (ih (i + 1) m any (by omega) (by omega) (by rw [hany]; apply decide_eq_decide.2; omega) (by omega))
  ·
   refine xl 3 (k := [iC Tryz.f222 uRepC0, iC Tryz.f222 uRepC1, iC Tryz.f222 [1,1,1,1,1]]) (l := [(0, pq c), (1, sS s), (5, iN m), (6, .bool any)]) ?_
   skip
   have hec_ := esc_count s
   have hel_ := escN_all (s := s) (i := i) (by omega)
   obtain rfl : m = (escW s).length := by omega
   exact rrep_M s hs c z ax ay n1 m1 n2 m2 hc hz hx hy R hR any (by rw [hany]; apply decide_eq_decide.2; omega) w hM0.none

set_option maxHeartbeats 2000000 in
theorem rrep_c (s : List UInt8) (hs : s.length ≤ 17592186044416) (c : Nat) (z : Value) (ax ay : Addr) (n1 m1 n2 m2 : Nat) {w : World} (hc : Rd w 257 (obj c) 1 (rp z (.slice (some ax) n1 m1) (.slice (some ay) n2 m2))) (hz : Rd w 1 z 2 [sS ([34] : List UInt8), sS ([92] : List UInt8)]) (hx : Rd w 1 (.slice (some ax) n1 m1) 2 (ivals .u8 [92, 34])) (hy : Rd w 1 (.slice (some ay) n2 m2) 2 (ivals .u8 [92, 92]))  :
  Calls Tryz.prog 222 #[pq c, sS s] w (fun e w' => e = .returned (sS (escW s)) ∧ Mem [] w w' []) := by
 refine xe 122 Tryz.func222 (fun R hR => ?_)
 have hM0 := Mem.start w
 refine xn 7 s ?_
 refine xv 12 (c_load pE64 (hc.kept0 hM0.kept) (cel_obj c 256) (rp_end _ _ _)) ?_
 refine xv 0 (f_slen sT64 (hz.kept0 hM0.kept) 3 w) ?_
 refine xv 0 (show (binOp .mul 3 (.int .i64 2) (.int .i64 8)).run Tryz.prog w = .ok (.int .i64 16) w from (by kernel_rfl)) ?_
 refine xn 1 s ?_
 refine xc 2 (16 ≤ ((s.length : Nat) : Int)) (fun h6p => ?_) (fun h6p => ?_)
 ·
  refine xv 5 (c_load pE64 (hc.kept0 hM0.kept) (cel_obj c 256) (rp_end _ _ _)) ?_
  refine xv 0 (f_slen sT64 (hz.kept0 hM0.kept) 3 w) ?_
  refine xat 15 sT64 (hz.kept0 hM0.kept) 0 0 (fun p7 hp8 => ?_)
  refine xv 0 (at_load pE9 (hz.kept0 hM0.kept) hp8 rfl) ?_
  have hct14 : List.count 34 s ≤ s.length := List.count_le_length
  refine xcg 6 (count_c s 34 w) ?_
  rintro _ _ ⟨rfl, rfl⟩
  refine ⟨_, rfl, ?_⟩
  refine xcn 7 ((((List.count 34 s) : Nat) : Int) = 0) (fun h15p => ?_) (fun h15p => ?_)
  ·
   refine xh 1 [] hM0 sR (fun w16 hM17 hS18 => ?_)
   refine yv [0,1,2,3,4,5,6] 7 (fun W_ hW_ => (show (Instr.indexAt 168 (pq c) (.int .u8 34)).run Tryz.prog W_ = .ok (.pointer (some (Addr.add (⟨c, 0, none⟩) (34 * 1)))) W_ from f_arrAt (n := 256) (m := 1) Tryz.underlying168 (fun W => by kernel_rfl) 34 (by omega) (by first | omega | (dsimp only; omega)) _ _ _)) hS18 ?_
   refine yla [] 8 hS18 pE76 hc kp0 (Cel.cast (d := 34) (Cel.add (cel_obj c 0) (34 * 1)) (by omega)) (rp_34 _ _ _) ?_
   refine yv [] 9 (fun W_ hW_ => (show (Builtin.len_ #[76] 3 #[(.slice (some ax) n1 m1)]).run Tryz.prog W_ = .ok (.int .i64 2) W_ from f_slen sT76 hx 3 W_)) hS18 ?_
   refine yv [] 10 (fun W_ hW_ => (show (binOp .sub 3 (.int .i64 2) (.int .i64 1)).run Tryz.prog W_ = .ok (.int .i64 1) W_ from (by kernel_rfl))) hS18 ?_
   refine yv [] 11 (fun W_ hW_ => (show (binOp .mul 3 (iN (List.count 34 s)) (.int .i64 1)).run Tryz.prog W_ = .ok (iN (List.count 34 s)) W_ from f_mul (by rw [show (((List.count 34 s) : Nat) : Int) * 1 = (((List.count 34 s) : Nat) : Int) by omega]; exact IntWalk.i64_in _ (by omega)))) hS18 ?_
   refine yv [] 12 (fun W_ hW_ => (show (binOp .add 3 (iN s.length) (iN (List.count 34 s))).run Tryz.prog W_ = .ok (iN (s.length + (List.count 34 s))) W_ from f_add (by rw [show ((s.length : Nat) : Int) + (((List.count 34 s) : Nat) : Int) = (((s.length + (List.count 34 s)) : Nat) : Int) by omega]; exact IntWalk.i64_in _ (by omega)))) hS18 ?_
   refine ydp [13] hS18 ?_
   refine xat 20 sT64 (hz.kept0 hM17.kept) 1 1 (fun p20 hp21 => ?_)
   refine xv 0 (at_load pE9 (hz.kept0 hM17.kept) hp21 rfl) ?_
   have hct25 : List.count 92 s ≤ s.length := List.count_le_length
   refine xcg 6 (count_c s 92 w16) ?_
   rintro _ _ ⟨rfl, rfl⟩
   refine ⟨_, rfl, ?_⟩
   refine xcn 7 ((((List.count 92 s) : Nat) : Int) = 0) (fun h26p => ?_) (fun h26p => ?_)
   ·
    refine xh 1 [] hM17 sR (fun w27 hM28 hS29 => ?_)
    refine yv [0,1,2,3,4,5,6] 7 (fun W_ hW_ => (show (Instr.indexAt 168 (pq c) (.int .u8 92)).run Tryz.prog W_ = .ok (.pointer (some (Addr.add (⟨c, 0, none⟩) (92 * 1)))) W_ from f_arrAt (n := 256) (m := 1) Tryz.underlying168 (fun W => by kernel_rfl) 92 (by omega) (by first | omega | (dsimp only; omega)) _ _ _)) hS29 ?_
    refine yla [] 8 hS29 pE76 hc kp0 (Cel.cast (d := 92) (Cel.add (cel_obj c 0) (92 * 1)) (by omega)) (rp_92 _ _ _) ?_
    refine yv [] 9 (fun W_ hW_ => (show (Builtin.len_ #[76] 3 #[(.slice (some ay) n2 m2)]).run Tryz.prog W_ = .ok (.int .i64 2) W_ from f_slen sT76 hy 3 W_)) hS29 ?_
    refine yv [] 10 (fun W_ hW_ => (show (binOp .sub 3 (.int .i64 2) (.int .i64 1)).run Tryz.prog W_ = .ok (.int .i64 1) W_ from (by kernel_rfl))) hS29 ?_
    refine yv [] 11 (fun W_ hW_ => (show (binOp .mul 3 (iN (List.count 92 s)) (.int .i64 1)).run Tryz.prog W_ = .ok (iN (List.count 92 s)) W_ from f_mul (by rw [show (((List.count 92 s) : Nat) : Int) * 1 = (((List.count 92 s) : Nat) : Int) by omega]; exact IntWalk.i64_in _ (by omega)))) hS29 ?_
    refine yv [] 12 (fun W_ hW_ => (show (binOp .add 3 (iN (s.length + (List.count 34 s))) (iN (List.count 92 s))).run Tryz.prog W_ = .ok (iN ((s.length + (List.count 34 s)) + (List.count 92 s))) W_ from f_add (by rw [show (((s.length + (List.count 34 s)) : Nat) : Int) + (((List.count 92 s) : Nat) : Int) = ((((s.length + (List.count 34 s)) + (List.count 92 s)) : Nat) : Int) by omega]; exact IntWalk.i64_in _ (by omega)))) hS29 ?_
    refine ydp [13] hS29 ?_
    refine xl 18 (k := [iC Tryz.f222 uRepC0, iC Tryz.f222 uRepC1, iC Tryz.f222 [1,1,1,1,1]]) (l := [(0, pq c), (1, sS s), (5, iN ((s.length + (List.count 34 s)) + (List.count 92 s))), (6, .bool true)]) ?_
    skip
    have hec_ := esc_count s
    rw [show ((s.length + (List.count 34 s)) + (List.count 92 s)) = (escW s).length by omega]
    exact rrep_M s hs c z ax ay n1 m1 n2 m2 hc hz hx hy R hR true (by simp; omega) w27 hM28.none
   ·
    refine xl 16 (k := [iC Tryz.f222 uRepC0, iC Tryz.f222 uRepC1, iC Tryz.f222 [1,1,1,1,1]]) (l := [(0, pq c), (1, sS s), (5, iN (s.length + (List.count 34 s))), (6, .bool true)]) ?_
    skip
    have hec_ := esc_count s
    rw [show (s.length + (List.count 34 s)) = (escW s).length by omega]
    exact rrep_M s hs c z ax ay n1 m1 n2 m2 hc hz hx hy R hR true (by simp; omega) w16 hM17.none
  ·
   refine xat 18 sT64 (hz.kept0 hM0.kept) 1 1 (fun p31 hp32 => ?_)
   refine xv 0 (at_load pE9 (hz.kept0 hM0.kept) hp32 rfl) ?_
   have hct36 : List.count 92 s ≤ s.length := List.count_le_length
   refine xcg 6 (count_c s 92 w) ?_
   rintro _ _ ⟨rfl, rfl⟩
   refine ⟨_, rfl, ?_⟩
   refine xcn 7 ((((List.count 92 s) : Nat) : Int) = 0) (fun h37p => ?_) (fun h37p => ?_)
   ·
    refine xh 1 [] hM0 sR (fun w38 hM39 hS40 => ?_)
    refine yv [0,1,2,3,4,5,6] 7 (fun W_ hW_ => (show (Instr.indexAt 168 (pq c) (.int .u8 92)).run Tryz.prog W_ = .ok (.pointer (some (Addr.add (⟨c, 0, none⟩) (92 * 1)))) W_ from f_arrAt (n := 256) (m := 1) Tryz.underlying168 (fun W => by kernel_rfl) 92 (by omega) (by first | omega | (dsimp only; omega)) _ _ _)) hS40 ?_
    refine yla [] 8 hS40 pE76 hc kp0 (Cel.cast (d := 92) (Cel.add (cel_obj c 0) (92 * 1)) (by omega)) (rp_92 _ _ _) ?_
    refine yv [] 9 (fun W_ hW_ => (show (Builtin.len_ #[76] 3 #[(.slice (some ay) n2 m2)]).run Tryz.prog W_ = .ok (.int .i64 2) W_ from f_slen sT76 hy 3 W_)) hS40 ?_
    refine yv [] 10 (fun W_ hW_ => (show (binOp .sub 3 (.int .i64 2) (.int .i64 1)).run Tryz.prog W_ = .ok (.int .i64 1) W_ from (by kernel_rfl))) hS40 ?_
    refine yv [] 11 (fun W_ hW_ => (show (binOp .mul 3 (iN (List.count 92 s)) (.int .i64 1)).run Tryz.prog W_ = .ok (iN (List.count 92 s)) W_ from f_mul (by rw [show (((List.count 92 s) : Nat) : Int) * 1 = (((List.count 92 s) : Nat) : Int) by omega]; exact IntWalk.i64_in _ (by omega)))) hS40 ?_
    refine yv [] 12 (fun W_ hW_ => (show (binOp .add 3 (iN s.length) (iN (List.count 92 s))).run Tryz.prog W_ = .ok (iN (s.length + (List.count 92 s))) W_ from f_add (by rw [show ((s.length : Nat) : Int) + (((List.count 92 s) : Nat) : Int) = (((s.length + (List.count 92 s)) : Nat) : Int) by omega]; exact IntWalk.i64_in _ (by omega)))) hS40 ?_
    refine ydp [13] hS40 ?_
    refine xl 18 (k := [iC Tryz.f222 uRepC0, iC Tryz.f222 uRepC1, iC Tryz.f222 [1,1,1,1,1]]) (l := [(0, pq c), (1, sS s), (5, iN (s.length + (List.count 92 s))), (6, .bool true)]) ?_
    skip
    have hec_ := esc_count s
    rw [show (s.length + (List.count 92 s)) = (escW s).length by omega]
    exact rrep_M s hs c z ax ay n1 m1 n2 m2 hc hz hx hy R hR true (by simp; omega) w38 hM39.none
   ·
    refine xl 16 (k := [iC Tryz.f222 uRepC0, iC Tryz.f222 uRepC1, iC Tryz.f222 [1,1,1,1,1]]) (l := [(0, pq c), (1, sS s), (5, iN s.length), (6, .bool false)]) ?_
    skip
    have hec_ := esc_count s
    rw [show s.length = (escW s).length by omega]
    exact rrep_M s hs c z ax ay n1 m1 n2 m2 hc hz hx hy R hR false (by simp; omega) w hM0.none
 ·
  exact xl 6 (rrep_S s hs c z ax ay n1 m1 n2 m2 hc hz hx hy R hR (s.length + 1) 0 s.length false (by omega) (by rw [escN_zero]) (by rw [escN_zero]; rfl) (by omega))


end Go.Proofs.YthpodbngljfdmaaGreatDoor


set_option linter.unusedVariables false
set_option linter.unusedSimpArgs false
namespace Go.SynP
open Go Go.Gw Go.UtfP Go.TokP Go.QryP
theorem ptx_yes {op : Int} {q : Q} (h : brP op q.h.op = true) : ptext op q = 40 :: (textQ q ++ [41]) := by unfold ptext; rw [h]; rfl
theorem ptx_no {op : Int} {q : Q} (h : brP op q.h.op = false) : ptext op q = textQ q := by unfold ptext; rw [h]; rfl
theorem br7_yes {k : Int} (h : k = 7 ∨ k = 8) : brP 7 k = true := by rw [br_row _ (by decide)]; exact decide_eq_true h
theorem br7_no {k : Int} (h : ¬ k = 7) (h2 : ¬ k = 8) : brP 7 k = false := by rw [br_row _ (by decide)]; exact decide_eq_false (by omega)
theorem br8_yes {k : Int} (h : k = 8) : brP 8 k = true := by rw [br_or]; exact decide_eq_true h
theorem br8_no {k : Int} (h : ¬ k = 8) : brP 8 k = false := by rw [br_or]; exact decide_eq_false h
theorem q_hl (q : Q) : q = .mk q.h q.l := (Q.eta q).symm
theorem right_q {q : Q} (h : rightQ q = true) : rightL q.l = true ∧ nodeP q.h q.l.length = true := by cases q; exact right_inv h
theorem num_q {q : Q} (h : numQ q) : (0 ≤ q.h.lo ∧ q.h.lo < 18446744073709551616) ∧ (0 ≤ q.h.hi ∧ q.h.hi < 18446744073709551616) ∧ numL q.l := by cases q; rw [numQ_mk] at h; exact h
section
variable {q : Q}
theorem text_all (h : q.h.op = 10) : textQ q = [42] := by rw [q_hl q, textQ_mk, if_pos h]
theorem text_not (h : q.h.op = 9) (hl : q.l.length = 1) : textQ q = 45 :: ptext 7 (q.l.getD 0 q0) := by
  cases q with
  | mk g l =>
    have h9 : g.op = 9 := h
    match l, (show l.length = 1 from hl) with
    | [p], _ =>
      rw [textQ_mk, if_neg (by omega), if_pos h9, textL_map, h9]
      show 45 :: ptext 9 p = _
      unfold ptext; rw [br_row _ (by decide), br_row _ (by decide)]; rfl
theorem text_and (h : q.h.op = 7) : textQ q = joinW [32] (q.l.map (ptext 7)) := by rw [q_hl q, textQ_mk, if_neg (by omega), if_neg (by omega), if_pos h, textL_map, h]; rfl
theorem text_or (h : q.h.op = 8) : textQ q = joinW [32, 124, 32] (q.l.map (ptext 8)) := by rw [q_hl q, textQ_mk, if_neg (by omega), if_neg (by omega), if_neg (by omega), if_pos h, textL_map, h]; rfl
theorem text_range (h : q.h.op = 6) : textQ q = q.h.field ++ ([58, 91] ++ (bitsP q.h.lo.toNat ++ (32 :: (bitsP q.h.hi.toNat ++ [93])))) := by rw [q_hl q, textQ_mk, if_neg (by omega), if_neg (by omega), if_neg (by omega), if_neg (by omega), if_pos h]; rfl
theorem text_word (h : 1 ≤ q.h.op ∧ q.h.op ≤ 5) : textQ q = q.h.field ++ (58 :: (quoteW q.h.text ++ sufW q.h)) := by rw [q_hl q, textQ_mk, if_neg (by omega), if_neg (by omega), if_neg (by omega), if_neg (by omega), if_neg (by omega)]; rfl
theorem tx_range {h : Hd} (he : h = q.h) (ho : h.op = 6) : textQ q = h.field ++ [58, 91] ++ bitsP h.lo.toNat ++ [32] ++ bitsP h.hi.toNat ++ [93] := by subst he; rw [text_range ho]; simp
theorem tx_1 {h : Hd} (he : h = q.h) (ho : h.op = 1) : textQ q = h.field ++ [58] ++ quoteW h.text := by
  subst he; rw [text_word (by omega)]; unfold sufW; rw [if_neg (by omega), if_neg (by omega), if_neg (by omega), if_neg (by omega)]; simp
theorem tx_2 {h : Hd} (he : h = q.h) (ho : h.op = 2) : textQ q = h.field ++ [58] ++ quoteW h.text ++ [42] := by
  subst he; rw [text_word (by omega)]; unfold sufW; rw [if_pos (by omega)]; simp
theorem tx_3 {h : Hd} (he : h = q.h) (ho : h.op = 3) : textQ q = h.field ++ [58] ++ quoteW h.text ++ [63] := by
  subst he; rw [text_word (by omega)]; unfold sufW; rw [if_neg (by omega), if_pos (by omega)]; simp
theorem tx_5 {h : Hd} (he : h = q.h) (ho : h.op = 5) : textQ q = h.field ++ [58] ++ quoteW h.text ++ [43] := by
  subst he; rw [text_word (by omega)]; unfold sufW; rw [if_neg (by omega), if_neg (by omega), if_pos (by omega)]; simp
theorem tx_4 {h : Hd} (he : h = q.h) (ho : h.op = 4) : textQ q = h.field ++ [58] ++ quoteW h.text ++ ([126] ++ decW h.edits ++ [44] ++ decW h.exact) := by
  subst he; rw [text_word (by omega)]; unfold sufW; rw [if_neg (by omega), if_neg (by omega), if_neg (by omega), if_pos (by omega)]; simp
theorem node_not1 (hr : rightQ q = true) (h : q.h.op = 9) : q.l.length = 1 := (not_inv (right_q hr).2 h).1
theorem node_join2 (hr : rightQ q = true) (h : q.h.op = 8 ∨ q.h.op = 7) : 2 ≤ q.l.length := (join_inv (right_q hr).2 h).1
theorem node_op (hr : rightQ q = true) (h7 : ¬ q.h.op = 7) (h8 : ¬ q.h.op = 8) (h9 : ¬ q.h.op = 9) (h10 : ¬ q.h.op = 10) : Lf q.h := (node_leaf (right_q hr).2 h7 h8 h9 h10).1
end
theorem quoteW_len (s : List UInt8) : (quoteW s).length ≤ 2 * s.length + 2 := by
  have := (esc_bd s).2
  unfold quoteW; unfold escW at this
  simp only [List.length_cons, List.length_append, List.length_nil]; omega
theorem decW_len (n : Int) : (decW n).length ≤ 2 := by unfold decW; split <;> simp
theorem sufW_len (h : Hd) : (sufW h).length ≤ 6 := by
  have a := decW_len h.edits
  have b := decW_len h.exact
  unfold sufW
  repeat' split
  all_goals try simp only [List.length_cons, List.length_append, List.length_nil]
  all_goals omega
theorem tailW_len (sep : List UInt8) (hs : sep.length ≤ 3) : ∀ (l : List (List UInt8)) (B : Nat), (l.map List.length).sum ≤ B → (tailW sep l).length ≤ B + 3 * l.length
  | [], B, h => by simp [tailW]
  | x :: r, B, h => by
    simp only [List.map_cons, List.sum_cons] at h
    have := tailW_len sep hs r (B - x.length) (by omega)
    unfold tailW
    simp only [List.length_append, List.length_cons]; omega
theorem joinW_len (sep : List UInt8) (hs : sep.length ≤ 3) (l : List (List UInt8)) : (joinW sep l).length ≤ (l.map List.length).sum + 3 * l.length := by
  cases l with
  | nil => simp [joinW]
  | cons x r =>
    have := tailW_len sep hs r _ (Nat.le_refl _)
    rw [joinW_eq]
    simp only [List.length_append, List.length_cons, List.map_cons, List.sum_cons]; omega
mutual
theorem textQ_len : ∀ (q : Q), (textQ q).length + 8 ≤ 64 * bulkQ q
  | .mk h l => by
    have hL := textL_len h.op l
    have hq := quoteW_len h.text
    have hs := sufW_len h
    have hb1 := bitsP_len h.lo.toNat
    have hb2 := bitsP_len h.hi.toNat
    have hn : (textL h.op l).length = l.length := by rw [textL_map, List.length_map]
    have hk := bulk_len l
    have j1 := joinW_len [32] (by decide) (textL h.op l)
    have j2 := joinW_len [32, 124, 32] (by decide) (textL h.op l)
    have hh : ((textL h.op l).headD []).length ≤ ((textL h.op l).map List.length).sum := by
      cases textL h.op l with
      | nil => simp
      | cons x r => simp
    rw [bulkQ_mk, textQ_mk]
    repeat' split
    all_goals try simp only [List.length_cons, List.length_append, List.length_nil]
    all_goals omega
theorem textL_len (op : Int) : ∀ (l : List Q), ((textL op l).map List.length).sum + 6 * l.length ≤ 64 * bulkL l
  | [] => by rw [textL]; simp
  | q :: r => by
    have h1 := textQ_len q
    have h2 := textL_len op r
    rw [textL, bulkL]
    simp only [List.map_cons, List.sum_cons, List.length_cons]
    split
    · simp only [List.length_cons, List.length_append, List.length_nil]; omega
    · omega
end
theorem ptext_len (op : Int) (q : Q) : (ptext op q).length ≤ 64 * bulkQ q := by
  have := textQ_len q
  unfold ptext; split
  · simp only [List.length_cons, List.length_append, List.length_nil]; omega
  · omega
theorem join_lenQ (sep : List UInt8) (hs : sep.length ≤ 3) (op : Int) (l : List Q) : (joinW sep (l.map (ptext op))).length ≤ 64 * bulkL l := by
  have h1 := joinW_len sep hs (l.map (ptext op))
  have h2 := textL_len op l
  rw [textL_map] at h2
  rw [List.length_map] at h1
  omega
theorem kid_mem {l : List Q} {i : Nat} (h : i < l.length) : l.getD i q0 ∈ l := by
  rw [List.getD_eq_getElem?_getD, List.getElem?_eq_getElem h]; exact List.getElem_mem h
theorem kid_right {l : List Q} {i : Nat} (h : i < l.length) (hr : rightL l = true) : rightQ (l.getD i q0) = true := right_mem hr _ (kid_mem h)
theorem kid_num {l : List Q} {i : Nat} (h : i < l.length) (hr : numL l) : numQ (l.getD i q0) := num_mem hr _ (kid_mem h)
theorem map_snoc {f : Q → List UInt8} {l : List Q} {i : Nat} (h : i < l.length) : (l.take (i + 1)).map f = (l.take i).map f ++ [f (l.getD i q0)] := by rw [tk_snoc h, List.map_append]; rfl
theorem lib_join (sep x : List UInt8) : ∀ (r : List (List UInt8)), Lib.joinTail sep r = tailW sep r
  | [] => rfl
  | y :: r => by
    unfold Lib.joinTail tailW
    rw [List.map_cons, List.flatten_cons, List.append_assoc, ← lib_join sep x r]; rfl
theorem lib_joinW (sep : List UInt8) : ∀ (l : List (List UInt8)), Lib.join l sep = joinW sep l
  | [] => rfl
  | x :: r => by rw [Lib.join_cons, joinW_eq, lib_join sep x r]
theorem dec_digits : ∀ i : Fin 100, Lib.decDigits i.val = decW (i.val : Int) := by
  intro i
  unfold Lib.decDigits
  split
  · rename_i h; unfold decW; rw [if_pos (by omega)]; congr 1
  · rename_i h
    unfold decW; rw [if_neg (by omega)]
    unfold Lib.decDigits
    rw [dif_pos (by omega)]
    have e1 : ((48 : Int) + (i.val : Int) / 10).toNat = 48 + i.val / 10 := by omega
    have e2 : ((48 : Int) + (i.val : Int) % 10).toNat = 48 + i.val % 10 := by omega
    rw [e1, e2]; rfl
end Go.SynP
namespace Go.Proofs.YthpodbngljfdmaaGreatDoor
open Go Go.Gw Go.SynP Go.Shelf Go.Proofs
theorem itoa_m (x : Int) (hx : 0 ≤ x ∧ x < 100) (w : World) : Calls Tryz.prog 33 #[.int .i64 x] w (fun e w' => e = .returned (.string (sb (decW x))) ∧ w = w') := by
  have h := Go.Proofs.Any.strconv_Itoa_small lays171 x.toNat (by omega) w
  rw [show ((x.toNat : Nat) : Int) = x by omega] at h
  refine calls_imp h (fun e w' g => ⟨?_, g.2.symm⟩)
  rw [g.1, dec_digits ⟨x.toNat, by omega⟩, show ((x.toNat : Nat) : Int) = x by omega]; rfl
theorem join_m (sep : List UInt8) (l : List (List UInt8)) (v : Value) {w : World} (hv : Rd w 1 v l.length (svals l)) (h2 : 2 ≤ l.length) (hN : l.length ≤ 140737488355328) (hlen : (joinW sep l).length ≤ 140737488355328) :
    Calls Tryz.prog 48 #[v, .string (sb sep)] w (fun e w' => e = .returned (.string (sb (joinW sep l))) ∧ Mem [] w w' []) := by
  have hl := rd_len hv
  simp only [maxLen] at hl
  obtain ⟨_, a, c, rfl, hnc, hcm, hnil, hcell⟩ := hv
  match a, hnil, hcell with
  | none, hnil, _ => have := (hnil rfl).1; omega
  | some ⟨bk, o, p⟩, _, hcell =>
    have hc := hcell _ rfl
    have hp : p = none := by
      rcases hc.1 with z | z
      · rw [← svals_len, z] at h2; simp at h2
      · exact z
    subst hp
    have e1 : (l.map sb).map (fun x : ByteArray => x.data.toList) = l := by rw [List.map_map]; simp [sb, Function.comp_def]
    have hcs : ∀ (j : Nat) x, (l.map sb)[j]? = some x → w.cell? ⟨bk, o + j, none⟩ = some (.string x) := by
      intro j x hx
      rw [List.getElem?_map] at hx
      obtain ⟨y, hy, rfl⟩ := Option.map_eq_some_iff.1 hx
      exact hc.2 j _ (by unfold svals; rw [List.getElem?_map, hy]; rfl)
    have hb : bk < w.heap.size := by
      have := hcs 0 (sb (l[0]'(by omega))) (by rw [List.getElem?_map, List.getElem?_eq_getElem (by omega)]; rfl)
      exact World.block_lt_of_cell? w _ this
    have h := Go.Proofs.Any.strings_Join_many lays156 bldX bk o c (l.map sb) (sb sep) w hcs hb (by rw [List.length_map]; exact h2) (by rw [List.length_map]; omega) (by rw [List.length_map]; exact hnc) (by rw [e1, show (sb sep).data.toList = sep by simp [sb], lib_joinW]; exact hlen)
    rw [List.length_map, e1, show (sb sep).data.toList = sep by simp [sb], lib_joinW] at h
    exact calls_imp h (fun e w' g => ⟨g.1, Mem.bare (Kept.of_below g.2)⟩)
end Go.Proofs.YthpodbngljfdmaaGreatDoor


namespace Go.RdrP
set_option linter.unusedVariables false
open Go Go.Gw Go.UtfP Go.TokP Go.QryP Go.RealP Go.RealQ Go.SynP
/-- gives a value of a kind; a default where a fault was seen -/
abbrev Two {α : Type} (spec : Except Nat α) (G : α → Value → World → Prop) (B : Nat → Value → World → Prop) : Ending → World → Prop := fun e w' =>
  (∃ a v, spec = .ok a ∧ e = .returned v ∧ G a v w') ∨ (∃ k v, spec = .error k ∧ e = .returned v ∧ B k v w')
abbrev One1 (u : Value) : Prop := u.oneCell' = true ∧ u.cells = #[u] ∧ u.cells.toList = [u]
theorem one_nil : One1 (.slice none 0 0) := ⟨rfl, rfl, rfl⟩
variable {s t : List UInt8} {i j k n m : Nat} {c : Int}
theorem idx_at : ∀ (l : List UInt8) (c : UInt8) (m : Nat), (∀ n, n < m → l.getD n 0 ≠ c) → m < l.length → l.getD m 0 = c → Lib.indexByte l c = (m : Int)
  | [], c, m, _, h, _ => by simp at h
  | b :: l, c, 0, _, _, h => by
    have h : b = c := h
    unfold Lib.indexByte; rw [if_pos (by simpa using h)]; rfl
  | b :: l, c, m + 1, hn, h, hc => by
    have h0 : b ≠ c := hn 0 (by omega)
    have ih := idx_at l c m (fun n hm => hn (n + 1) (by omega)) (by simpa using h) hc
    unfold Lib.indexByte; rw [if_neg (by simpa using h0), ih]
    have : ¬ (((m : Nat) : Int) == -1) = true := by simp; try omega
    rw [if_neg this]; omega
theorem idx_no : ∀ (l : List UInt8) (c : UInt8), (∀ n, n < l.length → l.getD n 0 ≠ c) → Lib.indexByte l c = -1
  | [], c, _ => rfl
  | b :: l, c, hn => by
    have h0 : b ≠ c := hn 0 (by simp)
    have ih := idx_no l c (fun n hm => hn (n + 1) (by simpa using hm))
    unfold Lib.indexByte; rw [if_neg (by simpa using h0), ih]; rfl
theorem bl_byte (hc : 0 ≤ c ∧ c ≤ 255) (s : List UInt8) (j : Nat) : bl s j = c ↔ s.getD j 0 = c.toNat.toUInt8 := by
  have hlt := (s.getD j 0).toNat_lt
  have hb : (c.toNat.toUInt8).toNat = c.toNat := by
    rw [Nat.toUInt8_eq, UInt8.toNat_ofNat']; omega
  constructor
  · intro h
    apply UInt8.toNat_inj.1
    rw [hb]; unfold bl at h; omega
  · intro h
    unfold bl; rw [h, hb]; omega
theorem drop_get (l : List UInt8) (i k : Nat) : (l.drop i).getD k 0 = l.getD (i + k) 0 := by
  rw [List.getD_eq_getElem?_getD, List.getD_eq_getElem?_getD, List.getElem?_drop]
theorem ix_at (hc : 0 ≤ c ∧ c ≤ 255) (hij : i ≤ j) (hno : ∀ m, i ≤ m → m < j → bl s m ≠ c) (hj : j < s.length) (h : bl s j = c) : Lib.indexByte (s.drop i) c.toNat.toUInt8 = ((j - i : Nat) : Int) := by
  refine idx_at _ _ _ (fun n hn => ?_) (by rw [List.length_drop]; omega) ?_
  · rw [drop_get]; intro e; exact hno (i + n) (by omega) (by omega) ((bl_byte hc s _).2 e)
  · rw [drop_get, show i + (j - i) = j by omega]; exact (bl_byte hc s _).1 h
theorem ix_no (hc : 0 ≤ c ∧ c ≤ 255) (hno : ∀ m, i ≤ m → m < s.length → bl s m ≠ c) : Lib.indexByte (s.drop i) c.toNat.toUInt8 = -1 := by
  refine idx_no _ _ (fun n hn => ?_)
  rw [List.length_drop] at hn
  rw [drop_get]; intro e; exact hno (i + n) (by omega) (by omega) ((bl_byte hc s _).2 e)
theorem nr_none (hc : 0 ≤ c ∧ c ≤ 255) (hno : ∀ m, i ≤ m → m < j → bl s m ≠ c) (hj : j = s.length) : numberP s c i = .error i := number_none (ix_no hc (by subst hj; exact hno))
theorem nr_hex (hc : 0 ≤ c ∧ c ≤ 255) (hij : i ≤ j) (hno : ∀ m, i ≤ m → m < j → bl s m ≠ c) (hj : j < s.length) (h : bl s j = c) {v : Nat} (hx : hexP ((s.take j).drop i) = some v) : numberP s c i = .ok (v, j + 1) := by
  have e : i + (j - i) = j := by omega
  rw [number_hex (ix_at hc hij hno hj h) (by rw [e]; exact hx), ← Nat.add_assoc, e]
theorem nr_real (hc : 0 ≤ c ∧ c ≤ 255) (hij : i ≤ j) (hno : ∀ m, i ≤ m → m < j → bl s m ≠ c) (hj : j < s.length) (h : bl s j = c) (hx : hexP ((s.take j).drop i) = none) (he : parseE ((s.take j).drop i) = 0) : numberP s c i = .ok (parseV ((s.take j).drop i), j + 1) := by
  have e : i + (j - i) = j := by omega
  rw [number_real (ix_at hc hij hno hj h) (by rw [e]; exact hx) (by rw [e]; exact he), ← Nat.add_assoc, e]
theorem nr_bad (hc : 0 ≤ c ∧ c ≤ 255) (hij : i ≤ j) (hno : ∀ m, i ≤ m → m < j → bl s m ≠ c) (hj : j < s.length) (h : bl s j = c) (hx : hexP ((s.take j).drop i) = none) (he : ¬ parseE ((s.take j).drop i) = 0) : numberP s c i = .error i := by
  have e : i + (j - i) = j := by omega
  exact number_bad (ix_at hc hij hno hj h) (by rw [e]; exact hx) (by rw [e]; exact he)
theorem no_step (hno : ∀ m, i ≤ m → m < j → bl s m ≠ c) (h : ¬ bl s j = c) : ∀ m, i ≤ m → m < j + 1 → bl s m ≠ c := fun m h1 h2 => by
  rcases Nat.lt_succ_iff_lt_or_eq.1 h2 with g | g
  · exact hno m h1 g
  · subst g; exact h
/-- the sixteen digits -/
theorem hexL_step (h : j < t.length) : hexL (t.drop j) n = match hexDig (bl t j) with
    | some d => hexL (t.drop (j + 1)) (16 * n + d)
    | none => none := by
  rw [List.drop_eq_getElem_cons h]
  have : bl t j = ((t[j]).toNat : Int) := by unfold bl; rw [List.getD_eq_getElem?_getD, List.getElem?_eq_getElem h]; rfl
  rw [this]; rfl
theorem hexL_end (h : ¬ j < t.length) : hexL (t.drop j) n = some n := by rw [List.drop_eq_nil_of_le (by omega)]; rfl
theorem hd_num {c : Int} (h : 48 ≤ c ∧ c ≤ 57) : hexDig c = some (c - 48).toNat := if_pos h
theorem hd_let {c : Int} (h2 : 97 ≤ c ∧ c ≤ 102) : hexDig c = some (c - 87).toNat := by unfold hexDig; rw [if_neg (by omega), if_pos h2]
theorem hd_no {c : Int} (h : ¬ (48 ≤ c ∧ c ≤ 57)) (h2 : ¬ (97 ≤ c ∧ c ≤ 102)) : hexDig c = none := by unfold hexDig; rw [if_neg h, if_neg h2]
theorem hx_none (h : ¬ (t.length = 17 ∧ bl t 0 = 35)) : hexP t = none := if_neg h
theorem hx_yes (h : t.length = 17 ∧ bl t 0 = 35) : hexP t = hexL (t.drop 1) 0 := if_pos h
/-- the heads of rows -/
def headE (s : List UInt8) (n : Nat) (acc : List Q) (i : Nat) : Except Nat (Q × Nat) := match prs s n .B i with
  | .error k => .error k
  | .ok (q, j) => prs s n (.EL (acc ++ [q])) j
def headB (s : List UInt8) (n : Nat) (acc : List Q) (i : Nat) : Except Nat (Q × Nat) := match prs s n .O i with
  | .error k => .error k
  | .ok (q, j) => prs s n (.BL (acc ++ [q])) j
variable {acc : List Q} {q : Q}
theorem hE_err (hs : prs s n .B i = .error k) : headE s n acc i = .error k := by unfold headE; rw [hs]
theorem hB_err (hs : prs s n .O i = .error k) : headB s n acc i = .error k := by unfold headB; rw [hs]
theorem hE_end (hs : prs s (n + 1) .B i = .ok (q, j)) (h : ¬ bl s (skipP s j) = 124) : headE s (n + 1) acc i = .ok (manyQ 8 (acc ++ [q]), skipP s j) := by unfold headE; rw [hs]; exact el_end h
theorem hB_end (hs : prs s (n + 1) .O i = .ok (q, j)) (h : skipP s j = s.length ∨ bl s (skipP s j) = 124 ∨ bl s (skipP s j) = 41) : headB s (n + 1) acc i = .ok (manyQ 7 (acc ++ [q]), skipP s j) := by unfold headB; rw [hs]; exact bl_end h
theorem hE_go (hs : prs s (n + 1) .B i = .ok (q, j)) (h : bl s (skipP s j) = 124) : headE s (n + 1) acc i = headE s n (acc ++ [q]) (skipP s j + 1) := by
  unfold headE; rw [hs]
  show (if _ then _ else _) = _
  rw [if_pos h]; rfl
theorem hB_go (hs : prs s (n + 1) .O i = .ok (q, j)) (h : ¬ (skipP s j = s.length ∨ bl s (skipP s j) = 124 ∨ bl s (skipP s j) = 41)) : headB s (n + 1) acc i = headB s n (acc ++ [q]) (skipP s j) := by
  unfold headB; rw [hs]
  show (if _ then _ else _) = _
  rw [if_neg h]; rfl
/-- a row of one -/
theorem many_one {T : List Row} {M : List QN} (op : Int) {r : Row} (hQ : QL T acc M) (h1 : M.length = 1) : (M.getD 0 qz).h = (manyQ op acc).h ∧ QT (r :: T) (manyQ op acc) (M.getD 0 qz).parts := by
  have hl := hQ.len
  match acc, hQ, hl with
  | [q], hQ, hl => exact ⟨hQ.head 0 (by simp), (hQ.kid 0 (by simp)).sub (fun r hr => List.mem_cons_of_mem _ hr)⟩
  | [], _, hl => simp only [List.length_nil] at hl; omega
  | _ :: _ :: _, _, hl => simp only [List.length_cons] at hl; omega
theorem many_more {T : List Row} {M : List QN} (op : Int) {u : Value} {E : TypeId} (hQ : QL T acc M) (h1 : ¬ M.length = 1) : opH op = (manyQ op acc).h ∧ QT (⟨E, 8, u, M.length, recs qnC M⟩ :: T) (manyQ op acc) u := by
  have hl := hQ.len
  rw [manyQ_n (by omega)]
  exact ⟨rfl, hQ.whole _⟩
theorem ones_snoc {M : List QN} {h : Hd} {u : Value} (ho : ∀ j, j < M.length → One1 (M.getD j qz).parts) (hu : One1 u) : ∀ j, j < (M ++ [(⟨h, u⟩ : QN)]).length → One1 ((M ++ [(⟨h, u⟩ : QN)]).getD j qz).parts := by
  intro j hj
  simp only [List.length_append, List.length_cons, List.length_nil] at hj
  rcases Nat.lt_succ_iff_lt_or_eq.1 hj with g | g
  · rw [qn_left (by omega)]; exact ho j g
  · subst g; rw [qn_right rfl]; exact hu
end Go.RdrP


namespace Go.Proofs.YthpodbngljfdmaaGreatDoor
open Go Go.Gw Go.UtfP Go.TokP Go.QryP Go.SynP Go.RealP Go.RealQ Go.RdrP Go.RowKit
set_option linter.unusedVariables false
set_option linter.unusedSimpArgs false
set_option maxRecDepth 20000


set_option maxHeartbeats 400000 in
theorem rdc_c (s : List UInt8) (hs : s.length ≤ 8192) (i : Nat) (hi : i ≤ s.length) (b : Nat) {w : World} (hb : Rd w 3 (obj b) 1 [sS s, iN i, .int .i64 (-1)])  :
  Calls Tryz.prog 44 #[pq b] w (fun e w' => e = .returned (.int .u8 (bl s i)) ∧ Mem [] w w' []) := by
 refine xe 29 Tryz.func44 (fun R hR => ?_)
 have hM0 := Mem.start w
 refine xh 6 [] hM0 sR (fun w1 hM2 hS3 => ?_)
 refine yla [0,1,2] 3 hS3 pE3 hb kp0 (cel_obj b 2) rfl ?_
 refine yla [4,5,6,7,8] 9 hS3 pE3 hb kp0 (cel_obj b 1) rfl ?_
 refine yla [10,11,12] 13 hS3 pE9 hb kp0 (cel_obj b 0) rfl ?_
 refine yv [] 14 (fun W_ hW_ => (show (Builtin.len_ #[9] 3 #[sS s]).run Tryz.prog W_ = .ok (iN s.length) W_ from f_len (by kernel_rfl))) hS3 ?_
 refine ydp [15,16] hS3 ?_
 refine xc 0 (((i : Nat) : Int) < ((s.length : Nat) : Int)) (fun h5p => ?_) (fun h5p => ?_)
 ·
  refine xh 1 [] hM2 sR (fun w6 hM7 hS8 => ?_)
  refine yla [0,1,2] 3 hS8 pE9 hb kp0 (cel_obj b 0) rfl ?_
  refine yla [4,5,6] 7 hS8 pE3 hb kp0 (cel_obj b 1) rfl ?_
  have hb10 := bl_bd s i
  refine yv [] 8 (fun W_ hW_ => (show (Instr.index 9 (sS s) (iN i)).run Tryz.prog W_ = .ok (.int .u8 (bl s i)) W_ from f_index i (by kernel_rfl) (by omega) (by omega))) hS8 ?_
  refine ydp [9] hS8 ?_
  exact xr 0 Tryz.func44 hR ⟨rfl, hM7.sub sN⟩
 ·
  exact xr 5 (v := .int .u8 0) Tryz.func44 hR ⟨ret_int (bl_out (by omega)).symm, hM2.sub sN⟩

set_option maxHeartbeats 400000 in
theorem rdcx_c (s : List UInt8) (x k : Nat) (b : Nat) {w : World} (hb : Rd w 3 (obj b) 1 [sS s, iN x, iN k])  :
  Calls Tryz.prog 44 #[pq b] w (fun e w' => e = .returned (.int .u8 0) ∧ Mem [] w w' []) := by
 refine xe 29 Tryz.func44 (fun R hR => ?_)
 have hM0 := Mem.start w
 refine xh 6 [] hM0 sR (fun w1 hM2 hS3 => ?_)
 refine yla [0,1,2] 3 hS3 pE3 hb kp0 (cel_obj b 2) rfl ?_
 rcases Bool.eq_false_or_eq_true (decide (((k : Nat) : Int) < 0)) with h5 | h5
 ·
  exact absurd (of_decide_eq_true h5) (by omega)
 ·
  have h5p : ¬ (((k : Nat) : Int) < 0) := of_decide_eq_false h5
  refine ye [4] 5 (decide (((k : Nat) : Int) < 0)) false h5 hS3 ?_
  refine ydp [6,7,8,9,10,11,12,13,14,15,16] hS3 ?_
  exact xr 6 Tryz.func44 hR ⟨rfl, hM2.sub sN⟩

set_option maxHeartbeats 400000 in
theorem rdf_c (s : List UInt8) (i : Nat) (b : Nat) {w : World} (hM : Mem [b] w w [⟨55, 3, (obj b), 1, [sS s, iN i, .int .i64 (-1)]⟩])  :
  Calls Tryz.prog 26 #[pq b] w (fun e w' => e = .returned (.tuple #[]) ∧ Mem [b] w w' [⟨55, 3, (obj b), 1, [sS s, iN i, iN i]⟩]) := by
 refine xe 14 Tryz.func26 (fun R hR => ?_)
 refine xv 5 (c_load pE3 (hM.rd 0 rfl) (cel_obj b 2) rfl) ?_
 refine xv 8 (c_load pE3 (hM.rd 0 rfl) (cel_obj b 1) rfl) ?_
 refine xst 2 (c_store (E := 3) (u := iN i) (by kernel_rfl) hM 0 rfl (cel_obj b 2) (by decide) rfl rfl) (fun w1 hM3 => ?_)
 exact xr 1 Tryz.func26 hR ⟨rfl, hM3⟩

set_option maxHeartbeats 400000 in
theorem rdfx_c (s : List UInt8) (x k : Nat) (b : Nat) {w : World} (hb : Rd w 3 (obj b) 1 [sS s, iN x, iN k])  :
  Calls Tryz.prog 26 #[pq b] w (fun e w' => e = .returned (.tuple #[]) ∧ w = w') := by
 refine xe 14 Tryz.func26 (fun R hR => ?_)
 refine xv 5 (c_load pE3 hb (cel_obj b 2) rfl) ?_
 refine xc 2 (((k : Nat) : Int) < 0) (fun h2p => ?_) (fun h2p => ?_)
 ·
  have h2 : (decide (((k : Nat) : Int) < 0)) = true := decide_eq_true h2p
  exact absurd (of_decide_eq_true h2) (by omega)
 ·
  exact xr 1 Tryz.func26 hR ⟨rfl, rfl⟩

set_option maxHeartbeats 400000 in
theorem rdbx_c (s : List UInt8) (x k : Nat) (b : Nat) {w : World} (hb : Rd w 3 (obj b) 1 [sS s, iN x, iN k])  :
  Calls Tryz.prog 25 #[pq b] w (fun e w' => e = .returned (.tuple #[]) ∧ Mem [] w w' []) := by
 refine xe 12 Tryz.func25 (fun R hR => ?_)
 have hM0 := Mem.start w
 refine xk 6 (rdcx_c s x k b (hb.kept0 hM0.kept)) (fun w1 m2 => ?_)
 have hM3 := hM0.j m2
 exact xr 4 Tryz.func25 hR ⟨rfl, hM3.sub sN⟩

set_option maxHeartbeats 400000 in
theorem rdb_L (s : List UInt8) (hs : s.length ≤ 8192) (b : Nat) (i : Nat) {w0 : World} (R : Ending → World → Prop) (hR : R = (fun e w' => e = .returned (.tuple #[]) ∧ Mem [b] w0 w' [⟨55, 3, (obj b), 1, [sS s, iN (skipP s i), .int .i64 (-1)]⟩])) : ∀ (N : Nat) (j : Nat) (w : World) (hji : j ≤ s.length) (hj : skipP s j = skipP s i) (hM : Mem [b] w0 w [⟨55, 3, (obj b), 1, [sS s, iN j, .int .i64 (-1)]⟩]) (hN : s.length - j < N), GoS Tryz.prog 25 R 12 [iC Tryz.f25 [0,0], iL Tryz.f25 [0,0], .inBlock 0] [(0, pq b)] w := by
 intro N
 induction N with
 | zero => intro j w hji hj hM hN; exact absurd hN (Nat.not_lt_zero _)
 | succ N ih =>
  intro j w hji hj hM hN
  refine xs ?_
  have hb4 := bl_bd s j
  have hb5 := bl_or s j
  refine xk 4 (rdc_c s (by omega) j (by omega) b (hM.rd 0 rfl)) (fun w1 m2 => ?_)
  have hM3 := hM.j m2
  refine xc 2 ((bl s j) = 32) (fun h6p => ?_) (fun h6p => ?_)
  ·
   refine xv 6 (c_load pE3 (hM3.rd 0 rfl) (cel_obj b 1) rfl) ?_
   refine xa 0 ((j : Nat) : Int) 1 (((j + 1) : Nat) : Int) ?_
   refine xst 2 (c_store (E := 3) (u := iN (j + 1)) (by kernel_rfl) hM3 0 rfl (cel_obj b 1) (by decide) rfl rfl) (fun w7 hM9 => ?_)
   exact xl 3 (ih (j + 1) _ (by omega) ((skip_go (by omega) (by omega)).symm.trans hj) hM9 (by omega))
  ·
   exact xr 1 Tryz.func25 hR ⟨rfl, hM3.cast (by rw [← hj, skip_stop (by omega)])⟩

set_option maxHeartbeats 400000 in
theorem rdb_c (s : List UInt8) (hs : s.length ≤ 8192) (b : Nat) (i : Nat) (hi : i ≤ s.length) {w : World} (hM : Mem [b] w w [⟨55, 3, (obj b), 1, [sS s, iN i, .int .i64 (-1)]⟩])  :
  Calls Tryz.prog 25 #[pq b] w (fun e w' => e = .returned (.tuple #[]) ∧ Mem [b] w w' [⟨55, 3, (obj b), 1, [sS s, iN (skipP s i), .int .i64 (-1)]⟩]) := by
 refine xe 12 Tryz.func25 (fun R hR => ?_)
 exact xl 2 (rdb_L s hs b i R hR (s.length + 1) i w hi rfl hM (by omega))

set_option maxHeartbeats 400000 in
theorem rdm_c (s : List UInt8) (hs : s.length ≤ 8192) (c : Int) (b : Nat) (i : Nat) (hi : i ≤ s.length) {w : World} (hM : Mem [b] w w [⟨55, 3, (obj b), 1, [sS s, iN i, .int .i64 (-1)]⟩])  :
  Calls Tryz.prog 56 #[pq b, .int .u8 c] w (Two (takeP s c i) (fun j v w' => v = .tuple #[] ∧ Mem [b] w w' [⟨55, 3, (obj b), 1, [sS s, iN j, .int .i64 (-1)]⟩]) (fun k v w' => v = .tuple #[] ∧ Mem [b] w w' [⟨55, 3, (obj b), 1, [sS s, iN (i + 1), iN k]⟩])) := by
 have hb0 := bl_bd s i
 have hb1 := bl_or s i
 refine xe 43 Tryz.func56 (fun R hR => ?_)
 refine xh 2 [] hM (sK sR) (fun w1 hM2 hS3 => ?_)
 refine yl [0,1,2] 3 hS3 pE3 0 rfl (cel_obj b 2) rfl ?_
 refine yl [4,5,6,7,8] 9 hS3 pE3 0 rfl (cel_obj b 1) rfl ?_
 refine yl [10,11,12] 13 hS3 pE9 0 rfl (cel_obj b 0) rfl ?_
 refine yv [] 14 (fun W_ hW_ => (show (Builtin.len_ #[9] 3 #[sS s]).run Tryz.prog W_ = .ok (iN s.length) W_ from f_len (by kernel_rfl))) hS3 ?_
 rcases Bool.eq_false_or_eq_true (decide (((i : Nat) : Int) ≥ ((s.length : Nat) : Int))) with h5 | h5
 ·
  have h5p : ((i : Nat) : Int) ≥ ((s.length : Nat) : Int) := of_decide_eq_true h5
  refine ye [15] 16 (decide (((i : Nat) : Int) ≥ ((s.length : Nat) : Int))) true h5 hS3 ?_
  refine ydp [17,18,19,20,21,22,23,24,25,26,27,28,29] hS3 ?_
  refine xk 3 (rdf_c s i b hM2.lend1) (fun w6 m7 => ?_)
  have hM8 := hM2.back1 m7
  refine xv 5 (c_load pE3 (hM8.rd 0 rfl) (cel_obj b 1) rfl) ?_
  refine xa 0 ((i : Nat) : Int) 1 (((i + 1) : Nat) : Int) ?_
  refine xst 2 (c_store (E := 3) (u := iN (i + 1)) (by kernel_rfl) hM8 0 rfl (cel_obj b 1) (by decide) rfl rfl) (fun w9 hM11 => ?_)
  refine xr0 1 (v := .tuple #[]) Tryz.func56 ?_
  rw [hR]
  exact .inr ⟨_, _, take_err (by omega), rfl, rfl, hM11⟩
 ·
  have h5p : ¬ (((i : Nat) : Int) ≥ ((s.length : Nat) : Int)) := of_decide_eq_false h5
  refine ye [15] 16 (decide (((i : Nat) : Int) ≥ ((s.length : Nat) : Int))) false h5 hS3 ?_
  refine yl [17,18,19] 20 hS3 pE9 0 rfl (cel_obj b 0) rfl ?_
  refine yl [21,22,23] 24 hS3 pE3 0 rfl (cel_obj b 1) rfl ?_
  have hb16 := bl_bd s i
  refine yv [] 25 (fun W_ hW_ => (show (Instr.index 9 (sS s) (iN i)).run Tryz.prog W_ = .ok (.int .u8 (bl s i)) W_ from f_index i (by kernel_rfl) (by omega) (by omega))) hS3 ?_
  refine ydp [26,27,28,29] hS3 ?_
  refine xcn 0 ((bl s i) = c) (fun h17p => ?_) (fun h17p => ?_)
  ·
   refine xk 2 (rdf_c s i b hM2.lend1) (fun w18 m19 => ?_)
   have hM20 := hM2.back1 m19
   refine xv 5 (c_load pE3 (hM20.rd 0 rfl) (cel_obj b 1) rfl) ?_
   refine xa 0 ((i : Nat) : Int) 1 (((i + 1) : Nat) : Int) ?_
   refine xst 2 (c_store (E := 3) (u := iN (i + 1)) (by kernel_rfl) hM20 0 rfl (cel_obj b 1) (by decide) rfl rfl) (fun w21 hM23 => ?_)
   refine xr0 1 (v := .tuple #[]) Tryz.func56 ?_
   rw [hR]
   exact .inr ⟨_, _, take_err (by omega), rfl, rfl, hM23⟩
  ·
   refine xv 5 (c_load pE3 (hM2.rd 0 rfl) (cel_obj b 1) rfl) ?_
   refine xa 0 ((i : Nat) : Int) 1 (((i + 1) : Nat) : Int) ?_
   refine xst 2 (c_store (E := 3) (u := iN (i + 1)) (by kernel_rfl) hM2 0 rfl (cel_obj b 1) (by decide) rfl rfl) (fun w28 hM30 => ?_)
   refine xr0 1 (v := .tuple #[]) Tryz.func56 ?_
   rw [hR]
   exact .inl ⟨_, _, take_ok (by omega) (by omega), rfl, rfl, hM30⟩

set_option maxHeartbeats 400000 in
theorem rdmx_c (s : List UInt8) (c : Int) (x k : Nat) (hx : x ≤ 1000000) (b : Nat) {w : World} (hM : Mem [b] w w [⟨55, 3, (obj b), 1, [sS s, iN x, iN k]⟩])  :
  Calls Tryz.prog 56 #[pq b, .int .u8 c] w (fun e w' => e = .returned (.tuple #[]) ∧ Mem [b] w w' [⟨55, 3, (obj b), 1, [sS s, iN (x + 1), iN k]⟩]) := by
 refine xe 43 Tryz.func56 (fun R hR => ?_)
 refine xh 2 [] hM (sK sR) (fun w1 hM2 hS3 => ?_)
 refine yl [0,1,2] 3 hS3 pE3 0 rfl (cel_obj b 2) rfl ?_
 rcases Bool.eq_false_or_eq_true (decide (((k : Nat) : Int) < 0)) with h5 | h5
 ·
  exact absurd (of_decide_eq_true h5) (by omega)
 ·
  have h5p : ¬ (((k : Nat) : Int) < 0) := of_decide_eq_false h5
  refine ye [4] 5 (decide (((k : Nat) : Int) < 0)) false h5 hS3 ?_
  refine ydp [6,7,8,9,10,11,12,13,14,15,16,17,18,19,20,21,22,23,24,25,26,27,28,29] hS3 ?_
  refine xv 6 (c_load pE3 (hM2.rd 0 rfl) (cel_obj b 1) rfl) ?_
  refine xa 0 ((x : Nat) : Int) 1 (((x + 1) : Nat) : Int) ?_
  refine xst 2 (c_store (E := 3) (u := iN (x + 1)) (by kernel_rfl) hM2 0 rfl (cel_obj b 1) (by decide) rfl rfl) (fun w6 hM8 => ?_)
  exact xr 1 Tryz.func56 hR ⟨rfl, hM8⟩


end Go.Proofs.YthpodbngljfdmaaGreatDoor


namespace Go.Proofs.YthpodbngljfdmaaGreatDoor
open Go Go.Gw Go.UtfP Go.TokP Go.QryP Go.SynP Go.RealP Go.RealQ Go.RdrP Go.RowKit
set_option linter.unusedVariables false
set_option linter.unusedSimpArgs false
set_option maxRecDepth 20000


set_option maxHeartbeats 400000 in
theorem rdl_c (c : Int) (w : World) :
  Calls Tryz.prog 78 #[.int .u8 c] w (fun e w' => e = .returned (.bool (letterP c)) ∧ w = w') := by
 refine xe 21 Tryz.func78 (fun R hR => ?_)
 refine xfc 9 5 (c ≥ 97) (fun h1p => ?_) (fun h1p => ?_)
 ·
  refine xfc 4 9 (c ≤ 122) (fun h2p => ?_) (fun h2p => ?_)
  ·
   exact xr 13 (v := .bool true) Tryz.func78 hR ⟨ret_bool (by rw [(letter_iff c).2 (by omega)]), rfl⟩
  ·
   refine xfc 3 12 (c ≥ 48) (fun h3p => ?_) (fun h3p => ?_)
   ·
    refine xfc 5 17 (c ≤ 57) (fun h4p => ?_) (fun h4p => ?_)
    ·
     exact xr 5 (v := .bool true) Tryz.func78 hR ⟨ret_bool (by rw [(letter_iff c).2 (by omega)]), rfl⟩
    ·
     exact xr 5 (v := .bool (c == 95)) Tryz.func78 hR ⟨ret_bool (by first | (simp only [letterP]; rw [decide_eq_decide]; omega) | (simp only [letterP]; grind)), rfl⟩
   ·
    exact xr 10 (v := .bool (c == 95)) Tryz.func78 hR ⟨ret_bool (by first | (simp only [letterP]; rw [decide_eq_decide]; omega) | (simp only [letterP]; grind)), rfl⟩
 ·
  refine xfc 7 12 (c ≥ 48) (fun h5p => ?_) (fun h5p => ?_)
  ·
   refine xfc 5 17 (c ≤ 57) (fun h6p => ?_) (fun h6p => ?_)
   ·
    exact xr 5 (v := .bool true) Tryz.func78 hR ⟨ret_bool (by rw [(letter_iff c).2 (by omega)]), rfl⟩
   ·
    exact xr 5 (v := .bool (c == 95)) Tryz.func78 hR ⟨ret_bool (by first | (simp only [letterP]; rw [decide_eq_decide]; omega) | (simp only [letterP]; grind)), rfl⟩
  ·
   exact xr 10 (v := .bool (c == 95)) Tryz.func78 hR ⟨ret_bool (by first | (simp only [letterP]; rw [decide_eq_decide]; omega) | (simp only [letterP]; grind)), rfl⟩

set_option maxHeartbeats 400000 in
theorem rds_c (s : List UInt8) (hs : s.length ≤ 8192) (b : Nat) (i : Nat) (hi : i ≤ s.length) {w : World} (hM : Mem [b] w w [⟨55, 3, (obj b), 1, [sS s, iN i, .int .i64 (-1)]⟩])  :
  Calls Tryz.prog 81 #[pq b] w (Two (smallP s i) (fun x v w' => v = .int .i64 x.1 ∧ Mem [b] w w' [⟨55, 3, (obj b), 1, [sS s, iN x.2, .int .i64 (-1)]⟩]) (fun k v w' => v = .int .i64 0 ∧ Mem [b] w w' [⟨55, 3, (obj b), 1, [sS s, iN i, iN k]⟩])) := by
 refine xe 38 Tryz.func81 (fun R hR => ?_)
 have hb4 := bl_bd s i
 have hb5 := bl_or s i
 refine xk 19 (rdc_c s (by omega) i (by omega) b (hM.rd 0 rfl)) (fun w1 m2 => ?_)
 have hM3 := hM.j m2
 refine xfc 3 12 ((bl s i) ≥ 48) (fun h6p => ?_) (fun h6p => ?_)
 ·
  have hb10 := bl_bd s i
  have hb11 := bl_or s i
  refine xk 1 (rdc_c s (by omega) i (by omega) b (hM3.rd 0 rfl)) (fun w7 m8 => ?_)
  have hM9 := hM3.j m8
  refine xc 3 ((bl s i) ≤ 57) (fun h12p => ?_) (fun h12p => ?_)
  ·
   have hb19 := bl_bd s i
   have hb20 := bl_or s i
   refine xk 7 (rdc_c s (by omega) i (by omega) b (hM9.rd 0 rfl)) (fun w16 m17 => ?_)
   have hM18 := hM9.j m17
   refine xcv 0 .u8 .i64 (bl s i) (bl s i) (IntWalk.i64_in _ (by omega)) ?_
   refine xa 0 0 (bl s i) (bl s i) ?_
   refine xm 0 (bl s i) 48 ((bl s i) - 48) ?_
   refine xv 7 (c_load pE3 (hM18.rd 0 rfl) (cel_obj b 1) rfl) ?_
   refine xa 0 ((i : Nat) : Int) 1 (((i + 1) : Nat) : Int) ?_
   refine xst 2 (c_store (E := 3) (u := iN (i + 1)) (by kernel_rfl) hM18 0 rfl (cel_obj b 1) (by decide) rfl rfl) (fun w21 hM23 => ?_)
   have hb34 := bl_bd s (i + 1)
   have hb35 := bl_or s (i + 1)
   refine xk 15 (rdc_c s (by omega) (i + 1) (by omega) b (hM23.rd 0 rfl)) (fun w31 m32 => ?_)
   have hM33 := hM23.j m32
   refine xfc 3 12 ((bl s (i + 1)) ≥ 48) (fun h36p => ?_) (fun h36p => ?_)
   ·
    have hb40 := bl_bd s (i + 1)
    have hb41 := bl_or s (i + 1)
    refine xk 1 (rdc_c s (by omega) (i + 1) (by omega) b (hM33.rd 0 rfl)) (fun w37 m38 => ?_)
    have hM39 := hM33.j m38
    refine xc 3 ((bl s (i + 1)) ≤ 57) (fun h42p => ?_) (fun h42p => ?_)
    ·
     refine xt 5 10 ((bl s i) - 48) (10 * ((bl s i) - 48)) ?_
     have hb47 := bl_bd s (i + 1)
     have hb48 := bl_or s (i + 1)
     refine xk 1 (rdc_c s (by omega) (i + 1) (by omega) b (hM39.rd 0 rfl)) (fun w44 m45 => ?_)
     have hM46 := hM39.j m45
     refine xcv 0 .u8 .i64 (bl s (i + 1)) (bl s (i + 1)) (IntWalk.i64_in _ (by omega)) ?_
     refine xa 0 (10 * ((bl s i) - 48)) (bl s (i + 1)) ((10 * ((bl s i) - 48)) + (bl s (i + 1))) ?_
     refine xm 0 ((10 * ((bl s i) - 48)) + (bl s (i + 1))) 48 (((10 * ((bl s i) - 48)) + (bl s (i + 1))) - 48) ?_
     refine xv 7 (c_load pE3 (hM46.rd 0 rfl) (cel_obj b 1) rfl) ?_
     refine xa 0 (((i + 1) : Nat) : Int) 1 ((((i + 1) + 1) : Nat) : Int) ?_
     refine xst 2 (c_store (E := 3) (u := iN ((i + 1) + 1)) (by kernel_rfl) hM46 0 rfl (cel_obj b 1) (by decide) rfl rfl) (fun w49 hM51 => ?_)
     refine xr0 39 (v := .int .i64 (((10 * ((bl s i) - 48)) + (bl s (i + 1))) - 48)) Tryz.func81 ?_
     rw [hR]
     exact .inl ⟨_, _, small_two (by omega) (by omega), rfl, by first | rfl | (congr 1; omega), hM51⟩
    ·
     refine xr0 14 (v := .int .i64 ((bl s i) - 48)) Tryz.func81 ?_
     rw [hR]
     exact .inl ⟨_, _, small_one (by omega) (by omega), rfl, by first | rfl | (congr 1; omega), hM39⟩
   ·
    refine xr0 20 (v := .int .i64 ((bl s i) - 48)) Tryz.func81 ?_
    rw [hR]
    exact .inl ⟨_, _, small_one (by omega) (by omega), rfl, by first | rfl | (congr 1; omega), hM33⟩
  ·
   refine xk 10 (rdf_c s i b hM9.lend1) (fun w13 m14 => ?_)
   have hM15 := hM9.back1 m14
   refine xr0 6 (v := .int .i64 0) Tryz.func81 ?_
   rw [hR]
   exact .inr ⟨_, _, small_none (by omega), rfl, rfl, hM15⟩
 ·
  refine xk 16 (rdf_c s i b hM3.lend1) (fun w59 m60 => ?_)
  have hM61 := hM3.back1 m60
  refine xr0 6 (v := .int .i64 0) Tryz.func81 ?_
  rw [hR]
  exact .inr ⟨_, _, small_none (by omega), rfl, rfl, hM61⟩

set_option maxHeartbeats 400000 in
theorem rdsx_c (s : List UInt8) (x k : Nat) (b : Nat) {w : World} (hb : Rd w 3 (obj b) 1 [sS s, iN x, iN k])  :
  Calls Tryz.prog 81 #[pq b] w (fun e w' => e = .returned (.int .i64 0) ∧ Mem [] w w' []) := by
 refine xe 38 Tryz.func81 (fun R hR => ?_)
 have hM0 := Mem.start w
 refine xk 19 (rdcx_c s x k b (hb.kept0 hM0.kept)) (fun w1 m2 => ?_)
 have hM3 := hM0.j m2
 refine xka 19 (rdfx_c (w := w1) s x k b (hb.kept0 hM3.kept)) ?_
 exact xr 6 Tryz.func81 hR ⟨rfl, hM3.sub sN⟩


end Go.Proofs.YthpodbngljfdmaaGreatDoor


namespace Go.Proofs.YthpodbngljfdmaaGreatDoor
open Go Go.Gw Go.UtfP Go.TokP Go.QryP Go.SynP Go.RealP Go.RealQ Go.RdrP Go.RowKit
set_option linter.unusedVariables false
set_option linter.unusedSimpArgs false
set_option maxRecDepth 20000


theorem sb1 (s : List UInt8) (j : Nat) : bytesOf [bl s j] = [s.getD j 0] := by
 unfold bytesOf bl; simp
set_option maxHeartbeats 400000 in
theorem rdq_L (s : List UInt8) (hs : s.length ≤ 8192) (b : Nat) (i : Nat) {w : World} (R : Ending → World → Prop) (hR : R = (Two (quotedP s i) (fun x v w' => v = sS x.1 ∧ Mem [b] w w' [⟨55, 3, (obj b), 1, [sS s, iN x.2, .int .i64 (-1)]⟩]) (fun k v w' => v = sS [] ∧ ∃ x, x ≤ s.length + 1 ∧ Mem [b] w w' [⟨55, 3, (obj b), 1, [sS s, iN x, iN k]⟩]))) : ∀ (N : Nat) (n j : Nat) (X : List UInt8) (w1 : World) (hn : s.length - j ≤ n) (hq : quoteL s (n + 1) j X = quotedP s i) (hl : X.length ≤ j) (hj : j ≤ s.length) (hM : Mem [b] w w1 [⟨55, 3, (obj b), 1, [sS s, iN j, .int .i64 (-1)]⟩]) (hN : s.length - j < N), GoS Tryz.prog 80 R 102 [iC Tryz.f80 [1,1,1,0,0,0], iL Tryz.f80 [1,1,1,0,0,0], .inBlock 0, iC Tryz.f80 [1,1,1,1]] [(0, pq b), (3, sS X)] w1 := by
 intro N
 induction N with
 | zero => intro n j X w1 hn hq hl hj hM hN; exact absurd hN (Nat.not_lt_zero _)
 | succ N ih =>
  intro n j X w1 hn hq hl hj hM hN
  have hb0_ := bl_bd s j
  have hb1_ := bl_bd s (j + 1)
  have hor_ := bl_or s (j + 1)
  have hsb_ := congrArg List.length (sb1 s j)
  have hsb2_ := congrArg List.length (sb1 s (j + 1))
  simp only [List.length_cons, List.length_nil] at hsb_ hsb2_
  refine xs ?_
  refine xv 6 (c_load pE3 (hM.rd 0 rfl) (cel_obj b 2) rfl) ?_
  refine xh 7 [] hM (sK sR) (fun w2 hM3 hS4 => ?_)
  refine yl [0,1,2] 3 hS4 pE3 0 rfl (cel_obj b 1) rfl ?_
  refine yl [4,5,6] 7 hS4 pE9 0 rfl (cel_obj b 0) rfl ?_
  refine yv [] 8 (fun W_ hW_ => (show (Builtin.len_ #[9] 3 #[sS s]).run Tryz.prog W_ = .ok (iN s.length) W_ from f_len (by kernel_rfl))) hS4 ?_
  refine ydp [9] hS4 ?_
  refine xc 0 (((j : Nat) : Int) ≥ ((s.length : Nat) : Int)) (fun h6p => ?_) (fun h6p => ?_)
  ·
   refine xk 3 (rdf_c s j b hM3.lend1) (fun w7 m8 => ?_)
   have hM9 := hM3.back1 m8
   refine xr0 6 (v := sS ([])) Tryz.func80 ?_
   rw [hR]
   exact .inr ⟨_, _, hq.symm.trans (quote_end (by omega)), rfl, rfl, _, by omega, hM9⟩
  ·
   refine xh 2 [] hM3 (sK sR) (fun w10 hM11 hS12 => ?_)
   refine yl [0,1,2] 3 hS12 pE9 0 rfl (cel_obj b 0) rfl ?_
   refine yl [4,5,6] 7 hS12 pE3 0 rfl (cel_obj b 1) rfl ?_
   have hb14 := bl_bd s j
   refine yv [] 8 (fun W_ hW_ => (show (Instr.index 9 (sS s) (iN j)).run Tryz.prog W_ = .ok (.int .u8 (bl s j)) W_ from f_index j (by kernel_rfl) (by omega) (by omega))) hS12 ?_
   refine ydp [9] hS12 ?_
   refine xv 5 (c_load pE3 (hM11.rd 0 rfl) (cel_obj b 1) rfl) ?_
   refine xa 0 ((j : Nat) : Int) 1 (((j + 1) : Nat) : Int) ?_
   refine xst 2 (c_store (E := 3) (u := iN (j + 1)) (by kernel_rfl) hM11 0 rfl (cel_obj b 1) (by decide) rfl rfl) (fun w15 hM17 => ?_)
   refine xc 7 ((bl s j) = 34) (fun h22p => ?_) (fun h22p => ?_)
   ·
    refine xr0 5 (v := sS X) Tryz.func80 ?_
    rw [hR]
    exact .inl ⟨_, _, hq.symm.trans (quote_close (by omega)), rfl, rfl, hM17⟩
   ·
    refine xc 7 ((bl s j) = 92) (fun h23p => ?_) (fun h23p => ?_)
    ·
     refine xh 2 [] hM17 (sK sR) (fun w24 hM25 hS26 => ?_)
     refine yl [0,1,2] 3 hS26 pE3 0 rfl (cel_obj b 1) rfl ?_
     refine yl [4,5,6] 7 hS26 pE9 0 rfl (cel_obj b 0) rfl ?_
     refine yv [] 8 (fun W_ hW_ => (show (Builtin.len_ #[9] 3 #[sS s]).run Tryz.prog W_ = .ok (iN s.length) W_ from f_len (by kernel_rfl))) hS26 ?_
     rcases Bool.eq_false_or_eq_true (decide ((((j + 1) : Nat) : Int) ≥ ((s.length : Nat) : Int))) with h28 | h28
     ·
      have h28p : (((j + 1) : Nat) : Int) ≥ ((s.length : Nat) : Int) := of_decide_eq_true h28
      refine ye [9] 10 (decide ((((j + 1) : Nat) : Int) ≥ ((s.length : Nat) : Int))) true h28 hS26 ?_
      refine ydp [11,12,13,14,15,16,17,18,19,20,21,22,23,24,25,26,27,28,29,30,31,32,33] hS26 ?_
      refine xk 4 (rdf_c s (j + 1) b hM25.lend1) (fun w29 m30 => ?_)
      have hM31 := hM25.back1 m30
      refine xr0 6 (v := sS ([])) Tryz.func80 ?_
      rw [hR]
      exact .inr ⟨_, _, hq.symm.trans (quote_bad (by omega) (by omega) (by omega)), rfl, rfl, _, by omega, hM31⟩
     ·
      have h28p : ¬ ((((j + 1) : Nat) : Int) ≥ ((s.length : Nat) : Int)) := of_decide_eq_false h28
      refine ye [9] 10 (decide ((((j + 1) : Nat) : Int) ≥ ((s.length : Nat) : Int))) false h28 hS26 ?_
      refine yl [11,12,13] 14 hS26 pE9 0 rfl (cel_obj b 0) rfl ?_
      refine yl [15,16,17] 18 hS26 pE3 0 rfl (cel_obj b 1) rfl ?_
      have hb32 := bl_bd s (j + 1)
      refine yv [] 19 (fun W_ hW_ => (show (Instr.index 9 (sS s) (iN (j + 1))).run Tryz.prog W_ = .ok (.int .u8 (bl s (j + 1))) W_ from f_index (j + 1) (by kernel_rfl) (by omega) (by omega))) hS26 ?_
      rcases Bool.eq_false_or_eq_true ((bl s (j + 1)) != 34) with h33 | h33
      ·
       have h33p : ¬ ((bl s (j + 1)) = 34) := bne_iff_ne.1 h33
       refine ye [20] 21 ((bl s (j + 1)) != 34) true h33 hS26 ?_
       refine yl [22,23,24] 25 hS26 pE9 0 rfl (cel_obj b 0) rfl ?_
       refine yl [26,27,28] 29 hS26 pE3 0 rfl (cel_obj b 1) rfl ?_
       have hb34 := bl_bd s (j + 1)
       refine yv [] 30 (fun W_ hW_ => (show (Instr.index 9 (sS s) (iN (j + 1))).run Tryz.prog W_ = .ok (.int .u8 (bl s (j + 1))) W_ from f_index (j + 1) (by kernel_rfl) (by omega) (by omega))) hS26 ?_
       refine ydp [31,32,33] hS26 ?_
       refine xcn 0 ((bl s (j + 1)) = 92) (fun h35p => ?_) (fun h35p => ?_)
       ·
        refine xk 3 (rdf_c s (j + 1) b hM25.lend1) (fun w36 m37 => ?_)
        have hM38 := hM25.back1 m37
        refine xr0 6 (v := sS ([])) Tryz.func80 ?_
        rw [hR]
        exact .inr ⟨_, _, hq.symm.trans (quote_bad (by omega) (by omega) (by omega)), rfl, rfl, _, by omega, hM38⟩
       ·
        refine xh 2 [] hM25 (sK sR) (fun w39 hM40 hS41 => ?_)
        refine yl [0,1,2] 3 hS41 pE9 0 rfl (cel_obj b 0) rfl ?_
        refine yl [4,5,6] 7 hS41 pE3 0 rfl (cel_obj b 1) rfl ?_
        have hb43 := bl_bd s (j + 1)
        refine yv [] 8 (fun W_ hW_ => (show (Instr.index 9 (sS s) (iN (j + 1))).run Tryz.prog W_ = .ok (.int .u8 (bl s (j + 1))) W_ from f_index (j + 1) (by kernel_rfl) (by omega) (by omega))) hS41 ?_
        refine ydp [9] hS41 ?_
        refine xv 4 (c_load pE3 (hM40.rd 0 rfl) (cel_obj b 1) rfl) ?_
        refine xa 0 (((j + 1) : Nat) : Int) 1 ((((j + 1) + 1) : Nat) : Int) ?_
        refine xst 2 (c_store (E := 3) (u := iN ((j + 1) + 1)) (by kernel_rfl) hM40 0 rfl (cel_obj b 1) (by decide) rfl rfl) (fun w44 hM46 => ?_)
        refine xx 4 (m_lit sT76 hM46 (n := 1) (parts := #[(0, .int .u8 (bl s (j + 1)))]) (cs := [.int .u8 (bl s (j + 1))]) (by decide) (by kernel_rfl) rfl) (fun v63 w64 hM66 => ?_)
        refine xv 0 (show (convert 76 9 (v63)).run Tryz.prog w64 = .ok (sS (bytesOf ([(bl s (j + 1))] : List Int))) w64 from f_string_i sT76 (by kernel_rfl) (by kernel_rfl) (hM66.rd 0 rfl) (by intro x_ hx_; simp at hx_; omega)) ?_
        refine xqa 0 X (bytesOf ([(bl s (j + 1))] : List Int)) ?_
        have hM69 := hM66.sub (sD (sK sR))
        exact xl 4 (ih (n - 1) ((j + 1) + 1) (X ++ (bytesOf ([(bl s (j + 1))] : List Int))) _ (by omega) (by rw [sb1, show n - 1 + 1 = n by omega]; exact (quote_esc (by omega) (by omega)).symm.trans hq) (by rw [sb1]; simp only [List.length_append, List.length_cons, List.length_nil]; omega) (by omega) hM69 (by omega))
      ·
       have h33p : (bl s (j + 1)) = 34 := p_eq h33
       refine ye [20] 21 ((bl s (j + 1)) != 34) false h33 hS26 ?_
       refine ydp [22,23,24,25,26,27,28,29,30,31,32,33] hS26 ?_
       refine xh 3 [] hM25 (sK sR) (fun w51 hM52 hS53 => ?_)
       refine yl [0,1,2] 3 hS53 pE9 0 rfl (cel_obj b 0) rfl ?_
       refine yl [4,5,6] 7 hS53 pE3 0 rfl (cel_obj b 1) rfl ?_
       have hb55 := bl_bd s (j + 1)
       refine yv [] 8 (fun W_ hW_ => (show (Instr.index 9 (sS s) (iN (j + 1))).run Tryz.prog W_ = .ok (.int .u8 (bl s (j + 1))) W_ from f_index (j + 1) (by kernel_rfl) (by omega) (by omega))) hS53 ?_
       refine ydp [9] hS53 ?_
       refine xv 4 (c_load pE3 (hM52.rd 0 rfl) (cel_obj b 1) rfl) ?_
       refine xa 0 (((j + 1) : Nat) : Int) 1 ((((j + 1) + 1) : Nat) : Int) ?_
       refine xst 2 (c_store (E := 3) (u := iN ((j + 1) + 1)) (by kernel_rfl) hM52 0 rfl (cel_obj b 1) (by decide) rfl rfl) (fun w56 hM58 => ?_)
       refine xx 4 (m_lit sT76 hM58 (n := 1) (parts := #[(0, .int .u8 (bl s (j + 1)))]) (cs := [.int .u8 (bl s (j + 1))]) (by decide) (by kernel_rfl) rfl) (fun v70 w71 hM73 => ?_)
       refine xv 0 (show (convert 76 9 (v70)).run Tryz.prog w71 = .ok (sS (bytesOf ([(bl s (j + 1))] : List Int))) w71 from f_string_i sT76 (by kernel_rfl) (by kernel_rfl) (hM73.rd 0 rfl) (by intro x_ hx_; simp at hx_; omega)) ?_
       refine xqa 0 X (bytesOf ([(bl s (j + 1))] : List Int)) ?_
       have hM76 := hM73.sub (sD (sK sR))
       exact xl 4 (ih (n - 1) ((j + 1) + 1) (X ++ (bytesOf ([(bl s (j + 1))] : List Int))) _ (by omega) (by rw [sb1, show n - 1 + 1 = n by omega]; exact (quote_esc (by omega) (by omega)).symm.trans hq) (by rw [sb1]; simp only [List.length_append, List.length_cons, List.length_nil]; omega) (by omega) hM76 (by omega))
    ·
     refine xx 4 (m_lit sT76 hM17 (n := 1) (parts := #[(0, .int .u8 (bl s j))]) (cs := [.int .u8 (bl s j)]) (by decide) (by kernel_rfl) rfl) (fun v77 w78 hM80 => ?_)
     refine xv 0 (show (convert 76 9 (v77)).run Tryz.prog w78 = .ok (sS (bytesOf ([(bl s j)] : List Int))) w78 from f_string_i sT76 (by kernel_rfl) (by kernel_rfl) (hM80.rd 0 rfl) (by intro x_ hx_; simp at hx_; omega)) ?_
     refine xqa 0 X (bytesOf ([(bl s j)] : List Int)) ?_
     have hM83 := hM80.sub (sD (sK sR))
     exact xl 4 (ih (n - 1) (j + 1) (X ++ (bytesOf ([(bl s j)] : List Int))) _ (by omega) (by rw [sb1, show n - 1 + 1 = n by omega]; exact (quote_byte (by omega) (by omega) (by omega)).symm.trans hq) (by rw [sb1]; simp only [List.length_append, List.length_cons, List.length_nil]; omega) (by omega) hM83 (by omega))

set_option maxHeartbeats 400000 in
theorem rdq_c (s : List UInt8) (hs : s.length ≤ 8192) (b : Nat) (i : Nat) (hi : i ≤ s.length) {w : World} (hM : Mem [b] w w [⟨55, 3, (obj b), 1, [sS s, iN i, .int .i64 (-1)]⟩])  :
  Calls Tryz.prog 80 #[pq b] w (Two (quotedP s i) (fun x v w' => v = sS x.1 ∧ Mem [b] w w' [⟨55, 3, (obj b), 1, [sS s, iN x.2, .int .i64 (-1)]⟩]) (fun k v w' => v = sS [] ∧ ∃ x, x ≤ s.length + 1 ∧ Mem [b] w w' [⟨55, 3, (obj b), 1, [sS s, iN x, iN k]⟩])) := by
 refine xe 102 Tryz.func80 (fun R hR => ?_)
 refine xcg 7 (rdm_c s (by omega) 34 b i (by omega) hM.lend1) ?_
 rintro _ w1 (⟨a2, _, hs3, rfl, rfl, m4⟩ | ⟨k6, _, hs7, rfl, rfl, m8⟩)
 ·
  refine ⟨_, rfl, ?_⟩
  have hM5 := hM.back1 m4
  have hx10 := take_inv hs3
  exact xl 8 (rdq_L s hs b i R hR (s.length + 2) (s.length - a2) a2 [] _ (by omega) (by unfold quotedP; rw [hs3]) (by simp) (by omega) hM5 (by omega))
 ·
  refine ⟨_, rfl, ?_⟩
  have hM9 := hM.back1 m8
  refine xv 14 (c_load pE3 (hM9.rd 0 rfl) (cel_obj b 2) rfl) ?_
  refine xc 2 (((k6 : Nat) : Int) < 0) (fun h12p => ?_) (fun h12p => ?_)
  ·
   have h12 : (decide (((k6 : Nat) : Int) < 0)) = true := decide_eq_true h12p
   exact absurd (of_decide_eq_true h12) (by omega)
  ·
   refine xr0 5 (v := sS ([])) Tryz.func80 ?_
   rw [hR]
   exact .inr ⟨_, _, by unfold quotedP; rw [hs7], rfl, rfl, _, by omega, hM9⟩

set_option maxHeartbeats 400000 in
theorem rdqx_c (s : List UInt8) (x k : Nat) (hx : x ≤ 1000000) (b : Nat) {w : World} (hM : Mem [b] w w [⟨55, 3, (obj b), 1, [sS s, iN x, iN k]⟩])  :
  Calls Tryz.prog 80 #[pq b] w (fun e w' => e = .returned (sS []) ∧ Mem [b] w w' [⟨55, 3, (obj b), 1, [sS s, iN (x + 1), iN k]⟩]) := by
 refine xe 102 Tryz.func80 (fun R hR => ?_)
 refine xk 7 (rdmx_c s 34 x k (by omega) b hM.lend1) (fun w1 m2 => ?_)
 have hM3 := hM.back1 m2
 refine xv 14 (c_load pE3 (hM3.rd 0 rfl) (cel_obj b 2) rfl) ?_
 refine xc 2 (((k : Nat) : Int) < 0) (fun h5p => ?_) (fun h5p => ?_)
 ·
  have h5 : (decide (((k : Nat) : Int) < 0)) = true := decide_eq_true h5p
  exact absurd (of_decide_eq_true h5) (by omega)
 ·
  exact xr 5 Tryz.func80 hR ⟨rfl, hM3⟩


end Go.Proofs.YthpodbngljfdmaaGreatDoor


namespace Go.Proofs.YthpodbngljfdmaaGreatDoor
open Go Go.Gw Go.UtfP Go.TokP Go.QryP Go.SynP Go.RealP Go.RealQ Go.RdrP Go.RowKit
set_option linter.unusedVariables false
set_option linter.unusedSimpArgs false
set_option maxRecDepth 20000


set_option maxHeartbeats 400000 in
theorem rdu_L (t : List UInt8) (w : World) (R : Ending → World → Prop) (hR : R = (fun e w' => ∃ n : Nat, e = .returned (.tuple #[.int .u64 (n : Int), .bool (Option.isSome (hexP t))]) ∧ (∀ v, hexP t = some v → n = v) ∧ w = w')) : ∀ (N : Nat) (j n : Nat) (hl : t.length = 17) (hj : 1 ≤ j ∧ j ≤ 17) (hX : hexL (t.drop j) n = hexP t) (hn : n < 16 ^ (j - 1)) (hN : 17 - j < N), GoS Tryz.prog 107 R 48 [iC Tryz.f107 [1,1,1,0,1,0,0], iL Tryz.f107 [1,1,1,0,1,0,0], .inBlock 0, iC Tryz.f107 [1,1,1,1]] [(0, sS t), (4, .int .u64 ((n : Nat) : Int)), (5, iN j)] w := by
 intro N
 induction N with
 | zero => intro j n hl hj hX hn hN; exact absurd hN (Nat.not_lt_zero _)
 | succ N ih =>
  intro j n hl hj hX hn hN
  have hb1 := bl_bd t j
  have hr : j < 17 → n < 1152921504606846976 := fun h => pow_room (by omega) hn
  refine xs ?_
  refine xc 6 (((j : Nat) : Int) < 17) (fun h1p => ?_) (fun h1p => ?_)
  ·
   have hb2 := bl_bd t j
   refine xi 7 t ((j : Nat) : Int) j ?_
   refine xfc 7 24 ((bl t j) ≥ 48) (fun h4p => ?_) (fun h4p => ?_)
   ·
    refine xc 4 ((bl t j) ≤ 57) (fun h5p => ?_) (fun h5p => ?_)
    ·
     refine xmul 2 .u64 16 ((n : Nat) : Int) (((16 * n) : Nat) : Int) (by rw [show 16 * ((n : Nat) : Int) = (((16 * n) : Nat) : Int) by omega]; exact IntWalk.u64_in _ (by omega)) ?_
     refine xsub 1 .u8 (bl t j) 48 ((bl t j) - 48) (IntWalk.u8_in _ (by omega)) ?_
     refine xcv 0 .u8 .u64 ((bl t j) - 48) (((Int.toNat ((bl t j) - 48)) : Nat) : Int) ((IntWalk.u64_in _ (by omega)).trans (by omega)) ?_
     refine xadd 0 .u64 (((16 * n) : Nat) : Int) (((Int.toNat ((bl t j) - 48)) : Nat) : Int) ((((16 * n) + (Int.toNat ((bl t j) - 48))) : Nat) : Int) (by rw [show (((16 * n) : Nat) : Int) + (((Int.toNat ((bl t j) - 48)) : Nat) : Int) = ((((16 * n) + (Int.toNat ((bl t j) - 48))) : Nat) : Int) by omega]; exact IntWalk.u64_in _ (by omega)) ?_
     refine xa 5 ((j : Nat) : Int) 1 (((j + 1) : Nat) : Int) ?_
     exact xl 3 (l := [(0, sS t), (4, .int .u64 ((((16 * n) + (Int.toNat ((bl t j) - 48))) : Nat) : Int)), (5, iN (j + 1))]) (GoS.cast (by rw [show ((((16 * n) + (Int.toNat ((bl t j) - 48))) : Nat) : Int) = ((16 * n + (Int.toNat ((bl t j) - 48)) : Nat) : Int) by omega]; first | done | rfl) (ih (j + 1) (16 * n + (Int.toNat ((bl t j) - 48))) (by omega) (by omega) (by rw [← hX, hexL_step (n := n) (by omega), hd_num (by omega)]) (by rw [show j + 1 - 1 = (j - 1) + 1 by omega]; exact pow_step hn (by omega)) (by omega)))
    ·
     refine xfc 5 36 ((bl t j) ≥ 97) (fun h10p => ?_) (fun h10p => ?_)
     ·
      refine xc 4 ((bl t j) ≤ 102) (fun h11p => ?_) (fun h11p => ?_)
      ·
       refine xmul 2 .u64 16 ((n : Nat) : Int) (((16 * n) : Nat) : Int) (by rw [show 16 * ((n : Nat) : Int) = (((16 * n) : Nat) : Int) by omega]; exact IntWalk.u64_in _ (by omega)) ?_
       refine xsub 1 .u8 (bl t j) 97 ((bl t j) - 97) (IntWalk.u8_in _ (by omega)) ?_
       refine xcv 0 .u8 .u64 ((bl t j) - 97) (((Int.toNat ((bl t j) - 97)) : Nat) : Int) ((IntWalk.u64_in _ (by omega)).trans (by omega)) ?_
       refine xadd 0 .u64 (((16 * n) : Nat) : Int) (((Int.toNat ((bl t j) - 97)) : Nat) : Int) ((((16 * n) + (Int.toNat ((bl t j) - 97))) : Nat) : Int) (by rw [show (((16 * n) : Nat) : Int) + (((Int.toNat ((bl t j) - 97)) : Nat) : Int) = ((((16 * n) + (Int.toNat ((bl t j) - 97))) : Nat) : Int) by omega]; exact IntWalk.u64_in _ (by omega)) ?_
       refine xadd 0 .u64 ((((16 * n) + (Int.toNat ((bl t j) - 97))) : Nat) : Int) 10 (((((16 * n) + (Int.toNat ((bl t j) - 97))) + 10) : Nat) : Int) (by rw [show ((((16 * n) + (Int.toNat ((bl t j) - 97))) : Nat) : Int) + 10 = (((((16 * n) + (Int.toNat ((bl t j) - 97))) + 10) : Nat) : Int) by omega]; exact IntWalk.u64_in _ (by omega)) ?_
       refine xa 5 ((j : Nat) : Int) 1 (((j + 1) : Nat) : Int) ?_
       exact xl 3 (l := [(0, sS t), (4, .int .u64 (((((16 * n) + (Int.toNat ((bl t j) - 97))) + 10) : Nat) : Int)), (5, iN (j + 1))]) (GoS.cast (by rw [show (((((16 * n) + (Int.toNat ((bl t j) - 97))) + 10) : Nat) : Int) = ((16 * n + (Int.toNat ((bl t j) - 87)) : Nat) : Int) by omega]; first | done | rfl) (ih (j + 1) (16 * n + (Int.toNat ((bl t j) - 87))) (by omega) (by omega) (by rw [← hX, hexL_step (n := n) (by omega), hd_let (by omega)]) (by rw [show j + 1 - 1 = (j - 1) + 1 by omega]; exact pow_step hn (by omega)) (by omega)))
      ·
       have hz : hexP t = none := by rw [← hX, hexL_step (by omega), hd_no (by omega) (by omega)]
       exact xr 5 (v := .tuple #[.int .u64 0, .bool false]) Tryz.func107 hR ⟨0, by rw [hz]; rfl, fun v_ h_ => (by rw [hz] at h_; cases h_), rfl⟩
     ·
      have hz : hexP t = none := by rw [← hX, hexL_step (by omega), hd_no (by omega) (by omega)]
      exact xr 10 (v := .tuple #[.int .u64 0, .bool false]) Tryz.func107 hR ⟨0, by rw [hz]; rfl, fun v_ h_ => (by rw [hz] at h_; cases h_), rfl⟩
   ·
    refine xfc 10 36 ((bl t j) ≥ 97) (fun h19p => ?_) (fun h19p => ?_)
    ·
     refine xc 4 ((bl t j) ≤ 102) (fun h20p => ?_) (fun h20p => ?_)
     ·
      refine xmul 2 .u64 16 ((n : Nat) : Int) (((16 * n) : Nat) : Int) (by rw [show 16 * ((n : Nat) : Int) = (((16 * n) : Nat) : Int) by omega]; exact IntWalk.u64_in _ (by omega)) ?_
      refine xsub 1 .u8 (bl t j) 97 ((bl t j) - 97) (IntWalk.u8_in _ (by omega)) ?_
      refine xcv 0 .u8 .u64 ((bl t j) - 97) (((Int.toNat ((bl t j) - 97)) : Nat) : Int) ((IntWalk.u64_in _ (by omega)).trans (by omega)) ?_
      refine xadd 0 .u64 (((16 * n) : Nat) : Int) (((Int.toNat ((bl t j) - 97)) : Nat) : Int) ((((16 * n) + (Int.toNat ((bl t j) - 97))) : Nat) : Int) (by rw [show (((16 * n) : Nat) : Int) + (((Int.toNat ((bl t j) - 97)) : Nat) : Int) = ((((16 * n) + (Int.toNat ((bl t j) - 97))) : Nat) : Int) by omega]; exact IntWalk.u64_in _ (by omega)) ?_
      refine xadd 0 .u64 ((((16 * n) + (Int.toNat ((bl t j) - 97))) : Nat) : Int) 10 (((((16 * n) + (Int.toNat ((bl t j) - 97))) + 10) : Nat) : Int) (by rw [show ((((16 * n) + (Int.toNat ((bl t j) - 97))) : Nat) : Int) + 10 = (((((16 * n) + (Int.toNat ((bl t j) - 97))) + 10) : Nat) : Int) by omega]; exact IntWalk.u64_in _ (by omega)) ?_
      refine xa 5 ((j : Nat) : Int) 1 (((j + 1) : Nat) : Int) ?_
      exact xl 3 (l := [(0, sS t), (4, .int .u64 (((((16 * n) + (Int.toNat ((bl t j) - 97))) + 10) : Nat) : Int)), (5, iN (j + 1))]) (GoS.cast (by rw [show (((((16 * n) + (Int.toNat ((bl t j) - 97))) + 10) : Nat) : Int) = ((16 * n + (Int.toNat ((bl t j) - 87)) : Nat) : Int) by omega]; first | done | rfl) (ih (j + 1) (16 * n + (Int.toNat ((bl t j) - 87))) (by omega) (by omega) (by rw [← hX, hexL_step (n := n) (by omega), hd_let (by omega)]) (by rw [show j + 1 - 1 = (j - 1) + 1 by omega]; exact pow_step hn (by omega)) (by omega)))
     ·
      have hz : hexP t = none := by rw [← hX, hexL_step (by omega), hd_no (by omega) (by omega)]
      exact xr 5 (v := .tuple #[.int .u64 0, .bool false]) Tryz.func107 hR ⟨0, by rw [hz]; rfl, fun v_ h_ => (by rw [hz] at h_; cases h_), rfl⟩
    ·
     have hz : hexP t = none := by rw [← hX, hexL_step (by omega), hd_no (by omega) (by omega)]
     exact xr 10 (v := .tuple #[.int .u64 0, .bool false]) Tryz.func107 hR ⟨0, by rw [hz]; rfl, fun v_ h_ => (by rw [hz] at h_; cases h_), rfl⟩
  ·
   have hz : hexP t = some n := by rw [← hX, show j = t.length by omega, hexL_end (by omega)]
   exact xr 7 (v := .tuple #[.int .u64 ((n : Nat) : Int), .bool true]) Tryz.func107 hR ⟨n, by rw [hz]; rfl, fun v_ h_ => (by rw [hz] at h_; cases h_; rfl), rfl⟩

set_option maxHeartbeats 400000 in
theorem rdu_c (t : List UInt8) (ht : t.length ≤ 8192) (w : World) :
  Calls Tryz.prog 107 #[sS t] w (fun e w' => ∃ n : Nat, e = .returned (.tuple #[.int .u64 (n : Int), .bool (Option.isSome (hexP t))]) ∧ (∀ v, hexP t = some v → n = v) ∧ w = w') := by
 refine xe 48 Tryz.func107 (fun R hR => ?_)
 refine xn 9 t ?_
 refine xfn 2 10 (((t.length : Nat) : Int) = 17) (fun h2p => ?_) (fun h2p => ?_)
 ·
  have hz : hexP t = none := hx_none (by omega)
  exact xr 11 (v := .tuple #[.int .u64 0, .bool false]) Tryz.func107 hR ⟨0, by rw [hz]; rfl, fun v_ h_ => (by rw [hz] at h_; cases h_), rfl⟩
 ·
  have hb3 := bl_bd t 0
  refine xi 1 t 0 0 ?_
  refine xcn 3 ((bl t 0) = 35) (fun h5p => ?_) (fun h5p => ?_)
  ·
   have hz : hexP t = none := hx_none (by omega)
   exact xr 5 (v := .tuple #[.int .u64 0, .bool false]) Tryz.func107 hR ⟨0, by rw [hz]; rfl, fun v_ h_ => (by rw [hz] at h_; cases h_), rfl⟩
  ·
   exact xl 12 (rdu_L t w R hR (t.length + 1) 1 0 (by omega) (by omega) (hx_yes ⟨by omega, by omega⟩).symm (by decide) (by omega))


end Go.Proofs.YthpodbngljfdmaaGreatDoor


namespace Go.Proofs.YthpodbngljfdmaaGreatDoor
open Go Go.Gw Go.UtfP Go.TokP Go.QryP Go.SynP Go.RealP Go.RealQ Go.RdrP Go.RowKit
set_option linter.unusedVariables false
set_option linter.unusedSimpArgs false
set_option maxRecDepth 20000


set_option maxHeartbeats 1000000 in
theorem rdn_L (s : List UInt8) (hs : s.length ≤ 8192) (c : Int) (hc : 0 ≤ c ∧ c ≤ 255) (b : Nat) (i : Nat) (hi : i ≤ s.length) {w : World} (hM : Mem [b] w w [⟨55, 3, (obj b), 1, [sS s, iN i, .int .i64 (-1)]⟩])  (R : Ending → World → Prop) (hR : R = (Two (numberP s c i) (fun x v w' => v = .int .u64 ((x.1 : Nat) : Int) ∧ Mem [b] w w' [⟨55, 3, (obj b), 1, [sS s, iN x.2, .int .i64 (-1)]⟩]) (fun k v w' => v = .int .u64 0 ∧ Mem [b] w w' [⟨55, 3, (obj b), 1, [sS s, iN i, iN k]⟩]))) : ∀ (N : Nat) (j : Nat) (hij : i ≤ j) (hj : j ≤ s.length) (hno : ∀ m, i ≤ m → m < j → bl s m ≠ c) (hN : s.length - j < N), GoS Tryz.prog 79 R 81 [iC Tryz.f79 [1,1,1,0,0,0], iL Tryz.f79 [1,1,1,0,0,0], .inBlock 0, iC Tryz.f79 [1,1,1,1]] [(0, pq b), (1, .int .u8 c), (5, iN j)] w := by
 intro N
 induction N with
 | zero => intro j hij hj hno hN; exact absurd hN (Nat.not_lt_zero _)
 | succ N ih =>
  intro j hij hj hno hN
  have hb1 := bl_bd s j
  refine xs ?_
  refine xv 7 (c_load pE9 (hM.rd 0 rfl) (cel_obj b 0) rfl) ?_
  refine xn 0 s ?_
  refine xfc 2 27 (((j : Nat) : Int) < ((s.length : Nat) : Int)) (fun h3p => ?_) (fun h3p => ?_)
  ·
   refine xv 3 (c_load pE9 (hM.rd 0 rfl) (cel_obj b 0) rfl) ?_
   have hb4 := bl_bd s j
   refine xi 1 s ((j : Nat) : Int) j ?_
   refine xcn 4 ((bl s j) = c) (fun h7p => ?_) (fun h7p => ?_)
   ·
    refine xa 4 ((j : Nat) : Int) 1 (((j + 1) : Nat) : Int) ?_
    exact xl 4 (ih (j + 1) (by omega) (by omega) (no_step hno (by omega)) (by omega))
   ·
    refine xv 8 (c_load pE9 (hM.rd 0 rfl) (cel_obj b 0) rfl) ?_
    refine xn 0 s ?_
    refine xc 2 (((j : Nat) : Int) = ((s.length : Nat) : Int)) (fun h10p => ?_) (fun h10p => ?_)
    ·
     refine xk 3 (rdf_c s i b hM.lend1) (fun w11 m12 => ?_)
     have hM13 := hM.back1 m12
     refine xr0 5 (v := .int .u64 0) Tryz.func79 ?_
     rw [hR]
     exact .inr ⟨_, _, nr_none hc hno (by omega), rfl, rfl, hM13⟩
    ·
     refine xh 2 [] hM (sK sR) (fun w14 hM15 hS16 => ?_)
     refine yl [0,1,2] 3 hS16 pE9 0 rfl (cel_obj b 0) rfl ?_
     refine yl [4,5,6] 7 hS16 pE3 0 rfl (cel_obj b 1) rfl ?_
     refine yv [8] 9 (fun W_ hW_ => (show (Instr.sliceAt 9 (sS s) (some (iN i)) (some (iN j)) none).run Tryz.prog W_ = .ok (sS (List.drop i (List.take j s))) W_ from f_slice_lohi i j (by kernel_rfl) (by omega) (by omega) (by omega) (by omega))) hS16 ?_
     refine ydp [10] hS16 ?_
     refine xcg 3 (rdu_c (List.drop i (List.take j s)) (by rw [List.length_drop, List.length_take]; omega) w14) ?_
     rintro _ _ ⟨n18, rfl, hn19, rfl⟩
     refine ⟨_, rfl, ?_⟩
     refine xb 12 (!(Option.isSome (hexP (List.drop i (List.take j s))))) (fun h20 => ?_) (fun h20 => ?_)
     ·
      refine xk 3 (rparse_c (List.drop i (List.take j s)) (by rw [List.length_drop, List.length_take]; omega) w14) (fun w21 m22 => ?_)
      have hM23 : Mem [b] w w21 [⟨55, 3, (obj b), 1, [sS s, iN i, .int .i64 (-1)]⟩] := Mem.join (R := []) hM15 m22
      refine xcn 12 ((parseE (List.drop i (List.take j s))) = 0) (fun h24p => ?_) (fun h24p => ?_)
      ·
       refine xk 3 (rdf_c s i b hM23.lend1) (fun w25 m26 => ?_)
       have hM27 := hM23.back1 m26
       refine xr0 5 (v := .int .u64 0) Tryz.func79 ?_
       rw [hR]
       exact .inr ⟨_, _, nr_bad hc hij hno (by omega) (by omega) (by simpa using h20) (by omega), rfl, rfl, hM27⟩
      ·
       refine xa 9 ((j : Nat) : Int) 1 (((j + 1) : Nat) : Int) ?_
       refine xst 2 (c_store (E := 3) (u := iN (j + 1)) (by kernel_rfl) hM23 0 rfl (cel_obj b 1) (by decide) rfl rfl) (fun w28 hM30 => ?_)
       refine xr0 6 (v := .int .u64 (((parseV (List.drop i (List.take j s))) : Nat) : Int)) Tryz.func79 ?_
       rw [hR]
       exact .inl ⟨_, _, nr_real hc hij hno (by omega) (by omega) (by simpa using h20) (by omega), rfl, rfl, hM30⟩
     ·
      refine xa 5 ((j : Nat) : Int) 1 (((j + 1) : Nat) : Int) ?_
      refine xst 2 (c_store (E := 3) (u := iN (j + 1)) (by kernel_rfl) hM15 0 rfl (cel_obj b 1) (by decide) rfl rfl) (fun w34 hM36 => ?_)
      refine xr0 6 (v := .int .u64 ((n18 : Nat) : Int)) Tryz.func79 ?_
      rw [hR]
      obtain ⟨v_, hv_⟩ := Option.isSome_iff_exists.1 (by simpa using h20)
      have hn_ := hn19 _ hv_
      exact .inl ⟨_, _, nr_hex hc hij hno (by omega) (by omega) hv_, rfl, by rw [hn_], hM36⟩
  ·
   refine xv 19 (c_load pE9 (hM.rd 0 rfl) (cel_obj b 0) rfl) ?_
   refine xn 0 s ?_
   refine xc 2 (((j : Nat) : Int) = ((s.length : Nat) : Int)) (fun h43p => ?_) (fun h43p => ?_)
   ·
    refine xk 3 (rdf_c s i b hM.lend1) (fun w44 m45 => ?_)
    have hM46 := hM.back1 m45
    refine xr0 5 (v := .int .u64 0) Tryz.func79 ?_
    rw [hR]
    exact .inr ⟨_, _, nr_none hc hno (by omega), rfl, rfl, hM46⟩
   ·
    refine xh 2 [] hM (sK sR) (fun w47 hM48 hS49 => ?_)
    refine yl [0,1,2] 3 hS49 pE9 0 rfl (cel_obj b 0) rfl ?_
    refine yl [4,5,6] 7 hS49 pE3 0 rfl (cel_obj b 1) rfl ?_
    refine yv [8] 9 (fun W_ hW_ => (show (Instr.sliceAt 9 (sS s) (some (iN i)) (some (iN j)) none).run Tryz.prog W_ = .ok (sS (List.drop i (List.take j s))) W_ from f_slice_lohi i j (by kernel_rfl) (by omega) (by omega) (by omega) (by omega))) hS49 ?_
    refine ydp [10] hS49 ?_
    refine xcg 3 (rdu_c (List.drop i (List.take j s)) (by rw [List.length_drop, List.length_take]; omega) w47) ?_
    rintro _ _ ⟨n51, rfl, hn52, rfl⟩
    refine ⟨_, rfl, ?_⟩
    refine xb 12 (!(Option.isSome (hexP (List.drop i (List.take j s))))) (fun h53 => ?_) (fun h53 => ?_)
    ·
     refine xk 3 (rparse_c (List.drop i (List.take j s)) (by rw [List.length_drop, List.length_take]; omega) w47) (fun w54 m55 => ?_)
     have hM56 : Mem [b] w w54 [⟨55, 3, (obj b), 1, [sS s, iN i, .int .i64 (-1)]⟩] := Mem.join (R := []) hM48 m55
     refine xcn 12 ((parseE (List.drop i (List.take j s))) = 0) (fun h57p => ?_) (fun h57p => ?_)
     ·
      refine xk 3 (rdf_c s i b hM56.lend1) (fun w58 m59 => ?_)
      have hM60 := hM56.back1 m59
      refine xr0 5 (v := .int .u64 0) Tryz.func79 ?_
      rw [hR]
      exact .inr ⟨_, _, nr_bad hc hij hno (by omega) (by omega) (by simpa using h53) (by omega), rfl, rfl, hM60⟩
     ·
      refine xa 9 ((j : Nat) : Int) 1 (((j + 1) : Nat) : Int) ?_
      refine xst 2 (c_store (E := 3) (u := iN (j + 1)) (by kernel_rfl) hM56 0 rfl (cel_obj b 1) (by decide) rfl rfl) (fun w61 hM63 => ?_)
      refine xr0 6 (v := .int .u64 (((parseV (List.drop i (List.take j s))) : Nat) : Int)) Tryz.func79 ?_
      rw [hR]
      exact .inl ⟨_, _, nr_real hc hij hno (by omega) (by omega) (by simpa using h53) (by omega), rfl, rfl, hM63⟩
    ·
     refine xa 5 ((j : Nat) : Int) 1 (((j + 1) : Nat) : Int) ?_
     refine xst 2 (c_store (E := 3) (u := iN (j + 1)) (by kernel_rfl) hM48 0 rfl (cel_obj b 1) (by decide) rfl rfl) (fun w67 hM69 => ?_)
     refine xr0 6 (v := .int .u64 ((n51 : Nat) : Int)) Tryz.func79 ?_
     rw [hR]
     obtain ⟨v_, hv_⟩ := Option.isSome_iff_exists.1 (by simpa using h53)
     have hn_ := hn52 _ hv_
     exact .inl ⟨_, _, nr_hex hc hij hno (by omega) (by omega) hv_, rfl, by rw [hn_], hM69⟩

set_option maxHeartbeats 400000 in
theorem rdn_c (s : List UInt8) (hs : s.length ≤ 8192) (c : Int) (hc : 0 ≤ c ∧ c ≤ 255) (b : Nat) (i : Nat) (hi : i ≤ s.length) {w : World} (hM : Mem [b] w w [⟨55, 3, (obj b), 1, [sS s, iN i, .int .i64 (-1)]⟩])  :
  Calls Tryz.prog 79 #[pq b, .int .u8 c] w (Two (numberP s c i) (fun x v w' => v = .int .u64 ((x.1 : Nat) : Int) ∧ Mem [b] w w' [⟨55, 3, (obj b), 1, [sS s, iN x.2, .int .i64 (-1)]⟩]) (fun k v w' => v = .int .u64 0 ∧ Mem [b] w w' [⟨55, 3, (obj b), 1, [sS s, iN i, iN k]⟩])) := by
 refine xe 81 Tryz.func79 (fun R hR => ?_)
 refine xv 10 (c_load pE3 (hM.rd 0 rfl) (cel_obj b 2) rfl) ?_
 refine xv 9 (c_load pE3 (hM.rd 0 rfl) (cel_obj b 1) rfl) ?_
 exact xl 5 (rdn_L s hs c hc b i hi hM R hR (s.length + 1) i (by omega) (by omega) (fun m h1 h2 => absurd h2 (by omega)) (by omega))

set_option maxHeartbeats 400000 in
theorem rdnx_c (s : List UInt8) (c : Int) (x k : Nat) (b : Nat) {w : World} (hb : Rd w 3 (obj b) 1 [sS s, iN x, iN k])  :
  Calls Tryz.prog 79 #[pq b, .int .u8 c] w (fun e w' => e = .returned (.int .u64 0) ∧ w = w') := by
 refine xe 81 Tryz.func79 (fun R hR => ?_)
 refine xv 10 (c_load pE3 hb (cel_obj b 2) rfl) ?_
 refine xc 2 (((k : Nat) : Int) ≥ 0) (fun h2p => ?_) (fun h2p => ?_)
 ·
  exact xr 4 Tryz.func79 hR ⟨rfl, rfl⟩
 ·
  have h2 : (decide (((k : Nat) : Int) ≥ 0)) = false := decide_eq_false h2p
  exact absurd (of_decide_eq_false h2) (by omega)


end Go.Proofs.YthpodbngljfdmaaGreatDoor


namespace Go.Proofs.YthpodbngljfdmaaGreatDoor
open Go Go.Gw Go.UtfP Go.TokP Go.QryP Go.SynP Go.RealP Go.RealQ Go.RdrP Go.RowKit
set_option linter.unusedVariables false
set_option linter.unusedSimpArgs false
set_option maxRecDepth 20000


set_option maxHeartbeats 4000000 in
theorem rdleaf_R (s : List UInt8) (hs : s.length ≤ 8192) (b : Nat) (i : Nat) (c : Nat) {w : World} (j : Nat) (w1 : World) (hji : j ≤ s.length) (hij : i ≤ j) (hn_ : namE s i = j) (hM : Mem [b] w w1 [⟨55, 3, (obj b), 1, [sS s, iN j, .int .i64 (-1)]⟩, ⟨25, 8, (obj c), 1, [.int .i64 0, sS ([]), sS ([]), .int .i64 0, .int .i64 0, .int .u64 0, .int .u64 0, .slice none 0 0]⟩]) (R : Ending → World → Prop) (hR : R = (Two (leafP s i) (fun x v w' => v = qA x.1.h (.slice none 0 0) ∧ x.1.l = [] ∧ Mem [b] w w' [⟨55, 3, (obj b), 1, [sS s, iN x.2, .int .i64 (-1)]⟩]) (fun k v w' => (∃ (h : Hd) (u : Value), v = .agg #[.int .i64 (h.op), sS (h.field), sS (h.text), .int .i64 (h.edits), .int .i64 (h.exact), .int .u64 (h.lo), .int .u64 (h.hi), u] ∧ One1 u) ∧ ∃ x, x + i ≤ 2 * s.length + 2 ∧ Mem [b] w w' [⟨55, 3, (obj b), 1, [sS s, iN x, iN k]⟩]))) : GoS Tryz.prog 57 R 140 [iC Tryz.f57 [1,1,1,1]] [(0, pq b), (2, pq c), (3, iN i)] w1 := by
 refine xs ?_
 refine xv 6 (c_load pE3 (hM.rd 0 rfl) (cel_obj b 1) rfl) ?_
 refine xfc 3 50 (((j : Nat) : Int) = ((i : Nat) : Int)) (fun h2p => ?_) (fun h2p => ?_)
 ·
  refine xst 16 (c_store (E := 3) (u := iN i) (by kernel_rfl) hM 0 rfl (cel_obj b 1) (by decide) rfl rfl) (fun w5 hM7 => ?_)
  refine xk 4 (rdf_c s i b hM7.lend1) (fun w10 m11 => ?_)
  have hM12 := hM7.back1 m11
  refine xst 4 (c_stores (ys := [.int .i64 0, sS ([]), sS ([]), .int .i64 0, .int .i64 0, .int .u64 0, .int .u64 0, .slice none 0 0]) aE25 hM12 1 rfl (cel_obj c 0) rfl (by decide) (oneL rfl)) (fun w13 hM15 => ?_)
  exact xrc 1 (v := .agg #[.int .i64 0, sS ([]), sS ([]), .int .i64 0, .int .i64 0, .int .u64 0, .int .u64 0, .slice none 0 0]) Tryz.func57 (ResC.cell (c := 2) (by kernel_rfl) (show (Instr.loadAt 25 (pq c)).run Tryz.prog w13 = .ok (.agg #[.int .i64 0, sS ([]), sS ([]), .int .i64 0, .int .i64 0, .int .u64 0, .int .u64 0, .slice none 0 0]) w13 from c_loads (ys := [.int .i64 0, sS ([]), sS ([]), .int .i64 0, .int .i64 0, .int .u64 0, .int .u64 0, .slice none 0 0]) aE25 (hM15.rd 1 rfl) (cel_obj c 0) rfl (lq rfl)) ResC.nil) hR (.inr ⟨_, _, by unfold leafP; simp only [hn_]; rw [if_pos (by omega)], rfl, ⟨⟨0, [], [], 0, 0, 0, 0⟩, .slice none 0 0, rfl, one_nil⟩, _, by omega, (hM15.sub (sK sN))⟩)
 ·
  refine xv 3 (c_load pE3 (hM.rd 0 rfl) (cel_obj b 1) rfl) ?_
  refine xa 1 ((i : Nat) : Int) 16 (((i + 16) : Nat) : Int) ?_
  refine xc 3 (((j : Nat) : Int) > (((i + 16) : Nat) : Int)) (fun h18p => ?_) (fun h18p => ?_)
  ·
   refine xst 6 (c_store (E := 3) (u := iN i) (by kernel_rfl) hM 0 rfl (cel_obj b 1) (by decide) rfl rfl) (fun w19 hM21 => ?_)
   refine xk 4 (rdf_c s i b hM21.lend1) (fun w24 m25 => ?_)
   have hM26 := hM21.back1 m25
   refine xst 4 (c_stores (ys := [.int .i64 0, sS ([]), sS ([]), .int .i64 0, .int .i64 0, .int .u64 0, .int .u64 0, .slice none 0 0]) aE25 hM26 1 rfl (cel_obj c 0) rfl (by decide) (oneL rfl)) (fun w27 hM29 => ?_)
   exact xrc 1 (v := .agg #[.int .i64 0, sS ([]), sS ([]), .int .i64 0, .int .i64 0, .int .u64 0, .int .u64 0, .slice none 0 0]) Tryz.func57 (ResC.cell (c := 2) (by kernel_rfl) (show (Instr.loadAt 25 (pq c)).run Tryz.prog w27 = .ok (.agg #[.int .i64 0, sS ([]), sS ([]), .int .i64 0, .int .i64 0, .int .u64 0, .int .u64 0, .slice none 0 0]) w27 from c_loads (ys := [.int .i64 0, sS ([]), sS ([]), .int .i64 0, .int .i64 0, .int .u64 0, .int .u64 0, .slice none 0 0]) aE25 (hM29.rd 1 rfl) (cel_obj c 0) rfl (lq rfl)) ResC.nil) hR (.inr ⟨_, _, by unfold leafP; simp only [hn_]; rw [if_pos (by omega)], rfl, ⟨⟨0, [], [], 0, 0, 0, 0⟩, .slice none 0 0, rfl, one_nil⟩, _, by omega, (hM29.sub (sK sN))⟩)
  ·
   refine xh 2 [12] hM (sK (sK sR)) (fun w32 hM33 hS34 => ?_)
   refine yl [0,1,2] 3 hS34 pE9 0 rfl (cel_obj b 0) rfl ?_
   refine yl [4,5,6,7] 8 hS34 pE3 0 rfl (cel_obj b 1) rfl ?_
   refine yv [] 9 (fun W_ hW_ => (show (Instr.sliceAt 9 (sS s) (some (iN i)) (some (iN j)) none).run Tryz.prog W_ = .ok (sS (List.drop i (List.take j s))) W_ from f_slice_lohi i j (by kernel_rfl) (by omega) (by omega) (by omega) (by omega))) hS34 ?_
   refine yx [10] 11 (m_alloc oT25 hM33) hS34 (fun _ _ h_ => h_.sub (sD (sK (sK sR)))) (fun b36 w37 hM39 hS41 => ?_)
   refine ysw [] 12 (c_stores (ys := [.int .i64 0, sS (List.drop i (List.take j s)), sS ([]), .int .i64 0, .int .i64 0, .int .u64 0, .int .u64 0, .slice none 0 0]) aE25 hM39 0 rfl (cel_obj b36 0) rfl (by decide) (oneL rfl)) hS41 (fun w42 hM44 => ?_)
   refine yd ?_
   have hM46 : Mem [b] w w42 [⟨55, 3, (obj b), 1, [sS s, iN j, .int .i64 (-1)]⟩, ⟨25, 8, (obj b36), 1, [.int .i64 0, sS (List.drop i (List.take j s)), sS ([]), .int .i64 0, .int .i64 0, .int .u64 0, .int .u64 0, .slice none 0 0]⟩, ⟨25, 8, (obj c), 1, [.int .i64 0, sS ([]), sS ([]), .int .i64 0, .int .i64 0, .int .u64 0, .int .u64 0, .slice none 0 0]⟩] := hM44.perm (pS pR)
   refine xcg 3 (rdm_c s (by omega) 58 b j (by omega) hM46.lend1) ?_
   rintro _ w47 (⟨a48, _, hs49, rfl, rfl, m50⟩ | ⟨k52, _, hs53, rfl, rfl, m54⟩)
   ·
    refine ⟨_, rfl, ?_⟩
    have hM51 := hM46.back1 m50
    have hx56 := take_inv hs49
    have hb60 := bl_bd s a48
    have hb61 := bl_or s a48
    refine xk 5 (rdc_c s (by omega) a48 (by omega) b (hM51.rd 0 rfl)) (fun w57 m58 => ?_)
    have hM59 := hM51.j m58
    refine xc 2 ((bl s a48) = 91) (fun h62p => ?_) (fun h62p => ?_)
    ·
     refine xv 5 (c_load pE3 (hM59.rd 0 rfl) (cel_obj b 1) rfl) ?_
     refine xa 0 ((a48 : Nat) : Int) 1 (((a48 + 1) : Nat) : Int) ?_
     refine xst 2 (c_store (E := 3) (u := iN (a48 + 1)) (by kernel_rfl) hM59 0 rfl (cel_obj b 1) (by decide) rfl rfl) (fun w63 hM65 => ?_)
     refine xst 4 (c_store (E := 3) (u := .int .i64 6) (by kernel_rfl) hM65 1 rfl (cel_obj b36 0) (by decide) rfl rfl) (fun w67 hM69 => ?_)
     refine xcg 4 (rdn_c s (by omega) 32 (by omega) b (a48 + 1) (by omega) hM69.lend1) ?_
     rintro _ w75 (⟨⟨a76x, a76j⟩, _, hs77, rfl, rfl, m78⟩ | ⟨k80, _, hs81, rfl, rfl, m82⟩)
     ·
      refine ⟨_, rfl, ?_⟩
      have hM79 := hM69.back1 m78
      have hx84 := number_inv (by omega) hs77
      refine xst 1 (c_store (E := 22) (u := .int .u64 ((a76x : Nat) : Int)) (by kernel_rfl) hM79 1 rfl (cel_obj b36 5) (by decide) rfl rfl) (fun w85 hM87 => ?_)
      refine xcg 4 (rdn_c s (by omega) 93 (by omega) b a76j (by omega) hM87.lend1) ?_
      rintro _ w90 (⟨⟨a91x, a91j⟩, _, hs92, rfl, rfl, m93⟩ | ⟨k95, _, hs96, rfl, rfl, m97⟩)
      ·
       refine ⟨_, rfl, ?_⟩
       have hM94 := hM87.back1 m93
       have hx99 := number_inv (by omega) hs92
       refine xst 1 (c_store (E := 22) (u := .int .u64 ((a91x : Nat) : Int)) (by kernel_rfl) hM94 1 rfl (cel_obj b36 6) (by decide) rfl rfl) (fun w100 hM102 => ?_)
       refine xv 3 (c_loads (ys := [.int .i64 6, sS (List.drop i (List.take j s)), sS ([]), .int .i64 0, .int .i64 0, .int .u64 ((a76x : Nat) : Int), .int .u64 ((a91x : Nat) : Int), .slice none 0 0]) aE25 (hM102.rd 1 rfl) (cel_obj b36 0) rfl (lq rfl)) ?_
       refine xst 0 (c_stores (ys := [.int .i64 6, sS (List.drop i (List.take j s)), sS ([]), .int .i64 0, .int .i64 0, .int .u64 ((a76x : Nat) : Int), .int .u64 ((a91x : Nat) : Int), .slice none 0 0]) aE25 hM102 2 rfl (cel_obj c 0) rfl (by decide) (oneL rfl)) (fun w104 hM106 => ?_)
       exact xrc 1 (v := .agg #[.int .i64 6, sS (List.drop i (List.take j s)), sS ([]), .int .i64 0, .int .i64 0, .int .u64 ((a76x : Nat) : Int), .int .u64 ((a91x : Nat) : Int), .slice none 0 0]) Tryz.func57 (ResC.cell (c := 2) (by kernel_rfl) (show (Instr.loadAt 25 (pq c)).run Tryz.prog w104 = .ok (.agg #[.int .i64 6, sS (List.drop i (List.take j s)), sS ([]), .int .i64 0, .int .i64 0, .int .u64 ((a76x : Nat) : Int), .int .u64 ((a91x : Nat) : Int), .slice none 0 0]) w104 from c_loads (ys := [.int .i64 6, sS (List.drop i (List.take j s)), sS ([]), .int .i64 0, .int .i64 0, .int .u64 ((a76x : Nat) : Int), .int .u64 ((a91x : Nat) : Int), .slice none 0 0]) aE25 (hM106.rd 2 rfl) (cel_obj c 0) rfl (lq rfl)) ResC.nil) hR (.inl ⟨(.mk ⟨6, (List.drop i (List.take j s)), [], 0, 0, ((a76x : Nat) : Int), ((a91x : Nat) : Int)⟩ [], a91j), _, by unfold leafP; simp only [hn_]; rw [if_neg (by omega)]; simp only [hs49]; rw [if_pos (by omega)]; simp only [hs77]; simp only [hs92], rfl, rfl, rfl, (hM106.sub (sK sN))⟩)
      ·
       refine ⟨_, rfl, ?_⟩
       have hM98 := hM87.back1 m97
       refine xst 1 (c_store (E := 22) (u := .int .u64 0) (by kernel_rfl) hM98 1 rfl (cel_obj b36 6) (by decide) rfl rfl) (fun w111 hM113 => ?_)
       refine xv 3 (c_loads (ys := [.int .i64 6, sS (List.drop i (List.take j s)), sS ([]), .int .i64 0, .int .i64 0, .int .u64 ((a76x : Nat) : Int), .int .u64 0, .slice none 0 0]) aE25 (hM113.rd 1 rfl) (cel_obj b36 0) rfl (lq rfl)) ?_
       refine xst 0 (c_stores (ys := [.int .i64 6, sS (List.drop i (List.take j s)), sS ([]), .int .i64 0, .int .i64 0, .int .u64 ((a76x : Nat) : Int), .int .u64 0, .slice none 0 0]) aE25 hM113 2 rfl (cel_obj c 0) rfl (by decide) (oneL rfl)) (fun w115 hM117 => ?_)
       exact xrc 1 (v := .agg #[.int .i64 6, sS (List.drop i (List.take j s)), sS ([]), .int .i64 0, .int .i64 0, .int .u64 ((a76x : Nat) : Int), .int .u64 0, .slice none 0 0]) Tryz.func57 (ResC.cell (c := 2) (by kernel_rfl) (show (Instr.loadAt 25 (pq c)).run Tryz.prog w115 = .ok (.agg #[.int .i64 6, sS (List.drop i (List.take j s)), sS ([]), .int .i64 0, .int .i64 0, .int .u64 ((a76x : Nat) : Int), .int .u64 0, .slice none 0 0]) w115 from c_loads (ys := [.int .i64 6, sS (List.drop i (List.take j s)), sS ([]), .int .i64 0, .int .i64 0, .int .u64 ((a76x : Nat) : Int), .int .u64 0, .slice none 0 0]) aE25 (hM117.rd 2 rfl) (cel_obj c 0) rfl (lq rfl)) ResC.nil) hR (.inr ⟨_, _, by unfold leafP; simp only [hn_]; rw [if_neg (by omega)]; simp only [hs49]; rw [if_pos (by omega)]; simp only [hs77]; simp only [hs96], rfl, ⟨⟨6, (List.drop i (List.take j s)), [], 0, 0, ((a76x : Nat) : Int), 0⟩, .slice none 0 0, rfl, one_nil⟩, _, by omega, (hM117.sub (sK sN))⟩)
     ·
      refine ⟨_, rfl, ?_⟩
      have hM83 := hM69.back1 m82
      refine xst 1 (c_store (E := 22) (u := .int .u64 0) (by kernel_rfl) hM83 1 rfl (cel_obj b36 5) (by decide) rfl rfl) (fun w122 hM124 => ?_)
      refine xka 4 (rdnx_c (w := w122) s 93 (a48 + 1) k80 b (hM124.rd 0 rfl)) ?_
      refine xst 1 (c_store (E := 22) (u := .int .u64 0) (by kernel_rfl) hM124 1 rfl (cel_obj b36 6) (by decide) rfl rfl) (fun w127 hM129 => ?_)
      refine xv 3 (c_loads (ys := [.int .i64 6, sS (List.drop i (List.take j s)), sS ([]), .int .i64 0, .int .i64 0, .int .u64 0, .int .u64 0, .slice none 0 0]) aE25 (hM129.rd 1 rfl) (cel_obj b36 0) rfl (lq rfl)) ?_
      refine xst 0 (c_stores (ys := [.int .i64 6, sS (List.drop i (List.take j s)), sS ([]), .int .i64 0, .int .i64 0, .int .u64 0, .int .u64 0, .slice none 0 0]) aE25 hM129 2 rfl (cel_obj c 0) rfl (by decide) (oneL rfl)) (fun w131 hM133 => ?_)
      exact xrc 1 (v := .agg #[.int .i64 6, sS (List.drop i (List.take j s)), sS ([]), .int .i64 0, .int .i64 0, .int .u64 0, .int .u64 0, .slice none 0 0]) Tryz.func57 (ResC.cell (c := 2) (by kernel_rfl) (show (Instr.loadAt 25 (pq c)).run Tryz.prog w131 = .ok (.agg #[.int .i64 6, sS (List.drop i (List.take j s)), sS ([]), .int .i64 0, .int .i64 0, .int .u64 0, .int .u64 0, .slice none 0 0]) w131 from c_loads (ys := [.int .i64 6, sS (List.drop i (List.take j s)), sS ([]), .int .i64 0, .int .i64 0, .int .u64 0, .int .u64 0, .slice none 0 0]) aE25 (hM133.rd 2 rfl) (cel_obj c 0) rfl (lq rfl)) ResC.nil) hR (.inr ⟨_, _, by unfold leafP; simp only [hn_]; rw [if_neg (by omega)]; simp only [hs49]; rw [if_pos (by omega)]; simp only [hs81], rfl, ⟨⟨6, (List.drop i (List.take j s)), [], 0, 0, 0, 0⟩, .slice none 0 0, rfl, one_nil⟩, _, by omega, (hM133.sub (sK sN))⟩)
    ·
     refine xst 4 (c_store (E := 3) (u := .int .i64 1) (by kernel_rfl) hM59 1 rfl (cel_obj b36 0) (by decide) rfl rfl) (fun w138 hM140 => ?_)
     refine xcg 4 (rdq_c s (by omega) b a48 (by omega) hM140.lend1) ?_
     rintro _ w143 (⟨⟨a144x, a144j⟩, _, hs145, rfl, rfl, m146⟩ | ⟨k148, _, hs149, rfl, rfl, x152, hx153, m150⟩)
     ·
      refine ⟨_, rfl, ?_⟩
      have hM147 := hM140.back1 m146
      have hx154 := quoted_inv hs145
      refine xst 1 (c_store (E := 9) (u := sS a144x) (by kernel_rfl) hM147 1 rfl (cel_obj b36 2) (by decide) rfl rfl) (fun w155 hM157 => ?_)
      have hb163 := bl_bd s a144j
      have hb164 := bl_or s a144j
      refine xk 5 (rdc_c s (by omega) a144j (by omega) b (hM157.rd 0 rfl)) (fun w160 m161 => ?_)
      have hM162 := hM157.j m161
      refine xc 7 ((bl s a144j) = 42) (fun h165p => ?_) (fun h165p => ?_)
      ·
       refine xst 2 (c_store (E := 3) (u := .int .i64 2) (by kernel_rfl) hM162 1 rfl (cel_obj b36 0) (by decide) rfl rfl) (fun w166 hM168 => ?_)
       refine xv 7 (c_load pE3 (hM168.rd 0 rfl) (cel_obj b 1) rfl) ?_
       refine xa 0 ((a144j : Nat) : Int) 1 (((a144j + 1) : Nat) : Int) ?_
       refine xst 2 (c_store (E := 3) (u := iN (a144j + 1)) (by kernel_rfl) hM168 0 rfl (cel_obj b 1) (by decide) rfl rfl) (fun w295 hM297 => ?_)
       refine xv 3 (c_loads (ys := [.int .i64 2, sS (List.drop i (List.take j s)), sS a144x, .int .i64 0, .int .i64 0, .int .u64 0, .int .u64 0, .slice none 0 0]) aE25 (hM297.rd 1 rfl) (cel_obj b36 0) rfl (lq rfl)) ?_
       refine xst 0 (c_stores (ys := [.int .i64 2, sS (List.drop i (List.take j s)), sS a144x, .int .i64 0, .int .i64 0, .int .u64 0, .int .u64 0, .slice none 0 0]) aE25 hM297 2 rfl (cel_obj c 0) rfl (by decide) (oneL rfl)) (fun w299 hM301 => ?_)
       exact xrc 1 (v := .agg #[.int .i64 2, sS (List.drop i (List.take j s)), sS a144x, .int .i64 0, .int .i64 0, .int .u64 0, .int .u64 0, .slice none 0 0]) Tryz.func57 (ResC.cell (c := 2) (by kernel_rfl) (show (Instr.loadAt 25 (pq c)).run Tryz.prog w299 = .ok (.agg #[.int .i64 2, sS (List.drop i (List.take j s)), sS a144x, .int .i64 0, .int .i64 0, .int .u64 0, .int .u64 0, .slice none 0 0]) w299 from c_loads (ys := [.int .i64 2, sS (List.drop i (List.take j s)), sS a144x, .int .i64 0, .int .i64 0, .int .u64 0, .int .u64 0, .slice none 0 0]) aE25 (hM301.rd 2 rfl) (cel_obj c 0) rfl (lq rfl)) ResC.nil) hR (.inl ⟨(.mk ⟨2, (List.drop i (List.take j s)), a144x, 0, 0, 0, 0⟩ [], (a144j + 1)), _, by unfold leafP; simp only [hn_]; rw [if_neg (by omega)]; simp only [hs49]; rw [if_neg (by omega)]; simp only [hs145]; rw [if_pos (by omega)], rfl, rfl, rfl, (hM301.sub (sK sN))⟩)
      ·
       refine xc 5 ((bl s a144j) = 63) (fun h171p => ?_) (fun h171p => ?_)
       ·
        refine xst 2 (c_store (E := 3) (u := .int .i64 3) (by kernel_rfl) hM162 1 rfl (cel_obj b36 0) (by decide) rfl rfl) (fun w172 hM174 => ?_)
        refine xv 7 (c_load pE3 (hM174.rd 0 rfl) (cel_obj b 1) rfl) ?_
        refine xa 0 ((a144j : Nat) : Int) 1 (((a144j + 1) : Nat) : Int) ?_
        refine xst 2 (c_store (E := 3) (u := iN (a144j + 1)) (by kernel_rfl) hM174 0 rfl (cel_obj b 1) (by decide) rfl rfl) (fun w308 hM310 => ?_)
        refine xv 3 (c_loads (ys := [.int .i64 3, sS (List.drop i (List.take j s)), sS a144x, .int .i64 0, .int .i64 0, .int .u64 0, .int .u64 0, .slice none 0 0]) aE25 (hM310.rd 1 rfl) (cel_obj b36 0) rfl (lq rfl)) ?_
        refine xst 0 (c_stores (ys := [.int .i64 3, sS (List.drop i (List.take j s)), sS a144x, .int .i64 0, .int .i64 0, .int .u64 0, .int .u64 0, .slice none 0 0]) aE25 hM310 2 rfl (cel_obj c 0) rfl (by decide) (oneL rfl)) (fun w312 hM314 => ?_)
        exact xrc 1 (v := .agg #[.int .i64 3, sS (List.drop i (List.take j s)), sS a144x, .int .i64 0, .int .i64 0, .int .u64 0, .int .u64 0, .slice none 0 0]) Tryz.func57 (ResC.cell (c := 2) (by kernel_rfl) (show (Instr.loadAt 25 (pq c)).run Tryz.prog w312 = .ok (.agg #[.int .i64 3, sS (List.drop i (List.take j s)), sS a144x, .int .i64 0, .int .i64 0, .int .u64 0, .int .u64 0, .slice none 0 0]) w312 from c_loads (ys := [.int .i64 3, sS (List.drop i (List.take j s)), sS a144x, .int .i64 0, .int .i64 0, .int .u64 0, .int .u64 0, .slice none 0 0]) aE25 (hM314.rd 2 rfl) (cel_obj c 0) rfl (lq rfl)) ResC.nil) hR (.inl ⟨(.mk ⟨3, (List.drop i (List.take j s)), a144x, 0, 0, 0, 0⟩ [], (a144j + 1)), _, by unfold leafP; simp only [hn_]; rw [if_neg (by omega)]; simp only [hs49]; rw [if_neg (by omega)]; simp only [hs145]; rw [if_neg (by omega), if_pos (by omega)], rfl, rfl, rfl, (hM314.sub (sK sN))⟩)
       ·
        refine xc 5 ((bl s a144j) = 43) (fun h177p => ?_) (fun h177p => ?_)
        ·
         refine xst 2 (c_store (E := 3) (u := .int .i64 5) (by kernel_rfl) hM162 1 rfl (cel_obj b36 0) (by decide) rfl rfl) (fun w178 hM180 => ?_)
         refine xv 7 (c_load pE3 (hM180.rd 0 rfl) (cel_obj b 1) rfl) ?_
         refine xa 0 ((a144j : Nat) : Int) 1 (((a144j + 1) : Nat) : Int) ?_
         refine xst 2 (c_store (E := 3) (u := iN (a144j + 1)) (by kernel_rfl) hM180 0 rfl (cel_obj b 1) (by decide) rfl rfl) (fun w321 hM323 => ?_)
         refine xv 3 (c_loads (ys := [.int .i64 5, sS (List.drop i (List.take j s)), sS a144x, .int .i64 0, .int .i64 0, .int .u64 0, .int .u64 0, .slice none 0 0]) aE25 (hM323.rd 1 rfl) (cel_obj b36 0) rfl (lq rfl)) ?_
         refine xst 0 (c_stores (ys := [.int .i64 5, sS (List.drop i (List.take j s)), sS a144x, .int .i64 0, .int .i64 0, .int .u64 0, .int .u64 0, .slice none 0 0]) aE25 hM323 2 rfl (cel_obj c 0) rfl (by decide) (oneL rfl)) (fun w325 hM327 => ?_)
         exact xrc 1 (v := .agg #[.int .i64 5, sS (List.drop i (List.take j s)), sS a144x, .int .i64 0, .int .i64 0, .int .u64 0, .int .u64 0, .slice none 0 0]) Tryz.func57 (ResC.cell (c := 2) (by kernel_rfl) (show (Instr.loadAt 25 (pq c)).run Tryz.prog w325 = .ok (.agg #[.int .i64 5, sS (List.drop i (List.take j s)), sS a144x, .int .i64 0, .int .i64 0, .int .u64 0, .int .u64 0, .slice none 0 0]) w325 from c_loads (ys := [.int .i64 5, sS (List.drop i (List.take j s)), sS a144x, .int .i64 0, .int .i64 0, .int .u64 0, .int .u64 0, .slice none 0 0]) aE25 (hM327.rd 2 rfl) (cel_obj c 0) rfl (lq rfl)) ResC.nil) hR (.inl ⟨(.mk ⟨5, (List.drop i (List.take j s)), a144x, 0, 0, 0, 0⟩ [], (a144j + 1)), _, by unfold leafP; simp only [hn_]; rw [if_neg (by omega)]; simp only [hs49]; rw [if_neg (by omega)]; simp only [hs145]; rw [if_neg (by omega), if_neg (by omega), if_pos (by omega)], rfl, rfl, rfl, (hM327.sub (sK sN))⟩)
        ·
         refine xc 5 ((bl s a144j) = 126) (fun h183p => ?_) (fun h183p => ?_)
         ·
          refine xv 5 (c_load pE3 (hM162.rd 0 rfl) (cel_obj b 1) rfl) ?_
          refine xa 0 ((a144j : Nat) : Int) 1 (((a144j + 1) : Nat) : Int) ?_
          refine xst 2 (c_store (E := 3) (u := iN (a144j + 1)) (by kernel_rfl) hM162 0 rfl (cel_obj b 1) (by decide) rfl rfl) (fun w184 hM186 => ?_)
          refine xst 4 (c_store (E := 3) (u := .int .i64 4) (by kernel_rfl) hM186 1 rfl (cel_obj b36 0) (by decide) rfl rfl) (fun w188 hM190 => ?_)
          refine xcg 4 (rds_c s (by omega) b (a144j + 1) (by omega) hM190.lend1) ?_
          rintro _ w196 (⟨⟨a197x, a197j⟩, _, hs198, rfl, rfl, m199⟩ | ⟨k201, _, hs202, rfl, rfl, m203⟩)
          ·
           refine ⟨_, rfl, ?_⟩
           have hM200 := hM190.back1 m199
           have hx205 := small_inv hs198
           refine xst 1 (c_store (E := 3) (u := .int .i64 a197x) (by kernel_rfl) hM200 1 rfl (cel_obj b36 3) (by decide) rfl rfl) (fun w206 hM208 => ?_)
           refine xcg 4 (rdm_c s (by omega) 44 b a197j (by omega) hM208.lend1) ?_
           rintro _ w211 (⟨a212, _, hs213, rfl, rfl, m214⟩ | ⟨k216, _, hs217, rfl, rfl, m218⟩)
           ·
            refine ⟨_, rfl, ?_⟩
            have hM215 := hM208.back1 m214
            have hx220 := take_inv hs213
            refine xcg 4 (rds_c s (by omega) b a212 (by omega) hM215.lend1) ?_
            rintro _ w221 (⟨⟨a222x, a222j⟩, _, hs223, rfl, rfl, m224⟩ | ⟨k226, _, hs227, rfl, rfl, m228⟩)
            ·
             refine ⟨_, rfl, ?_⟩
             have hM225 := hM215.back1 m224
             have hx230 := small_inv hs223
             refine xst 1 (c_store (E := 3) (u := .int .i64 a222x) (by kernel_rfl) hM225 1 rfl (cel_obj b36 4) (by decide) rfl rfl) (fun w231 hM233 => ?_)
             refine xv 3 (c_loads (ys := [.int .i64 4, sS (List.drop i (List.take j s)), sS a144x, .int .i64 a197x, .int .i64 a222x, .int .u64 0, .int .u64 0, .slice none 0 0]) aE25 (hM233.rd 1 rfl) (cel_obj b36 0) rfl (lq rfl)) ?_
             refine xst 0 (c_stores (ys := [.int .i64 4, sS (List.drop i (List.take j s)), sS a144x, .int .i64 a197x, .int .i64 a222x, .int .u64 0, .int .u64 0, .slice none 0 0]) aE25 hM233 2 rfl (cel_obj c 0) rfl (by decide) (oneL rfl)) (fun w235 hM237 => ?_)
             exact xrc 1 (v := .agg #[.int .i64 4, sS (List.drop i (List.take j s)), sS a144x, .int .i64 a197x, .int .i64 a222x, .int .u64 0, .int .u64 0, .slice none 0 0]) Tryz.func57 (ResC.cell (c := 2) (by kernel_rfl) (show (Instr.loadAt 25 (pq c)).run Tryz.prog w235 = .ok (.agg #[.int .i64 4, sS (List.drop i (List.take j s)), sS a144x, .int .i64 a197x, .int .i64 a222x, .int .u64 0, .int .u64 0, .slice none 0 0]) w235 from c_loads (ys := [.int .i64 4, sS (List.drop i (List.take j s)), sS a144x, .int .i64 a197x, .int .i64 a222x, .int .u64 0, .int .u64 0, .slice none 0 0]) aE25 (hM237.rd 2 rfl) (cel_obj c 0) rfl (lq rfl)) ResC.nil) hR (.inl ⟨(.mk ⟨4, (List.drop i (List.take j s)), a144x, a197x, a222x, 0, 0⟩ [], a222j), _, by unfold leafP; simp only [hn_]; rw [if_neg (by omega)]; simp only [hs49]; rw [if_neg (by omega)]; simp only [hs145]; rw [if_neg (by omega), if_neg (by omega), if_neg (by omega), if_pos (by omega)]; simp only [hs198]; simp only [hs213]; simp only [hs223], rfl, rfl, rfl, (hM237.sub (sK sN))⟩)
            ·
             refine ⟨_, rfl, ?_⟩
             have hM229 := hM215.back1 m228
             refine xst 1 (c_store (E := 3) (u := .int .i64 0) (by kernel_rfl) hM229 1 rfl (cel_obj b36 4) (by decide) rfl rfl) (fun w242 hM244 => ?_)
             refine xv 3 (c_loads (ys := [.int .i64 4, sS (List.drop i (List.take j s)), sS a144x, .int .i64 a197x, .int .i64 0, .int .u64 0, .int .u64 0, .slice none 0 0]) aE25 (hM244.rd 1 rfl) (cel_obj b36 0) rfl (lq rfl)) ?_
             refine xst 0 (c_stores (ys := [.int .i64 4, sS (List.drop i (List.take j s)), sS a144x, .int .i64 a197x, .int .i64 0, .int .u64 0, .int .u64 0, .slice none 0 0]) aE25 hM244 2 rfl (cel_obj c 0) rfl (by decide) (oneL rfl)) (fun w246 hM248 => ?_)
             exact xrc 1 (v := .agg #[.int .i64 4, sS (List.drop i (List.take j s)), sS a144x, .int .i64 a197x, .int .i64 0, .int .u64 0, .int .u64 0, .slice none 0 0]) Tryz.func57 (ResC.cell (c := 2) (by kernel_rfl) (show (Instr.loadAt 25 (pq c)).run Tryz.prog w246 = .ok (.agg #[.int .i64 4, sS (List.drop i (List.take j s)), sS a144x, .int .i64 a197x, .int .i64 0, .int .u64 0, .int .u64 0, .slice none 0 0]) w246 from c_loads (ys := [.int .i64 4, sS (List.drop i (List.take j s)), sS a144x, .int .i64 a197x, .int .i64 0, .int .u64 0, .int .u64 0, .slice none 0 0]) aE25 (hM248.rd 2 rfl) (cel_obj c 0) rfl (lq rfl)) ResC.nil) hR (.inr ⟨_, _, by unfold leafP; simp only [hn_]; rw [if_neg (by omega)]; simp only [hs49]; rw [if_neg (by omega)]; simp only [hs145]; rw [if_neg (by omega), if_neg (by omega), if_neg (by omega), if_pos (by omega)]; simp only [hs198]; simp only [hs213]; simp only [hs227], rfl, ⟨⟨4, (List.drop i (List.take j s)), a144x, a197x, 0, 0, 0⟩, .slice none 0 0, rfl, one_nil⟩, _, by omega, (hM248.sub (sK sN))⟩)
           ·
            refine ⟨_, rfl, ?_⟩
            have hM219 := hM208.back1 m218
            refine xk 4 (rdsx_c s (a197j + 1) k216 b (hM219.rd 0 rfl)) (fun w253 m254 => ?_)
            have hM255 := hM219.j m254
            refine xst 1 (c_store (E := 3) (u := .int .i64 0) (by kernel_rfl) hM255 1 rfl (cel_obj b36 4) (by decide) rfl rfl) (fun w256 hM258 => ?_)
            refine xv 3 (c_loads (ys := [.int .i64 4, sS (List.drop i (List.take j s)), sS a144x, .int .i64 a197x, .int .i64 0, .int .u64 0, .int .u64 0, .slice none 0 0]) aE25 (hM258.rd 1 rfl) (cel_obj b36 0) rfl (lq rfl)) ?_
            refine xst 0 (c_stores (ys := [.int .i64 4, sS (List.drop i (List.take j s)), sS a144x, .int .i64 a197x, .int .i64 0, .int .u64 0, .int .u64 0, .slice none 0 0]) aE25 hM258 2 rfl (cel_obj c 0) rfl (by decide) (oneL rfl)) (fun w260 hM262 => ?_)
            exact xrc 1 (v := .agg #[.int .i64 4, sS (List.drop i (List.take j s)), sS a144x, .int .i64 a197x, .int .i64 0, .int .u64 0, .int .u64 0, .slice none 0 0]) Tryz.func57 (ResC.cell (c := 2) (by kernel_rfl) (show (Instr.loadAt 25 (pq c)).run Tryz.prog w260 = .ok (.agg #[.int .i64 4, sS (List.drop i (List.take j s)), sS a144x, .int .i64 a197x, .int .i64 0, .int .u64 0, .int .u64 0, .slice none 0 0]) w260 from c_loads (ys := [.int .i64 4, sS (List.drop i (List.take j s)), sS a144x, .int .i64 a197x, .int .i64 0, .int .u64 0, .int .u64 0, .slice none 0 0]) aE25 (hM262.rd 2 rfl) (cel_obj c 0) rfl (lq rfl)) ResC.nil) hR (.inr ⟨_, _, by unfold leafP; simp only [hn_]; rw [if_neg (by omega)]; simp only [hs49]; rw [if_neg (by omega)]; simp only [hs145]; rw [if_neg (by omega), if_neg (by omega), if_neg (by omega), if_pos (by omega)]; simp only [hs198]; simp only [hs217], rfl, ⟨⟨4, (List.drop i (List.take j s)), a144x, a197x, 0, 0, 0⟩, .slice none 0 0, rfl, one_nil⟩, _, by omega, (hM262.sub (sK sN))⟩)
          ·
           refine ⟨_, rfl, ?_⟩
           have hM204 := hM190.back1 m203
           refine xst 1 (c_store (E := 3) (u := .int .i64 0) (by kernel_rfl) hM204 1 rfl (cel_obj b36 3) (by decide) rfl rfl) (fun w267 hM269 => ?_)
           refine xk 4 (rdmx_c s 44 (a144j + 1) k201 (by omega) b hM269.lend1) (fun w272 m273 => ?_)
           have hM274 := hM269.back1 m273
           refine xk 4 (rdsx_c s ((a144j + 1) + 1) k201 b (hM274.rd 0 rfl)) (fun w275 m276 => ?_)
           have hM277 := hM274.j m276
           refine xst 1 (c_store (E := 3) (u := .int .i64 0) (by kernel_rfl) hM277 1 rfl (cel_obj b36 4) (by decide) rfl rfl) (fun w278 hM280 => ?_)
           refine xv 3 (c_loads (ys := [.int .i64 4, sS (List.drop i (List.take j s)), sS a144x, .int .i64 0, .int .i64 0, .int .u64 0, .int .u64 0, .slice none 0 0]) aE25 (hM280.rd 1 rfl) (cel_obj b36 0) rfl (lq rfl)) ?_
           refine xst 0 (c_stores (ys := [.int .i64 4, sS (List.drop i (List.take j s)), sS a144x, .int .i64 0, .int .i64 0, .int .u64 0, .int .u64 0, .slice none 0 0]) aE25 hM280 2 rfl (cel_obj c 0) rfl (by decide) (oneL rfl)) (fun w282 hM284 => ?_)
           exact xrc 1 (v := .agg #[.int .i64 4, sS (List.drop i (List.take j s)), sS a144x, .int .i64 0, .int .i64 0, .int .u64 0, .int .u64 0, .slice none 0 0]) Tryz.func57 (ResC.cell (c := 2) (by kernel_rfl) (show (Instr.loadAt 25 (pq c)).run Tryz.prog w282 = .ok (.agg #[.int .i64 4, sS (List.drop i (List.take j s)), sS a144x, .int .i64 0, .int .i64 0, .int .u64 0, .int .u64 0, .slice none 0 0]) w282 from c_loads (ys := [.int .i64 4, sS (List.drop i (List.take j s)), sS a144x, .int .i64 0, .int .i64 0, .int .u64 0, .int .u64 0, .slice none 0 0]) aE25 (hM284.rd 2 rfl) (cel_obj c 0) rfl (lq rfl)) ResC.nil) hR (.inr ⟨_, _, by unfold leafP; simp only [hn_]; rw [if_neg (by omega)]; simp only [hs49]; rw [if_neg (by omega)]; simp only [hs145]; rw [if_neg (by omega), if_neg (by omega), if_neg (by omega), if_pos (by omega)]; simp only [hs202], rfl, ⟨⟨4, (List.drop i (List.take j s)), a144x, 0, 0, 0, 0⟩, .slice none 0 0, rfl, one_nil⟩, _, by omega, (hM284.sub (sK sN))⟩)
         ·
          refine xv 2 (c_loads (ys := [.int .i64 1, sS (List.drop i (List.take j s)), sS a144x, .int .i64 0, .int .i64 0, .int .u64 0, .int .u64 0, .slice none 0 0]) aE25 (hM162.rd 1 rfl) (cel_obj b36 0) rfl (lq rfl)) ?_
          refine xst 0 (c_stores (ys := [.int .i64 1, sS (List.drop i (List.take j s)), sS a144x, .int .i64 0, .int .i64 0, .int .u64 0, .int .u64 0, .slice none 0 0]) aE25 hM162 2 rfl (cel_obj c 0) rfl (by decide) (oneL rfl)) (fun w289 hM291 => ?_)
          exact xrc 1 (v := .agg #[.int .i64 1, sS (List.drop i (List.take j s)), sS a144x, .int .i64 0, .int .i64 0, .int .u64 0, .int .u64 0, .slice none 0 0]) Tryz.func57 (ResC.cell (c := 2) (by kernel_rfl) (show (Instr.loadAt 25 (pq c)).run Tryz.prog w289 = .ok (.agg #[.int .i64 1, sS (List.drop i (List.take j s)), sS a144x, .int .i64 0, .int .i64 0, .int .u64 0, .int .u64 0, .slice none 0 0]) w289 from c_loads (ys := [.int .i64 1, sS (List.drop i (List.take j s)), sS a144x, .int .i64 0, .int .i64 0, .int .u64 0, .int .u64 0, .slice none 0 0]) aE25 (hM291.rd 2 rfl) (cel_obj c 0) rfl (lq rfl)) ResC.nil) hR (.inl ⟨(.mk ⟨1, (List.drop i (List.take j s)), a144x, 0, 0, 0, 0⟩ [], a144j), _, by unfold leafP; simp only [hn_]; rw [if_neg (by omega)]; simp only [hs49]; rw [if_neg (by omega)]; simp only [hs145]; rw [if_neg (by omega), if_neg (by omega), if_neg (by omega), if_neg (by omega)], rfl, rfl, rfl, (hM291.sub (sK sN))⟩)
     ·
      refine ⟨_, rfl, ?_⟩
      have hM151 := hM140.back1 m150
      refine xst 1 (c_store (E := 9) (u := sS ([])) (by kernel_rfl) hM151 1 rfl (cel_obj b36 2) (by decide) rfl rfl) (fun w334 hM336 => ?_)
      refine xk 5 (rdcx_c s x152 k148 b (hM336.rd 0 rfl)) (fun w339 m340 => ?_)
      have hM341 := hM336.j m340
      refine xv 28 (c_loads (ys := [.int .i64 1, sS (List.drop i (List.take j s)), sS ([]), .int .i64 0, .int .i64 0, .int .u64 0, .int .u64 0, .slice none 0 0]) aE25 (hM341.rd 1 rfl) (cel_obj b36 0) rfl (lq rfl)) ?_
      refine xst 0 (c_stores (ys := [.int .i64 1, sS (List.drop i (List.take j s)), sS ([]), .int .i64 0, .int .i64 0, .int .u64 0, .int .u64 0, .slice none 0 0]) aE25 hM341 2 rfl (cel_obj c 0) rfl (by decide) (oneL rfl)) (fun w342 hM344 => ?_)
      exact xrc 1 (v := .agg #[.int .i64 1, sS (List.drop i (List.take j s)), sS ([]), .int .i64 0, .int .i64 0, .int .u64 0, .int .u64 0, .slice none 0 0]) Tryz.func57 (ResC.cell (c := 2) (by kernel_rfl) (show (Instr.loadAt 25 (pq c)).run Tryz.prog w342 = .ok (.agg #[.int .i64 1, sS (List.drop i (List.take j s)), sS ([]), .int .i64 0, .int .i64 0, .int .u64 0, .int .u64 0, .slice none 0 0]) w342 from c_loads (ys := [.int .i64 1, sS (List.drop i (List.take j s)), sS ([]), .int .i64 0, .int .i64 0, .int .u64 0, .int .u64 0, .slice none 0 0]) aE25 (hM344.rd 2 rfl) (cel_obj c 0) rfl (lq rfl)) ResC.nil) hR (.inr ⟨_, _, by unfold leafP; simp only [hn_]; rw [if_neg (by omega)]; simp only [hs49]; rw [if_neg (by omega)]; simp only [hs149], rfl, ⟨⟨1, (List.drop i (List.take j s)), [], 0, 0, 0, 0⟩, .slice none 0 0, rfl, one_nil⟩, _, by omega, (hM344.sub (sK sN))⟩)
   ·
    refine ⟨_, rfl, ?_⟩
    have hM55 := hM46.back1 m54
    refine xk 5 (rdcx_c s (j + 1) k52 b (hM55.rd 0 rfl)) (fun w348 m349 => ?_)
    have hM350 := hM55.j m349
    refine xst 7 (c_store (E := 3) (u := .int .i64 1) (by kernel_rfl) hM350 1 rfl (cel_obj b36 0) (by decide) rfl rfl) (fun w351 hM353 => ?_)
    refine xk 4 (rdqx_c s (j + 1) k52 (by omega) b hM353.lend1) (fun w356 m357 => ?_)
    have hM358 := hM353.back1 m357
    refine xst 1 (c_store (E := 9) (u := sS ([])) (by kernel_rfl) hM358 1 rfl (cel_obj b36 2) (by decide) rfl rfl) (fun w359 hM361 => ?_)
    refine xk 5 (rdcx_c s ((j + 1) + 1) k52 b (hM361.rd 0 rfl)) (fun w364 m365 => ?_)
    have hM366 := hM361.j m365
    refine xv 28 (c_loads (ys := [.int .i64 1, sS (List.drop i (List.take j s)), sS ([]), .int .i64 0, .int .i64 0, .int .u64 0, .int .u64 0, .slice none 0 0]) aE25 (hM366.rd 1 rfl) (cel_obj b36 0) rfl (lq rfl)) ?_
    refine xst 0 (c_stores (ys := [.int .i64 1, sS (List.drop i (List.take j s)), sS ([]), .int .i64 0, .int .i64 0, .int .u64 0, .int .u64 0, .slice none 0 0]) aE25 hM366 2 rfl (cel_obj c 0) rfl (by decide) (oneL rfl)) (fun w367 hM369 => ?_)
    exact xrc 1 (v := .agg #[.int .i64 1, sS (List.drop i (List.take j s)), sS ([]), .int .i64 0, .int .i64 0, .int .u64 0, .int .u64 0, .slice none 0 0]) Tryz.func57 (ResC.cell (c := 2) (by kernel_rfl) (show (Instr.loadAt 25 (pq c)).run Tryz.prog w367 = .ok (.agg #[.int .i64 1, sS (List.drop i (List.take j s)), sS ([]), .int .i64 0, .int .i64 0, .int .u64 0, .int .u64 0, .slice none 0 0]) w367 from c_loads (ys := [.int .i64 1, sS (List.drop i (List.take j s)), sS ([]), .int .i64 0, .int .i64 0, .int .u64 0, .int .u64 0, .slice none 0 0]) aE25 (hM369.rd 2 rfl) (cel_obj c 0) rfl (lq rfl)) ResC.nil) hR (.inr ⟨_, _, by unfold leafP; simp only [hn_]; rw [if_neg (by omega)]; simp only [hs53], rfl, ⟨⟨1, (List.drop i (List.take j s)), [], 0, 0, 0, 0⟩, .slice none 0 0, rfl, one_nil⟩, _, by omega, (hM369.sub (sK sN))⟩)

set_option maxHeartbeats 4000000 in
theorem rdleaf_L (s : List UInt8) (hs : s.length ≤ 8192) (b : Nat) (i : Nat) (c : Nat) {w : World} (R : Ending → World → Prop) (hR : R = (Two (leafP s i) (fun x v w' => v = qA x.1.h (.slice none 0 0) ∧ x.1.l = [] ∧ Mem [b] w w' [⟨55, 3, (obj b), 1, [sS s, iN x.2, .int .i64 (-1)]⟩]) (fun k v w' => (∃ (h : Hd) (u : Value), v = .agg #[.int .i64 (h.op), sS (h.field), sS (h.text), .int .i64 (h.edits), .int .i64 (h.exact), .int .u64 (h.lo), .int .u64 (h.hi), u] ∧ One1 u) ∧ ∃ x, x + i ≤ 2 * s.length + 2 ∧ Mem [b] w w' [⟨55, 3, (obj b), 1, [sS s, iN x, iN k]⟩]))) : ∀ (N : Nat) (j : Nat) (w1 : World) (hji : j ≤ s.length) (hij : i ≤ j) (hj : namE s j = namE s i) (hM : Mem [b] w w1 [⟨55, 3, (obj b), 1, [sS s, iN j, .int .i64 (-1)]⟩, ⟨25, 8, (obj c), 1, [.int .i64 0, sS ([]), sS ([]), .int .i64 0, .int .i64 0, .int .u64 0, .int .u64 0, .slice none 0 0]⟩]) (hN : s.length - j < N), GoS Tryz.prog 57 R 140 [iC Tryz.f57 [1,1,1,0,0,0], iL Tryz.f57 [1,1,1,0,0,0], .inBlock 0, iC Tryz.f57 [1,1,1,1]] [(0, pq b), (2, pq c), (3, iN i)] w1 := by
 intro N
 induction N with
 | zero => intro j w1 hji hij hj hM hN; exact absurd hN (Nat.not_lt_zero _)
 | succ N ih =>
  intro j w1 hji hij hj hM hN
  have hb0 := bl_bd s j
  have hb1 := bl_or s j
  refine xs ?_
  refine xh 2 [] hM (sK (sK sR)) (fun w1 hM2 hS3 => ?_)
  refine yl [0,1,2] 3 hS3 pE3 0 rfl (cel_obj b 1) rfl ?_
  refine yl [4,5,6] 7 hS3 pE9 0 rfl (cel_obj b 0) rfl ?_
  refine yv [] 8 (fun W_ hW_ => (show (Builtin.len_ #[9] 3 #[sS s]).run Tryz.prog W_ = .ok (iN s.length) W_ from f_len (by kernel_rfl))) hS3 ?_
  rcases Bool.eq_false_or_eq_true (decide (((j : Nat) : Int) < ((s.length : Nat) : Int))) with h5 | h5
  ·
   have h5p : ((j : Nat) : Int) < ((s.length : Nat) : Int) := of_decide_eq_true h5
   refine ye [9] 10 (decide (((j : Nat) : Int) < ((s.length : Nat) : Int))) true h5 hS3 ?_
   refine yl [11,12,13] 14 hS3 pE9 0 rfl (cel_obj b 0) rfl ?_
   refine yl [15,16,17] 18 hS3 pE3 0 rfl (cel_obj b 1) rfl ?_
   have hb6 := bl_bd s j
   refine yv [] 19 (fun W_ hW_ => (show (Instr.index 9 (sS s) (iN j)).run Tryz.prog W_ = .ok (.int .u8 (bl s j)) W_ from f_index j (by kernel_rfl) (by omega) (by omega))) hS3 ?_
   refine yca [] 20 (rdl_c (bl s j) w1) hS3 ?_
   refine ydp [21] hS3 ?_
   refine xb 0 (letterP (bl s j)) (fun h7 => ?_) (fun h7 => ?_)
   ·
    refine xv 6 (c_load pE3 (hM2.rd 0 rfl) (cel_obj b 1) rfl) ?_
    refine xa 0 ((j : Nat) : Int) 1 (((j + 1) : Nat) : Int) ?_
    refine xst 2 (c_store (E := 3) (u := iN (j + 1)) (by kernel_rfl) hM2 0 rfl (cel_obj b 1) (by decide) rfl rfl) (fun w8 hM10 => ?_)
    have hi_ := letter_in (by simpa using h7)
    exact xl 3 (ih (j + 1) _ (by omega) (by omega) ((nam_go (by simpa using h7)).symm.trans hj) hM10 (by omega))
   ·
    exact xl 1 (rdleaf_R s hs b i c j _ hji hij (by rw [← hj]; exact nam_stop (by simpa using h7)) hM2 R hR)
  ·
   have h5p : ¬ (((j : Nat) : Int) < ((s.length : Nat) : Int)) := of_decide_eq_false h5
   refine ye [9] 10 (decide (((j : Nat) : Int) < ((s.length : Nat) : Int))) false h5 hS3 ?_
   refine ydp [11,12,13,14,15,16,17,18,19,20,21] hS3 ?_
   exact xl 2 (rdleaf_R s hs b i c j _ hji hij (by rw [← hj]; exact nam_stop ((letter_no _).2 (by omega))) hM2 R hR)

set_option maxHeartbeats 400000 in
theorem rdleaf_c (s : List UInt8) (hs : s.length ≤ 8192) (b : Nat) (i : Nat) (hi : i ≤ s.length) {w : World} (hM : Mem [b] w w [⟨55, 3, (obj b), 1, [sS s, iN i, .int .i64 (-1)]⟩])  :
  Calls Tryz.prog 57 #[pq b] w (Two (leafP s i) (fun x v w' => v = qA x.1.h (.slice none 0 0) ∧ x.1.l = [] ∧ Mem [b] w w' [⟨55, 3, (obj b), 1, [sS s, iN x.2, .int .i64 (-1)]⟩]) (fun k v w' => (∃ (h : Hd) (u : Value), v = .agg #[.int .i64 (h.op), sS (h.field), sS (h.text), .int .i64 (h.edits), .int .i64 (h.exact), .int .u64 (h.lo), .int .u64 (h.hi), u] ∧ One1 u) ∧ ∃ x, x + i ≤ 2 * s.length + 2 ∧ Mem [b] w w' [⟨55, 3, (obj b), 1, [sS s, iN x, iN k]⟩])) := by
 refine xe 140 Tryz.func57 (fun R hR => ?_)
 refine xx 2 (m_alloc oT25 hM) (fun b1 w2 hM4 => ?_)
 refine xv 7 (c_load pE3 (hM4.rd 1 rfl) (cel_obj b 2) rfl) ?_
 refine xv 9 (c_load pE3 (hM4.rd 1 rfl) (cel_obj b 1) rfl) ?_
 have hM8 : Mem [b] w w2 [⟨55, 3, (obj b), 1, [sS s, iN i, .int .i64 (-1)]⟩, ⟨25, 8, (obj b1), 1, [.int .i64 0, sS ([]), sS ([]), .int .i64 0, .int .i64 0, .int .u64 0, .int .u64 0, .slice none 0 0]⟩] := hM4.perm (pS pR)
 exact xl 5 (rdleaf_L s hs b i b1 R hR (s.length + 1) i _ hi (Nat.le_refl _) rfl hM8 (by omega))


end Go.Proofs.YthpodbngljfdmaaGreatDoor


namespace Go.Proofs.YthpodbngljfdmaaGreatDoor
open Go Go.Gw Go.UtfP Go.TokP Go.QryP Go.SynP Go.RealP Go.RealQ Go.RdrP Go.RowKit
set_option linter.unusedVariables false
set_option linter.unusedSimpArgs false
set_option maxRecDepth 20000


abbrev TPr (s : List UInt8) (spec : Except Nat (Q × Nat)) (i b : Nat) (w : World) : Ending → World → Prop := Two (spec) (fun a v w' => ∃ (h : Hd) (u : Value) (T : List Row), v = .agg #[.int .i64 (h.op), sS (h.field), sS (h.text), .int .i64 (h.edits), .int .i64 (h.exact), .int .u64 (h.lo), .int .u64 (h.hi), u] ∧ h = a.1.h ∧ QT T a.1 u ∧ Mem [b] w w' (⟨55, 3, (obj b), 1, [sS s, iN a.2, .int .i64 (-1)]⟩ :: T)) (fun k v w' => (∃ (h : Hd) (u : Value), v = .agg #[.int .i64 (h.op), sS (h.field), sS (h.text), .int .i64 (h.edits), .int .i64 (h.exact), .int .u64 (h.lo), .int .u64 (h.hi), u] ∧ One1 u) ∧ ∃ x, x + i ≤ 2 * s.length + 2 ∧ Mem [b] w w' [⟨55, 3, (obj b), 1, [sS s, iN x, iN k]⟩])
def CTr (F : FuncId) (X : List Value) (t : Tg) (d : Nat) (s : List UInt8) (n : Nat) : Prop := ∀ (b i : Nat) {w : World}, i ≤ s.length → 5 * (s.length - i) + d ≤ n → Mem [b] w w [⟨55, 3, (obj b), 1, [sS s, iN i, .int .i64 (-1)]⟩] → Calls Tryz.prog F (List.toArray (pq b :: X)) w (TPr s (prs s n t i) i b w)
theorem rdleaf_t (s : List UInt8) (hs : s.length ≤ 8192) (b i : Nat) (hi : i ≤ s.length) {w : World} (hM : Mem [b] w w [⟨55, 3, (obj b), 1, [sS s, iN i, .int .i64 (-1)]⟩]) : Calls Tryz.prog 57 #[pq b] w (TPr s (leafP s i) i b w) := by
 refine calls_imp (rdleaf_c s hs b i hi hM) ?_
 rintro e w' (⟨a, v, h1, rfl, rfl, hl, m⟩ | h)
 ·
  exact .inl ⟨a, _, h1, rfl, a.1.h, .slice none 0 0, [⟨25, 8, .slice none 0 0, 0, []⟩], rfl, rfl, QT.whole (M := []) (by rw [hl]; rfl) (fun j hj => by rw [hl] at hj; exact absurd hj (Nat.not_lt_zero _)) (fun j hj => by rw [hl] at hj; exact absurd hj (Nat.not_lt_zero _)), (m.nilrow 25 8).perm (List.Perm.swap _ _ _)⟩
 · exact .inr h

set_option maxHeartbeats 1000000 in
theorem rdrow_R (s : List UInt8) (b c : Nat) (op : Int) (u : Value) (acc : List Q) (M : List QN) (T : List Row) (X : Except Nat (Q × Nat)) (i j : Nat) {w : World} (w1 : World) (hQL : QL T acc M) (hne : 1 ≤ M.length) (hX : X = .ok (manyQ op acc, j)) (hM : Mem [b] w w1 (⟨55, 3, (obj b), 1, [sS s, iN j, .int .i64 (-1)]⟩ :: ⟨25, 8, u, (List.length M), (recs qnC M)⟩ :: ⟨25, 8, (obj c), 1, [.int .i64 0, sS ([]), sS ([]), .int .i64 0, .int .i64 0, .int .u64 0, .int .u64 0, .slice none 0 0]⟩ :: T)) (R : Ending → World → Prop) (hR : R = (TPr s X i b w)) : GoS Tryz.prog 24 R 66 [iC Tryz.f24 [1,1,1]] [(1, .int .i64 op), (4, pq c), (5, u)] w1 := by
 have hone_ : ∀ j, j < M.length → One1 (M.getD j qz).parts := fun j_ hj_ => (QT.rd hM (fun r_ h_ => mS (mS (mS h_))) (hQL.kid j_ (by have := hQL.len; omega))).one
 refine xs ?_
 refine xv 4 (f_slen sT23 (hM.rd 1 rfl) 3 w1) ?_
 refine xc 2 ((((List.length M) : Nat) : Int) = 1) (fun h2p => ?_) (fun h2p => ?_)
 ·
  refine xat 3 sT23 (hM.rd 1 rfl) 0 0 (fun p3 hp4 => ?_)
  refine xv 0 (r_loads (f := qnC) (l := M) aE25 (hM.rd 1 rfl) qnC_len hp4 (by first | omega | (dsimp only; omega)) qz) ?_
  refine xst 0 (c_stores (ys := [.int .i64 ((List.getD M 0 qz).h.op), sS ((List.getD M 0 qz).h.field), sS ((List.getD M 0 qz).h.text), .int .i64 ((List.getD M 0 qz).h.edits), .int .i64 ((List.getD M 0 qz).h.exact), .int .u64 ((List.getD M 0 qz).h.lo), .int .u64 ((List.getD M 0 qz).h.hi), ((List.getD M 0 qz).parts)]) aE25 hM 2 rfl (cel_obj c 0) rfl (by decide) (by intro u hu; simp at hu; rcases hu with rfl | rfl | rfl | rfl | rfl | rfl | rfl | rfl <;> first | rfl | exact (hone_ 0 (by omega)).1)) (fun w6 hM8 => ?_)
  exact xrc 1 (v := .agg #[.int .i64 ((List.getD M 0 qz).h.op), sS ((List.getD M 0 qz).h.field), sS ((List.getD M 0 qz).h.text), .int .i64 ((List.getD M 0 qz).h.edits), .int .i64 ((List.getD M 0 qz).h.exact), .int .u64 ((List.getD M 0 qz).h.lo), .int .u64 ((List.getD M 0 qz).h.hi), ((List.getD M 0 qz).parts)]) Tryz.func24 (ResC.cell (c := 4) (by kernel_rfl) (show (Instr.loadAt 25 (pq c)).run Tryz.prog w6 = .ok (.agg #[.int .i64 ((List.getD M 0 qz).h.op), sS ((List.getD M 0 qz).h.field), sS ((List.getD M 0 qz).h.text), .int .i64 ((List.getD M 0 qz).h.edits), .int .i64 ((List.getD M 0 qz).h.exact), .int .u64 ((List.getD M 0 qz).h.lo), .int .u64 ((List.getD M 0 qz).h.hi), ((List.getD M 0 qz).parts)]) w6 from c_loads (ys := [.int .i64 ((List.getD M 0 qz).h.op), sS ((List.getD M 0 qz).h.field), sS ((List.getD M 0 qz).h.text), .int .i64 ((List.getD M 0 qz).h.edits), .int .i64 ((List.getD M 0 qz).h.exact), .int .u64 ((List.getD M 0 qz).h.lo), .int .u64 ((List.getD M 0 qz).h.hi), ((List.getD M 0 qz).parts)]) aE25 (hM8.rd 2 rfl) (cel_obj c 0) rfl (lq rfl)) ResC.nil) hR (.inl ⟨(manyQ op acc, j), _, hX, rfl, (List.getD M 0 qz).h, _, _, rfl, (many_one (r := ⟨25, 8, u, (List.length M), (recs qnC M)⟩) op hQL (by omega)).1, (many_one (r := ⟨25, 8, u, (List.length M), (recs qnC M)⟩) op hQL (by omega)).2, (hM8.sub (sK (sK (sD sR))))⟩)
 ·
  refine xv 5 (show (Instr.build 25 #[(0, .int .i64 op), (7, u)]).run Tryz.prog w1 = .ok (.agg #[.int .i64 op, sS ([]), sS ([]), .int .i64 0, .int .i64 0, .int .u64 0, .int .u64 0, u]) w1 from (by obtain ⟨a0_, m0_, c0_, e0_⟩ : ∃ a m c, u = Value.slice a m c := rd_form (hM.rd 1 rfl); rw [e0_]; kernel_rfl)) ?_
  refine xst 0 (c_stores (ys := [.int .i64 op, sS ([]), sS ([]), .int .i64 0, .int .i64 0, .int .u64 0, .int .u64 0, u]) aE25 hM 2 rfl (cel_obj c 0) rfl (by decide) (by intro u hu; simp at hu; rcases hu with rfl | rfl | rfl | rfl | rfl | rfl | rfl | rfl <;> first | rfl | exact (rd_ones (hM.rd 1 rfl)).1)) (fun w13 hM15 => ?_)
  exact xrc 1 (v := .agg #[.int .i64 op, sS ([]), sS ([]), .int .i64 0, .int .i64 0, .int .u64 0, .int .u64 0, u]) Tryz.func24 (ResC.cell (c := 4) (by kernel_rfl) (show (Instr.loadAt 25 (pq c)).run Tryz.prog w13 = .ok (.agg #[.int .i64 op, sS ([]), sS ([]), .int .i64 0, .int .i64 0, .int .u64 0, .int .u64 0, u]) w13 from c_loads (ys := [.int .i64 op, sS ([]), sS ([]), .int .i64 0, .int .i64 0, .int .u64 0, .int .u64 0, u]) aE25 (hM15.rd 2 rfl) (cel_obj c 0) rfl (lq rfl)) ResC.nil) hR (.inl ⟨(manyQ op acc, j), _, hX, rfl, opH op, u, _, rfl, (many_more (u := u) (E := 25) op hQL (by omega)).1, (many_more (E := 25) op hQL (by omega)).2, (hM15.sub (sK (sK (sD sR))))⟩)

set_option maxHeartbeats 1000000 in
theorem rdrow_X (s : List UInt8) (b c : Nat) (op : Int) (u : Value) (M : List QN) (X : Except Nat (Q × Nat)) (i x k : Nat) {w : World} (w1 : World) (hone_ : ∀ j, j < M.length → One1 (M.getD j qz).parts) (hne : 1 ≤ M.length) (hX : X = .error k) (hx : x + i ≤ 2 * s.length + 2) (hM : Mem [b] w w1 [⟨55, 3, (obj b), 1, [sS s, iN x, iN k]⟩, ⟨25, 8, u, (List.length M), (recs qnC M)⟩, ⟨25, 8, (obj c), 1, [.int .i64 0, sS ([]), sS ([]), .int .i64 0, .int .i64 0, .int .u64 0, .int .u64 0, .slice none 0 0]⟩]) (R : Ending → World → Prop) (hR : R = (TPr s X i b w)) : GoS Tryz.prog 24 R 66 [iC Tryz.f24 [1,1,1]] [(1, .int .i64 op), (4, pq c), (5, u)] w1 := by
 refine xs ?_
 refine xv 4 (f_slen sT23 (hM.rd 1 rfl) 3 w1) ?_
 refine xc 2 ((((List.length M) : Nat) : Int) = 1) (fun h2p => ?_) (fun h2p => ?_)
 ·
  refine xat 3 sT23 (hM.rd 1 rfl) 0 0 (fun p3 hp4 => ?_)
  refine xv 0 (r_loads (f := qnC) (l := M) aE25 (hM.rd 1 rfl) qnC_len hp4 (by first | omega | (dsimp only; omega)) qz) ?_
  refine xst 0 (c_stores (ys := [.int .i64 ((List.getD M 0 qz).h.op), sS ((List.getD M 0 qz).h.field), sS ((List.getD M 0 qz).h.text), .int .i64 ((List.getD M 0 qz).h.edits), .int .i64 ((List.getD M 0 qz).h.exact), .int .u64 ((List.getD M 0 qz).h.lo), .int .u64 ((List.getD M 0 qz).h.hi), ((List.getD M 0 qz).parts)]) aE25 hM 2 rfl (cel_obj c 0) rfl (by decide) (by intro u hu; simp at hu; rcases hu with rfl | rfl | rfl | rfl | rfl | rfl | rfl | rfl <;> first | rfl | exact (hone_ 0 (by omega)).1)) (fun w6 hM8 => ?_)
  exact xrc 1 (v := .agg #[.int .i64 ((List.getD M 0 qz).h.op), sS ((List.getD M 0 qz).h.field), sS ((List.getD M 0 qz).h.text), .int .i64 ((List.getD M 0 qz).h.edits), .int .i64 ((List.getD M 0 qz).h.exact), .int .u64 ((List.getD M 0 qz).h.lo), .int .u64 ((List.getD M 0 qz).h.hi), ((List.getD M 0 qz).parts)]) Tryz.func24 (ResC.cell (c := 4) (by kernel_rfl) (show (Instr.loadAt 25 (pq c)).run Tryz.prog w6 = .ok (.agg #[.int .i64 ((List.getD M 0 qz).h.op), sS ((List.getD M 0 qz).h.field), sS ((List.getD M 0 qz).h.text), .int .i64 ((List.getD M 0 qz).h.edits), .int .i64 ((List.getD M 0 qz).h.exact), .int .u64 ((List.getD M 0 qz).h.lo), .int .u64 ((List.getD M 0 qz).h.hi), ((List.getD M 0 qz).parts)]) w6 from c_loads (ys := [.int .i64 ((List.getD M 0 qz).h.op), sS ((List.getD M 0 qz).h.field), sS ((List.getD M 0 qz).h.text), .int .i64 ((List.getD M 0 qz).h.edits), .int .i64 ((List.getD M 0 qz).h.exact), .int .u64 ((List.getD M 0 qz).h.lo), .int .u64 ((List.getD M 0 qz).h.hi), ((List.getD M 0 qz).parts)]) aE25 (hM8.rd 2 rfl) (cel_obj c 0) rfl (lq rfl)) ResC.nil) hR (.inr ⟨k, _, hX, rfl, ⟨(List.getD M 0 qz).h, _, rfl, hone_ 0 (by omega)⟩, x, hx, (hM8.sub (sK sN))⟩)
 ·
  refine xv 5 (show (Instr.build 25 #[(0, .int .i64 op), (7, u)]).run Tryz.prog w1 = .ok (.agg #[.int .i64 op, sS ([]), sS ([]), .int .i64 0, .int .i64 0, .int .u64 0, .int .u64 0, u]) w1 from (by obtain ⟨a0_, m0_, c0_, e0_⟩ : ∃ a m c, u = Value.slice a m c := rd_form (hM.rd 1 rfl); rw [e0_]; kernel_rfl)) ?_
  refine xst 0 (c_stores (ys := [.int .i64 op, sS ([]), sS ([]), .int .i64 0, .int .i64 0, .int .u64 0, .int .u64 0, u]) aE25 hM 2 rfl (cel_obj c 0) rfl (by decide) (by intro u hu; simp at hu; rcases hu with rfl | rfl | rfl | rfl | rfl | rfl | rfl | rfl <;> first | rfl | exact (rd_ones (hM.rd 1 rfl)).1)) (fun w13 hM15 => ?_)
  exact xrc 1 (v := .agg #[.int .i64 op, sS ([]), sS ([]), .int .i64 0, .int .i64 0, .int .u64 0, .int .u64 0, u]) Tryz.func24 (ResC.cell (c := 4) (by kernel_rfl) (show (Instr.loadAt 25 (pq c)).run Tryz.prog w13 = .ok (.agg #[.int .i64 op, sS ([]), sS ([]), .int .i64 0, .int .i64 0, .int .u64 0, .int .u64 0, u]) w13 from c_loads (ys := [.int .i64 op, sS ([]), sS ([]), .int .i64 0, .int .i64 0, .int .u64 0, .int .u64 0, u]) aE25 (hM15.rd 2 rfl) (cel_obj c 0) rfl (lq rfl)) ResC.nil) hR (.inr ⟨k, _, hX, rfl, ⟨opH op, u, rfl, rd_ones (hM15.rd 1 rfl)⟩, x, hx, (hM15.sub (sK sN))⟩)


end Go.Proofs.YthpodbngljfdmaaGreatDoor


namespace Go.Proofs.YthpodbngljfdmaaGreatDoor
open Go Go.Gw Go.UtfP Go.TokP Go.QryP Go.SynP Go.RealP Go.RealQ Go.RdrP Go.RowKit
set_option linter.unusedVariables false
set_option linter.unusedSimpArgs false
set_option maxRecDepth 20000


set_option maxHeartbeats 1000000 in
theorem rdrowB_L (s : List UInt8) (hs : s.length ≤ 8192) (b c : Nat) (X : Except Nat (Q × Nat)) (i : Nat) (K : Nat) (ihone : ∀ n, n < K → CTr 43 [] .O 3 s n) {w : World} (R : Ending → World → Prop) (hR : R = (TPr s X i b w)) : ∀ (N : Nat) (m j : Nat) (acc : List Q) (M : List QN) (u : Value) (T : List Row) (w1 : World) (hji : j ≤ s.length) (hij : i ≤ j) (hf : 5 * (s.length - j) + 3 ≤ m) (hm : m < K) (hal : acc.length ≤ j) (hX : headB s m acc j = X) (hQL : QL T acc M) (hM : Mem [b] w w1 (⟨55, 3, (obj b), 1, [sS s, iN j, .int .i64 (-1)]⟩ :: ⟨25, 8, u, (List.length M), (recs qnC M)⟩ :: ⟨25, 8, (obj c), 1, [.int .i64 0, sS ([]), sS ([]), .int .i64 0, .int .i64 0, .int .u64 0, .int .u64 0, .slice none 0 0]⟩ :: T)) (hN : m < N), GoS Tryz.prog 24 R 66 [iC Tryz.f24 [1,1,0,0,0], iL Tryz.f24 [1,1,0,0,0], .inBlock 0, iC Tryz.f24 [1,1,1]] [(0, pq b), (1, .int .i64 7), (4, pq c), (5, u)] w1 := by
 intro N
 induction N with
 | zero => intro m j acc M u T w1 hji hij hf hm hal hX hQL hM hN; exact absurd hN (Nat.not_lt_zero _)
 | succ N ih =>
  intro m j acc M u T w1 hji hij hf hm hal hX hQL hM hN
  obtain ⟨m, rfl⟩ : ∃ m_, m = m_ + 1 := ⟨m - 1, by omega⟩
  have hln := hQL.len
  have hone_ : ∀ j, j < M.length → One1 (M.getD j qz).parts := fun j_ hj_ => (QT.rd hM (fun r_ h_ => mS (mS (mS h_))) (hQL.kid j_ (by omega))).one
  refine xs ?_
  refine xv 6 (c_load pE3 (hM.rd 0 rfl) (cel_obj b 2) rfl) ?_
  refine xcg 15 (ihone (m + 1) (by omega) b j (by omega) (by omega) hM.lend1) ?_
  rintro _ w2 (⟨⟨a3q, a3j⟩, _, hs4, rfl, h5, u6, T7, rfl, he8, hqt9, m10⟩ | ⟨k13, _, hs14, rfl, ⟨h15, u16, rfl, ho17⟩, x18, hxx19, m20⟩)
  ·
   refine ⟨_, rfl, ?_⟩
   have hx12 := prs_inv _ _ _ _ _ (by omega) hs4
   simp only [below] at hx12
   have hM11 : Mem [b] w w2 (⟨55, 3, (obj b), 1, [sS s, iN a3j, .int .i64 (-1)]⟩ :: ⟨25, 8, u, (List.length M), (recs qnC M)⟩ :: ⟨25, 8, (obj c), 1, [.int .i64 0, sS ([]), sS ([]), .int .i64 0, .int .i64 0, .int .u64 0, .int .u64 0, .slice none 0 0]⟩ :: (T7 ++ T)) := Mem.backT (A := [⟨25, 8, u, (List.length M), (recs qnC M)⟩, ⟨25, 8, (obj c), 1, [.int .i64 0, sS ([]), sS ([]), .int .i64 0, .int .i64 0, .int .u64 0, .int .u64 0, .slice none 0 0]⟩]) (T0 := T) hM m10
   refine xx 0 (m_lit sT23 hM11 (n := 1) (parts := #[(0, .agg #[.int .i64 (h5.op), sS (h5.field), sS (h5.text), .int .i64 (h5.edits), .int .i64 (h5.exact), .int .u64 (h5.lo), .int .u64 (h5.hi), u6])]) (cs := [.int .i64 (h5.op), sS (h5.field), sS (h5.text), .int .i64 (h5.edits), .int .i64 (h5.exact), .int .u64 (h5.lo), .int .u64 (h5.hi), u6]) (by decide) (by kernel_rfl) rfl) (fun v22 w23 hM25 => ?_)
   refine xx 0 (m_append sT23 hM25 2 rfl (hM25.rd 0 rfl) (by intro u hu; simp only [List.mem_cons, List.not_mem_nil, or_false] at hu; rcases hu with rfl | rfl | rfl | rfl | rfl | rfl | rfl | rfl; exact rfl; exact rfl; exact rfl; exact rfl; exact rfl; exact rfl; exact rfl; exact (QT.rd hM25 (fun r_ h_ => mS (mS (mS (mS (List.mem_append_left _ (h_)))))) hqt9).one.1) (by first | omega | (dsimp only; omega)) (by first | omega | (dsimp only; omega)) 23) (fun v26 w27 hM29 => ?_)
   have hM30 : Mem [b] w w27 (⟨25, 8, v22, 1, [.int .i64 (h5.op), sS (h5.field), sS (h5.text), .int .i64 (h5.edits), .int .i64 (h5.exact), .int .u64 (h5.lo), .int .u64 (h5.hi), u6]⟩ :: ⟨55, 3, (obj b), 1, [sS s, iN a3j, .int .i64 (-1)]⟩ :: ⟨25, 8, v26, (List.length (M ++ ([(qn (h5.op) (h5.field) (h5.text) (h5.edits) (h5.exact) (h5.lo) (h5.hi) u6)] : List QN))), (recs qnC (M ++ ([(qn (h5.op) (h5.field) (h5.text) (h5.edits) (h5.exact) (h5.lo) (h5.hi) u6)] : List QN)))⟩ :: ⟨25, 8, (obj c), 1, [.int .i64 0, sS ([]), sS ([]), .int .i64 0, .int .i64 0, .int .u64 0, .int .u64 0, .slice none 0 0]⟩ :: (T7 ++ T)) := hM29.cast (by simp [ivals, svals, bvals, nvals, u8s, Nat.add_assoc, recs, qnC])
   have hM31 := hM30.sub (sD (sK (sK (sK sR))))
   refine xk 5 (rdb_c s (by omega) b a3j (by omega) hM31.lend1) (fun w32 m33 => ?_)
   have hM34 := hM31.back1 m33
   have hk35 := skip_le s a3j
   refine xh 10 [] hM34 (sK (sK (sK sR))) (fun w36 hM37 hS38 => ?_)
   refine yl [0,1,2] 3 hS38 pE3 0 rfl (cel_obj b 1) rfl ?_
   refine yl [4,5,6] 7 hS38 pE9 0 rfl (cel_obj b 0) rfl ?_
   refine yv [] 8 (fun W_ hW_ => (show (Builtin.len_ #[9] 3 #[sS s]).run Tryz.prog W_ = .ok (iN s.length) W_ from f_len (by kernel_rfl))) hS38 ?_
   rcases Bool.eq_false_or_eq_true (decide ((((skipP s a3j) : Nat) : Int) ≥ ((s.length : Nat) : Int))) with h40 | h40
   ·
    have h40p : (((skipP s a3j) : Nat) : Int) ≥ ((s.length : Nat) : Int) := of_decide_eq_true h40
    refine ye [9] 10 (decide ((((skipP s a3j) : Nat) : Int) ≥ ((s.length : Nat) : Int))) true h40 hS38 ?_
    refine ydp [11,12,13,14,15,16,17,18,19] hS38 ?_
    exact xl 2 (rdrow_R s b c 7 v26 (acc ++ [a3q]) (M ++ ([(qn (h5.op) (h5.field) (h5.text) (h5.edits) (h5.exact) (h5.lo) (h5.hi) u6)] : List QN)) (T7 ++ T) X i _ _ (hQL.snoc he8 hqt9) (by simp) (by rw [← hX]; exact hB_end hs4 (by omega)) (hM37.sub (sK (sK (sK sR)))) R hR)
   ·
    have h40p : ¬ ((((skipP s a3j) : Nat) : Int) ≥ ((s.length : Nat) : Int)) := of_decide_eq_false h40
    refine ye [9] 10 (decide ((((skipP s a3j) : Nat) : Int) ≥ ((s.length : Nat) : Int))) false h40 hS38 ?_
    have hb44 := bl_bd s (skipP s a3j)
    have hb45 := bl_or s (skipP s a3j)
    refine yck [11] 12 (rdc_c s (by omega) (skipP s a3j) (by omega) b (hM37.rd 0 rfl)) hS38 (fun w41 m42 => ?_)
    have hM43 := hM37.j m42
    have hS46 := hM43.sub (sK (sK (sK sR)))
    refine ⟨hS46, ?_⟩
    rcases Bool.eq_false_or_eq_true ((bl s (skipP s a3j)) == 124) with h47 | h47
    ·
     have h47p : (bl s (skipP s a3j)) = 124 := eq_of_beq h47
     refine ye [13,14] 15 ((bl s (skipP s a3j)) == 124) true h47 hS46 ?_
     refine ydp [16,17,18,19] hS46 ?_
     exact xl 2 (rdrow_R s b c 7 v26 (acc ++ [a3q]) (M ++ ([(qn (h5.op) (h5.field) (h5.text) (h5.edits) (h5.exact) (h5.lo) (h5.hi) u6)] : List QN)) (T7 ++ T) X i _ _ (hQL.snoc he8 hqt9) (by simp) (by rw [← hX]; exact hB_end hs4 (by omega)) (hM43.sub (sK (sK (sK sR)))) R hR)
    ·
     have h47p : ¬ ((bl s (skipP s a3j)) = 124) := p_ne h47
     refine ye [13,14] 15 ((bl s (skipP s a3j)) == 124) false h47 hS46 ?_
     have hb51 := bl_bd s (skipP s a3j)
     have hb52 := bl_or s (skipP s a3j)
     refine yck [16] 17 (rdc_c s (by omega) (skipP s a3j) (by omega) b (hM43.rd 0 rfl)) hS46 (fun w48 m49 => ?_)
     have hM50 := hM43.j m49
     have hS53 := hM50.sub (sK (sK (sK sR)))
     refine ⟨hS53, ?_⟩
     refine ydp [18,19] hS53 ?_
     refine xc 0 ((bl s (skipP s a3j)) = 41) (fun h54p => ?_) (fun h54p => ?_)
     ·
      exact xl 1 (rdrow_R s b c 7 v26 (acc ++ [a3q]) (M ++ ([(qn (h5.op) (h5.field) (h5.text) (h5.edits) (h5.exact) (h5.lo) (h5.hi) u6)] : List QN)) (T7 ++ T) X i _ _ (hQL.snoc he8 hqt9) (by simp) (by rw [← hX]; exact hB_end hs4 (by omega)) (hM50.sub (sK (sK (sK sR)))) R hR)
     ·
      exact xl 3 (ih m (skipP s a3j) (acc ++ [a3q]) (M ++ ([(qn (h5.op) (h5.field) (h5.text) (h5.edits) (h5.exact) (h5.lo) (h5.hi) u6)] : List QN)) v26 (T7 ++ T) _ (by omega) (by omega) (by omega) (by omega) (by simp only [List.length_append, List.length_cons, List.length_nil]; omega) (by rw [← hX]; exact (hB_go hs4 (by omega)).symm) (hQL.snoc he8 hqt9) (hM50.sub (sK (sK (sK sR)))) (by omega))
  ·
   refine ⟨_, rfl, ?_⟩
   have hM21 : Mem [b] w w2 (⟨55, 3, (obj b), 1, [sS s, iN x18, iN k13]⟩ :: ⟨25, 8, u, (List.length M), (recs qnC M)⟩ :: ⟨25, 8, (obj c), 1, [.int .i64 0, sS ([]), sS ([]), .int .i64 0, .int .i64 0, .int .u64 0, .int .u64 0, .slice none 0 0]⟩ :: T) := hM.back1 m20
   refine xx 0 (m_lit sT23 hM21 (n := 1) (parts := #[(0, .agg #[.int .i64 (h15.op), sS (h15.field), sS (h15.text), .int .i64 (h15.edits), .int .i64 (h15.exact), .int .u64 (h15.lo), .int .u64 (h15.hi), u16])]) (cs := [.int .i64 (h15.op), sS (h15.field), sS (h15.text), .int .i64 (h15.edits), .int .i64 (h15.exact), .int .u64 (h15.lo), .int .u64 (h15.hi), u16]) (by decide) (by kernel_rfl) rfl) (fun v55 w56 hM58 => ?_)
   refine xx 0 (m_append sT23 hM58 2 rfl (hM58.rd 0 rfl) (by intro u hu; simp only [List.mem_cons, List.not_mem_nil, or_false] at hu; rcases hu with rfl | rfl | rfl | rfl | rfl | rfl | rfl | rfl; exact rfl; exact rfl; exact rfl; exact rfl; exact rfl; exact rfl; exact rfl; exact ho17.1) (by first | omega | (dsimp only; omega)) (by first | omega | (dsimp only; omega)) 23) (fun v59 w60 hM62 => ?_)
   have hM63 : Mem [b] w w60 (⟨25, 8, v55, 1, [.int .i64 (h15.op), sS (h15.field), sS (h15.text), .int .i64 (h15.edits), .int .i64 (h15.exact), .int .u64 (h15.lo), .int .u64 (h15.hi), u16]⟩ :: ⟨55, 3, (obj b), 1, [sS s, iN x18, iN k13]⟩ :: ⟨25, 8, v59, (List.length (M ++ ([(qn (h15.op) (h15.field) (h15.text) (h15.edits) (h15.exact) (h15.lo) (h15.hi) u16)] : List QN))), (recs qnC (M ++ ([(qn (h15.op) (h15.field) (h15.text) (h15.edits) (h15.exact) (h15.lo) (h15.hi) u16)] : List QN)))⟩ :: ⟨25, 8, (obj c), 1, [.int .i64 0, sS ([]), sS ([]), .int .i64 0, .int .i64 0, .int .u64 0, .int .u64 0, .slice none 0 0]⟩ :: T) := hM62.cast (by simp [ivals, svals, bvals, nvals, u8s, Nat.add_assoc, recs, qnC])
   have hM64 := hM63.sub (sD (sK (sK (sK sR))))
   refine xk 5 (rdbx_c s x18 k13 b (hM64.rd 0 rfl)) (fun w65 m66 => ?_)
   have hM67 := hM64.j m66
   refine xh 10 [] hM67 (sK (sK (sK sR))) (fun w68 hM69 hS70 => ?_)
   refine yl [0,1,2] 3 hS70 pE3 0 rfl (cel_obj b 1) rfl ?_
   refine yl [4,5,6] 7 hS70 pE9 0 rfl (cel_obj b 0) rfl ?_
   refine yv [] 8 (fun W_ hW_ => (show (Builtin.len_ #[9] 3 #[sS s]).run Tryz.prog W_ = .ok (iN s.length) W_ from f_len (by kernel_rfl))) hS70 ?_
   rcases Bool.eq_false_or_eq_true (decide (((x18 : Nat) : Int) ≥ ((s.length : Nat) : Int))) with h72 | h72
   ·
    have h72p : ((x18 : Nat) : Int) ≥ ((s.length : Nat) : Int) := of_decide_eq_true h72
    refine ye [9] 10 (decide (((x18 : Nat) : Int) ≥ ((s.length : Nat) : Int))) true h72 hS70 ?_
    refine ydp [11,12,13,14,15,16,17,18,19] hS70 ?_
    exact xl 2 (rdrow_X s b c 7 v59 (M ++ ([(qn (h15.op) (h15.field) (h15.text) (h15.edits) (h15.exact) (h15.lo) (h15.hi) u16)] : List QN)) X i x18 k13 _ (ones_snoc hone_ ho17) (by simp) (by rw [← hX]; exact hB_err hs14) (by omega) (hM69.sub (sK (sK (sK sN)))) R hR)
   ·
    have h72p : ¬ (((x18 : Nat) : Int) ≥ ((s.length : Nat) : Int)) := of_decide_eq_false h72
    refine ye [9] 10 (decide (((x18 : Nat) : Int) ≥ ((s.length : Nat) : Int))) false h72 hS70 ?_
    refine yck [11] 12 (rdcx_c s x18 k13 b (hM69.rd 0 rfl)) hS70 (fun w73 m74 => ?_)
    have hM75 := hM69.j m74
    have hS76 := hM75.sub (sK (sK (sK sR)))
    refine ⟨hS76, ?_⟩
    refine yck [13,14,15,16] 17 (rdcx_c s x18 k13 b (hM75.rd 0 rfl)) hS76 (fun w77 m78 => ?_)
    have hM79 := hM75.j m78
    have hS80 := hM79.sub (sK (sK (sK sR)))
    refine ⟨hS80, ?_⟩
    refine ydp [18,19] hS80 ?_
    refine xv 10 (c_load pE3 (hM79.rd 0 rfl) (cel_obj b 2) rfl) ?_
    refine xc 2 (((k13 : Nat) : Int) < 0) (fun h82p => ?_) (fun h82p => ?_)
    ·
     have h82 : (decide (((k13 : Nat) : Int) < 0)) = true := decide_eq_true h82p
     exact absurd (of_decide_eq_true h82) (by omega)
    ·
     exact xl 1 (rdrow_X s b c 7 v59 (M ++ ([(qn (h15.op) (h15.field) (h15.text) (h15.edits) (h15.exact) (h15.lo) (h15.hi) u16)] : List QN)) X i x18 k13 _ (ones_snoc hone_ ho17) (by simp) (by rw [← hX]; exact hB_err hs14) (by omega) (hM79.sub (sK (sK (sK sN)))) R hR)

set_option maxHeartbeats 1000000 in
theorem rdrowB_s (s : List UInt8) (hs : s.length ≤ 8192) (b : Nat) (i : Nat) (hi : i ≤ s.length) (n : Nat) (hf : 5 * (s.length - i) + 4 ≤ n + 1) (X : Except Nat (Q × Nat)) (hX : prs s (n + 1) .B i = X) (K : Nat) (ihone : ∀ n, n < K → CTr 43 [] .O 3 s n) (hn : n < K) {w : World} (hM : Mem [b] w w [⟨55, 3, (obj b), 1, [sS s, iN i, .int .i64 (-1)]⟩]) :
  Calls Tryz.prog 24 #[pq b, .int .i64 7] w (TPr s X i b w) := by
 refine xe 66 Tryz.func24 (fun R hR => ?_)
 refine xx 2 (m_alloc oT25 hM) (fun b1 w2 hM4 => ?_)
 have hM6 : Mem [b] w w2 [⟨55, 3, (obj b), 1, [sS s, iN i, .int .i64 (-1)]⟩, ⟨25, 8, (obj b1), 1, [.int .i64 0, sS ([]), sS ([]), .int .i64 0, .int .i64 0, .int .u64 0, .int .u64 0, .slice none 0 0]⟩] := hM4.perm (pS pR)
 exact xl 8 (rdrowB_L s hs b b1 X i K ihone R hR (n + 1) n i [] [] (.slice none 0 0) [] _ (by omega) (by omega) (by omega) (by omega) (Nat.zero_le _) hX ⟨rfl, fun j hj => absurd hj (Nat.not_lt_zero _), fun j hj => absurd hj (Nat.not_lt_zero _)⟩ ((hM6.nilrow 25 8).perm (List.Perm.swap _ _ _)) (by omega))

set_option maxHeartbeats 1000000 in
theorem rdrowE_L (s : List UInt8) (hs : s.length ≤ 8192) (b c : Nat) (X : Except Nat (Q × Nat)) (i : Nat) (K : Nat) (ihrowB : ∀ n, n < K → CTr 24 [.int .i64 7] .B 4 s n) {w : World} (R : Ending → World → Prop) (hR : R = (TPr s X i b w)) : ∀ (N : Nat) (m j : Nat) (acc : List Q) (M : List QN) (u : Value) (T : List Row) (w1 : World) (hji : j ≤ s.length) (hij : i ≤ j) (hf : 5 * (s.length - j) + 4 ≤ m) (hm : m < K) (hal : acc.length ≤ j) (hX : headE s m acc j = X) (hQL : QL T acc M) (hM : Mem [b] w w1 (⟨55, 3, (obj b), 1, [sS s, iN j, .int .i64 (-1)]⟩ :: ⟨25, 8, u, (List.length M), (recs qnC M)⟩ :: ⟨25, 8, (obj c), 1, [.int .i64 0, sS ([]), sS ([]), .int .i64 0, .int .i64 0, .int .u64 0, .int .u64 0, .slice none 0 0]⟩ :: T)) (hN : m < N), GoS Tryz.prog 24 R 66 [iC Tryz.f24 [1,1,0,0,0], iL Tryz.f24 [1,1,0,0,0], .inBlock 0, iC Tryz.f24 [1,1,1]] [(0, pq b), (1, .int .i64 8), (4, pq c), (5, u)] w1 := by
 intro N
 induction N with
 | zero => intro m j acc M u T w1 hji hij hf hm hal hX hQL hM hN; exact absurd hN (Nat.not_lt_zero _)
 | succ N ih =>
  intro m j acc M u T w1 hji hij hf hm hal hX hQL hM hN
  obtain ⟨m, rfl⟩ : ∃ m_, m = m_ + 1 := ⟨m - 1, by omega⟩
  have hln := hQL.len
  have hone_ : ∀ j, j < M.length → One1 (M.getD j qz).parts := fun j_ hj_ => (QT.rd hM (fun r_ h_ => mS (mS (mS h_))) (hQL.kid j_ (by omega))).one
  refine xs ?_
  refine xv 6 (c_load pE3 (hM.rd 0 rfl) (cel_obj b 2) rfl) ?_
  refine xcg 15 (ihrowB (m + 1) (by omega) b j (by omega) (by omega) hM.lend1) ?_
  rintro _ w2 (⟨⟨a3q, a3j⟩, _, hs4, rfl, h5, u6, T7, rfl, he8, hqt9, m10⟩ | ⟨k13, _, hs14, rfl, ⟨h15, u16, rfl, ho17⟩, x18, hxx19, m20⟩)
  ·
   refine ⟨_, rfl, ?_⟩
   have hx12 := prs_inv _ _ _ _ _ (by omega) hs4
   simp only [below] at hx12
   have hM11 : Mem [b] w w2 (⟨55, 3, (obj b), 1, [sS s, iN a3j, .int .i64 (-1)]⟩ :: ⟨25, 8, u, (List.length M), (recs qnC M)⟩ :: ⟨25, 8, (obj c), 1, [.int .i64 0, sS ([]), sS ([]), .int .i64 0, .int .i64 0, .int .u64 0, .int .u64 0, .slice none 0 0]⟩ :: (T7 ++ T)) := Mem.backT (A := [⟨25, 8, u, (List.length M), (recs qnC M)⟩, ⟨25, 8, (obj c), 1, [.int .i64 0, sS ([]), sS ([]), .int .i64 0, .int .i64 0, .int .u64 0, .int .u64 0, .slice none 0 0]⟩]) (T0 := T) hM m10
   refine xx 0 (m_lit sT23 hM11 (n := 1) (parts := #[(0, .agg #[.int .i64 (h5.op), sS (h5.field), sS (h5.text), .int .i64 (h5.edits), .int .i64 (h5.exact), .int .u64 (h5.lo), .int .u64 (h5.hi), u6])]) (cs := [.int .i64 (h5.op), sS (h5.field), sS (h5.text), .int .i64 (h5.edits), .int .i64 (h5.exact), .int .u64 (h5.lo), .int .u64 (h5.hi), u6]) (by decide) (by kernel_rfl) rfl) (fun v22 w23 hM25 => ?_)
   refine xx 0 (m_append sT23 hM25 2 rfl (hM25.rd 0 rfl) (by intro u hu; simp only [List.mem_cons, List.not_mem_nil, or_false] at hu; rcases hu with rfl | rfl | rfl | rfl | rfl | rfl | rfl | rfl; exact rfl; exact rfl; exact rfl; exact rfl; exact rfl; exact rfl; exact rfl; exact (QT.rd hM25 (fun r_ h_ => mS (mS (mS (mS (List.mem_append_left _ (h_)))))) hqt9).one.1) (by first | omega | (dsimp only; omega)) (by first | omega | (dsimp only; omega)) 23) (fun v26 w27 hM29 => ?_)
   have hM30 : Mem [b] w w27 (⟨25, 8, v22, 1, [.int .i64 (h5.op), sS (h5.field), sS (h5.text), .int .i64 (h5.edits), .int .i64 (h5.exact), .int .u64 (h5.lo), .int .u64 (h5.hi), u6]⟩ :: ⟨55, 3, (obj b), 1, [sS s, iN a3j, .int .i64 (-1)]⟩ :: ⟨25, 8, v26, (List.length (M ++ ([(qn (h5.op) (h5.field) (h5.text) (h5.edits) (h5.exact) (h5.lo) (h5.hi) u6)] : List QN))), (recs qnC (M ++ ([(qn (h5.op) (h5.field) (h5.text) (h5.edits) (h5.exact) (h5.lo) (h5.hi) u6)] : List QN)))⟩ :: ⟨25, 8, (obj c), 1, [.int .i64 0, sS ([]), sS ([]), .int .i64 0, .int .i64 0, .int .u64 0, .int .u64 0, .slice none 0 0]⟩ :: (T7 ++ T)) := hM29.cast (by simp [ivals, svals, bvals, nvals, u8s, Nat.add_assoc, recs, qnC])
   have hM31 := hM30.sub (sD (sK (sK (sK sR))))
   refine xk 5 (rdb_c s (by omega) b a3j (by omega) hM31.lend1) (fun w32 m33 => ?_)
   have hM34 := hM31.back1 m33
   have hk35 := skip_le s a3j
   have hb39 := bl_bd s (skipP s a3j)
   have hb40 := bl_or s (skipP s a3j)
   refine xk 12 (rdc_c s (by omega) (skipP s a3j) (by omega) b (hM34.rd 0 rfl)) (fun w36 m37 => ?_)
   have hM38 := hM34.j m37
   refine xcn 2 ((bl s (skipP s a3j)) = 124) (fun h41p => ?_) (fun h41p => ?_)
   ·
    exact xl 1 (rdrow_R s b c 8 v26 (acc ++ [a3q]) (M ++ ([(qn (h5.op) (h5.field) (h5.text) (h5.edits) (h5.exact) (h5.lo) (h5.hi) u6)] : List QN)) (T7 ++ T) X i _ _ (hQL.snoc he8 hqt9) (by simp) (by rw [← hX]; exact hE_end hs4 (by omega)) (hM38.sub (sK (sK (sK sR)))) R hR)
   ·
    refine xv 6 (c_load pE3 (hM38.rd 0 rfl) (cel_obj b 1) rfl) ?_
    refine xa 0 (((skipP s a3j) : Nat) : Int) 1 ((((skipP s a3j) + 1) : Nat) : Int) ?_
    refine xst 2 (c_store (E := 3) (u := iN ((skipP s a3j) + 1)) (by kernel_rfl) hM38 0 rfl (cel_obj b 1) (by decide) rfl rfl) (fun w42 hM44 => ?_)
    exact xl 3 (ih m ((skipP s a3j) + 1) (acc ++ [a3q]) (M ++ ([(qn (h5.op) (h5.field) (h5.text) (h5.edits) (h5.exact) (h5.lo) (h5.hi) u6)] : List QN)) v26 (T7 ++ T) _ (by omega) (by omega) (by omega) (by omega) (by simp only [List.length_append, List.length_cons, List.length_nil]; omega) (by rw [← hX]; exact (hE_go hs4 (by omega)).symm) (hQL.snoc he8 hqt9) (hM44.sub (sK (sK (sK sR)))) (by omega))
  ·
   refine ⟨_, rfl, ?_⟩
   have hM21 : Mem [b] w w2 (⟨55, 3, (obj b), 1, [sS s, iN x18, iN k13]⟩ :: ⟨25, 8, u, (List.length M), (recs qnC M)⟩ :: ⟨25, 8, (obj c), 1, [.int .i64 0, sS ([]), sS ([]), .int .i64 0, .int .i64 0, .int .u64 0, .int .u64 0, .slice none 0 0]⟩ :: T) := hM.back1 m20
   refine xx 0 (m_lit sT23 hM21 (n := 1) (parts := #[(0, .agg #[.int .i64 (h15.op), sS (h15.field), sS (h15.text), .int .i64 (h15.edits), .int .i64 (h15.exact), .int .u64 (h15.lo), .int .u64 (h15.hi), u16])]) (cs := [.int .i64 (h15.op), sS (h15.field), sS (h15.text), .int .i64 (h15.edits), .int .i64 (h15.exact), .int .u64 (h15.lo), .int .u64 (h15.hi), u16]) (by decide) (by kernel_rfl) rfl) (fun v49 w50 hM52 => ?_)
   refine xx 0 (m_append sT23 hM52 2 rfl (hM52.rd 0 rfl) (by intro u hu; simp only [List.mem_cons, List.not_mem_nil, or_false] at hu; rcases hu with rfl | rfl | rfl | rfl | rfl | rfl | rfl | rfl; exact rfl; exact rfl; exact rfl; exact rfl; exact rfl; exact rfl; exact rfl; exact ho17.1) (by first | omega | (dsimp only; omega)) (by first | omega | (dsimp only; omega)) 23) (fun v53 w54 hM56 => ?_)
   have hM57 : Mem [b] w w54 (⟨25, 8, v49, 1, [.int .i64 (h15.op), sS (h15.field), sS (h15.text), .int .i64 (h15.edits), .int .i64 (h15.exact), .int .u64 (h15.lo), .int .u64 (h15.hi), u16]⟩ :: ⟨55, 3, (obj b), 1, [sS s, iN x18, iN k13]⟩ :: ⟨25, 8, v53, (List.length (M ++ ([(qn (h15.op) (h15.field) (h15.text) (h15.edits) (h15.exact) (h15.lo) (h15.hi) u16)] : List QN))), (recs qnC (M ++ ([(qn (h15.op) (h15.field) (h15.text) (h15.edits) (h15.exact) (h15.lo) (h15.hi) u16)] : List QN)))⟩ :: ⟨25, 8, (obj c), 1, [.int .i64 0, sS ([]), sS ([]), .int .i64 0, .int .i64 0, .int .u64 0, .int .u64 0, .slice none 0 0]⟩ :: T) := hM56.cast (by simp [ivals, svals, bvals, nvals, u8s, Nat.add_assoc, recs, qnC])
   have hM58 := hM57.sub (sD (sK (sK (sK sR))))
   refine xk 5 (rdbx_c s x18 k13 b (hM58.rd 0 rfl)) (fun w59 m60 => ?_)
   have hM61 := hM58.j m60
   refine xk 12 (rdcx_c s x18 k13 b (hM61.rd 0 rfl)) (fun w62 m63 => ?_)
   have hM64 := hM61.j m63
   exact xl 4 (rdrow_X s b c 8 v53 (M ++ ([(qn (h15.op) (h15.field) (h15.text) (h15.edits) (h15.exact) (h15.lo) (h15.hi) u16)] : List QN)) X i x18 k13 _ (ones_snoc hone_ ho17) (by simp) (by rw [← hX]; exact hE_err hs14) (by omega) (hM64.sub (sK (sK (sK sN)))) R hR)

set_option maxHeartbeats 1000000 in
theorem rdrowE_s (s : List UInt8) (hs : s.length ≤ 8192) (b : Nat) (i : Nat) (hi : i ≤ s.length) (n : Nat) (hf : 5 * (s.length - i) + 5 ≤ n + 1) (X : Except Nat (Q × Nat)) (hX : prs s (n + 1) .E i = X) (K : Nat) (ihrowB : ∀ n, n < K → CTr 24 [.int .i64 7] .B 4 s n) (hn : n < K) {w : World} (hM : Mem [b] w w [⟨55, 3, (obj b), 1, [sS s, iN i, .int .i64 (-1)]⟩]) :
  Calls Tryz.prog 24 #[pq b, .int .i64 8] w (TPr s X i b w) := by
 refine xe 66 Tryz.func24 (fun R hR => ?_)
 refine xx 2 (m_alloc oT25 hM) (fun b1 w2 hM4 => ?_)
 have hM6 : Mem [b] w w2 [⟨55, 3, (obj b), 1, [sS s, iN i, .int .i64 (-1)]⟩, ⟨25, 8, (obj b1), 1, [.int .i64 0, sS ([]), sS ([]), .int .i64 0, .int .i64 0, .int .u64 0, .int .u64 0, .slice none 0 0]⟩] := hM4.perm (pS pR)
 exact xl 8 (rdrowE_L s hs b b1 X i K ihrowB R hR (n + 1) n i [] [] (.slice none 0 0) [] _ (by omega) (by omega) (by omega) (by omega) (Nat.zero_le _) hX ⟨rfl, fun j hj => absurd hj (Nat.not_lt_zero _), fun j hj => absurd hj (Nat.not_lt_zero _)⟩ ((hM6.nilrow 25 8).perm (List.Perm.swap _ _ _)) (by omega))


end Go.Proofs.YthpodbngljfdmaaGreatDoor


namespace Go.Proofs.YthpodbngljfdmaaGreatDoor
open Go Go.Gw Go.UtfP Go.TokP Go.QryP Go.SynP Go.RealP Go.RealQ Go.RdrP Go.RowKit
set_option linter.unusedVariables false
set_option linter.unusedSimpArgs false
set_option maxRecDepth 20000


set_option maxHeartbeats 1000000 in
theorem rdone_s (s : List UInt8) (hs : s.length ≤ 8192) (b : Nat) (i : Nat) (hi : i ≤ s.length) (n : Nat) (hf : 5 * (s.length - i) + 3 ≤ n + 1) (X : Except Nat (Q × Nat)) (hX : prs s (n + 1) .O i = X) (K : Nat) (ihone : ∀ n, n < K → CTr 43 [] .O 3 s n) (ihrowE : ∀ n, n < K → CTr 24 [.int .i64 8] .E 5 s n) (hn : n < K) {w : World} (hM : Mem [b] w w [⟨55, 3, (obj b), 1, [sS s, iN i, .int .i64 (-1)]⟩]) :
  Calls Tryz.prog 43 #[pq b] w (TPr s X i b w) := by
 refine xe 47 Tryz.func43 (fun R hR => ?_)
 refine xx 2 (m_alloc oT25 hM) (fun b1 w2 hM4 => ?_)
 have hM6 : Mem [b] w w2 [⟨55, 3, (obj b), 1, [sS s, iN i, .int .i64 (-1)]⟩, ⟨25, 8, (obj b1), 1, [.int .i64 0, sS ([]), sS ([]), .int .i64 0, .int .i64 0, .int .u64 0, .int .u64 0, .slice none 0 0]⟩] := hM4.perm (pS pR)
 refine xk 4 (rdb_c s (by omega) b i (by omega) hM6.lend1) (fun w7 m8 => ?_)
 have hM9 := hM6.back1 m8
 have hk10 := skip_le s i
 have hb14 := bl_bd s (skipP s i)
 have hb15 := bl_or s (skipP s i)
 refine xk 5 (rdc_c s (by omega) (skipP s i) (by omega) b (hM9.rd 0 rfl)) (fun w11 m12 => ?_)
 have hM13 := hM9.j m12
 refine xc 7 ((bl s (skipP s i)) = 45) (fun h16p => ?_) (fun h16p => ?_)
 ·
  refine xv 5 (c_load pE3 (hM13.rd 0 rfl) (cel_obj b 1) rfl) ?_
  refine xa 0 (((skipP s i) : Nat) : Int) 1 ((((skipP s i) + 1) : Nat) : Int) ?_
  refine xst 2 (c_store (E := 3) (u := iN ((skipP s i) + 1)) (by kernel_rfl) hM13 0 rfl (cel_obj b 1) (by decide) rfl rfl) (fun w17 hM19 => ?_)
  refine xcg 4 (ihone n (by omega) b ((skipP s i) + 1) (by omega) (by omega) hM19.lend1) ?_
  rintro _ w24 (⟨⟨a25q, a25j⟩, _, hs26, rfl, h27, u28, T29, rfl, he30, hqt31, m32⟩ | ⟨k35, _, hs36, rfl, ⟨h37, u38, rfl, ho39⟩, x40, hxx41, m42⟩)
  ·
   refine ⟨_, rfl, ?_⟩
   have hx34 := prs_inv _ _ _ _ _ (by omega) hs26
   simp only [below] at hx34
   have hM33 : Mem [b] w w24 (⟨55, 3, (obj b), 1, [sS s, iN a25j, .int .i64 (-1)]⟩ :: ⟨25, 8, (obj b1), 1, [.int .i64 0, sS ([]), sS ([]), .int .i64 0, .int .i64 0, .int .u64 0, .int .u64 0, .slice none 0 0]⟩ :: T29) := Mem.backT0 (A := [⟨25, 8, (obj b1), 1, [.int .i64 0, sS ([]), sS ([]), .int .i64 0, .int .i64 0, .int .u64 0, .int .u64 0, .slice none 0 0]⟩]) hM19 m32
   refine xx 0 (m_lit sT23 hM33 (n := 1) (parts := #[(0, .agg #[.int .i64 (h27.op), sS (h27.field), sS (h27.text), .int .i64 (h27.edits), .int .i64 (h27.exact), .int .u64 (h27.lo), .int .u64 (h27.hi), u28])]) (cs := [.int .i64 (h27.op), sS (h27.field), sS (h27.text), .int .i64 (h27.edits), .int .i64 (h27.exact), .int .u64 (h27.lo), .int .u64 (h27.hi), u28]) (by decide) (by kernel_rfl) rfl) (fun v44 w45 hM47 => ?_)
   refine xv 0 (show (Instr.build 25 #[(0, .int .i64 9), (7, v44)]).run Tryz.prog w45 = .ok (.agg #[.int .i64 9, sS ([]), sS ([]), .int .i64 0, .int .i64 0, .int .u64 0, .int .u64 0, v44]) w45 from (by obtain ⟨a0_, m0_, c0_, e0_⟩ : ∃ a m c, v44 = Value.slice a m c := rd_form (hM47.rd 0 rfl); rw [e0_]; kernel_rfl)) ?_
   refine xst 0 (c_stores (ys := [.int .i64 9, sS ([]), sS ([]), .int .i64 0, .int .i64 0, .int .u64 0, .int .u64 0, v44]) aE25 hM47 2 rfl (cel_obj b1 0) rfl (by decide) (by intro u hu; simp at hu; rcases hu with rfl | rfl | rfl | rfl | rfl | rfl | rfl | rfl <;> first | rfl | exact (rd_ones (hM47.rd 0 rfl)).1)) (fun w48 hM50 => ?_)
   have hM54 : Mem [b] w w48 (⟨55, 3, (obj b), 1, [sS s, iN a25j, .int .i64 (-1)]⟩ :: ⟨25, 8, v44, 1, [.int .i64 (h27.op), sS (h27.field), sS (h27.text), .int .i64 (h27.edits), .int .i64 (h27.exact), .int .u64 (h27.lo), .int .u64 (h27.hi), u28]⟩ :: ⟨25, 8, (obj b1), 1, [.int .i64 9, sS ([]), sS ([]), .int .i64 0, .int .i64 0, .int .u64 0, .int .u64 0, v44]⟩ :: T29) := hM50.perm (pS pR)
   exact xrc 1 (v := .agg #[.int .i64 9, sS ([]), sS ([]), .int .i64 0, .int .i64 0, .int .u64 0, .int .u64 0, v44]) Tryz.func43 (ResC.cell (c := 2) (by kernel_rfl) (show (Instr.loadAt 25 (pq b1)).run Tryz.prog w48 = .ok (.agg #[.int .i64 9, sS ([]), sS ([]), .int .i64 0, .int .i64 0, .int .u64 0, .int .u64 0, v44]) w48 from c_loads (ys := [.int .i64 9, sS ([]), sS ([]), .int .i64 0, .int .i64 0, .int .u64 0, .int .u64 0, v44]) aE25 (hM50.rd 2 rfl) (cel_obj b1 0) rfl (lq rfl)) ResC.nil) hR (.inl ⟨(.mk (opH 9) [a25q], a25j), _, by rw [← hX]; exact o_not (by omega) hs26, rfl, opH 9, v44, _, rfl, rfl, (QL.one he30 hqt31).whole _, (hM54.sub (sK (sK (sD sR))))⟩)
  ·
   refine ⟨_, rfl, ?_⟩
   have hM43 : Mem [b] w w24 [⟨55, 3, (obj b), 1, [sS s, iN x40, iN k35]⟩, ⟨25, 8, (obj b1), 1, [.int .i64 0, sS ([]), sS ([]), .int .i64 0, .int .i64 0, .int .u64 0, .int .u64 0, .slice none 0 0]⟩] := hM19.back1 m42
   refine xx 0 (m_lit sT23 hM43 (n := 1) (parts := #[(0, .agg #[.int .i64 (h37.op), sS (h37.field), sS (h37.text), .int .i64 (h37.edits), .int .i64 (h37.exact), .int .u64 (h37.lo), .int .u64 (h37.hi), u38])]) (cs := [.int .i64 (h37.op), sS (h37.field), sS (h37.text), .int .i64 (h37.edits), .int .i64 (h37.exact), .int .u64 (h37.lo), .int .u64 (h37.hi), u38]) (by decide) (by kernel_rfl) rfl) (fun v55 w56 hM58 => ?_)
   refine xv 0 (show (Instr.build 25 #[(0, .int .i64 9), (7, v55)]).run Tryz.prog w56 = .ok (.agg #[.int .i64 9, sS ([]), sS ([]), .int .i64 0, .int .i64 0, .int .u64 0, .int .u64 0, v55]) w56 from (by obtain ⟨a0_, m0_, c0_, e0_⟩ : ∃ a m c, v55 = Value.slice a m c := rd_form (hM58.rd 0 rfl); rw [e0_]; kernel_rfl)) ?_
   refine xst 0 (c_stores (ys := [.int .i64 9, sS ([]), sS ([]), .int .i64 0, .int .i64 0, .int .u64 0, .int .u64 0, v55]) aE25 hM58 2 rfl (cel_obj b1 0) rfl (by decide) (by intro u hu; simp at hu; rcases hu with rfl | rfl | rfl | rfl | rfl | rfl | rfl | rfl <;> first | rfl | exact (rd_ones (hM58.rd 0 rfl)).1)) (fun w59 hM61 => ?_)
   have hM65 : Mem [b] w w59 [⟨55, 3, (obj b), 1, [sS s, iN x40, iN k35]⟩, ⟨25, 8, v55, 1, [.int .i64 (h37.op), sS (h37.field), sS (h37.text), .int .i64 (h37.edits), .int .i64 (h37.exact), .int .u64 (h37.lo), .int .u64 (h37.hi), u38]⟩, ⟨25, 8, (obj b1), 1, [.int .i64 9, sS ([]), sS ([]), .int .i64 0, .int .i64 0, .int .u64 0, .int .u64 0, v55]⟩] := hM61.perm (pS pR)
   exact xrc 1 (v := .agg #[.int .i64 9, sS ([]), sS ([]), .int .i64 0, .int .i64 0, .int .u64 0, .int .u64 0, v55]) Tryz.func43 (ResC.cell (c := 2) (by kernel_rfl) (show (Instr.loadAt 25 (pq b1)).run Tryz.prog w59 = .ok (.agg #[.int .i64 9, sS ([]), sS ([]), .int .i64 0, .int .i64 0, .int .u64 0, .int .u64 0, v55]) w59 from c_loads (ys := [.int .i64 9, sS ([]), sS ([]), .int .i64 0, .int .i64 0, .int .u64 0, .int .u64 0, v55]) aE25 (hM61.rd 2 rfl) (cel_obj b1 0) rfl (lq rfl)) ResC.nil) hR (.inr ⟨_, _, by rw [← hX]; exact o_not_err (by omega) hs36, rfl, ⟨opH 9, _, rfl, (rd_ones (hM65.rd 1 rfl))⟩, _, by omega, hM65.sub (sK sN)⟩)
 ·
  refine xc 5 ((bl s (skipP s i)) = 40) (fun h66p => ?_) (fun h66p => ?_)
  ·
   refine xv 5 (c_load pE3 (hM13.rd 0 rfl) (cel_obj b 1) rfl) ?_
   refine xa 0 (((skipP s i) : Nat) : Int) 1 ((((skipP s i) + 1) : Nat) : Int) ?_
   refine xst 2 (c_store (E := 3) (u := iN ((skipP s i) + 1)) (by kernel_rfl) hM13 0 rfl (cel_obj b 1) (by decide) rfl rfl) (fun w67 hM69 => ?_)
   refine xcg 4 (ihrowE n (by omega) b ((skipP s i) + 1) (by omega) (by omega) hM69.lend1) ?_
   rintro _ w74 (⟨⟨a75q, a75j⟩, _, hs76, rfl, h77, u78, T79, rfl, he80, hqt81, m82⟩ | ⟨k85, _, hs86, rfl, ⟨h87, u88, rfl, ho89⟩, x90, hxx91, m92⟩)
   ·
    refine ⟨_, rfl, ?_⟩
    have hx84 := prs_inv _ _ _ _ _ (by omega) hs76
    simp only [below] at hx84
    have hM83 : Mem [b] w w74 (⟨55, 3, (obj b), 1, [sS s, iN a75j, .int .i64 (-1)]⟩ :: ⟨25, 8, (obj b1), 1, [.int .i64 0, sS ([]), sS ([]), .int .i64 0, .int .i64 0, .int .u64 0, .int .u64 0, .slice none 0 0]⟩ :: T79) := Mem.backT0 (A := [⟨25, 8, (obj b1), 1, [.int .i64 0, sS ([]), sS ([]), .int .i64 0, .int .i64 0, .int .u64 0, .int .u64 0, .slice none 0 0]⟩]) hM69 m82
    refine xx 0 (m_alloc oT25 hM83) (fun b94 w95 hM97 => ?_)
    refine xst 0 (c_stores (ys := [.int .i64 (h77.op), sS (h77.field), sS (h77.text), .int .i64 (h77.edits), .int .i64 (h77.exact), .int .u64 (h77.lo), .int .u64 (h77.hi), u78]) aE25 hM97 0 rfl (cel_obj b94 0) rfl (by decide) (by intro u hu; simp at hu; rcases hu with rfl | rfl | rfl | rfl | rfl | rfl | rfl | rfl <;> first | rfl | exact (QT.rd hM97 (fun r_ h_ => mS (mS (mS (h_)))) hqt81).one.1)) (fun w99 hM101 => ?_)
    have hM104 : Mem [b] w w99 (⟨55, 3, (obj b), 1, [sS s, iN a75j, .int .i64 (-1)]⟩ :: ⟨25, 8, (obj b94), 1, [.int .i64 (h77.op), sS (h77.field), sS (h77.text), .int .i64 (h77.edits), .int .i64 (h77.exact), .int .u64 (h77.lo), .int .u64 (h77.hi), u78]⟩ :: ⟨25, 8, (obj b1), 1, [.int .i64 0, sS ([]), sS ([]), .int .i64 0, .int .i64 0, .int .u64 0, .int .u64 0, .slice none 0 0]⟩ :: T79) := hM101.perm (pS pR)
    refine xcg 4 (rdm_c s (by omega) 41 b a75j (by omega) hM104.lend1) ?_
    rintro _ w105 (⟨a106, _, hs107, rfl, rfl, m108⟩ | ⟨k110, _, hs111, rfl, rfl, m112⟩)
    ·
     refine ⟨_, rfl, ?_⟩
     have hM109 := hM104.back1 m108
     have hx114 := take_inv hs107
     refine xv 3 (c_loads (ys := [.int .i64 (h77.op), sS (h77.field), sS (h77.text), .int .i64 (h77.edits), .int .i64 (h77.exact), .int .u64 (h77.lo), .int .u64 (h77.hi), u78]) aE25 (hM109.rd 1 rfl) (cel_obj b94 0) rfl (lq rfl)) ?_
     refine xst 0 (c_stores (ys := [.int .i64 (h77.op), sS (h77.field), sS (h77.text), .int .i64 (h77.edits), .int .i64 (h77.exact), .int .u64 (h77.lo), .int .u64 (h77.hi), u78]) aE25 hM109 2 rfl (cel_obj b1 0) rfl (by decide) (by intro u hu; simp at hu; rcases hu with rfl | rfl | rfl | rfl | rfl | rfl | rfl | rfl <;> first | rfl | exact (QT.rd hM109 (fun r_ h_ => mS (mS (mS (h_)))) hqt81).one.1)) (fun w115 hM117 => ?_)
     exact xrc 1 (v := .agg #[.int .i64 (h77.op), sS (h77.field), sS (h77.text), .int .i64 (h77.edits), .int .i64 (h77.exact), .int .u64 (h77.lo), .int .u64 (h77.hi), u78]) Tryz.func43 (ResC.cell (c := 2) (by kernel_rfl) (show (Instr.loadAt 25 (pq b1)).run Tryz.prog w115 = .ok (.agg #[.int .i64 (h77.op), sS (h77.field), sS (h77.text), .int .i64 (h77.edits), .int .i64 (h77.exact), .int .u64 (h77.lo), .int .u64 (h77.hi), u78]) w115 from c_loads (ys := [.int .i64 (h77.op), sS (h77.field), sS (h77.text), .int .i64 (h77.edits), .int .i64 (h77.exact), .int .u64 (h77.lo), .int .u64 (h77.hi), u78]) aE25 (hM117.rd 2 rfl) (cel_obj b1 0) rfl (lq rfl)) ResC.nil) hR (.inl ⟨(a75q, a106), _, by rw [← hX]; exact o_par (by omega) hs76 hs107, rfl, h77, u78, T79, rfl, he80, hqt81, (hM117.sub (sK (sD (sD sR))))⟩)
    ·
     refine ⟨_, rfl, ?_⟩
     have hM113 := hM104.back1 m112
     refine xv 3 (c_loads (ys := [.int .i64 (h77.op), sS (h77.field), sS (h77.text), .int .i64 (h77.edits), .int .i64 (h77.exact), .int .u64 (h77.lo), .int .u64 (h77.hi), u78]) aE25 (hM113.rd 1 rfl) (cel_obj b94 0) rfl (lq rfl)) ?_
     refine xst 0 (c_stores (ys := [.int .i64 (h77.op), sS (h77.field), sS (h77.text), .int .i64 (h77.edits), .int .i64 (h77.exact), .int .u64 (h77.lo), .int .u64 (h77.hi), u78]) aE25 hM113 2 rfl (cel_obj b1 0) rfl (by decide) (by intro u hu; simp at hu; rcases hu with rfl | rfl | rfl | rfl | rfl | rfl | rfl | rfl <;> first | rfl | exact (QT.rd hM113 (fun r_ h_ => mS (mS (mS (h_)))) hqt81).one.1)) (fun w121 hM123 => ?_)
     exact xrc 1 (v := .agg #[.int .i64 (h77.op), sS (h77.field), sS (h77.text), .int .i64 (h77.edits), .int .i64 (h77.exact), .int .u64 (h77.lo), .int .u64 (h77.hi), u78]) Tryz.func43 (ResC.cell (c := 2) (by kernel_rfl) (show (Instr.loadAt 25 (pq b1)).run Tryz.prog w121 = .ok (.agg #[.int .i64 (h77.op), sS (h77.field), sS (h77.text), .int .i64 (h77.edits), .int .i64 (h77.exact), .int .u64 (h77.lo), .int .u64 (h77.hi), u78]) w121 from c_loads (ys := [.int .i64 (h77.op), sS (h77.field), sS (h77.text), .int .i64 (h77.edits), .int .i64 (h77.exact), .int .u64 (h77.lo), .int .u64 (h77.hi), u78]) aE25 (hM123.rd 2 rfl) (cel_obj b1 0) rfl (lq rfl)) ResC.nil) hR (.inr ⟨_, _, by rw [← hX]; exact o_par_err2 (by omega) hs76 hs111, rfl, ⟨h77, _, rfl, (QT.rd hM123 (fun r_ h_ => mS (mS (mS (h_)))) hqt81).one⟩, _, by omega, hM123.sub (sK sN)⟩)
   ·
    refine ⟨_, rfl, ?_⟩
    have hM93 : Mem [b] w w74 [⟨55, 3, (obj b), 1, [sS s, iN x90, iN k85]⟩, ⟨25, 8, (obj b1), 1, [.int .i64 0, sS ([]), sS ([]), .int .i64 0, .int .i64 0, .int .u64 0, .int .u64 0, .slice none 0 0]⟩] := hM69.back1 m92
    refine xx 0 (m_alloc oT25 hM93) (fun b127 w128 hM130 => ?_)
    refine xst 0 (c_stores (ys := [.int .i64 (h87.op), sS (h87.field), sS (h87.text), .int .i64 (h87.edits), .int .i64 (h87.exact), .int .u64 (h87.lo), .int .u64 (h87.hi), u88]) aE25 hM130 0 rfl (cel_obj b127 0) rfl (by decide) (by intro u hu; simp at hu; rcases hu with rfl | rfl | rfl | rfl | rfl | rfl | rfl | rfl <;> first | rfl | exact ho89.1)) (fun w132 hM134 => ?_)
    have hM137 : Mem [b] w w132 [⟨55, 3, (obj b), 1, [sS s, iN x90, iN k85]⟩, ⟨25, 8, (obj b127), 1, [.int .i64 (h87.op), sS (h87.field), sS (h87.text), .int .i64 (h87.edits), .int .i64 (h87.exact), .int .u64 (h87.lo), .int .u64 (h87.hi), u88]⟩, ⟨25, 8, (obj b1), 1, [.int .i64 0, sS ([]), sS ([]), .int .i64 0, .int .i64 0, .int .u64 0, .int .u64 0, .slice none 0 0]⟩] := hM134.perm (pS pR)
    refine xk 4 (rdmx_c s 41 x90 k85 (by omega) b hM137.lend1) (fun w138 m139 => ?_)
    have hM140 := hM137.back1 m139
    refine xv 3 (c_loads (ys := [.int .i64 (h87.op), sS (h87.field), sS (h87.text), .int .i64 (h87.edits), .int .i64 (h87.exact), .int .u64 (h87.lo), .int .u64 (h87.hi), u88]) aE25 (hM140.rd 1 rfl) (cel_obj b127 0) rfl (lq rfl)) ?_
    refine xst 0 (c_stores (ys := [.int .i64 (h87.op), sS (h87.field), sS (h87.text), .int .i64 (h87.edits), .int .i64 (h87.exact), .int .u64 (h87.lo), .int .u64 (h87.hi), u88]) aE25 hM140 2 rfl (cel_obj b1 0) rfl (by decide) (by intro u hu; simp at hu; rcases hu with rfl | rfl | rfl | rfl | rfl | rfl | rfl | rfl <;> first | rfl | exact ho89.1)) (fun w141 hM143 => ?_)
    exact xrc 1 (v := .agg #[.int .i64 (h87.op), sS (h87.field), sS (h87.text), .int .i64 (h87.edits), .int .i64 (h87.exact), .int .u64 (h87.lo), .int .u64 (h87.hi), u88]) Tryz.func43 (ResC.cell (c := 2) (by kernel_rfl) (show (Instr.loadAt 25 (pq b1)).run Tryz.prog w141 = .ok (.agg #[.int .i64 (h87.op), sS (h87.field), sS (h87.text), .int .i64 (h87.edits), .int .i64 (h87.exact), .int .u64 (h87.lo), .int .u64 (h87.hi), u88]) w141 from c_loads (ys := [.int .i64 (h87.op), sS (h87.field), sS (h87.text), .int .i64 (h87.edits), .int .i64 (h87.exact), .int .u64 (h87.lo), .int .u64 (h87.hi), u88]) aE25 (hM143.rd 2 rfl) (cel_obj b1 0) rfl (lq rfl)) ResC.nil) hR (.inr ⟨_, _, by rw [← hX]; exact o_par_err (by omega) hs86, rfl, ⟨h87, _, rfl, ho89⟩, _, by omega, hM143.sub (sK sN)⟩)
  ·
   refine xc 5 ((bl s (skipP s i)) = 42) (fun h147p => ?_) (fun h147p => ?_)
   ·
    refine xv 5 (c_load pE3 (hM13.rd 0 rfl) (cel_obj b 1) rfl) ?_
    refine xa 0 (((skipP s i) : Nat) : Int) 1 ((((skipP s i) + 1) : Nat) : Int) ?_
    refine xst 2 (c_store (E := 3) (u := iN ((skipP s i) + 1)) (by kernel_rfl) hM13 0 rfl (cel_obj b 1) (by decide) rfl rfl) (fun w148 hM150 => ?_)
    refine xst 4 (c_stores (ys := [.int .i64 10, sS ([]), sS ([]), .int .i64 0, .int .i64 0, .int .u64 0, .int .u64 0, .slice none 0 0]) aE25 hM150 1 rfl (cel_obj b1 0) rfl (by decide) (oneL rfl)) (fun w152 hM154 => ?_)
    exact xrc 1 (v := .agg #[.int .i64 10, sS ([]), sS ([]), .int .i64 0, .int .i64 0, .int .u64 0, .int .u64 0, .slice none 0 0]) Tryz.func43 (ResC.cell (c := 2) (by kernel_rfl) (show (Instr.loadAt 25 (pq b1)).run Tryz.prog w152 = .ok (.agg #[.int .i64 10, sS ([]), sS ([]), .int .i64 0, .int .i64 0, .int .u64 0, .int .u64 0, .slice none 0 0]) w152 from c_loads (ys := [.int .i64 10, sS ([]), sS ([]), .int .i64 0, .int .i64 0, .int .u64 0, .int .u64 0, .slice none 0 0]) aE25 (hM154.rd 1 rfl) (cel_obj b1 0) rfl (lq rfl)) ResC.nil) hR (.inl ⟨(.mk (opH 10) [], ((skipP s i) + 1)), _, by rw [← hX]; exact o_all (by omega), rfl, opH 10, .slice none 0 0, [⟨25, 8, .slice none 0 0, 0, []⟩], rfl, rfl, QT.whole (M := []) rfl (fun j hj => absurd hj (Nat.not_lt_zero _)) (fun j hj => absurd hj (Nat.not_lt_zero _)), ((hM154.sub (sK (sD sR))).nilrow 25 8).perm (List.Perm.swap _ _ _)⟩)
   ·
    refine xcg 5 (rdleaf_t s (by omega) b (skipP s i) (by omega) hM13.lend1) ?_
    rintro _ w160 (⟨⟨a161q, a161j⟩, _, hs162, rfl, h163, u164, T165, rfl, he166, hqt167, m168⟩ | ⟨k171, _, hs172, rfl, ⟨h173, u174, rfl, ho175⟩, x176, hxx177, m178⟩)
    ·
     refine ⟨_, rfl, ?_⟩
     have hx170 := leaf_inv (by omega) hs162
     have hM169 : Mem [b] w w160 (⟨55, 3, (obj b), 1, [sS s, iN a161j, .int .i64 (-1)]⟩ :: ⟨25, 8, (obj b1), 1, [.int .i64 0, sS ([]), sS ([]), .int .i64 0, .int .i64 0, .int .u64 0, .int .u64 0, .slice none 0 0]⟩ :: T165) := Mem.backT0 (A := [⟨25, 8, (obj b1), 1, [.int .i64 0, sS ([]), sS ([]), .int .i64 0, .int .i64 0, .int .u64 0, .int .u64 0, .slice none 0 0]⟩]) hM13 m168
     refine xst 0 (c_stores (ys := [.int .i64 (h163.op), sS (h163.field), sS (h163.text), .int .i64 (h163.edits), .int .i64 (h163.exact), .int .u64 (h163.lo), .int .u64 (h163.hi), u164]) aE25 hM169 1 rfl (cel_obj b1 0) rfl (by decide) (by intro u hu; simp at hu; rcases hu with rfl | rfl | rfl | rfl | rfl | rfl | rfl | rfl <;> first | rfl | exact (QT.rd hM169 (fun r_ h_ => mS (mS (h_))) hqt167).one.1)) (fun w180 hM182 => ?_)
     exact xrc 1 (v := .agg #[.int .i64 (h163.op), sS (h163.field), sS (h163.text), .int .i64 (h163.edits), .int .i64 (h163.exact), .int .u64 (h163.lo), .int .u64 (h163.hi), u164]) Tryz.func43 (ResC.cell (c := 2) (by kernel_rfl) (show (Instr.loadAt 25 (pq b1)).run Tryz.prog w180 = .ok (.agg #[.int .i64 (h163.op), sS (h163.field), sS (h163.text), .int .i64 (h163.edits), .int .i64 (h163.exact), .int .u64 (h163.lo), .int .u64 (h163.hi), u164]) w180 from c_loads (ys := [.int .i64 (h163.op), sS (h163.field), sS (h163.text), .int .i64 (h163.edits), .int .i64 (h163.exact), .int .u64 (h163.lo), .int .u64 (h163.hi), u164]) aE25 (hM182.rd 1 rfl) (cel_obj b1 0) rfl (lq rfl)) ResC.nil) hR (.inl ⟨(a161q, a161j), _, by rw [← hX, o_leaf (by omega) (by omega) (by omega)]; exact hs162, rfl, h163, u164, T165, rfl, he166, hqt167, (hM182.sub (sK (sD sR)))⟩)
    ·
     refine ⟨_, rfl, ?_⟩
     have hM179 : Mem [b] w w160 [⟨55, 3, (obj b), 1, [sS s, iN x176, iN k171]⟩, ⟨25, 8, (obj b1), 1, [.int .i64 0, sS ([]), sS ([]), .int .i64 0, .int .i64 0, .int .u64 0, .int .u64 0, .slice none 0 0]⟩] := hM13.back1 m178
     refine xst 0 (c_stores (ys := [.int .i64 (h173.op), sS (h173.field), sS (h173.text), .int .i64 (h173.edits), .int .i64 (h173.exact), .int .u64 (h173.lo), .int .u64 (h173.hi), u174]) aE25 hM179 1 rfl (cel_obj b1 0) rfl (by decide) (by intro u hu; simp at hu; rcases hu with rfl | rfl | rfl | rfl | rfl | rfl | rfl | rfl <;> first | rfl | exact ho175.1)) (fun w185 hM187 => ?_)
     exact xrc 1 (v := .agg #[.int .i64 (h173.op), sS (h173.field), sS (h173.text), .int .i64 (h173.edits), .int .i64 (h173.exact), .int .u64 (h173.lo), .int .u64 (h173.hi), u174]) Tryz.func43 (ResC.cell (c := 2) (by kernel_rfl) (show (Instr.loadAt 25 (pq b1)).run Tryz.prog w185 = .ok (.agg #[.int .i64 (h173.op), sS (h173.field), sS (h173.text), .int .i64 (h173.edits), .int .i64 (h173.exact), .int .u64 (h173.lo), .int .u64 (h173.hi), u174]) w185 from c_loads (ys := [.int .i64 (h173.op), sS (h173.field), sS (h173.text), .int .i64 (h173.edits), .int .i64 (h173.exact), .int .u64 (h173.lo), .int .u64 (h173.hi), u174]) aE25 (hM187.rd 1 rfl) (cel_obj b1 0) rfl (lq rfl)) ResC.nil) hR (.inr ⟨_, _, by rw [← hX, o_leaf (by omega) (by omega) (by omega)]; exact hs172, rfl, ⟨h173, _, rfl, ho175⟩, _, by omega, hM187.sub (sK sN)⟩)

theorem rdparts_n (s : List UInt8) (hs : s.length ≤ 8192) : ∀ K n, n < K → CTr 24 [.int .i64 8] .E 5 s n ∧ CTr 24 [.int .i64 7] .B 4 s n ∧ CTr 43 [] .O 3 s n := by
 intro K
 induction K with
 | zero => intro n hn; exact absurd hn (Nat.not_lt_zero _)
 | succ K ih =>
  intro n hn
  match n, hn with
  | 0, _ => refine ⟨?_, ?_, ?_⟩ <;> (intro b i w hi hf _; omega)
  | n + 1, hn => exact ⟨fun b i w hi hf hM => rdrowE_s s hs b i hi n hf _ rfl K (fun k hk => (ih k hk).2.1) (by omega) hM, fun b i w hi hf hM => rdrowB_s s hs b i hi n hf _ rfl K (fun k hk => (ih k hk).2.2) (by omega) hM, fun b i w hi hf hM => rdone_s s hs b i hi n hf _ rfl K (fun k hk => (ih k hk).2.2) (fun k hk => (ih k hk).1) (by omega) hM⟩

theorem rdrow_c (s : List UInt8) (hs : s.length ≤ 8192) (b : Nat) {w : World} (hM : Mem [b] w w [⟨55, 3, (obj b), 1, [sS s, iN 0, .int .i64 (-1)]⟩]) : Calls Tryz.prog 24 #[pq b, .int .i64 8] w (TPr s (prs s (fuel s) .E 0) 0 b w) := (rdparts_n s hs (fuel s + 1) (fuel s) (by omega)).1 b 0 (by omega) (by unfold fuel; omega) hM


end Go.Proofs.YthpodbngljfdmaaGreatDoor


namespace Go.SpoP
set_option linter.unusedVariables false
open Go Go.Gw Go.QryP Go.SynP
abbrev qrow (E : TypeId) (v : Value) (L : List QN) : Row := ⟨E, 8, v, L.length, recs qnC L⟩
/-- v holds, in rows of T, queries, and these such again, to a depth -/
def Sp : Nat → List Row → Value → Prop
  | 0, T, v => v = .slice none 0 0
  | d + 1, T, v => v = .slice none 0 0 ∨ ∃ (E : TypeId) (L : List QN), qrow E v L ∈ T ∧ ∀ x, x ∈ L → Sp d T x.parts
theorem Sp.nil : ∀ (d : Nat) (T : List Row), Sp d T (.slice none 0 0)
  | 0, _ => rfl
  | _ + 1, _ => .inl rfl
theorem Sp.sub {T T' : List Row} (h : ∀ r, r ∈ T → r ∈ T') : ∀ (d : Nat) (v : Value), Sp d T v → Sp d T' v
  | 0, v, hs => hs
  | d + 1, v, hs => by
    rcases hs with hs | ⟨E, L, hr, hx⟩
    · exact .inl hs
    · exact .inr ⟨E, L, h _ hr, fun x hm => Sp.sub h d _ (hx x hm)⟩
theorem Sp.up {T : List Row} : ∀ (d d' : Nat) (v : Value), d ≤ d' → Sp d T v → Sp d' T v
  | 0, d', v, _, hs => by
    have hs : v = .slice none 0 0 := hs
    subst hs; exact Sp.nil _ _
  | d + 1, 0, v, h, _ => by omega
  | d + 1, d' + 1, v, h, hs => by
    rcases hs with hs | ⟨E, L, hr, hx⟩
    · exact .inl hs
    · exact .inr ⟨E, L, hr, fun x hm => Sp.up d d' _ (by omega) (hx x hm)⟩
theorem sp_of {T : List Row} {q : Q} {v : Value} (h : QT T q v) : Sp (bulkQ q) T v := by
  induction h with
  | mk g l v E L hm hl hh hs ih =>
    rw [bulkQ_mk]
    refine .inr ⟨E, L, hm, fun x hx => ?_⟩
    obtain ⟨j, hj, rfl⟩ := List.getElem_of_mem hx
    have h1 := ih j (by omega)
    have h2 := bulk_kid (l := l) (i := j) (by omega)
    rw [show (L.getD j qz) = L[j] by rw [List.getD_eq_getElem?_getD, List.getElem?_eq_getElem hj]; rfl] at h1
    exact Sp.up _ _ _ (by omega) h1
/-- what holds queries holds them still -/
def Shp (T T' : List Row) : Prop := ∀ d v, Sp d T v → Sp d T' v
theorem Shp.refl (T : List Row) : Shp T T := fun _ _ h => h
theorem Shp.trans {A B C : List Row} (h : Shp A B) (k : Shp B C) : Shp A C := fun d v x => k d v (h d v x)
theorem Shp.of {T T' : List Row} (h : ∀ r, r ∈ T → r ∈ T') : Shp T T' := fun d v => Sp.sub h d v
theorem shp_set {E : TypeId} {v : Value} {L : List QN} {C : List Row} {i : Nat} {z : QN} (hi : i < L.length) (hz : z.parts = .slice none 0 0) : Shp (qrow E v L :: C) (qrow E v (L.set i z) :: C) := by
  intro d
  induction d with
  | zero => intro y h; exact h
  | succ d ih =>
    intro y h
    rcases h with h | ⟨E2, M, hr, hx⟩
    · exact .inl h
    · rcases List.mem_cons.1 hr with e | hr
      · simp only [Row.mk.injEq] at e
        obtain ⟨rfl, -, rfl, hn, hxs⟩ := e
        refine .inr ⟨E2, M.set i z, ?_, fun x hm => ?_⟩
        · refine List.mem_cons.2 (.inl ?_)
          unfold qrow
          rw [← recs_set qnC_len (by omega), ← recs_set qnC_len hi, hxs, List.length_set, List.length_set, hn]
        · rcases List.mem_or_eq_of_mem_set hm with g | rfl
          · exact ih _ (hx x g)
          · rw [hz]; exact Sp.nil _ _
      · exact .inr ⟨E2, M, List.mem_cons_of_mem _ hr, fun x hm => ih _ (hx x hm)⟩
theorem spo_step {R0 C : List Row} {E : TypeId} {v : Value} {L : List QN} {i d : Nat} {z : QN} (hi : i < L.length) (hz : z.parts = .slice none 0 0) (hSp : ∀ x, x ∈ L → Sp d (qrow E v L :: C) x.parts) (hSh : Shp R0 (qrow E v L :: C)) :
    (∀ x, x ∈ L.set i z → Sp d (qrow E v (L.set i z) :: C) x.parts) ∧ Shp R0 (qrow E v (L.set i z) :: C) := by
  refine ⟨fun x hm => ?_, hSh.trans (shp_set hi hz)⟩
  rcases List.mem_or_eq_of_mem_set hm with g | rfl
  · exact shp_set hi hz d _ (hSp x g)
  · rw [hz]; exact Sp.nil _ _
theorem getD_mem {L : List QN} {i : Nat} (h : i < L.length) : L.getD i qz ∈ L := by
  rw [List.getD_eq_getElem?_getD, List.getElem?_eq_getElem h]; exact List.getElem_mem h
theorem rd_same {w w' : World} {k n m : Nat} {v : Value} {xs ys : List Value} (h : Rd w k v n xs) (g : Rd w' k v m ys) : n = m := by
  obtain ⟨_, a, c, rfl, _⟩ := h
  obtain ⟨_, b, d, e, _⟩ := g
  simp only [Value.slice.injEq] at e
  exact e.2.1
theorem rd_le {w : World} {k n : Nat} {v : Value} {xs : List Value} (h : Rd w k v n xs) : n ≤ 9223372036854775807 := by
  obtain ⟨_, a, c, rfl, h1, h2, _⟩ := h
  exact Nat.le_trans (Nat.le_trans h1 h2) (by decide)
section
variable {S : List Nat} {w0 w w' : World}
theorem spo_lend {box : Row} {R : List Row} (h : Mem S w0 w (box :: R)) : Mem (blocks R) w w R := Mem.lend (L := [box]) (h.perm (List.perm_append_comm (l₁ := [box]) (l₂ := R)))
theorem spo_back {box : Row} {E : TypeId} {v : Value} {L : List QN} {C T' : List Row} {d : Nat} (h : Mem S w0 w (box :: qrow E v L :: C)) (c : Mem (blocks (qrow E v L :: C)) w w' T') (hs : Shp (qrow E v L :: C) T') (hSp : ∀ x, x ∈ L → Sp d (qrow E v L :: C) x.parts) (hi : 0 < L.length) :
    ∃ (E1 : TypeId) (L1 : List QN) (C1 : List Row), L1.length = L.length ∧ (∀ x, x ∈ L1 → Sp d (qrow E1 v L1 :: C1) x.parts) ∧ Shp (qrow E v L :: C) (qrow E1 v L1 :: C1) ∧ Mem S w0 w' (box :: qrow E1 v L1 :: C1) := by
  have hrd : Rd w 8 v L.length (recs qnC L) := h.rd 1 rfl
  have hb := Mem.back (L := [box]) (R := qrow E v L :: C) (h.perm (List.perm_append_comm (l₁ := [box]) (l₂ := qrow E v L :: C))) c
  rcases hs (d + 1) v (.inr ⟨E, L, List.mem_cons_self .., hSp⟩) with e | ⟨E1, L1, hr, hx⟩
  · obtain ⟨_, a, c, e2, _⟩ := hrd
    rw [e] at e2
    simp only [Value.slice.injEq] at e2
    omega
  · obtain ⟨A, B, rfl⟩ := List.append_of_mem hr
    have hm : ∀ r, r ∈ A ++ qrow E1 v L1 :: B → r ∈ qrow E1 v L1 :: (A ++ B) := fun r h => (List.perm_middle.mem_iff).1 h
    have hM2 : Mem S w0 w' (box :: qrow E1 v L1 :: (A ++ B)) := hb.perm ((List.perm_append_comm (l₁ := A ++ qrow E1 v L1 :: B) (l₂ := [box])).trans (List.Perm.cons _ List.perm_middle))
    exact ⟨E1, L1, A ++ B, rd_same (hM2.rd 1 rfl) hrd, fun x hq => Sp.sub hm d _ (hx x hq), hs.trans (Shp.of hm), hM2⟩
theorem Mem.lendLast {A X T : List Row} (h : Mem S w0 w (A ++ (X ++ T))) : Mem (blocks T) w w T := Mem.lend (L := A ++ X) (h.perm ((List.append_assoc A X T ▸ List.perm_append_comm (l₁ := A ++ X) (l₂ := T))))
theorem Mem.dropLast {A X T T' : List Row} (h : Mem S w0 w (A ++ (X ++ T))) (c : Mem (blocks T) w w' T') : Mem S w0 w' (A ++ X) :=
  (Mem.back (L := A ++ X) (h.perm ((List.append_assoc A X T ▸ List.perm_append_comm (l₁ := A ++ X) (l₂ := T)))) c).sub (List.sublist_append_right _ _)
theorem q_stores {P : Program} {l : List QN} {E T : TypeId} {L : List Row} {f : QN → List Value} (hE : Agged P E 8) (hM : Mem S w0 w L) (i : Nat) {v : Value} {n : Nat} (hr : L[i]? = some ⟨T, 8, v, n, recs f l⟩) (hf : ∀ x, (f x).length = 8)
    {j : Nat} {p : Addr} (hp : At v 8 j p) (hj : j < l.length) (x : QN) (h1 : ∀ u ∈ f x, u.oneCell' = true) :
    ∃ w', (Instr.storeAt E (.pointer (some p)) (.agg (f x).toArray)).run P w = .ok () w' ∧ Mem S w0 w' (L.set i ⟨T, 8, v, n, recs f (l.set j x)⟩) := by
  have hn : n * 8 = l.length * 8 := by have := (hM.get i hr).1; rw [recs_len hf] at this; exact this.symm
  obtain ⟨w', h2, h3⟩ := c_stores (ys := f x) hE hM i hr hp.cel (hf x) (by rw [hn, ← Nat.succ_mul]; exact Nat.mul_le_mul_right _ hj) h1
  rw [recs_set hf hj] at h3
  exact ⟨w', h2, h3⟩
end
end Go.SpoP


namespace Go.Proofs.YthpodbngljfdmaaGreatDoor
open Go Go.Gw Go.UtfP Go.TokP Go.QryP Go.SynP Go.RealP Go.RealQ Go.RdrP Go.RowKit
set_option linter.unusedVariables false
set_option linter.unusedSimpArgs false
set_option maxRecDepth 20000


set_option maxHeartbeats 1000000 in
theorem rsynparse_c (s : List UInt8) (hs : s.length ≤ 140737488351232) {w : World} :
  Calls Tryz.prog 12 #[sS s] w (fun e w' => ∃ (h : Hd) (u : Value) (T : List Row), e = .returned (.tuple #[.agg #[.int .i64 (h.op), sS (h.field), sS (h.text), .int .i64 (h.edits), .int .i64 (h.exact), .int .u64 (h.lo), .int .u64 (h.hi), u], .int .i64 ((((parseQ s).2.1 : Nat)) : Int), .int .i64 (parseQ s).2.2]) ∧ h = (parseQ s).1.h ∧ QT T (parseQ s).1 u ∧ Mem [] w w' T) := by
 refine xe 52 Tryz.func12 (fun R hR => ?_)
 have hM0 := Mem.start w
 refine xx 2 (m_alloc oT25 hM0) (fun b1 w2 hM4 => ?_)
 refine xn 7 s ?_
 refine xc 2 (((s.length : Nat) : Int) > 8192) (fun h7p => ?_) (fun h7p => ?_)
 ·
  refine xst 3 (c_stores (ys := [.int .i64 0, sS ([]), sS ([]), .int .i64 0, .int .i64 0, .int .u64 0, .int .u64 0, .slice none 0 0]) aE25 hM4 0 rfl (cel_obj b1 0) rfl (by decide) (oneL rfl)) (fun w8 hM10 => ?_)
  exact xrc 3 (v := .tuple #[.agg #[.int .i64 0, sS ([]), sS ([]), .int .i64 0, .int .i64 0, .int .u64 0, .int .u64 0, .slice none 0 0], .int .i64 0, .int .i64 4]) Tryz.func12 (ResC.cell (c := 2) (by kernel_rfl) (show (Instr.loadAt 25 (pq b1)).run Tryz.prog w8 = .ok (.agg #[.int .i64 0, sS ([]), sS ([]), .int .i64 0, .int .i64 0, .int .u64 0, .int .u64 0, .slice none 0 0]) w8 from c_loads (ys := [.int .i64 0, sS ([]), sS ([]), .int .i64 0, .int .i64 0, .int .u64 0, .int .u64 0, .slice none 0 0]) aE25 (hM10.rd 0 rfl) (cel_obj b1 0) rfl (lq rfl)) (ResC.tmp (t := 3) (v := .int .i64 0) (by kernel_rfl) (ResC.tmp (t := 4) (v := .int .i64 4) (by kernel_rfl) ResC.nil))) hR (⟨q0.h, .slice none 0 0, [⟨25, 8, .slice none 0 0, 0, []⟩], by rw [parse_long (by omega)]; rfl, by rw [parse_long (by omega)], by rw [parse_long (by omega)]; exact QT.whole (M := []) rfl (fun j hj => absurd hj (Nat.not_lt_zero _)) (fun j hj => absurd hj (Nat.not_lt_zero _)), hM10.none.nilrow 25 8⟩)
 ·
  refine xx 5 (m_box (T := 55) (k := 3) (u := .agg #[sS s, .int .i64 0, .int .i64 (-1)]) rfl rfl hM4) (fun b13 w14 hM16 => ?_)
  refine xcg 5 (rdrow_c s (by omega) b13 hM16.lend1) ?_
  rintro _ w19 (⟨⟨a20q, a20j⟩, _, hs21, rfl, h22, u23, T24, rfl, he25, hqt26, m27⟩ | ⟨k29, _, hs30, rfl, ⟨h31, u32, rfl, ho33⟩, x34, hxx35, m36⟩)
  ·
   refine ⟨_, rfl, ?_⟩
   have hx_ := prs_inv _ _ _ _ _ (by omega) hs21
   simp only [below] at hx_
   have hbk_ := prs_bulk (s := s) _ .E 0 _ _ (by omega) trivial hs21
   simp only [bulkB] at hbk_
   have hM28 : Mem [] w w19 (⟨55, 3, (obj b13), 1, [sS s, iN a20j, .int .i64 (-1)]⟩ :: ⟨25, 8, (obj b1), 1, [.int .i64 0, sS ([]), sS ([]), .int .i64 0, .int .i64 0, .int .u64 0, .int .u64 0, .slice none 0 0]⟩ :: T24) := Mem.backT0 (A := [⟨25, 8, (obj b1), 1, [.int .i64 0, sS ([]), sS ([]), .int .i64 0, .int .i64 0, .int .u64 0, .int .u64 0, .slice none 0 0]⟩]) hM16 m27
   refine xx 0 (m_alloc oT25 hM28) (fun b38 w39 hM41 => ?_)
   refine xst 0 (c_stores (ys := [.int .i64 (h22.op), sS (h22.field), sS (h22.text), .int .i64 (h22.edits), .int .i64 (h22.exact), .int .u64 (h22.lo), .int .u64 (h22.hi), u23]) aE25 hM41 0 rfl (cel_obj b38 0) rfl (by decide) (by intro u hu; simp at hu; rcases hu with rfl | rfl | rfl | rfl | rfl | rfl | rfl | rfl <;> first | rfl | exact (QT.rd hM41 (fun r_ h_ => mS (mS (mS (h_)))) hqt26).one.1)) (fun w43 hM45 => ?_)
   have hM48 : Mem [] w w43 (⟨55, 3, (obj b13), 1, [sS s, iN a20j, .int .i64 (-1)]⟩ :: ⟨25, 8, (obj b38), 1, [.int .i64 (h22.op), sS (h22.field), sS (h22.text), .int .i64 (h22.edits), .int .i64 (h22.exact), .int .u64 (h22.lo), .int .u64 (h22.hi), u23]⟩ :: ⟨25, 8, (obj b1), 1, [.int .i64 0, sS ([]), sS ([]), .int .i64 0, .int .i64 0, .int .u64 0, .int .u64 0, .slice none 0 0]⟩ :: T24) := hM45.perm (pS pR)
   refine xk 4 (rdb_c s (by omega) b13 a20j (by omega) hM48.lend1) (fun w49 m50 => ?_)
   have hM51 := hM48.back1 m50
   have hk52 := skip_le s a20j
   refine xv 7 (c_load pE3 (hM51.rd 0 rfl) (cel_obj b13 2) rfl) ?_
   refine xv 5 (c_load pE3 (hM51.rd 0 rfl) (cel_obj b13 1) rfl) ?_
   refine xn 1 s ?_
   refine xc 3 ((((skipP s a20j) : Nat) : Int) < ((s.length : Nat) : Int)) (fun h56p => ?_) (fun h56p => ?_)
   ·
    refine xk 2 (rdf_c s (skipP s a20j) b13 hM51.lend1) (fun w57 m58 => ?_)
    have hM59 := hM51.back1 m58
    refine xv 7 (c_load pE3 (hM59.rd 0 rfl) (cel_obj b13 2) rfl) ?_
    refine xc 2 ((((skipP s a20j) : Nat) : Int) ≥ 0) (fun h61p => ?_) (fun h61p => ?_)
    ·
     have hM62 := hM59.sub (sK (sD (sK sR)))
     refine xh 1 [] hM62 (sK (sK sR)) (fun w63 hM64 hS65 => ?_)
     refine yl [0,1,2,3] 4 hS65 pE3 0 rfl (cel_obj b13 2) rfl ?_
     refine yst [] 5 (c_stores (ys := [.int .i64 0, sS ([]), sS ([]), .int .i64 0, .int .i64 0, .int .u64 0, .int .u64 0, .slice none 0 0]) aE25 hM64 1 rfl (cel_obj b1 0) rfl (by decide) (oneL rfl)) hS65 (fun _ h_ => h_.sub (sK (sK sR))) (fun w67 hM69 hS71 => ?_)
     refine ydp [6,7] hS71 ?_
     have hM72 := hM69.sub (sD (sK sR))
     exact xrc 0 (v := .tuple #[.agg #[.int .i64 0, sS ([]), sS ([]), .int .i64 0, .int .i64 0, .int .u64 0, .int .u64 0, .slice none 0 0], iN (skipP s a20j), .int .i64 21]) Tryz.func12 (ResC.cell (c := 2) (by kernel_rfl) (show (Instr.loadAt 25 (pq b1)).run Tryz.prog w67 = .ok (.agg #[.int .i64 0, sS ([]), sS ([]), .int .i64 0, .int .i64 0, .int .u64 0, .int .u64 0, .slice none 0 0]) w67 from c_loads (ys := [.int .i64 0, sS ([]), sS ([]), .int .i64 0, .int .i64 0, .int .u64 0, .int .u64 0, .slice none 0 0]) aE25 (hM72.rd 0 rfl) (cel_obj b1 0) rfl (lq rfl)) (ResC.tmp (t := 3) (v := iN (skipP s a20j)) (by kernel_rfl) (ResC.tmp (t := 4) (v := .int .i64 21) (by kernel_rfl) ResC.nil))) hR (⟨q0.h, .slice none 0 0, [⟨25, 8, .slice none 0 0, 0, []⟩], by rw [parse_more (by omega) hs21 (by omega)]; rfl, by rw [parse_more (by omega) hs21 (by omega)], by rw [parse_more (by omega) hs21 (by omega)]; exact QT.whole (M := []) rfl (fun j hj => absurd hj (Nat.not_lt_zero _)) (fun j hj => absurd hj (Nat.not_lt_zero _)), hM72.none.nilrow 25 8⟩)
    ·
     have h61 : (decide ((((skipP s a20j) : Nat) : Int) ≥ 0)) = false := decide_eq_false h61p
     exact absurd (of_decide_eq_false h61) (by omega)
   ·
    refine xv 7 (c_load pE3 (hM51.rd 0 rfl) (cel_obj b13 2) rfl) ?_
    refine xv 6 (c_loads (ys := [.int .i64 (h22.op), sS (h22.field), sS (h22.text), .int .i64 (h22.edits), .int .i64 (h22.exact), .int .u64 (h22.lo), .int .u64 (h22.hi), u23]) aE25 (hM51.rd 1 rfl) (cel_obj b38 0) rfl (lq rfl)) ?_
    have hM75 := hM51.sub (sD (sK (sK sR)))
    refine xk 0 (rcheck_c a20q h22 he25 u23 (QT.rd hM75 (fun r_ h_ => mS (mS (h_))) hqt26) (by omega)) (fun w76 m77 => ?_)
    have hM78 : Mem [] w w76 (⟨25, 8, (obj b38), 1, [.int .i64 (h22.op), sS (h22.field), sS (h22.text), .int .i64 (h22.edits), .int .i64 (h22.exact), .int .u64 (h22.lo), .int .u64 (h22.hi), u23]⟩ :: ⟨25, 8, (obj b1), 1, [.int .i64 0, sS ([]), sS ([]), .int .i64 0, .int .i64 0, .int .u64 0, .int .u64 0, .slice none 0 0]⟩ :: T24) := Mem.join (R := []) hM75 m77
    refine xcn 8 ((checkQ a20q) = 0) (fun h79p => ?_) (fun h79p => ?_)
    ·
     refine xst 4 (c_stores (ys := [.int .i64 0, sS ([]), sS ([]), .int .i64 0, .int .i64 0, .int .u64 0, .int .u64 0, .slice none 0 0]) aE25 hM78 1 rfl (cel_obj b1 0) rfl (by decide) (oneL rfl)) (fun w80 hM82 => ?_)
     exact xrc 3 (v := .tuple #[.agg #[.int .i64 0, sS ([]), sS ([]), .int .i64 0, .int .i64 0, .int .u64 0, .int .u64 0, .slice none 0 0], .int .i64 0, .int .i64 (checkQ a20q)]) Tryz.func12 (ResC.cell (c := 2) (by kernel_rfl) (show (Instr.loadAt 25 (pq b1)).run Tryz.prog w80 = .ok (.agg #[.int .i64 0, sS ([]), sS ([]), .int .i64 0, .int .i64 0, .int .u64 0, .int .u64 0, .slice none 0 0]) w80 from c_loads (ys := [.int .i64 0, sS ([]), sS ([]), .int .i64 0, .int .i64 0, .int .u64 0, .int .u64 0, .slice none 0 0]) aE25 (hM82.rd 1 rfl) (cel_obj b1 0) rfl (lq rfl)) (ResC.tmp (t := 3) (v := .int .i64 0) (by kernel_rfl) (ResC.tmp (t := 4) (v := .int .i64 (checkQ a20q)) (by kernel_rfl) ResC.nil))) hR (⟨q0.h, .slice none 0 0, [⟨25, 8, .slice none 0 0, 0, []⟩], by rw [parse_bad (by omega) hs21 (by omega) (by omega)]; rfl, by rw [parse_bad (by omega) hs21 (by omega) (by omega)], by rw [parse_bad (by omega) hs21 (by omega) (by omega)]; exact QT.whole (M := []) rfl (fun j hj => absurd hj (Nat.not_lt_zero _)) (fun j hj => absurd hj (Nat.not_lt_zero _)), hM82.none.nilrow 25 8⟩)
    ·
     refine xv 3 (c_loads (ys := [.int .i64 (h22.op), sS (h22.field), sS (h22.text), .int .i64 (h22.edits), .int .i64 (h22.exact), .int .u64 (h22.lo), .int .u64 (h22.hi), u23]) aE25 (hM78.rd 0 rfl) (cel_obj b38 0) rfl (lq rfl)) ?_
     refine xst 0 (c_stores (ys := [.int .i64 (h22.op), sS (h22.field), sS (h22.text), .int .i64 (h22.edits), .int .i64 (h22.exact), .int .u64 (h22.lo), .int .u64 (h22.hi), u23]) aE25 hM78 1 rfl (cel_obj b1 0) rfl (by decide) (by intro u hu; simp at hu; rcases hu with rfl | rfl | rfl | rfl | rfl | rfl | rfl | rfl <;> first | rfl | exact (QT.rd hM78 (fun r_ h_ => mS (mS (h_))) hqt26).one.1)) (fun w85 hM87 => ?_)
     exact xrc 3 (v := .tuple #[.agg #[.int .i64 (h22.op), sS (h22.field), sS (h22.text), .int .i64 (h22.edits), .int .i64 (h22.exact), .int .u64 (h22.lo), .int .u64 (h22.hi), u23], .int .i64 0, .int .i64 0]) Tryz.func12 (ResC.cell (c := 2) (by kernel_rfl) (show (Instr.loadAt 25 (pq b1)).run Tryz.prog w85 = .ok (.agg #[.int .i64 (h22.op), sS (h22.field), sS (h22.text), .int .i64 (h22.edits), .int .i64 (h22.exact), .int .u64 (h22.lo), .int .u64 (h22.hi), u23]) w85 from c_loads (ys := [.int .i64 (h22.op), sS (h22.field), sS (h22.text), .int .i64 (h22.edits), .int .i64 (h22.exact), .int .u64 (h22.lo), .int .u64 (h22.hi), u23]) aE25 (hM87.rd 1 rfl) (cel_obj b1 0) rfl (lq rfl)) (ResC.tmp (t := 3) (v := .int .i64 0) (by kernel_rfl) (ResC.tmp (t := 4) (v := .int .i64 0) (by kernel_rfl) ResC.nil))) hR (⟨h22, u23, T24, by rw [parse_ok (by omega) hs21 (by omega) (by omega)]; rfl, by rw [parse_ok (by omega) hs21 (by omega) (by omega)]; exact he25, by rw [parse_ok (by omega) hs21 (by omega) (by omega)]; exact hqt26, hM87.sub (sD (sD sR))⟩)
  ·
   refine ⟨_, rfl, ?_⟩
   have hM37 : Mem [] w w19 [⟨55, 3, (obj b13), 1, [sS s, iN x34, iN k29]⟩, ⟨25, 8, (obj b1), 1, [.int .i64 0, sS ([]), sS ([]), .int .i64 0, .int .i64 0, .int .u64 0, .int .u64 0, .slice none 0 0]⟩] := hM16.back1 m36
   refine xx 0 (m_alloc oT25 hM37) (fun b91 w92 hM94 => ?_)
   refine xst 0 (c_stores (ys := [.int .i64 (h31.op), sS (h31.field), sS (h31.text), .int .i64 (h31.edits), .int .i64 (h31.exact), .int .u64 (h31.lo), .int .u64 (h31.hi), u32]) aE25 hM94 0 rfl (cel_obj b91 0) rfl (by decide) (by intro u hu; simp at hu; rcases hu with rfl | rfl | rfl | rfl | rfl | rfl | rfl | rfl <;> first | rfl | exact ho33.1)) (fun w96 hM98 => ?_)
   refine xk 4 (rdbx_c s x34 k29 b13 (hM98.rd 1 rfl)) (fun w101 m102 => ?_)
   have hM103 := hM98.j m102
   refine xv 7 (c_load pE3 (hM103.rd 1 rfl) (cel_obj b13 2) rfl) ?_
   refine xfc 2 24 (((k29 : Nat) : Int) < 0) (fun h105p => ?_) (fun h105p => ?_)
   ·
    have h105 : (decide (((k29 : Nat) : Int) < 0)) = true := decide_eq_true h105p
    exact absurd (of_decide_eq_true h105) (by omega)
   ·
    refine xv 17 (c_load pE3 (hM103.rd 1 rfl) (cel_obj b13 2) rfl) ?_
    refine xc 2 (((k29 : Nat) : Int) ≥ 0) (fun h107p => ?_) (fun h107p => ?_)
    ·
     have hM108 := hM103.sub (sD (sK (sK sR)))
     refine xh 1 [] hM108 (sK (sK sR)) (fun w109 hM110 hS111 => ?_)
     refine yl [0,1,2,3] 4 hS111 pE3 0 rfl (cel_obj b13 2) rfl ?_
     refine yst [] 5 (c_stores (ys := [.int .i64 0, sS ([]), sS ([]), .int .i64 0, .int .i64 0, .int .u64 0, .int .u64 0, .slice none 0 0]) aE25 hM110 1 rfl (cel_obj b1 0) rfl (by decide) (oneL rfl)) hS111 (fun _ h_ => h_.sub (sK (sK sR))) (fun w113 hM115 hS117 => ?_)
     refine ydp [6,7] hS117 ?_
     have hM118 := hM115.sub (sD (sK sR))
     exact xrc 0 (v := .tuple #[.agg #[.int .i64 0, sS ([]), sS ([]), .int .i64 0, .int .i64 0, .int .u64 0, .int .u64 0, .slice none 0 0], iN k29, .int .i64 21]) Tryz.func12 (ResC.cell (c := 2) (by kernel_rfl) (show (Instr.loadAt 25 (pq b1)).run Tryz.prog w113 = .ok (.agg #[.int .i64 0, sS ([]), sS ([]), .int .i64 0, .int .i64 0, .int .u64 0, .int .u64 0, .slice none 0 0]) w113 from c_loads (ys := [.int .i64 0, sS ([]), sS ([]), .int .i64 0, .int .i64 0, .int .u64 0, .int .u64 0, .slice none 0 0]) aE25 (hM118.rd 0 rfl) (cel_obj b1 0) rfl (lq rfl)) (ResC.tmp (t := 3) (v := iN k29) (by kernel_rfl) (ResC.tmp (t := 4) (v := .int .i64 21) (by kernel_rfl) ResC.nil))) hR (⟨q0.h, .slice none 0 0, [⟨25, 8, .slice none 0 0, 0, []⟩], by rw [parse_err (by omega) hs30]; rfl, by rw [parse_err (by omega) hs30], by rw [parse_err (by omega) hs30]; exact QT.whole (M := []) rfl (fun j hj => absurd hj (Nat.not_lt_zero _)) (fun j hj => absurd hj (Nat.not_lt_zero _)), hM118.none.nilrow 25 8⟩)
    ·
     have h107 : (decide (((k29 : Nat) : Int) ≥ 0)) = false := decide_eq_false h107p
     exact absurd (of_decide_eq_false h107) (by omega)


end Go.Proofs.YthpodbngljfdmaaGreatDoor


namespace Go.Proofs.YthpodbngljfdmaaGreatDoor
open Go Go.Gw Go.UtfP Go.TokP Go.QryP Go.SynP Go.RealP Go.RealQ Go.RdrP Go.SpoP Go.RowKit
set_option linter.unusedVariables false
set_option linter.unusedSimpArgs false
set_option maxRecDepth 20000


set_option maxHeartbeats 400000 in
theorem spoil_nil (T : List Row) (h : Hd) {S : List Nat} {w : World} (hM : Mem S w w T) :
  Calls Tryz.prog 14 #[.agg #[.int .i64 (h.op), sS (h.field), sS (h.text), .int .i64 (h.edits), .int .i64 (h.exact), .int .u64 (h.lo), .int .u64 (h.hi), .slice none 0 0]] w (fun e w' => e = .returned (.tuple #[]) ∧ Mem S w w' T) := by
 refine xe 21 Tryz.func14 (fun R hR => ?_)
 refine xx 2 (m_box (T := 25) (k := 8) (u := .agg #[.int .i64 (h.op), sS (h.field), sS (h.text), .int .i64 (h.edits), .int .i64 (h.exact), .int .u64 (h.lo), .int .u64 (h.hi), .slice none 0 0]) rfl rfl hM) (fun b1 w2 hM4 => ?_)
 refine xv 12 (c_load pE23 (hM4.rd 0 rfl) (cel_obj b1 7) rfl) ?_
 have hM8 := hM4.sub (sD sR)
 exact xr 5 Tryz.func14 hR ⟨rfl, hM8⟩

set_option maxHeartbeats 1000000 in
theorem spo_L (d : Nat) (ihs : ∀ (T : List Row) (h : Hd) (v : Value) {w : World}, Sp d T v → Mem (blocks T) w w T → Calls Tryz.prog 14 #[.agg #[.int .i64 (h.op), sS (h.field), sS (h.text), .int .i64 (h.edits), .int .i64 (h.exact), .int .u64 (h.lo), .int .u64 (h.hi), v]] w (fun e w' => e = .returned (.tuple #[]) ∧ ∃ T2, Shp T T2 ∧ Mem (blocks T) w w' T2)) (e0 : TypeId) (h : Hd) (v : Value) (L0 : List QN) (C0 : List Row) (hSp0 : ∀ x, x ∈ L0 → Sp d (⟨e0, 8, v, (List.length L0), (recs qnC L0)⟩ :: C0) x.parts) (b : Nat) {S : List Nat} {w : World} (R : Ending → World → Prop) (hR : R = (fun e w' => e = .returned (.tuple #[]) ∧ ∃ (e1 : TypeId) (L1 : List QN) (C1 : List Row), Shp (⟨e0, 8, v, (List.length L0), (recs qnC L0)⟩ :: C0) (⟨e1, 8, v, (List.length L1), (recs qnC L1)⟩ :: C1) ∧ Mem S w w' (⟨e1, 8, v, (List.length L1), (recs qnC L1)⟩ :: C1))) : ∀ (N : Nat) (i : Nat) (e1 : TypeId) (M : List QN) (C : List Row) (w1 : World) (hi : i ≤ L0.length) (hn : M.length = L0.length) (hSp : ∀ x, x ∈ M → Sp d (⟨e1, 8, v, (List.length M), (recs qnC M)⟩ :: C) x.parts) (hSh : Shp (⟨e0, 8, v, (List.length L0), (recs qnC L0)⟩ :: C0) (⟨e1, 8, v, (List.length M), (recs qnC M)⟩ :: C)) (hM : Mem S w w1 (⟨25, 8, (obj b), 1, [.int .i64 (h.op), sS (h.field), sS (h.text), .int .i64 (h.edits), .int .i64 (h.exact), .int .u64 (h.lo), .int .u64 (h.hi), v]⟩ :: ⟨e1, 8, v, (List.length M), (recs qnC M)⟩ :: C)) (hN : L0.length - i < N), GoS Tryz.prog 14 R 21 [iC Tryz.f14 [1,1,0,0], iL Tryz.f14 [1,1,0,0], .inBlock 0] [(1, pq b), (2, iN i)] w1 := by
 intro N
 induction N with
 | zero => intro i e1 M C w1 hi hn hSp hSh hM hN; exact absurd hN (Nat.not_lt_zero _)
 | succ N ih =>
  intro i e1 M C w1 hi hn hSp hSh hM hN
  have hml_ : M.length ≤ 9223372036854775807 := rd_le (hM.rd 1 rfl)
  refine xs ?_
  refine xv 5 (c_load pE23 (hM.rd 0 rfl) (cel_obj b 7) rfl) ?_
  refine xv 0 (f_slen sT23 (hM.rd 1 rfl) 3 w1) ?_
  refine xc 2 (((i : Nat) : Int) < (((List.length M) : Nat) : Int)) (fun h3p => ?_) (fun h3p => ?_)
  ·
   refine xv 6 (c_load pE23 (hM.rd 0 rfl) (cel_obj b 7) rfl) ?_
   refine xat 1 sT23 (hM.rd 1 rfl) ((i : Nat) : Int) i (fun p5 hp6 => ?_)
   refine xv 0 (r_loads (f := qnC) (l := M) aE25 (hM.rd 1 rfl) qnC_len hp6 (by first | omega | (dsimp only; omega)) qz) ?_
   refine xcg 0 (ihs (⟨e1, 8, v, (List.length M), (recs qnC M)⟩ :: C) ((List.getD M i qz).h) ((List.getD M i qz).parts) (hSp _ (getD_mem (by omega))) (spo_lend hM)) ?_
   rintro _ w11 ⟨rfl, T12, hs13, m14⟩
   refine ⟨_, rfl, ?_⟩
   obtain ⟨e15, L16, C17, hl18, hSp19, hSh20, hM21⟩ := spo_back hM m14 hs13 hSp (by omega)
   refine xv 3 (c_load pE23 (hM21.rd 0 rfl) (cel_obj b 7) rfl) ?_
   refine xat 2 sT23 (hM21.rd 1 rfl) ((i : Nat) : Int) i (fun p22 hp23 => ?_)
   refine xst 0 (q_stores (f := qnC) (l := L16) aE25 hM21 1 rfl qnC_len hp23 (by first | omega | (dsimp only; omega)) (qn (-1) ([]) ([]) 0 0 0 0 (.slice none 0 0)) (qnC_one rfl)) (fun w25 hM27 => ?_)
   have hM28 : Mem S w w25 (⟨25, 8, (obj b), 1, [.int .i64 (h.op), sS (h.field), sS (h.text), .int .i64 (h.edits), .int .i64 (h.exact), .int .u64 (h.lo), .int .u64 (h.hi), v]⟩ :: ⟨e15, 8, v, (List.length L16), (recs qnC (List.set L16 i (qn (-1) ([]) ([]) 0 0 0 0 (.slice none 0 0))))⟩ :: C17) := hM27.cast (by simp)
   refine xa 4 ((i : Nat) : Int) 1 (((i + 1) : Nat) : Int) ?_
   obtain ⟨hSp2, hSh2⟩ := spo_step (i := i) (z := (qn (-1) ([]) ([]) 0 0 0 0 (.slice none 0 0))) (by omega) rfl hSp19 (hSh.trans hSh20)
   exact xl 3 (ih (i + 1) e15 _ C17 _ (by omega) (by rw [List.length_set]; omega) hSp2 hSh2 (hM28.cast (by simp)) (by omega))
  ·
   have hM4 := hM.sub (sD (sK sR))
   exact xr 1 Tryz.func14 hR ⟨rfl, _, _, _, hSh, hM4⟩

set_option maxHeartbeats 400000 in
theorem spo_s (d : Nat) (ihs : ∀ (T : List Row) (h : Hd) (v : Value) {w : World}, Sp d T v → Mem (blocks T) w w T → Calls Tryz.prog 14 #[.agg #[.int .i64 (h.op), sS (h.field), sS (h.text), .int .i64 (h.edits), .int .i64 (h.exact), .int .u64 (h.lo), .int .u64 (h.hi), v]] w (fun e w' => e = .returned (.tuple #[]) ∧ ∃ T2, Shp T T2 ∧ Mem (blocks T) w w' T2)) (e0 : TypeId) (h : Hd) (v : Value) (L0 : List QN) (C0 : List Row) (hSp0 : ∀ x, x ∈ L0 → Sp d (⟨e0, 8, v, (List.length L0), (recs qnC L0)⟩ :: C0) x.parts) {S : List Nat} {w : World} (hM : Mem S w w (⟨e0, 8, v, (List.length L0), (recs qnC L0)⟩ :: C0)) :
  Calls Tryz.prog 14 #[.agg #[.int .i64 (h.op), sS (h.field), sS (h.text), .int .i64 (h.edits), .int .i64 (h.exact), .int .u64 (h.lo), .int .u64 (h.hi), v]] w (fun e w' => e = .returned (.tuple #[]) ∧ ∃ (e1 : TypeId) (L1 : List QN) (C1 : List Row), Shp (⟨e0, 8, v, (List.length L0), (recs qnC L0)⟩ :: C0) (⟨e1, 8, v, (List.length L1), (recs qnC L1)⟩ :: C1) ∧ Mem S w w' (⟨e1, 8, v, (List.length L1), (recs qnC L1)⟩ :: C1)) := by
 refine xe 21 Tryz.func14 (fun R hR => ?_)
 refine xx 2 (m_box (T := 25) (k := 8) (u := .agg #[.int .i64 (h.op), sS (h.field), sS (h.text), .int .i64 (h.edits), .int .i64 (h.exact), .int .u64 (h.lo), .int .u64 (h.hi), v]) rfl rfl hM) (fun b1 w2 hM4 => ?_)
 exact xl 7 (spo_L d ihs e0 h v L0 C0 hSp0 b1 R hR (L0.length + 1) 0 e0 L0 C0 _ (by omega) rfl hSp0 (Shp.refl _) hM4 (by omega))

theorem spoil_c : ∀ (d : Nat), ∀ (T : List Row) (h : Hd) (v : Value) {w : World}, Sp d T v → Mem (blocks T) w w T → Calls Tryz.prog 14 #[.agg #[.int .i64 (h.op), sS (h.field), sS (h.text), .int .i64 (h.edits), .int .i64 (h.exact), .int .u64 (h.lo), .int .u64 (h.hi), v]] w (fun e w' => e = .returned (.tuple #[]) ∧ ∃ T2, Shp T T2 ∧ Mem (blocks T) w w' T2)
 | 0, T, h, v, w, hs, hM => by
  have hs : v = .slice none 0 0 := hs
  subst hs
  exact calls_imp (spoil_nil T h hM) (fun e w' x => ⟨x.1, T, Shp.refl T, x.2⟩)
 | d + 1, T, h, v, w, hs, hM => by
  rcases hs with rfl | ⟨E, L, hr, hx⟩
  · exact calls_imp (spoil_nil T h hM) (fun e w' x => ⟨x.1, T, Shp.refl T, x.2⟩)
  ·
   obtain ⟨A, B, rfl⟩ := List.append_of_mem hr
   have hm : ∀ r, r ∈ A ++ qrow E v L :: B → r ∈ qrow E v L :: (A ++ B) := fun r h => (List.perm_middle.mem_iff).1 h
   refine calls_imp (spo_s d (spoil_c d) E h v L (A ++ B) (fun x hq => Sp.sub hm d _ (hx x hq)) (hM.perm List.perm_middle)) ?_
   rintro e w' ⟨h1, e1, L1, C1, h2, h3⟩
   exact ⟨h1, _, (Shp.of hm).trans h2, h3⟩


end Go.Proofs.YthpodbngljfdmaaGreatDoor


namespace Go.Gw
set_option linter.unusedVariables false
set_option linter.unusedSimpArgs false
def callX (n : Nat) (ts : List Nat) (ops : Array Oper) (i : Nat) (l : Sl) : Option (Option Tmp × Sl) := match ops[i]? with
  | none => none
  | some o => match wantedS ops l o, known l o.op.operands.toList, noSel o.op, inB n o.dst with
    | some true, true, true, true => some (o.dst, keep l ts)
    | _, _, _, _ => none
def execAt (ops : Array Oper) (i : Nat) (l : Sl) : Sem Next := match ops[i]? with
  | some o => execOp (rho l) o
  | none => stuck ""
section
variable {P : Program} {f : FuncId} {R : Ending → World → Prop} {n : Nat} {l : Sl} {w : World}
theorem GoS.callM (ts : List Nat) (ops : Array Oper) (i : Nat) (rest : List Nat) (k0 : List Item) (g : FuncId) (args : Array Value) (dst : Option Tmp) (l' : Sl) {w' : World} (h : callX n ts ops i l = some (dst, l')) (hr : (execAt ops i l).run P w = .ok (.enter g args) w')
    {S : Ending → World → Prop} (hc : Calls P g args w' S) (hk : ∀ e w'', S e w'' → ∃ v, e = .returned v ∧ GoS P f R n (.inRegion ops rest :: k0) (putS l' dst v) w'') : GoS P f R n (.inRegion ops (i :: rest) :: k0) l w := by
  intro a ha
  unfold callX at h
  unfold execAt at hr
  split at h
  · cases h
  · rename_i o ho
    rw [ho] at hr
    split at h
    · rename_i h0 h1 h2 h3
      simp only [Option.some.injEq, Prod.mk.injEq] at h
      obtain ⟨rfl, rfl⟩ := h
      refine Goes.oper ho (wanted_eq ha h0) ?_
      unfold Oper.wp
      simp only at hr
      rw [exec_eq ha h1 h2, hr]
      show Calls P _ _ _ _
      refine hc.mono fun e w'' hS => ?_
      obtain ⟨v, rfl, hg⟩ := hk e w'' hS
      exact hg _ ((ha.keep ts).put _ _ h3)
    · cases h
end
end Go.Gw


namespace Go.Proofs.YthpodbngljfdmaaGreatDoor
open Go Go.Gw Go.UtfP Go.TokP Go.QryP Go.SynP Go.RealQ Go.SynV Go.RowKit
set_option linter.unusedVariables false
set_option linter.unusedSimpArgs false
set_option maxRecDepth 20000
theorem pE111 : Plain Tryz.prog 111 := ⟨.interface #[("Replace", 62), ("WriteString", 264)], by kernel_rfl, (fun _ h => by cases h), (fun _ _ h => by cases h)⟩


set_option maxHeartbeats 1000000 in
theorem rpl_c {S : List Nat} {w0 w : World} {L : List Row} (b : Nat) (on : Value) (q : Int) (s : List UInt8) (hs : s.length ≤ 17592186044416) (hM : Mem S w0 w (⟨113, 5, (obj b), 1, [.int .u32 0, .int .i32 0, .int .u32 q, .nilIface, on]⟩ :: ⟨9, 1, on, 4, [sS ([92] : List UInt8), sS ([92, 92] : List UInt8), sS ([34] : List UInt8), sS ([92, 34] : List UInt8)]⟩ :: L)) :
  Calls Tryz.prog 52 #[pq b, sS s] w (fun e w' => e = .returned (sS (escW s)) ∧ Mem S w0 w' L) := by
 refine xe 17 Tryz.func52 (fun R hR => ?_)
 refine xcg 11 (do_c b on q hM) ?_
 rintro _ w5 ⟨c1, x2, y3, z4, rfl, hM6, hF7, hF8⟩
 refine ⟨_, rfl, ?_⟩
 have hM9 := hM6.all
 refine xv 6 (c_load pE111 (hM9.rd 2 rfl) (cel_obj b 3) rfl) ?_
 refine xl 1 (k := [.inRegion (cops (csub (cd Tryz.f52) [1,1,0])) [5,6], iC Tryz.f52 [1,1,1]]) (l := [(14, (.iface 171 (.pointer (some ⟨c1, 0, none⟩)))), (15, sS s)]) ?_
 have oe10 : (execAt (cops (csub (cd Tryz.f52) [1,1,0])) 5 [(14, (.iface 171 (.pointer (some ⟨c1, 0, none⟩)))), (15, sS s)]).run Tryz.prog w5 = .ok (.enter 222 #[pq c1, sS s]) w5 := by kernel_rfl
 obtain ⟨ax_, n1_, m1_, rfl⟩ := hF7.some
 obtain ⟨ay_, n2_, m2_, rfl⟩ := hF8.some
 refine GoS.callM [] (cops (csub (cd Tryz.f52) [1,1,0])) 5 [6] [iC Tryz.f52 [1,1,1]] 222 #[pq c1, sS s] (some 16) [] (by kernel_rfl) oe10 (rrep_c s (by omega) c1 z4 ax_ ay_ n1_ m1_ n2_ m2_ (hM9.rd 0 rfl) (hM9.rd 1 rfl) hF7.rd hF8.rd) ?_
 rintro _ w11 ⟨rfl, m12⟩
 refine ⟨_, rfl, ?_⟩
 have hM13 := hM9.ext m12.kept
 refine xs ?_
 exact xr 2 Tryz.func52 hR ⟨rfl, (hM6.home hM13).sub (sD (sD (sD (sD sR))))⟩

set_option maxHeartbeats 1000000 in
theorem newrep_c {w : World} (v : Value) (hv : Rd w 1 v 4 (svals ([([92] : List UInt8), ([92, 92] : List UInt8), ([34] : List UInt8), ([92, 34] : List UInt8)] : List (List UInt8)))) :
  Calls Tryz.prog 51 #[v] w (fun e w' => ∃ b on, e = .returned (.pointer (some ⟨b, 0, none⟩)) ∧ Mem [] w w' [⟨113, 5, (obj b), 1, [.int .u32 0, .int .i32 0, .int .u32 0, .nilIface, on]⟩, ⟨9, 1, on, 4, [sS ([92] : List UInt8), sS ([92, 92] : List UInt8), sS ([34] : List UInt8), sS ([92, 34] : List UInt8)]⟩]) := by
 refine xe 12 Tryz.func51 (fun R hR => ?_)
 have hM0 := Mem.start w
 refine xv 8 (f_slen sT64 (hv.kept0 hM0.kept) 3 w) ?_
 refine xv 0 (show (binOp .rem 3 (.int .i64 4) (.int .i64 2)).run Tryz.prog w = .ok (.int .i64 0) w from (by kernel_rfl)) ?_
 have hM1 := hM0.nilrow 9 1
 refine xx 7 (m_append sT64 hM1 0 rfl (hv.kept0 hM1.kept) (svals_one _) (by first | omega | decide) (by first | omega | decide) 64) (fun v2 w3 hM5 => ?_)
 have hM6 : Mem [] w w3 [⟨9, 1, v2, (List.length ([([92] : List UInt8), ([92, 92] : List UInt8), ([34] : List UInt8), ([92, 34] : List UInt8)] : List (List UInt8))), (svals ([([92] : List UInt8), ([92, 92] : List UInt8), ([34] : List UInt8), ([92, 34] : List UInt8)] : List (List UInt8)))⟩] := hM5.cast (by simp [ivals, svals, bvals, nvals, u8s, Nat.add_assoc])
 refine xv 0 (show (Instr.build 113 #[(2, v2)]).run Tryz.prog w3 = .ok (.agg #[.int .u32 0, .int .i32 0, .int .u32 0, .nilIface, v2]) w3 from (by obtain ⟨a0_, m0_, c0_, e0_⟩ : ∃ a m c, v2 = Value.slice a m c := rd_form (hM6.rd 0 rfl); rw [e0_]; kernel_rfl)) ?_
 refine xx 0 (m_box (T := 113) (k := 5) (u := .agg #[.int .u32 0, .int .i32 0, .int .u32 0, .nilIface, v2]) rfl rfl hM6) (fun b7 w8 hM10 => ?_)
 exact xr 2 (v := pq b7) Tryz.func51 hR ⟨b7, v2, rfl, hM10.sub (sK (sK sN))⟩

set_option maxHeartbeats 1000000 in
theorem quote_c {w : World} (s : List UInt8) (hs : s.length ≤ 17592186044416) :
  Calls Tryz.prog 32 #[sS s] w (fun e w' => e = .returned (sS (quoteW s)) ∧ Mem [] w w' []) := by
 have hbd_ := esc_bd s
 refine xe 9 Tryz.func32 (fun R hR => ?_)
 have hM0 := Mem.start w
 refine xx 6 (m_lit sT64 hM0 (n := 4) (parts := #[(0, sS ([92] : List UInt8)), (1, sS ([92, 92] : List UInt8)), (2, sS ([34] : List UInt8)), (3, sS ([92, 34] : List UInt8))]) (cs := [sS ([92] : List UInt8), sS ([92, 92] : List UInt8), sS ([34] : List UInt8), sS ([92, 34] : List UInt8)]) (by decide) (by kernel_rfl) rfl) (fun v1 w2 hM4 => ?_)
 refine xcg 0 (newrep_c v1 (hM4.rd 0 rfl)) ?_
 rintro _ w7 ⟨b5, on6, rfl, m8⟩
 refine ⟨_, rfl, ?_⟩
 have hM9 := Mem.join hM4 m8
 refine xk 1 (rpl_c b5 on6 0 s (by omega) hM9) (fun w10 hM11 => ?_)
 refine xqa 0 ([34] : List UInt8) (escW s) ?_ (hl := (by simp only [List.length_append, List.length_cons, List.length_nil]; omega))
 refine xqa 0 (([34] : List UInt8) ++ (escW s)) ([34] : List UInt8) ?_ (hl := (by simp only [List.length_append, List.length_cons, List.length_nil]; omega))
 exact xr 2 Tryz.func32 hR ⟨rfl, hM11.none⟩


end Go.Proofs.YthpodbngljfdmaaGreatDoor


namespace Go.Proofs.YthpodbngljfdmaaGreatDoor
open Go Go.Gw Go.UtfP Go.TokP Go.QryP Go.SynP Go.RealQ Go.SynV Go.RowKit
set_option linter.unusedVariables false
set_option linter.unusedSimpArgs false
set_option maxRecDepth 20000


set_option maxHeartbeats 1000000 in
theorem inner7_c (N : Nat) (ih : ∀ (q : Q), bulkQ q < N → ∀ {w : World} (h : Hd) (he : h = q.h) (v : Value) (hq : RdQ w q v) (hb : bulkQ q ≤ 1048576) (hdb : w.cell? ⟨3, 15, none⟩ = some (.int .u8 4)) (hri : rightQ q = true) (hu : numQ q), Calls Tryz.prog 17 #[.agg #[.int .i64 (h.op), sS (h.field), sS (h.text), .int .i64 (h.edits), .int .i64 (h.exact), .int .u64 (h.lo), .int .u64 (h.hi), v]] w (fun e w' => e = .returned (sS (textQ q)) ∧ Mem [] w w' [])) {w : World} (q : Q) (h : Hd) (he : h = q.h) (v : Value) (hq : RdQ w q v) (hb : bulkQ q ≤ 1048576) (o : Value) (ho : Rd w 1 o 2 [.int .i64 7, .int .i64 8]) (hdb : w.cell? ⟨3, 15, none⟩ = some (.int .u8 4)) (hri : rightQ q = true) (hu : numQ q) (hlt : bulkQ q < N) :
  Calls Tryz.prog 29 #[.agg #[.int .i64 (h.op), sS (h.field), sS (h.text), .int .i64 (h.edits), .int .i64 (h.exact), .int .u64 (h.lo), .int .u64 (h.hi), v], o] w (fun e w' => e = .returned (sS (ptext 7 q)) ∧ Mem [] w w' []) := by
 obtain ⟨L, hr, hl, hh, hs⟩ := hq.inv
 have hbl : bulkL q.l + q.h.field.length + q.h.text.length + 1 = bulkQ q := by cases q; rw [bulkQ_mk]; rfl
 have hln := bulk_len q.l
 have htl_ := textQ_len q
 refine xe 24 Tryz.func29 (fun R hR => ?_)
 have hM0 := Mem.start w
 refine xx 2 (m_box (T := 25) (k := 8) (u := .agg #[.int .i64 (h.op), sS (h.field), sS (h.text), .int .i64 (h.edits), .int .i64 (h.exact), .int .u64 (h.lo), .int .u64 (h.hi), v]) rfl rfl hM0) (fun b1 w2 hM4 => ?_)
 refine xv 6 (f_slen sT70 (ho.kept0 hM4.kept) 3 w2) ?_
 refine xat 15 sT70 (ho.kept0 hM4.kept) 0 0 (fun p6 hp7 => ?_)
 refine xv 0 (at_load pE3 (ho.kept0 hM4.kept) hp7 rfl) ?_
 refine xv 5 (c_load pE3 (hM4.rd 0 rfl) (cel_obj b1 0) rfl) ?_
 refine xc 3 (h.op = 7) (fun h14p => ?_) (fun h14p => ?_)
 ·
  refine xv 2 (c_loads (ys := [.int .i64 (h.op), sS (h.field), sS (h.text), .int .i64 (h.edits), .int .i64 (h.exact), .int .u64 (h.lo), .int .u64 (h.hi), v]) aE25 (hM4.rd 0 rfl) (cel_obj b1 0) rfl (lq rfl)) ?_
  have hM16 := hM4.sub (sD sR)
  refine xk 0 (ih q hlt h he v (hq.kept hM16.kept) (by omega) (cell_kept hdb hM16.kept) hri hu) (fun w17 m18 => ?_)
  have hM19 : Mem [] w w17 [] := Mem.join (R := []) hM16 m18
  refine xqa 0 ([40] : List UInt8) (textQ q) ?_ (hl := (by simp only [List.length_append, List.length_cons, List.length_nil]; omega))
  refine xqa 0 (([40] : List UInt8) ++ (textQ q)) ([41] : List UInt8) ?_ (hl := (by simp only [List.length_append, List.length_cons, List.length_nil]; omega))
  exact xr 2 (v := sS ((([40] : List UInt8) ++ (textQ q)) ++ ([41] : List UInt8))) Tryz.func29 hR ⟨by rw [ptx_yes (br7_yes (by rw [← he]; omega))]; rfl, hM19.none⟩
 ·
  refine xat 18 sT70 (ho.kept0 hM4.kept) 1 1 (fun p22 hp23 => ?_)
  refine xv 0 (at_load pE3 (ho.kept0 hM4.kept) hp23 rfl) ?_
  refine xv 5 (c_load pE3 (hM4.rd 0 rfl) (cel_obj b1 0) rfl) ?_
  refine xc 3 (h.op = 8) (fun h28p => ?_) (fun h28p => ?_)
  ·
   refine xv 2 (c_loads (ys := [.int .i64 (h.op), sS (h.field), sS (h.text), .int .i64 (h.edits), .int .i64 (h.exact), .int .u64 (h.lo), .int .u64 (h.hi), v]) aE25 (hM4.rd 0 rfl) (cel_obj b1 0) rfl (lq rfl)) ?_
   have hM30 := hM4.sub (sD sR)
   refine xk 0 (ih q hlt h he v (hq.kept hM30.kept) (by omega) (cell_kept hdb hM30.kept) hri hu) (fun w31 m32 => ?_)
   have hM33 : Mem [] w w31 [] := Mem.join (R := []) hM30 m32
   refine xqa 0 ([40] : List UInt8) (textQ q) ?_ (hl := (by simp only [List.length_append, List.length_cons, List.length_nil]; omega))
   refine xqa 0 (([40] : List UInt8) ++ (textQ q)) ([41] : List UInt8) ?_ (hl := (by simp only [List.length_append, List.length_cons, List.length_nil]; omega))
   exact xr 2 (v := sS ((([40] : List UInt8) ++ (textQ q)) ++ ([41] : List UInt8))) Tryz.func29 hR ⟨by rw [ptx_yes (br7_yes (by rw [← he]; omega))]; rfl, hM33.none⟩
  ·
   refine xv 16 (c_loads (ys := [.int .i64 (h.op), sS (h.field), sS (h.text), .int .i64 (h.edits), .int .i64 (h.exact), .int .u64 (h.lo), .int .u64 (h.hi), v]) aE25 (hM4.rd 0 rfl) (cel_obj b1 0) rfl (lq rfl)) ?_
   have hM37 := hM4.sub (sD sR)
   refine xk 0 (ih q hlt h he v (hq.kept hM37.kept) (by omega) (cell_kept hdb hM37.kept) hri hu) (fun w38 m39 => ?_)
   have hM40 : Mem [] w w38 [] := Mem.join (R := []) hM37 m39
   exact xr 2 (v := sS (textQ q)) Tryz.func29 hR ⟨by rw [ptx_no (br7_no (by rw [← he]; omega) (by rw [← he]; omega))], hM40.none⟩

set_option maxHeartbeats 1000000 in
theorem inner8_c (N : Nat) (ih : ∀ (q : Q), bulkQ q < N → ∀ {w : World} (h : Hd) (he : h = q.h) (v : Value) (hq : RdQ w q v) (hb : bulkQ q ≤ 1048576) (hdb : w.cell? ⟨3, 15, none⟩ = some (.int .u8 4)) (hri : rightQ q = true) (hu : numQ q), Calls Tryz.prog 17 #[.agg #[.int .i64 (h.op), sS (h.field), sS (h.text), .int .i64 (h.edits), .int .i64 (h.exact), .int .u64 (h.lo), .int .u64 (h.hi), v]] w (fun e w' => e = .returned (sS (textQ q)) ∧ Mem [] w w' [])) {w : World} (q : Q) (h : Hd) (he : h = q.h) (v : Value) (hq : RdQ w q v) (hb : bulkQ q ≤ 1048576) (o : Value) (ho : Rd w 1 o 1 [.int .i64 8]) (hdb : w.cell? ⟨3, 15, none⟩ = some (.int .u8 4)) (hri : rightQ q = true) (hu : numQ q) (hlt : bulkQ q < N) :
  Calls Tryz.prog 29 #[.agg #[.int .i64 (h.op), sS (h.field), sS (h.text), .int .i64 (h.edits), .int .i64 (h.exact), .int .u64 (h.lo), .int .u64 (h.hi), v], o] w (fun e w' => e = .returned (sS (ptext 8 q)) ∧ Mem [] w w' []) := by
 obtain ⟨L, hr, hl, hh, hs⟩ := hq.inv
 have hbl : bulkL q.l + q.h.field.length + q.h.text.length + 1 = bulkQ q := by cases q; rw [bulkQ_mk]; rfl
 have hln := bulk_len q.l
 have htl_ := textQ_len q
 refine xe 24 Tryz.func29 (fun R hR => ?_)
 have hM0 := Mem.start w
 refine xx 2 (m_box (T := 25) (k := 8) (u := .agg #[.int .i64 (h.op), sS (h.field), sS (h.text), .int .i64 (h.edits), .int .i64 (h.exact), .int .u64 (h.lo), .int .u64 (h.hi), v]) rfl rfl hM0) (fun b1 w2 hM4 => ?_)
 refine xv 6 (f_slen sT70 (ho.kept0 hM4.kept) 3 w2) ?_
 refine xat 15 sT70 (ho.kept0 hM4.kept) 0 0 (fun p6 hp7 => ?_)
 refine xv 0 (at_load pE3 (ho.kept0 hM4.kept) hp7 rfl) ?_
 refine xv 5 (c_load pE3 (hM4.rd 0 rfl) (cel_obj b1 0) rfl) ?_
 refine xc 3 (h.op = 8) (fun h14p => ?_) (fun h14p => ?_)
 ·
  refine xv 2 (c_loads (ys := [.int .i64 (h.op), sS (h.field), sS (h.text), .int .i64 (h.edits), .int .i64 (h.exact), .int .u64 (h.lo), .int .u64 (h.hi), v]) aE25 (hM4.rd 0 rfl) (cel_obj b1 0) rfl (lq rfl)) ?_
  have hM16 := hM4.sub (sD sR)
  refine xk 0 (ih q hlt h he v (hq.kept hM16.kept) (by omega) (cell_kept hdb hM16.kept) hri hu) (fun w17 m18 => ?_)
  have hM19 : Mem [] w w17 [] := Mem.join (R := []) hM16 m18
  refine xqa 0 ([40] : List UInt8) (textQ q) ?_ (hl := (by simp only [List.length_append, List.length_cons, List.length_nil]; omega))
  refine xqa 0 (([40] : List UInt8) ++ (textQ q)) ([41] : List UInt8) ?_ (hl := (by simp only [List.length_append, List.length_cons, List.length_nil]; omega))
  exact xr 2 (v := sS ((([40] : List UInt8) ++ (textQ q)) ++ ([41] : List UInt8))) Tryz.func29 hR ⟨by rw [ptx_yes (br8_yes (by rw [← he]; omega))]; rfl, hM19.none⟩
 ·
  refine xv 16 (c_loads (ys := [.int .i64 (h.op), sS (h.field), sS (h.text), .int .i64 (h.edits), .int .i64 (h.exact), .int .u64 (h.lo), .int .u64 (h.hi), v]) aE25 (hM4.rd 0 rfl) (cel_obj b1 0) rfl (lq rfl)) ?_
  have hM23 := hM4.sub (sD sR)
  refine xk 0 (ih q hlt h he v (hq.kept hM23.kept) (by omega) (cell_kept hdb hM23.kept) hri hu) (fun w24 m25 => ?_)
  have hM26 : Mem [] w w24 [] := Mem.join (R := []) hM23 m25
  exact xr 2 (v := sS (textQ q)) Tryz.func29 hR ⟨by rw [ptx_no (br8_no (by rw [← he]; omega))], hM26.none⟩

set_option maxHeartbeats 1000000 in
theorem joined7_L (N : Nat) (ih : ∀ (q : Q), bulkQ q < N → ∀ {w : World} (h : Hd) (he : h = q.h) (v : Value) (hq : RdQ w q v) (hb : bulkQ q ≤ 1048576) (hdb : w.cell? ⟨3, 15, none⟩ = some (.int .u8 4)) (hri : rightQ q = true) (hu : numQ q), Calls Tryz.prog 17 #[.agg #[.int .i64 (h.op), sS (h.field), sS (h.text), .int .i64 (h.edits), .int .i64 (h.exact), .int .u64 (h.lo), .int .u64 (h.hi), v]] w (fun e w' => e = .returned (sS (textQ q)) ∧ Mem [] w w' [])) {w0 : World} (q : Q) (h : Hd) (he : h = q.h) (v : Value) (hq : RdQ w0 q v) (hb : bulkQ q ≤ 1048576) (L : List QN) (hr : Rd w0 8 v L.length (recs qnC L)) (hl : L.length = q.l.length) (hh : ∀ j, j < q.l.length → (L.getD j qz).h = (q.l.getD j q0).h) (hs : ∀ j, j < q.l.length → RdQ w0 (q.l.getD j q0) (L.getD j qz).parts) (o : Value) (ho : Rd w0 1 o 2 [.int .i64 7, .int .i64 8]) (hdb : w0.cell? ⟨3, 15, none⟩ = some (.int .u8 4)) (hri : rightQ q = true) (hu : numQ q) (h2 : 2 ≤ q.l.length) (hlt : bulkL q.l < N) (R : Ending → World → Prop) (hR : R = (fun e w' => e = .returned (sS (joinW ([32] : List UInt8) (q.l.map (ptext 7)))) ∧ Mem [] w0 w' [])) : ∀ (M_ : Nat) (i : Nat) (u : Value) (X : List (List UInt8)) (w : World) (hi : i ≤ L.length) (hX : X = (q.l.take i).map (ptext 7)) (hM : Mem [] w0 w [⟨9, 1, u, (List.length X), (svals X)⟩]) (hN : L.length - i < M_), GoS Tryz.prog 30 R 26 [iC Tryz.f30 [1,1,0,1,0,0], iL Tryz.f30 [1,1,0,1,0,0], .inBlock 0, iC Tryz.f30 [1,1,1]] [(1, sS ([32] : List UInt8)), (2, o), (7, u), (10, v), (11, iN (List.length L)), (12, iN i)] w := by
 intro M_
 induction M_ with
 | zero => intro i u X w hi hX hM hN; exact absurd hN (Nat.not_lt_zero _)
 | succ M_ ih_ =>
  intro i u X w hi hX hM hN
  have hbl : bulkL q.l + q.h.field.length + q.h.text.length + 1 = bulkQ q := by cases q; rw [bulkQ_mk]; rfl
  have hln := bulk_len q.l
  have hXl_ : X.length = i := by rw [hX, List.length_map, List.length_take]; omega
  refine xs ?_
  refine xc 5 (((i : Nat) : Int) < (((List.length L) : Nat) : Int)) (fun h1p => ?_) (fun h1p => ?_)
  ·
   refine xat 5 sT23 (hr.kept0 hM.kept) ((i : Nat) : Int) i (fun p6 hp7 => ?_)
   refine xv 0 (r_loads (f := qnC) (l := L) aE25 (hr.kept0 hM.kept) qnC_len hp7 (by first | omega | (dsimp only; omega)) qz) ?_
   refine xx 0 (m_alloc oT25 hM) (fun b9 w10 hM12 => ?_)
   refine xst 0 (c_stores (ys := [.int .i64 ((List.getD L i qz).h.op), sS ((List.getD L i qz).h.field), sS ((List.getD L i qz).h.text), .int .i64 ((List.getD L i qz).h.edits), .int .i64 ((List.getD L i qz).h.exact), .int .u64 ((List.getD L i qz).h.lo), .int .u64 ((List.getD L i qz).h.hi), ((List.getD L i qz).parts)]) aE25 hM12 0 rfl (cel_obj b9 0) rfl (by decide) (by intro u hu; simp at hu; rcases hu with rfl | rfl | rfl | rfl | rfl | rfl | rfl | rfl <;> first | rfl | exact ((hs i (by omega)).kept hM12.kept).one.1)) (fun w14 hM16 => ?_)
   refine xv 3 (c_loads (ys := [.int .i64 ((List.getD L i qz).h.op), sS ((List.getD L i qz).h.field), sS ((List.getD L i qz).h.text), .int .i64 ((List.getD L i qz).h.edits), .int .i64 ((List.getD L i qz).h.exact), .int .u64 ((List.getD L i qz).h.lo), .int .u64 ((List.getD L i qz).h.hi), ((List.getD L i qz).parts)]) aE25 (hM16.rd 0 rfl) (cel_obj b9 0) rfl (lq rfl)) ?_
   have hM22 := hM16.sub (sD (sK sR))
   have hkb26 := bulk_kid (l := q.l) (i := i) (by omega)
   have hks27 := size_le (List.getD q.l i q0)
   have hbs28 := bulk_step (l := q.l) (i := i) (by omega)
   have hpl29 := ptext_len 7 (List.getD q.l i q0)
   refine xk 1 (inner7_c N ih (List.getD q.l i q0) ((List.getD L i qz).h) (hh i (by omega)) ((List.getD L i qz).parts) ((hs i (by omega)).kept hM22.kept) (by omega) o (ho.kept0 hM22.kept) (cell_kept hdb hM22.kept) (kid_right (by omega) (right_q hri).1) (kid_num (by omega) (num_q hu).2.2) (by omega)) (fun w23 m24 => ?_)
   have hM25 : Mem [] w0 w23 [⟨9, 1, u, (List.length X), (svals X)⟩] := Mem.join (R := []) hM22 m24
   refine xx 0 (m_lit sT64 hM25 (n := 1) (parts := #[(0, sS (ptext 7 (List.getD q.l i q0)))]) (cs := [sS (ptext 7 (List.getD q.l i q0))]) (by decide) (by kernel_rfl) rfl) (fun v30 w31 hM33 => ?_)
   refine xx 0 (m_append sT64 hM33 1 rfl (hM33.rd 0 rfl) (oneL rfl) (by first | omega | (dsimp only; omega)) (by first | omega | (dsimp only; omega)) 64) (fun v34 w35 hM37 => ?_)
   have hM38 : Mem [] w0 w35 [⟨9, 1, v30, 1, [sS (ptext 7 (List.getD q.l i q0))]⟩, ⟨9, 1, v34, (List.length (X ++ ([(ptext 7 (List.getD q.l i q0))] : List (List UInt8)))), (svals (X ++ ([(ptext 7 (List.getD q.l i q0))] : List (List UInt8))))⟩] := hM37.cast (by simp [ivals, svals, bvals, nvals, u8s, Nat.add_assoc])
   refine xa 4 ((i : Nat) : Int) 1 (((i + 1) : Nat) : Int) ?_
   have hM40 := hM38.sub (sD (sK sR))
   exact xl 3 (ih_ (i + 1) v34 _ _ (by omega) (by rw [map_snoc (show i < q.l.length by omega), hX]) (hM40.sub (sK sN)) (by omega))
  ·
   have hjl_ := join_lenQ ([32] : List UInt8) (by decide) 7 q.l
   have hXa_ : X = q.l.map (ptext 7) := by rw [hX, tk_all (by omega)]
   refine xk 5 (join_m ([32] : List UInt8) X u (hM.rd 0 rfl) (by omega) (by omega) (by rw [hXa_]; omega)) (fun w2 m3 => ?_)
   have hM4 := Mem.ext hM m3.kept
   have hM5 := hM4.sub (sD sR)
   exact xr 2 (v := sS (joinW ([32] : List UInt8) X)) Tryz.func30 hR ⟨by rw [hXa_], hM5.none⟩

set_option maxHeartbeats 1000000 in
theorem joined7_c (N : Nat) (ih : ∀ (q : Q), bulkQ q < N → ∀ {w : World} (h : Hd) (he : h = q.h) (v : Value) (hq : RdQ w q v) (hb : bulkQ q ≤ 1048576) (hdb : w.cell? ⟨3, 15, none⟩ = some (.int .u8 4)) (hri : rightQ q = true) (hu : numQ q), Calls Tryz.prog 17 #[.agg #[.int .i64 (h.op), sS (h.field), sS (h.text), .int .i64 (h.edits), .int .i64 (h.exact), .int .u64 (h.lo), .int .u64 (h.hi), v]] w (fun e w' => e = .returned (sS (textQ q)) ∧ Mem [] w w' [])) {w : World} (q : Q) (h : Hd) (he : h = q.h) (v : Value) (hq : RdQ w q v) (hb : bulkQ q ≤ 1048576) (o : Value) (ho : Rd w 1 o 2 [.int .i64 7, .int .i64 8]) (hdb : w.cell? ⟨3, 15, none⟩ = some (.int .u8 4)) (hri : rightQ q = true) (hu : numQ q) (h2 : 2 ≤ q.l.length) (hlt : bulkL q.l < N) :
  Calls Tryz.prog 30 #[v, sS ([32] : List UInt8), o] w (fun e w' => e = .returned (sS (joinW ([32] : List UInt8) (q.l.map (ptext 7)))) ∧ Mem [] w w' []) := by
 obtain ⟨L, hr, hl, hh, hs⟩ := hq.inv
 have hbl : bulkL q.l + q.h.field.length + q.h.text.length + 1 = bulkQ q := by cases q; rw [bulkQ_mk]; rfl
 have hln := bulk_len q.l
 refine xe 26 Tryz.func30 (fun R hR => ?_)
 have hM0 := Mem.start w
 refine xv 12 (f_slen sT23 (hr.kept0 hM0.kept) 3 w) ?_
 have hM2 := hM0.nilrow 9 1
 exact xl 4 (joined7_L N ih q h he v hq hb L hr hl hh hs o ho hdb hri hu h2 hlt R hR (L.length + 1) 0 (.slice none 0 0) [] w (Nat.zero_le _) (by rw [List.take_zero]; rfl) (hM2.sub (sK sN)) (by omega))

set_option maxHeartbeats 1000000 in
theorem joined8_L (N : Nat) (ih : ∀ (q : Q), bulkQ q < N → ∀ {w : World} (h : Hd) (he : h = q.h) (v : Value) (hq : RdQ w q v) (hb : bulkQ q ≤ 1048576) (hdb : w.cell? ⟨3, 15, none⟩ = some (.int .u8 4)) (hri : rightQ q = true) (hu : numQ q), Calls Tryz.prog 17 #[.agg #[.int .i64 (h.op), sS (h.field), sS (h.text), .int .i64 (h.edits), .int .i64 (h.exact), .int .u64 (h.lo), .int .u64 (h.hi), v]] w (fun e w' => e = .returned (sS (textQ q)) ∧ Mem [] w w' [])) {w0 : World} (q : Q) (h : Hd) (he : h = q.h) (v : Value) (hq : RdQ w0 q v) (hb : bulkQ q ≤ 1048576) (L : List QN) (hr : Rd w0 8 v L.length (recs qnC L)) (hl : L.length = q.l.length) (hh : ∀ j, j < q.l.length → (L.getD j qz).h = (q.l.getD j q0).h) (hs : ∀ j, j < q.l.length → RdQ w0 (q.l.getD j q0) (L.getD j qz).parts) (o : Value) (ho : Rd w0 1 o 1 [.int .i64 8]) (hdb : w0.cell? ⟨3, 15, none⟩ = some (.int .u8 4)) (hri : rightQ q = true) (hu : numQ q) (h2 : 2 ≤ q.l.length) (hlt : bulkL q.l < N) (R : Ending → World → Prop) (hR : R = (fun e w' => e = .returned (sS (joinW ([32, 124, 32] : List UInt8) (q.l.map (ptext 8)))) ∧ Mem [] w0 w' [])) : ∀ (M_ : Nat) (i : Nat) (u : Value) (X : List (List UInt8)) (w : World) (hi : i ≤ L.length) (hX : X = (q.l.take i).map (ptext 8)) (hM : Mem [] w0 w [⟨9, 1, u, (List.length X), (svals X)⟩]) (hN : L.length - i < M_), GoS Tryz.prog 30 R 26 [iC Tryz.f30 [1,1,0,1,0,0], iL Tryz.f30 [1,1,0,1,0,0], .inBlock 0, iC Tryz.f30 [1,1,1]] [(1, sS ([32, 124, 32] : List UInt8)), (2, o), (7, u), (10, v), (11, iN (List.length L)), (12, iN i)] w := by
 intro M_
 induction M_ with
 | zero => intro i u X w hi hX hM hN; exact absurd hN (Nat.not_lt_zero _)
 | succ M_ ih_ =>
  intro i u X w hi hX hM hN
  have hbl : bulkL q.l + q.h.field.length + q.h.text.length + 1 = bulkQ q := by cases q; rw [bulkQ_mk]; rfl
  have hln := bulk_len q.l
  have hXl_ : X.length = i := by rw [hX, List.length_map, List.length_take]; omega
  refine xs ?_
  refine xc 5 (((i : Nat) : Int) < (((List.length L) : Nat) : Int)) (fun h1p => ?_) (fun h1p => ?_)
  ·
   refine xat 5 sT23 (hr.kept0 hM.kept) ((i : Nat) : Int) i (fun p6 hp7 => ?_)
   refine xv 0 (r_loads (f := qnC) (l := L) aE25 (hr.kept0 hM.kept) qnC_len hp7 (by first | omega | (dsimp only; omega)) qz) ?_
   refine xx 0 (m_alloc oT25 hM) (fun b9 w10 hM12 => ?_)
   refine xst 0 (c_stores (ys := [.int .i64 ((List.getD L i qz).h.op), sS ((List.getD L i qz).h.field), sS ((List.getD L i qz).h.text), .int .i64 ((List.getD L i qz).h.edits), .int .i64 ((List.getD L i qz).h.exact), .int .u64 ((List.getD L i qz).h.lo), .int .u64 ((List.getD L i qz).h.hi), ((List.getD L i qz).parts)]) aE25 hM12 0 rfl (cel_obj b9 0) rfl (by decide) (by intro u hu; simp at hu; rcases hu with rfl | rfl | rfl | rfl | rfl | rfl | rfl | rfl <;> first | rfl | exact ((hs i (by omega)).kept hM12.kept).one.1)) (fun w14 hM16 => ?_)
   refine xv 3 (c_loads (ys := [.int .i64 ((List.getD L i qz).h.op), sS ((List.getD L i qz).h.field), sS ((List.getD L i qz).h.text), .int .i64 ((List.getD L i qz).h.edits), .int .i64 ((List.getD L i qz).h.exact), .int .u64 ((List.getD L i qz).h.lo), .int .u64 ((List.getD L i qz).h.hi), ((List.getD L i qz).parts)]) aE25 (hM16.rd 0 rfl) (cel_obj b9 0) rfl (lq rfl)) ?_
   have hM22 := hM16.sub (sD (sK sR))
   have hkb26 := bulk_kid (l := q.l) (i := i) (by omega)
   have hks27 := size_le (List.getD q.l i q0)
   have hbs28 := bulk_step (l := q.l) (i := i) (by omega)
   have hpl29 := ptext_len 8 (List.getD q.l i q0)
   refine xk 1 (inner8_c N ih (List.getD q.l i q0) ((List.getD L i qz).h) (hh i (by omega)) ((List.getD L i qz).parts) ((hs i (by omega)).kept hM22.kept) (by omega) o (ho.kept0 hM22.kept) (cell_kept hdb hM22.kept) (kid_right (by omega) (right_q hri).1) (kid_num (by omega) (num_q hu).2.2) (by omega)) (fun w23 m24 => ?_)
   have hM25 : Mem [] w0 w23 [⟨9, 1, u, (List.length X), (svals X)⟩] := Mem.join (R := []) hM22 m24
   refine xx 0 (m_lit sT64 hM25 (n := 1) (parts := #[(0, sS (ptext 8 (List.getD q.l i q0)))]) (cs := [sS (ptext 8 (List.getD q.l i q0))]) (by decide) (by kernel_rfl) rfl) (fun v30 w31 hM33 => ?_)
   refine xx 0 (m_append sT64 hM33 1 rfl (hM33.rd 0 rfl) (oneL rfl) (by first | omega | (dsimp only; omega)) (by first | omega | (dsimp only; omega)) 64) (fun v34 w35 hM37 => ?_)
   have hM38 : Mem [] w0 w35 [⟨9, 1, v30, 1, [sS (ptext 8 (List.getD q.l i q0))]⟩, ⟨9, 1, v34, (List.length (X ++ ([(ptext 8 (List.getD q.l i q0))] : List (List UInt8)))), (svals (X ++ ([(ptext 8 (List.getD q.l i q0))] : List (List UInt8))))⟩] := hM37.cast (by simp [ivals, svals, bvals, nvals, u8s, Nat.add_assoc])
   refine xa 4 ((i : Nat) : Int) 1 (((i + 1) : Nat) : Int) ?_
   have hM40 := hM38.sub (sD (sK sR))
   exact xl 3 (ih_ (i + 1) v34 _ _ (by omega) (by rw [map_snoc (show i < q.l.length by omega), hX]) (hM40.sub (sK sN)) (by omega))
  ·
   have hjl_ := join_lenQ ([32, 124, 32] : List UInt8) (by decide) 8 q.l
   have hXa_ : X = q.l.map (ptext 8) := by rw [hX, tk_all (by omega)]
   refine xk 5 (join_m ([32, 124, 32] : List UInt8) X u (hM.rd 0 rfl) (by omega) (by omega) (by rw [hXa_]; omega)) (fun w2 m3 => ?_)
   have hM4 := Mem.ext hM m3.kept
   have hM5 := hM4.sub (sD sR)
   exact xr 2 (v := sS (joinW ([32, 124, 32] : List UInt8) X)) Tryz.func30 hR ⟨by rw [hXa_], hM5.none⟩

set_option maxHeartbeats 1000000 in
theorem joined8_c (N : Nat) (ih : ∀ (q : Q), bulkQ q < N → ∀ {w : World} (h : Hd) (he : h = q.h) (v : Value) (hq : RdQ w q v) (hb : bulkQ q ≤ 1048576) (hdb : w.cell? ⟨3, 15, none⟩ = some (.int .u8 4)) (hri : rightQ q = true) (hu : numQ q), Calls Tryz.prog 17 #[.agg #[.int .i64 (h.op), sS (h.field), sS (h.text), .int .i64 (h.edits), .int .i64 (h.exact), .int .u64 (h.lo), .int .u64 (h.hi), v]] w (fun e w' => e = .returned (sS (textQ q)) ∧ Mem [] w w' [])) {w : World} (q : Q) (h : Hd) (he : h = q.h) (v : Value) (hq : RdQ w q v) (hb : bulkQ q ≤ 1048576) (o : Value) (ho : Rd w 1 o 1 [.int .i64 8]) (hdb : w.cell? ⟨3, 15, none⟩ = some (.int .u8 4)) (hri : rightQ q = true) (hu : numQ q) (h2 : 2 ≤ q.l.length) (hlt : bulkL q.l < N) :
  Calls Tryz.prog 30 #[v, sS ([32, 124, 32] : List UInt8), o] w (fun e w' => e = .returned (sS (joinW ([32, 124, 32] : List UInt8) (q.l.map (ptext 8)))) ∧ Mem [] w w' []) := by
 obtain ⟨L, hr, hl, hh, hs⟩ := hq.inv
 have hbl : bulkL q.l + q.h.field.length + q.h.text.length + 1 = bulkQ q := by cases q; rw [bulkQ_mk]; rfl
 have hln := bulk_len q.l
 refine xe 26 Tryz.func30 (fun R hR => ?_)
 have hM0 := Mem.start w
 refine xv 12 (f_slen sT23 (hr.kept0 hM0.kept) 3 w) ?_
 have hM2 := hM0.nilrow 9 1
 exact xl 4 (joined8_L N ih q h he v hq hb L hr hl hh hs o ho hdb hri hu h2 hlt R hR (L.length + 1) 0 (.slice none 0 0) [] w (Nat.zero_le _) (by rw [List.take_zero]; rfl) (hM2.sub (sK sN)) (by omega))


end Go.Proofs.YthpodbngljfdmaaGreatDoor


namespace Go.Proofs.YthpodbngljfdmaaGreatDoor
open Go Go.Gw Go.UtfP Go.TokP Go.QryP Go.SynP Go.RealQ Go.SynV Go.RowKit
set_option linter.unusedVariables false
set_option linter.unusedSimpArgs false
set_option maxRecDepth 20000


theorem bits_m (x : Int) (hx : 0 ≤ x ∧ x < 18446744073709551616) {w : World} (hdb : w.cell? ⟨3, 15, none⟩ = some (.int .u8 4)) : Calls Tryz.prog 31 #[.int .u64 x] w (fun e w' => e = .returned (sS (bitsP x.toNat)) ∧ Mem [] w w' []) := by
 have h := bits_c x.toNat (by omega) hdb
 rwa [show ((x.toNat : Nat) : Int) = x by omega] at h

set_option maxHeartbeats 4000000 in
theorem text_s (N : Nat) (ih : ∀ (q : Q), bulkQ q < N → ∀ {w : World} (h : Hd) (he : h = q.h) (v : Value) (hq : RdQ w q v) (hb : bulkQ q ≤ 1048576) (hdb : w.cell? ⟨3, 15, none⟩ = some (.int .u8 4)) (hri : rightQ q = true) (hu : numQ q), Calls Tryz.prog 17 #[.agg #[.int .i64 (h.op), sS (h.field), sS (h.text), .int .i64 (h.edits), .int .i64 (h.exact), .int .u64 (h.lo), .int .u64 (h.hi), v]] w (fun e w' => e = .returned (sS (textQ q)) ∧ Mem [] w w' [])) {w : World} (q : Q) (h : Hd) (he : h = q.h) (v : Value) (hq : RdQ w q v) (hb : bulkQ q ≤ 1048576) (hdb : w.cell? ⟨3, 15, none⟩ = some (.int .u8 4)) (hri : rightQ q = true) (hu : numQ q) (hN : bulkQ q = N) :
  Calls Tryz.prog 17 #[.agg #[.int .i64 (h.op), sS (h.field), sS (h.text), .int .i64 (h.edits), .int .i64 (h.exact), .int .u64 (h.lo), .int .u64 (h.hi), v]] w (fun e w' => e = .returned (sS (textQ q)) ∧ Mem [] w w' []) := by
 obtain ⟨L, hr, hl, hh, hs⟩ := hq.inv
 have hbl : bulkL q.l + q.h.field.length + q.h.text.length + 1 = bulkQ q := by cases q; rw [bulkQ_mk]; rfl
 have hln := bulk_len q.l
 have hfl_ : h.field.length = q.h.field.length := by rw [he]
 have htx_ : h.text.length = q.h.text.length := by rw [he]
 have hnq_ := num_q hu
 rw [← he] at hnq_
 have hn1_ : h.op = 9 → q.l.length = 1 := fun z => node_not1 hri (by rw [← he]; exact z)
 have hlf_ : ¬ h.op = 7 → ¬ h.op = 8 → ¬ h.op = 9 → ¬ h.op = 10 → Lf h := fun a b c d => by have z := node_op hri (by rw [← he]; exact a) (by rw [← he]; exact b) (by rw [← he]; exact c) (by rw [← he]; exact d); rwa [← he] at z
 have hop_ : ¬ h.op = 7 → ¬ h.op = 8 → ¬ h.op = 9 → ¬ h.op = 10 → 1 ≤ h.op ∧ h.op ≤ 6 := fun a b c d => (hlf_ a b c d).op
 have hfz_ : h.op = 4 → (0 ≤ h.edits ∧ h.edits ≤ 99) ∧ (0 ≤ h.exact ∧ h.exact ≤ 99) := fun z => (hlf_ (by omega) (by omega) (by omega) (by omega)).fuzzy z
 refine xe 79 Tryz.func17 (fun R hR => ?_)
 have hM0 := Mem.start w
 refine xx 2 (m_box (T := 25) (k := 8) (u := .agg #[.int .i64 (h.op), sS (h.field), sS (h.text), .int .i64 (h.edits), .int .i64 (h.exact), .int .u64 (h.lo), .int .u64 (h.hi), v]) rfl rfl hM0) (fun b1 w2 hM4 => ?_)
 refine xv 6 (c_load pE3 (hM4.rd 0 rfl) (cel_obj b1 0) rfl) ?_
 refine xc 7 (h.op = 10) (fun h8p => ?_) (fun h8p => ?_)
 ·
  have hM9 := hM4.sub (sD sR)
  exact xr 4 (v := sS ([42] : List UInt8)) Tryz.func17 hR ⟨by rw [text_all (by rw [← he]; omega)], hM9.none⟩
 ·
  refine xc 5 (h.op = 9) (fun h10p => ?_) (fun h10p => ?_)
  ·
   refine xv 3 (c_load pE23 (hM4.rd 0 rfl) (cel_obj b1 7) rfl) ?_
   refine xat 0 sT23 (hr.kept0 hM4.kept) 0 0 (fun p11 hp12 => ?_)
   refine xv 0 (r_loads (f := qnC) (l := L) aE25 (hr.kept0 hM4.kept) qnC_len hp12 (by omega) qz) ?_
   refine xx 0 (m_lit sT70 hM4 (n := 2) (parts := #[(0, .int .i64 7), (1, .int .i64 8)]) (cs := [.int .i64 7, .int .i64 8]) (by decide) (by kernel_rfl) rfl) (fun v14 w15 hM17 => ?_)
   have hM21 := hM17.sub (sK (sD sR))
   have hkb25 := bulk_kid (l := q.l) (i := 0) (by omega)
   have hks26 := size_le (List.getD q.l 0 q0)
   have hbs27 := bulk_step (l := q.l) (i := 0) (by omega)
   have hpl28 := ptext_len 7 (List.getD q.l 0 q0)
   refine xk 0 (inner7_c N ih (List.getD q.l 0 q0) ((List.getD L 0 qz).h) (hh 0 (by omega)) ((List.getD L 0 qz).parts) ((hs 0 (by omega)).kept hM21.kept) (by omega) v14 (hM21.rd 0 rfl) (cell_kept hdb hM21.kept) (kid_right (by omega) (right_q hri).1) (kid_num (by omega) (num_q hu).2.2) (by omega)) (fun w22 m23 => ?_)
   have hM24 : Mem [] w w22 [⟨3, 1, v14, 2, [.int .i64 7, .int .i64 8]⟩] := Mem.join (R := []) hM21 m23
   refine xqa 0 ([45] : List UInt8) (ptext 7 (List.getD q.l 0 q0)) ?_ (hl := (by simp only [List.length_append, List.length_cons, List.length_nil]; omega))
   have hM30 := hM24.sub (sD sR)
   exact xr 2 (v := sS (([45] : List UInt8) ++ (ptext 7 (List.getD q.l 0 q0)))) Tryz.func17 hR ⟨by rw [text_not (by rw [← he]; omega) (node_not1 hri (by rw [← he]; omega))]; rfl, hM30.none⟩
  ·
   refine xc 5 (h.op = 7) (fun h31p => ?_) (fun h31p => ?_)
   ·
    refine xv 3 (c_load pE23 (hM4.rd 0 rfl) (cel_obj b1 7) rfl) ?_
    refine xx 0 (m_lit sT70 hM4 (n := 2) (parts := #[(0, .int .i64 7), (1, .int .i64 8)]) (cs := [.int .i64 7, .int .i64 8]) (by decide) (by kernel_rfl) rfl) (fun v32 w33 hM35 => ?_)
    have hM37 := hM35.sub (sK (sD sR))
    have hjl41 := join_lenQ ([32] : List UInt8) (by decide) 7 q.l
    have hn2_ := node_join2 hri (by rw [← he]; omega)
    refine xk 0 (joined7_c N ih q h he v (hq.kept hM37.kept) hb v32 (hM37.rd 0 rfl) (cell_kept hdb hM37.kept) hri hu hn2_ (by omega)) (fun w38 m39 => ?_)
    have hM40 : Mem [] w w38 [⟨3, 1, v32, 2, [.int .i64 7, .int .i64 8]⟩] := Mem.join (R := []) hM37 m39
    have hM42 := hM40.sub (sD sR)
    exact xr 2 (v := sS (joinW ([32] : List UInt8) (q.l.map (ptext 7)))) Tryz.func17 hR ⟨by rw [text_and (by rw [← he]; omega)], hM42.none⟩
   ·
    refine xc 5 (h.op = 8) (fun h43p => ?_) (fun h43p => ?_)
    ·
     refine xv 3 (c_load pE23 (hM4.rd 0 rfl) (cel_obj b1 7) rfl) ?_
     refine xx 0 (m_lit sT70 hM4 (n := 1) (parts := #[(0, .int .i64 8)]) (cs := [.int .i64 8]) (by decide) (by kernel_rfl) rfl) (fun v44 w45 hM47 => ?_)
     have hM49 := hM47.sub (sK (sD sR))
     have hjl53 := join_lenQ ([32, 124, 32] : List UInt8) (by decide) 8 q.l
     have hn2_ := node_join2 hri (by rw [← he]; omega)
     refine xk 0 (joined8_c N ih q h he v (hq.kept hM49.kept) hb v44 (hM49.rd 0 rfl) (cell_kept hdb hM49.kept) hri hu hn2_ (by omega)) (fun w50 m51 => ?_)
     have hM52 : Mem [] w w50 [⟨3, 1, v44, 1, [.int .i64 8]⟩] := Mem.join (R := []) hM49 m51
     have hM54 := hM52.sub (sD sR)
     exact xr 2 (v := sS (joinW ([32, 124, 32] : List UInt8) (q.l.map (ptext 8)))) Tryz.func17 hR ⟨by rw [text_or (by rw [← he]; omega)], hM54.none⟩
    ·
     refine xc 5 (h.op = 6) (fun h55p => ?_) (fun h55p => ?_)
     ·
      refine xh 1 [] hM4 (sK sR) (fun w56 hM57 hS58 => ?_)
      refine yl [0] 1 hS58 pE9 0 rfl (cel_obj b1 1) rfl ?_
      refine yv [] 2 (fun W_ hW_ => (show (binOp .add 9 (sS (h.field)) (sS ([58, 91] : List UInt8))).run Tryz.prog W_ = .ok (sS (h.field ++ ([58, 91] : List UInt8))) W_ from f_stradd (by simp only [List.length_append, List.length_cons, List.length_nil]; omega))) hS58 ?_
      refine yl [3] 4 hS58 pE22 0 rfl (cel_obj b1 5) rfl ?_
      refine yl [8] 9 hS58 pE22 0 rfl (cel_obj b1 6) rfl ?_
      have hbl63 := bitsP_len (Int.toNat (h.lo))
      refine yck [] 5 (bits_m (h.lo) (by omega) (cell_kept hdb hM57.kept)) hS58 (fun w60 m61 => ?_)
      have hM62 : Mem [] w w60 [⟨25, 8, (obj b1), 1, [.int .i64 (h.op), sS (h.field), sS (h.text), .int .i64 (h.edits), .int .i64 (h.exact), .int .u64 (h.lo), .int .u64 (h.hi), v]⟩] := Mem.join (R := []) hM57 m61
      have hS64 := hM62.sub (sK sR)
      refine ⟨hS64, ?_⟩
      refine yv [] 6 (fun W_ hW_ => (show (binOp .add 9 (sS (h.field ++ ([58, 91] : List UInt8))) (sS (bitsP (Int.toNat (h.lo))))).run Tryz.prog W_ = .ok (sS ((h.field ++ ([58, 91] : List UInt8)) ++ (bitsP (Int.toNat (h.lo))))) W_ from f_stradd (by simp only [List.length_append, List.length_cons, List.length_nil]; omega))) hS64 ?_
      refine yv [] 7 (fun W_ hW_ => (show (binOp .add 9 (sS ((h.field ++ ([58, 91] : List UInt8)) ++ (bitsP (Int.toNat (h.lo))))) (sS ([32] : List UInt8))).run Tryz.prog W_ = .ok (sS (((h.field ++ ([58, 91] : List UInt8)) ++ (bitsP (Int.toNat (h.lo)))) ++ ([32] : List UInt8))) W_ from f_stradd (by simp only [List.length_append, List.length_cons, List.length_nil]; omega))) hS64 ?_
      have hbl68 := bitsP_len (Int.toNat (h.hi))
      refine yck [] 10 (bits_m (h.hi) (by omega) (cell_kept hdb hM62.kept)) hS64 (fun w65 m66 => ?_)
      have hM67 : Mem [] w w65 [⟨25, 8, (obj b1), 1, [.int .i64 (h.op), sS (h.field), sS (h.text), .int .i64 (h.edits), .int .i64 (h.exact), .int .u64 (h.lo), .int .u64 (h.hi), v]⟩] := Mem.join (R := []) hM62 m66
      have hS69 := hM67.sub (sK sR)
      refine ⟨hS69, ?_⟩
      refine yv [] 11 (fun W_ hW_ => (show (binOp .add 9 (sS (((h.field ++ ([58, 91] : List UInt8)) ++ (bitsP (Int.toNat (h.lo)))) ++ ([32] : List UInt8))) (sS (bitsP (Int.toNat (h.hi))))).run Tryz.prog W_ = .ok (sS ((((h.field ++ ([58, 91] : List UInt8)) ++ (bitsP (Int.toNat (h.lo)))) ++ ([32] : List UInt8)) ++ (bitsP (Int.toNat (h.hi))))) W_ from f_stradd (by simp only [List.length_append, List.length_cons, List.length_nil]; omega))) hS69 ?_
      refine yv [] 12 (fun W_ hW_ => (show (binOp .add 9 (sS ((((h.field ++ ([58, 91] : List UInt8)) ++ (bitsP (Int.toNat (h.lo)))) ++ ([32] : List UInt8)) ++ (bitsP (Int.toNat (h.hi))))) (sS ([93] : List UInt8))).run Tryz.prog W_ = .ok (sS (((((h.field ++ ([58, 91] : List UInt8)) ++ (bitsP (Int.toNat (h.lo)))) ++ ([32] : List UInt8)) ++ (bitsP (Int.toNat (h.hi)))) ++ ([93] : List UInt8))) W_ from f_stradd (by simp only [List.length_append, List.length_cons, List.length_nil]; omega))) hS69 ?_
      refine ydp [13] hS69 ?_
      have hM70 := hM67.sub (sD sR)
      exact xr 0 (v := sS (((((h.field ++ ([58, 91] : List UInt8)) ++ (bitsP (Int.toNat (h.lo)))) ++ ([32] : List UInt8)) ++ (bitsP (Int.toNat (h.hi)))) ++ ([93] : List UInt8))) Tryz.func17 hR ⟨by rw [tx_range he (by omega)], hM70.none⟩
     ·
      refine xh 3 [] hM4 (sK sR) (fun w71 hM72 hS73 => ?_)
      refine yl [0] 1 hS73 pE9 0 rfl (cel_obj b1 1) rfl ?_
      refine yv [] 2 (fun W_ hW_ => (show (binOp .add 9 (sS (h.field)) (sS ([58] : List UInt8))).run Tryz.prog W_ = .ok (sS (h.field ++ ([58] : List UInt8))) W_ from f_stradd (by simp only [List.length_append, List.length_cons, List.length_nil]; omega))) hS73 ?_
      refine yl [3] 4 hS73 pE9 0 rfl (cel_obj b1 2) rfl ?_
      have hql78 := quoteW_len (h.text)
      refine yck [] 5 (quote_c (w := w71) (h.text) (by omega)) hS73 (fun w75 m76 => ?_)
      have hM77 : Mem [] w w75 [⟨25, 8, (obj b1), 1, [.int .i64 (h.op), sS (h.field), sS (h.text), .int .i64 (h.edits), .int .i64 (h.exact), .int .u64 (h.lo), .int .u64 (h.hi), v]⟩] := Mem.join (R := []) hM72 m76
      have hS79 := hM77.sub (sK sR)
      refine ⟨hS79, ?_⟩
      refine yv [] 6 (fun W_ hW_ => (show (binOp .add 9 (sS (h.field ++ ([58] : List UInt8))) (sS (quoteW (h.text)))).run Tryz.prog W_ = .ok (sS ((h.field ++ ([58] : List UInt8)) ++ (quoteW (h.text)))) W_ from f_stradd (by simp only [List.length_append, List.length_cons, List.length_nil]; omega))) hS79 ?_
      refine ydp [7] hS79 ?_
      refine xv 4 (c_load pE3 (hM77.rd 0 rfl) (cel_obj b1 0) rfl) ?_
      refine xc 7 (h.op = 2) (fun h81p => ?_) (fun h81p => ?_)
      ·
       refine xqa 2 ((h.field ++ ([58] : List UInt8)) ++ (quoteW (h.text))) ([42] : List UInt8) ?_ (hl := (by simp only [List.length_append, List.length_cons, List.length_nil]; omega))
       have hM83 := hM77.sub (sD sR)
       exact xr 8 (v := sS (((h.field ++ ([58] : List UInt8)) ++ (quoteW (h.text))) ++ ([42] : List UInt8))) Tryz.func17 hR ⟨by rw [tx_2 he (by omega)], hM83.none⟩
      ·
       refine xc 5 (h.op = 3) (fun h84p => ?_) (fun h84p => ?_)
       ·
        refine xqa 2 ((h.field ++ ([58] : List UInt8)) ++ (quoteW (h.text))) ([63] : List UInt8) ?_ (hl := (by simp only [List.length_append, List.length_cons, List.length_nil]; omega))
        have hM86 := hM77.sub (sD sR)
        exact xr 8 (v := sS (((h.field ++ ([58] : List UInt8)) ++ (quoteW (h.text))) ++ ([63] : List UInt8))) Tryz.func17 hR ⟨by rw [tx_3 he (by omega)], hM86.none⟩
       ·
        refine xc 5 (h.op = 5) (fun h87p => ?_) (fun h87p => ?_)
        ·
         refine xqa 2 ((h.field ++ ([58] : List UInt8)) ++ (quoteW (h.text))) ([43] : List UInt8) ?_ (hl := (by simp only [List.length_append, List.length_cons, List.length_nil]; omega))
         have hM89 := hM77.sub (sD sR)
         exact xr 8 (v := sS (((h.field ++ ([58] : List UInt8)) ++ (quoteW (h.text))) ++ ([43] : List UInt8))) Tryz.func17 hR ⟨by rw [tx_5 he (by omega)], hM89.none⟩
        ·
         refine xc 5 (h.op = 4) (fun h90p => ?_) (fun h90p => ?_)
         ·
          refine xh 0 [] hM77 (sK sR) (fun w91 hM92 hS93 => ?_)
          refine yl [0,1] 2 hS93 pE3 0 rfl (cel_obj b1 3) rfl ?_
          refine yl [6] 7 hS93 pE3 0 rfl (cel_obj b1 4) rfl ?_
          have hdl95 := decW_len (h.edits)
          refine ycg [] 3 (itoa_m (h.edits) (by omega) w91) hS93 ?_
          rintro _ _ ⟨rfl, rfl⟩
          have hS96 := hM92.sub (sK sR)
          refine ⟨sS (decW (h.edits)), rfl, hS96, ?_⟩
          refine yv [] 4 (fun W_ hW_ => (show (binOp .add 9 (sS ([126] : List UInt8)) (sS (decW (h.edits)))).run Tryz.prog W_ = .ok (sS (([126] : List UInt8) ++ (decW (h.edits)))) W_ from f_stradd (by simp only [List.length_append, List.length_cons, List.length_nil]; omega))) hS96 ?_
          refine yv [] 5 (fun W_ hW_ => (show (binOp .add 9 (sS (([126] : List UInt8) ++ (decW (h.edits)))) (sS ([44] : List UInt8))).run Tryz.prog W_ = .ok (sS ((([126] : List UInt8) ++ (decW (h.edits))) ++ ([44] : List UInt8))) W_ from f_stradd (by simp only [List.length_append, List.length_cons, List.length_nil]; omega))) hS96 ?_
          have hdl97 := decW_len (h.exact)
          refine ycg [] 8 (itoa_m (h.exact) (by omega) w91) hS96 ?_
          rintro _ _ ⟨rfl, rfl⟩
          have hS98 := hM92.sub (sK sR)
          refine ⟨sS (decW (h.exact)), rfl, hS98, ?_⟩
          refine yv [] 9 (fun W_ hW_ => (show (binOp .add 9 (sS ((([126] : List UInt8) ++ (decW (h.edits))) ++ ([44] : List UInt8))) (sS (decW (h.exact)))).run Tryz.prog W_ = .ok (sS (((([126] : List UInt8) ++ (decW (h.edits))) ++ ([44] : List UInt8)) ++ (decW (h.exact)))) W_ from f_stradd (by simp only [List.length_append, List.length_cons, List.length_nil]; omega))) hS98 ?_
          refine yv [] 10 (fun W_ hW_ => (show (binOp .add 9 (sS ((h.field ++ ([58] : List UInt8)) ++ (quoteW (h.text)))) (sS (((([126] : List UInt8) ++ (decW (h.edits))) ++ ([44] : List UInt8)) ++ (decW (h.exact))))).run Tryz.prog W_ = .ok (sS (((h.field ++ ([58] : List UInt8)) ++ (quoteW (h.text))) ++ (((([126] : List UInt8) ++ (decW (h.edits))) ++ ([44] : List UInt8)) ++ (decW (h.exact))))) W_ from f_stradd (by simp only [List.length_append, List.length_cons, List.length_nil]; omega))) hS98 ?_
          refine ydp [11] hS98 ?_
          have hM99 := hM92.sub (sD sR)
          exact xr 6 (v := sS (((h.field ++ ([58] : List UInt8)) ++ (quoteW (h.text))) ++ (((([126] : List UInt8) ++ (decW (h.edits))) ++ ([44] : List UInt8)) ++ (decW (h.exact))))) Tryz.func17 hR ⟨by rw [tx_4 he (by omega)], hM99.none⟩
         ·
          have hM100 := hM77.sub (sD sR)
          exact xr 7 (v := sS ((h.field ++ ([58] : List UInt8)) ++ (quoteW (h.text)))) Tryz.func17 hR ⟨by rw [tx_1 he (by omega)], hM100.none⟩

theorem text_n : ∀ (N : Nat), ∀ (q : Q), bulkQ q ≤ N → ∀ {w : World} (h : Hd) (he : h = q.h) (v : Value) (hq : RdQ w q v) (hb : bulkQ q ≤ 1048576) (hdb : w.cell? ⟨3, 15, none⟩ = some (.int .u8 4)) (hri : rightQ q = true) (hu : numQ q), Calls Tryz.prog 17 #[.agg #[.int .i64 (h.op), sS (h.field), sS (h.text), .int .i64 (h.edits), .int .i64 (h.exact), .int .u64 (h.lo), .int .u64 (h.hi), v]] w (fun e w' => e = .returned (sS (textQ q)) ∧ Mem [] w w' []) := by
 intro N
 induction N with
 | zero => intro q hn; have := bulk_pos q; omega
 | succ N ihn => intro q hn w h he v hq hb hdb hri hu; exact text_s (bulkQ q) (fun c hc => ihn c (by omega)) q h he v hq hb hdb hri hu rfl

theorem text_c {w : World} (q : Q) (h : Hd) (he : h = q.h) (v : Value) (hq : RdQ w q v) (hb : bulkQ q ≤ 1048576) (hdb : w.cell? ⟨3, 15, none⟩ = some (.int .u8 4)) (hri : rightQ q = true) (hu : numQ q) : Calls Tryz.prog 17 #[.agg #[.int .i64 (h.op), sS (h.field), sS (h.text), .int .i64 (h.edits), .int .i64 (h.exact), .int .u64 (h.lo), .int .u64 (h.hi), v]] w (fun e w' => e = .returned (sS (textQ q)) ∧ Mem [] w w' []) := text_n (bulkQ q) q (Nat.le_refl _) h he v hq hb hdb hri hu


end Go.Proofs.YthpodbngljfdmaaGreatDoor


namespace Go.Proofs.YthpodbngljfdmaaGreatDoor
open Go Go.Gw Go.UtfP Go.TokP Go.QryP Go.SynP Go.RealQ Go.SynV Go.RowKit
set_option linter.unusedVariables false
set_option linter.unusedSimpArgs false
set_option maxRecDepth 20000


set_option maxHeartbeats 1000000 in
theorem print_c {w : World} (q : Q) (h : Hd) (he : h = q.h) (v : Value) (hq : RdQ w q v) (hb : bulkQ q ≤ 1048576) (hdb : w.cell? ⟨3, 15, none⟩ = some (.int .u8 4)) (hu : numQ q) :
  Calls Tryz.prog 9 #[.agg #[.int .i64 (h.op), sS (h.field), sS (h.text), .int .i64 (h.edits), .int .i64 (h.exact), .int .u64 (h.lo), .int .u64 (h.hi), v]] w (fun e w' => e = .returned (.tuple #[sS ((printQ q).1), .int .i64 ((printQ q).2)]) ∧ Mem [] w w' []) := by
 obtain ⟨L, hr, hl, hh, hs⟩ := hq.inv
 have hbl : bulkL q.l + q.h.field.length + q.h.text.length + 1 = bulkQ q := by cases q; rw [bulkQ_mk]; rfl
 have hln := bulk_len q.l
 have htl_ := textQ_len q
 refine xe 17 Tryz.func9 (fun R hR => ?_)
 have hM0 := Mem.start w
 refine xx 2 (m_box (T := 25) (k := 8) (u := .agg #[.int .i64 (h.op), sS (h.field), sS (h.text), .int .i64 (h.edits), .int .i64 (h.exact), .int .u64 (h.lo), .int .u64 (h.hi), v]) rfl rfl hM0) (fun b1 w2 hM4 => ?_)
 refine xv 6 (c_loads (ys := [.int .i64 (h.op), sS (h.field), sS (h.text), .int .i64 (h.edits), .int .i64 (h.exact), .int .u64 (h.lo), .int .u64 (h.hi), v]) aE25 (hM4.rd 0 rfl) (cel_obj b1 0) rfl (lq rfl)) ?_
 refine xk 0 (check_c q h he v (hq.kept hM4.kept) (by omega)) (fun w8 m9 => ?_)
 have hM10 : Mem [] w w8 [⟨25, 8, (obj b1), 1, [.int .i64 (h.op), sS (h.field), sS (h.text), .int .i64 (h.edits), .int .i64 (h.exact), .int .u64 (h.lo), .int .u64 (h.hi), v]⟩] := Mem.join (R := []) hM4 m9
 refine xcn 7 ((checkQ q) = 0) (fun h11p => ?_) (fun h11p => ?_)
 ·
  have hM12 := hM10.sub (sD sR)
  exact xr 6 (v := .tuple #[sS ([]), .int .i64 (checkQ q)]) Tryz.func9 hR ⟨by rw [print_bad (by omega)], hM12.none⟩
 ·
  refine xv 3 (c_loads (ys := [.int .i64 (h.op), sS (h.field), sS (h.text), .int .i64 (h.edits), .int .i64 (h.exact), .int .u64 (h.lo), .int .u64 (h.hi), v]) aE25 (hM10.rd 0 rfl) (cel_obj b1 0) rfl (lq rfl)) ?_
  have hM14 := hM10.sub (sD sR)
  refine xk 0 (text_c q h he v (hq.kept hM14.kept) (by omega) (cell_kept hdb hM14.kept) (check_right (by omega)) hu) (fun w15 m16 => ?_)
  have hM17 : Mem [] w w15 [] := Mem.join (R := []) hM14 m16
  refine xn 6 (textQ q) ?_
  refine xc 2 ((((textQ q).length : Nat) : Int) > 8192) (fun h19p => ?_) (fun h19p => ?_)
  ·
   exact xr 5 (v := .tuple #[sS ([]), .int .i64 4]) Tryz.func9 hR ⟨by rw [print_long (by omega) (by omega)], hM17.none⟩
  ·
   exact xr 7 (v := .tuple #[sS (textQ q), .int .i64 0]) Tryz.func9 hR ⟨by rw [print_ok (by omega) (by omega)], hM17.none⟩

set_option maxHeartbeats 1000000 in
theorem awake_c {w : World} (hG : GS [] w) :
  Calls Tryz.prog 8 #[] w (fun e w' => e = .returned (.bool true) ∧ Mem [] w w' []) := by
 refine xe 26 Tryz.func8 (fun R hR => ?_)
 have hM0 := Mem.start w
 refine xcg 6 (synparse_c ([116, 58, 34, 102, 111, 120, 34, 32, 45, 40, 110, 58, 91, 49, 46, 53, 32, 105, 110, 102, 93, 32, 124, 32, 116, 58, 34, 97, 34, 42, 41] : List UInt8) (by decide) (hG.kept hM0.kept)) ?_
 rintro _ w4 ⟨h1, u2, T3, rfl, he5, hqt6, m7⟩
 refine ⟨_, rfl, ?_⟩
 have hpb_ := parse_bulk ([116, 58, 34, 102, 111, 120, 34, 32, 45, 40, 110, 58, 91, 49, 46, 53, 32, 105, 110, 102, 93, 32, 124, 32, 116, 58, 34, 97, 34, 42, 41] : List UInt8)
 have hM8 : Mem [] w w4 (T3) := Mem.join0 (A := []) hM0 m7
 refine xx 4 (m_alloc oT25 hM8) (fun b9 w10 hM12 => ?_)
 refine xst 0 (c_stores (ys := [.int .i64 (h1.op), sS (h1.field), sS (h1.text), .int .i64 (h1.edits), .int .i64 (h1.exact), .int .u64 (h1.lo), .int .u64 (h1.hi), u2]) aE25 hM12 0 rfl (cel_obj b9 0) rfl (by decide) (by intro u hu; simp at hu; rcases hu with rfl | rfl | rfl | rfl | rfl | rfl | rfl | rfl <;> first | rfl | exact (QT.rd hM12 (fun r_ h_ => mS (h_)) hqt6).one.1)) (fun w14 hM16 => ?_)
 refine xv 5 (c_loads (ys := [.int .i64 (h1.op), sS (h1.field), sS (h1.text), .int .i64 (h1.edits), .int .i64 (h1.exact), .int .u64 (h1.lo), .int .u64 (h1.hi), u2]) aE25 (hM16.rd 0 rfl) (cel_obj b9 0) rfl (lq rfl)) ?_
 have hM20 := hM16.sub (sD sR)
 refine xk 0 (print_c (parseQ ([116, 58, 34, 102, 111, 120, 34, 32, 45, 40, 110, 58, 91, 49, 46, 53, 32, 105, 110, 102, 93, 32, 124, 32, 116, 58, 34, 97, 34, 42, 41] : List UInt8)).1 h1 he5 u2 (QT.rd hM20 (fun r_ h_ => h_) hqt6) (by omega) (hG.kept hM20.kept).now.deb (parse_num _)) (fun w21 m22 => ?_)
 have hM23 : Mem [] w w21 (T3) := Mem.join (R := []) hM20 m22
 refine xfc 11 18 ((parseQ ([116, 58, 34, 102, 111, 120, 34, 32, 45, 40, 110, 58, 91, 49, 46, 53, 32, 105, 110, 102, 93, 32, 124, 32, 116, 58, 34, 97, 34, 42, 41] : List UInt8)).2.2 = 0) (fun h24p => ?_) (fun h24p => ?_)
 ·
  refine xfc 4 22 ((printQ ((parseQ ([116, 58, 34, 102, 111, 120, 34, 32, 45, 40, 110, 58, 91, 49, 46, 53, 32, 105, 110, 102, 93, 32, 124, 32, 116, 58, 34, 97, 34, 42, 41] : List UInt8)).1)).2 = 0) (fun h25p => ?_) (fun h25p => ?_)
  ·
   refine xq 1 ((printQ ((parseQ ([116, 58, 34, 102, 111, 120, 34, 32, 45, 40, 110, 58, 91, 49, 46, 53, 32, 105, 110, 102, 93, 32, 124, 32, 116, 58, 34, 97, 34, 42, 41] : List UInt8)).1)).1) ([116, 58, 34, 102, 111, 120, 34, 32, 45, 40, 110, 58, 91, 35, 51, 102, 102, 56, 48, 48, 48, 48, 48, 48, 48, 48, 48, 48, 48, 48, 32, 35, 55, 102, 102, 48, 48, 48, 48, 48, 48, 48, 48, 48, 48, 48, 48, 48, 93, 32, 124, 32, 116, 58, 34, 97, 34, 42, 41] : List UInt8) ?_
   exact xr 3 (v := .bool (decide ((printQ ((parseQ ([116, 58, 34, 102, 111, 120, 34, 32, 45, 40, 110, 58, 91, 49, 46, 53, 32, 105, 110, 102, 93, 32, 124, 32, 116, 58, 34, 97, 34, 42, 41] : List UInt8)).1)).1 = ([116, 58, 34, 102, 111, 120, 34, 32, 45, 40, 110, 58, 91, 35, 51, 102, 102, 56, 48, 48, 48, 48, 48, 48, 48, 48, 48, 48, 48, 48, 32, 35, 55, 102, 102, 48, 48, 48, 48, 48, 48, 48, 48, 48, 48, 48, 48, 48, 93, 32, 124, 32, 116, 58, 34, 97, 34, 42, 41] : List UInt8)))) Tryz.func8 hR ⟨ret_bool (decide_eq_true (congrArg Prod.fst awk_print)), hM23.none⟩
  ·
   have h25 : ((printQ ((parseQ ([116, 58, 34, 102, 111, 120, 34, 32, 45, 40, 110, 58, 91, 49, 46, 53, 32, 105, 110, 102, 93, 32, 124, 32, 116, 58, 34, 97, 34, 42, 41] : List UInt8)).1)).2 == 0) = false := by simpa using h25p
   exact absurd (congrArg Prod.snd awk_print) (ne_of_beq_false h25)
 ·
  have h24 : ((parseQ ([116, 58, 34, 102, 111, 120, 34, 32, 45, 40, 110, 58, 91, 49, 46, 53, 32, 105, 110, 102, 93, 32, 124, 32, 116, 58, 34, 97, 34, 42, 41] : List UInt8)).2.2 == 0) = false := by simpa using h24p
  exact absurd awk_read (ne_of_beq_false h24)


end Go.Proofs.YthpodbngljfdmaaGreatDoor

