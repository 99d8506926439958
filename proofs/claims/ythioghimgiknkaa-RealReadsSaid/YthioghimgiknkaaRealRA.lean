/-
  The walk of RealReads.
-/
import Derived.Test.YthioghimgiknkaaRealZ
import Derived.Test.YthioghimgiknkaaLend
import Derived.Test.YthioghimgiknkaaRealS
namespace Go.Proofs.Ythioghimgiknkaa
open Go Go.Gw Go.RealP Go.RealQ Go.RowKit
set_option linter.unusedVariables false
set_option linter.unusedSimpArgs false

theorem sT51 : SliceT Try.prog 51 5 1 1 (.int .u8 0) := ⟨by kernel_rfl, ⟨_, rfl, by kernel_rfl, by kernel_rfl, by kernel_rfl⟩, rfl, by decide⟩

theorem ebt (z : Nat) : bytesOf [((z + 48 : Nat) : Int)] = [UInt8.ofNat (48 + z)] := by
  unfold bytesOf; rw [List.map_cons, Int.toNat_natCast, Nat.add_comm]; rfl

set_option maxHeartbeats 400000 in
theorem decimal_L (n0 : Nat) (hn : n0 ≤ 4294967296) {w0 : World} (R : Ending → World → Prop) (hR : R = (fun e w' => e = .returned (.string (sb (decS n0))) ∧ Mem [] w0 w' [])) : ∀ (N : Nat) (n : Nat) (t : List UInt8) (w : World) (hF : decH n ++ t = decS n0) (hn2 : n ≤ n0) (ht : t.length ≤ 11) (hM : Mem [] w0 w []) (hN : n < N), GoS Try.prog 17 R 23 [.code (csub (cd Try.f17) [1,1,0,0,0]), .inLoop (csub (cd Try.f17) [1,1,0,0,0]), .inBlock 0, .code (csub (cd Try.f17) [1,1,1])] [(0, .int .i64 ((n : Nat) : Int)), (3, .string (sb t))] w := by
  intro N
  induction N with
  | zero => intro n t w hF hn2 ht hM hN; exact absurd hN (Nat.not_lt_zero _)
  | succ N ih =>
    intro n t w hF hn2 ht hM hN
    have hdl := decS_lenW hn
    have hfl := congrArg List.length hF
    rw [List.length_append] at hfl
    refine GoS.run [0, 3, 11] [.n, .n, .n, .n, .n, .n] _ [.code (csub (cd Try.f17) [1,1,0,0,0,0,1]), .code (csub (cd Try.f17) [1,1,0,0,0,1]), .inLoop (csub (cd Try.f17) [1,1,0,0,0]), .inBlock 0, .code (csub (cd Try.f17) [1,1,1])] [(0, .int .i64 ((n : Nat) : Int)), (3, .string (sb t)), (11, .bool (decide (((n : Nat) : Int) > 9)))] w (by kernel_rfl) .nil ?_
    refine GoS.cond (decide (((n : Nat) : Int) > 9)) [.code (csub (cd Try.f17) [1,1,0,0,0,0,1,0]), .code (csub (cd Try.f17) [1,1,0,0,0,1]), .inLoop (csub (cd Try.f17) [1,1,0,0,0]), .inBlock 0, .code (csub (cd Try.f17) [1,1,1])] [.code (csub (cd Try.f17) [1,1,0,0,0,0,1,1]), .code (csub (cd Try.f17) [1,1,0,0,0,1]), .inLoop (csub (cd Try.f17) [1,1,0,0,0]), .inBlock 0, .code (csub (cd Try.f17) [1,1,1])] (by kernel_rfl) (fun h1 => ?_) (fun h1 => ?_)
    ·
      have h1p : ((n : Nat) : Int) > 9 := of_decide_eq_true h1
      refine GoS.run [0, 3] [.n] _ [.code (csub (cd Try.f17) [1,1,0,0,0,1]), .inLoop (csub (cd Try.f17) [1,1,0,0,0]), .inBlock 0, .code (csub (cd Try.f17) [1,1,1])] [(0, .int .i64 ((n : Nat) : Int)), (3, .string (sb t))] w (by kernel_rfl) .nil ?_
      have o6 : (binOp .quo 3 (.int .i64 ((n : Nat) : Int)) (.int .i64 10)).run Try.prog w = .ok (.int .i64 (((n / 10) : Nat) : Int)) w := f_quo (by decide) ((IntWalk.i64_quo _ _ (by omega)).trans (by omega))
      have o7 : (binOp .rem 3 (.int .i64 (((n / 10) : Nat) : Int)) (.int .i64 10)).run Try.prog w = .ok (.int .i64 ((((n / 10) % 10) : Nat) : Int)) w := f_rem (by decide) ((IntWalk.rem_in _ _ (by omega)).trans (by omega))
      have o8 : (binOp .add 3 (.int .i64 48) (.int .i64 ((((n / 10) % 10) : Nat) : Int))).run Try.prog w = .ok (.int .i64 (((((n / 10) % 10) + 48) : Nat) : Int)) w := f_add (by rw [show 48 + ((((n / 10) % 10) : Nat) : Int) = (((((n / 10) % 10) + 48) : Nat) : Int) by omega]; exact IntWalk.i64_in _ (by omega))
      have o9 : (convert 3 5 (.int .i64 (((((n / 10) % 10) + 48) : Nat) : Int))).run Try.prog w = .ok (.int .u8 (((((n / 10) % 10) + 48) : Nat) : Int)) w := f_conv (u := .int .i64) (by kernel_rfl) (by kernel_rfl) (IntWalk.u8_in _ (by omega))
      obtain ⟨v2, w3, hr4, hM5⟩ := m_lit sT51 hM (n := 1) (parts := #[(0, .int .u8 (((((n / 10) % 10) + 48) : Nat) : Int))]) (cs := [.int .u8 (((((n / 10) % 10) + 48) : Nat) : Int)]) (by decide) (by kernel_rfl) rfl
      have o10 : (Instr.buildSlice 51 1 #[(0, .int .u8 (((((n / 10) % 10) + 48) : Nat) : Int))]).run Try.prog w = .ok v2 w3 := hr4
      have o11 : (convert 51 9 (v2)).run Try.prog w3 = .ok (.string (sb (bytesOf ([(((((n / 10) % 10) + 48) : Nat) : Int)] : List Int)))) w3 := f_string_i sT51 (by kernel_rfl) (by kernel_rfl) (hM5.rd 0 rfl) (by intro x hx; simp at hx; omega)
      have o12 : (binOp .add 9 (.string (sb (bytesOf ([(((((n / 10) % 10) + 48) : Nat) : Int)] : List Int)))) (.string (sb t))).run Try.prog w3 = .ok (.string (sb ((bytesOf ([(((((n / 10) % 10) + 48) : Nat) : Int)] : List Int)) ++ t))) w3 := f_stradd (by simp [bytesOf]; omega)
      have hM13 : Mem [] w0 w3 [] := hM5.sub (List.Sublist.cons _ (List.Sublist.refl _))
      refine GoS.run [0, 3] [.n, .n, .n, .n, .h (.int .i64 (((n / 10) : Nat) : Int)), .n, .n, .n, .n, .h (.int .i64 ((((n / 10) % 10) : Nat) : Int)), .h (.int .i64 (((((n / 10) % 10) + 48) : Nat) : Int)), .h (.int .u8 (((((n / 10) % 10) + 48) : Nat) : Int)), .u (v2) (w3), .h (.string (sb (bytesOf ([(((((n / 10) % 10) + 48) : Nat) : Int)] : List Int)))), .n, .h (.string (sb ((bytesOf ([(((((n / 10) % 10) + 48) : Nat) : Int)] : List Int)) ++ t))), .n, .n, .n, .n] _ [.code (csub (cd Try.f17) [1,1,0,0,0]), .inLoop (csub (cd Try.f17) [1,1,0,0,0]), .inBlock 0, .code (csub (cd Try.f17) [1,1,1])] [(0, .int .i64 (((n / 10) : Nat) : Int)), (3, .string (sb ((bytesOf ([(((((n / 10) % 10) + 48) : Nat) : Int)] : List Int)) ++ t)))] w3 (by kernel_rfl) (.cons o6 (.cons o7 (.cons o8 (.cons o9 (.cons o10 (.cons o11 (.cons o12 .nil))))))) ?_
      have hs2 := congrArg List.length (dec_step hF (by omega))
      rw [List.length_append] at hs2
      exact GoS.cast (by rw [ebt]) (ih (n / 10) ([UInt8.ofNat (48 + n / 10 % 10)] ++ t) _ (dec_step hF (by omega)) (by omega) (by omega) hM13 (by omega))
    ·
      have h1p : ¬ (((n : Nat) : Int) > 9) := of_decide_eq_false h1
      refine GoS.run [2] [.n, .n, .n, .n, .n, .n] _ [.code (csub (cd Try.f17) [1,1,1,1])] [(2, .string (sb t))] w (by kernel_rfl) .nil ?_
      refine GoS.ret (fn := Try.f17) (v := (.string (sb t))) Try.func17 (by kernel_rfl) ?_
      rw [hR]
      exact ⟨ret_str (dec_done hF (by omega)), hM⟩

set_option maxHeartbeats 400000 in
theorem decimal_c (n0 : Nat) (hn : n0 ≤ 4294967296) (w : World) :
    Calls Try.prog 17 #[.int .i64 ((n0 : Nat) : Int)] w (fun e w' => e = .returned (.string (sb (decS n0))) ∧ Mem [] w w' []) := by
  obtain ⟨R, hR⟩ : ∃ R : Ending → World → Prop, R = (fun e w' => e = .returned (.string (sb (decS n0))) ∧ Mem [] w w' []) := ⟨_, rfl⟩
  rw [← hR]
  refine GoS.enter (n := 23) Try.func17 (by kernel_rfl) rfl [(0, .int .i64 ((n0 : Nat) : Int))] (by kernel_rfl) (by kernel_rfl) ?_
  have hM0 := Mem.start w
  have o5 : (binOp .rem 3 (.int .i64 ((n0 : Nat) : Int)) (.int .i64 10)).run Try.prog w = .ok (.int .i64 (((n0 % 10) : Nat) : Int)) w := f_rem (by decide) ((IntWalk.rem_in _ _ (by omega)).trans (by omega))
  have o6 : (binOp .add 3 (.int .i64 48) (.int .i64 (((n0 % 10) : Nat) : Int))).run Try.prog w = .ok (.int .i64 ((((n0 % 10) + 48) : Nat) : Int)) w := f_add (by rw [show 48 + (((n0 % 10) : Nat) : Int) = ((((n0 % 10) + 48) : Nat) : Int) by omega]; exact IntWalk.i64_in _ (by omega))
  have o7 : (convert 3 5 (.int .i64 ((((n0 % 10) + 48) : Nat) : Int))).run Try.prog w = .ok (.int .u8 ((((n0 % 10) + 48) : Nat) : Int)) w := f_conv (u := .int .i64) (by kernel_rfl) (by kernel_rfl) (IntWalk.u8_in _ (by omega))
  obtain ⟨v1, w2, hr3, hM4⟩ := m_lit sT51 hM0 (n := 1) (parts := #[(0, .int .u8 ((((n0 % 10) + 48) : Nat) : Int))]) (cs := [.int .u8 ((((n0 % 10) + 48) : Nat) : Int)]) (by decide) (by kernel_rfl) rfl
  have o8 : (Instr.buildSlice 51 1 #[(0, .int .u8 ((((n0 % 10) + 48) : Nat) : Int))]).run Try.prog w = .ok v1 w2 := hr3
  have o9 : (convert 51 9 (v1)).run Try.prog w2 = .ok (.string (sb (bytesOf ([((((n0 % 10) + 48) : Nat) : Int)] : List Int)))) w2 := f_string_i sT51 (by kernel_rfl) (by kernel_rfl) (hM4.rd 0 rfl) (by intro x hx; simp at hx; omega)
  have hM10 : Mem [] w w2 [] := hM4.sub (List.Sublist.cons _ (List.Sublist.refl _))
  refine GoS.run [0, 3] [.n, .n, .n, .n, .n, .n, .n, .h (.int .i64 (((n0 % 10) : Nat) : Int)), .h (.int .i64 ((((n0 % 10) + 48) : Nat) : Int)), .h (.int .u8 ((((n0 % 10) + 48) : Nat) : Int)), .u (v1) (w2), .h (.string (sb (bytesOf ([((((n0 % 10) + 48) : Nat) : Int)] : List Int)))), .n, .n, .n, .n, .n] _ [.code (csub (cd Try.f17) [1,1,0,0,0]), .inLoop (csub (cd Try.f17) [1,1,0,0,0]), .inBlock 0, .code (csub (cd Try.f17) [1,1,1])] [(0, .int .i64 ((n0 : Nat) : Int)), (3, .string (sb (bytesOf ([((((n0 % 10) + 48) : Nat) : Int)] : List Int))))] w2 (by kernel_rfl) (.cons o5 (.cons o6 (.cons o7 (.cons o8 (.cons o9 .nil))))) ?_
  exact GoS.cast (by rw [ebt]) (decimal_L n0 hn R hR (n0 + 1) n0 [UInt8.ofNat (48 + n0 % 10)] w2 (by rw [← decS_eq]) (by omega) (by simp) hM10 (by omega))

theorem parse_x (w n : Nat) (T : List UInt8) (hT : T = dec3 n) (hw : w < 4294967296) (hn : n < 1000) (W : World) :
    Calls Try.prog 14 #[.string (sb ((decS w ++ [46]) ++ T))] W (fun e w' => e = .returned (.tuple #[.int .u64 ((ratN (w * 1000 + n) 1000 : Nat) : Int), .int .i64 0]) ∧ W = w') := by
  subst hT
  have hl := decS_lenW (w := w) (by omega)
  have hl3 := dec3_len hn
  have := parse_c ((decS w ++ [46]) ++ dec3 n) (by simp; omega) W
  rwa [(read_x hw hn).1, (read_x hw hn).2] at this

theorem parse_y (w n : Nat) (T : List UInt8) (hT : T = dec3 n) (hw : w < 4294967296) (hn : n < 1000) (W : World) :
    Calls Try.prog 14 #[.string (sb ((([45] ++ decS w) ++ [46]) ++ T))] W (fun e w' => e = .returned (.tuple #[.int .u64 ((ratN (w * 1000 + n) 1000 + 9223372036854775808 : Nat) : Int), .int .i64 0]) ∧ W = w') := by
  subst hT
  have hl := decS_lenW (w := w) (by omega)
  have hl3 := dec3_len hn
  have := parse_c ((([45] ++ decS w) ++ [46]) ++ dec3 n) (by simp; omega) W
  rwa [(read_y hw hn).1, (read_y hw hn).2] at this

theorem parse_z (w n : Nat) (T : List UInt8) (hT : T = dec3 n) (hw : w < 4294967296) (hn : n < 1000) (W : World) :
    Calls Try.prog 14 #[.string (sb ((([48, 48] ++ decS w) ++ [46]) ++ T))] W (fun e w' => e = .returned (.tuple #[.int .u64 ((ratN (w * 1000 + n) 1000 : Nat) : Int), .int .i64 0]) ∧ W = w') := by
  subst hT
  have hl := decS_lenW (w := w) (by omega)
  have hl3 := dec3_len hn
  have := parse_c ((([48, 48] ++ decS w) ++ [46]) ++ dec3 n) (by simp; omega) W
  rwa [(read_z hw hn).1, (read_z hw hn).2] at this

theorem parse_i (w : Nat) (hw : w ≤ 4294967296) (W : World) :
    Calls Try.prog 14 #[.string (sb (decS w))] W (fun e w' => e = .returned (.tuple #[.int .u64 ((ratN w 1 : Nat) : Int), .int .i64 0]) ∧ W = w') := by
  have hl := decS_lenW hw
  have := parse_c (decS w) (by omega) W
  rwa [(read_i hw).1, (read_i hw).2] at this

set_option maxHeartbeats 1000000 in
theorem lreads_L (w p : Nat) (hw : w < 4294967296) (hp : p < 65536) {w0 : World} (R : Ending → World → Prop) (hR : R = (fun e w' => e = .returned (.bool true) ∧ Below w0.heap.size w0 w')) : ∀ (N : Nat) (j : Nat) (W : World) (hj : j + (decS (p % 1000)).length ≤ 3) (hM : Mem [] w0 W []) (hN : 3 - j < N), GoS Try.prog 6 R 125 [.code (csub (cd Try.f6) [1,1,1,1,0,0,0]), .inLoop (csub (cd Try.f6) [1,1,1,1,0,0,0]), .inBlock 0, .code (csub (cd Try.f6) [1,1,1,1,1])] [(0, .int .u32 ((w : Nat) : Int)), (5, .string (sb (decS w))), (6, .int .i64 (((p % 1000) : Nat) : Int)), (7, .string (sb ((List.replicate j 48) ++ (decS (p % 1000)))))] W := by
  intro N
  induction N with
  | zero => intro j W hj hM hN; exact absurd hN (Nat.not_lt_zero _)
  | succ N ih =>
    intro j W hj hM hN
    have hn : p % 1000 < 1000 := Nat.mod_lt _ (by decide)
    have hc := rat_cmp (w := w) (n := p % 1000) hw hn
    have hrx := ratN_lt (a := w * 1000 + p % 1000) (b := 1000) (by omega) (by decide) (by decide)
    have hra := ratN_lt (a := w) (b := 1) (by omega) (by decide) (by decide)
    have hrb := ratN_lt (a := w + 1) (b := 1) (by omega) (by decide) (by decide)
    have hl1 : lessB (ratN (w * 1000 + (p % 1000)) 1000) (ratN (w + 1) 1) = true := by rw [less_rat hrx hrb]; exact decide_eq_true hc.2.1
    have hl2 : lessB (ratN w 1) (ratN (w + 1) 1) = true := by rw [less_rat hra hrb]; exact decide_eq_true (by omega)
    have hwi : withinB (ratN (w * 1000 + (p % 1000)) 1000) (ratN w 1) (ratN (w + 1) 1) = true := by unfold withinB; rw [less_rat hrx hra, less_rat hrb hrx, decide_eq_false (by omega), decide_eq_false (by omega)]; rfl
    have hdl := decS_lenW (w := w) (by omega)
    have hdp := decS_lenW (w := p % 1000) (by omega)
    have o1 : (Builtin.len_ #[9] 3 #[.string (sb ((List.replicate j 48) ++ (decS (p % 1000))))]).run Try.prog W = .ok (.int .i64 ((((List.replicate j 48) ++ (decS (p % 1000))).length : Nat) : Int)) W := f_len (by kernel_rfl)
    refine GoS.run [0, 5, 6, 7, 28] [.n, .n, .n, .n, .h (.int .i64 ((((List.replicate j 48) ++ (decS (p % 1000))).length : Nat) : Int)), .n, .n] _ [.code (csub (cd Try.f6) [1,1,1,1,0,0,0,0,1]), .code (csub (cd Try.f6) [1,1,1,1,0,0,0,1]), .inLoop (csub (cd Try.f6) [1,1,1,1,0,0,0]), .inBlock 0, .code (csub (cd Try.f6) [1,1,1,1,1])] [(0, .int .u32 ((w : Nat) : Int)), (5, .string (sb (decS w))), (6, .int .i64 (((p % 1000) : Nat) : Int)), (7, .string (sb ((List.replicate j 48) ++ (decS (p % 1000))))), (28, .bool (decide (((((List.replicate j 48) ++ (decS (p % 1000))).length : Nat) : Int) < 3)))] W (by kernel_rfl) (.cons o1 .nil) ?_
    refine GoS.cond (decide (((((List.replicate j 48) ++ (decS (p % 1000))).length : Nat) : Int) < 3)) [.code (csub (cd Try.f6) [1,1,1,1,0,0,0,0,1,0]), .code (csub (cd Try.f6) [1,1,1,1,0,0,0,1]), .inLoop (csub (cd Try.f6) [1,1,1,1,0,0,0]), .inBlock 0, .code (csub (cd Try.f6) [1,1,1,1,1])] [.code (csub (cd Try.f6) [1,1,1,1,0,0,0,0,1,1]), .code (csub (cd Try.f6) [1,1,1,1,0,0,0,1]), .inLoop (csub (cd Try.f6) [1,1,1,1,0,0,0]), .inBlock 0, .code (csub (cd Try.f6) [1,1,1,1,1])] (by kernel_rfl) (fun h2 => ?_) (fun h2 => ?_)
    ·
      have h2p : ((((List.replicate j 48) ++ (decS (p % 1000))).length : Nat) : Int) < 3 := of_decide_eq_true h2
      refine GoS.run [0, 5, 6, 7] [.n] _ [.code (csub (cd Try.f6) [1,1,1,1,0,0,0,1]), .inLoop (csub (cd Try.f6) [1,1,1,1,0,0,0]), .inBlock 0, .code (csub (cd Try.f6) [1,1,1,1,1])] [(0, .int .u32 ((w : Nat) : Int)), (5, .string (sb (decS w))), (6, .int .i64 (((p % 1000) : Nat) : Int)), (7, .string (sb ((List.replicate j 48) ++ (decS (p % 1000)))))] W (by kernel_rfl) .nil ?_
      have o28 : (binOp .add 9 (.string (sb ([48] : List UInt8))) (.string (sb ((List.replicate j 48) ++ (decS (p % 1000)))))).run Try.prog W = .ok (.string (sb (([48] : List UInt8) ++ ((List.replicate j 48) ++ (decS (p % 1000)))))) W := f_stradd (by (simp only [List.length_append, List.length_cons, List.length_nil, List.length_replicate]; omega))
      refine GoS.run [0, 5, 6, 7] [.n, .n, .n, .h (.string (sb (([48] : List UInt8) ++ ((List.replicate j 48) ++ (decS (p % 1000)))))), .n, .n, .n, .n] _ [.code (csub (cd Try.f6) [1,1,1,1,0,0,0]), .inLoop (csub (cd Try.f6) [1,1,1,1,0,0,0]), .inBlock 0, .code (csub (cd Try.f6) [1,1,1,1,1])] [(0, .int .u32 ((w : Nat) : Int)), (5, .string (sb (decS w))), (6, .int .i64 (((p % 1000) : Nat) : Int)), (7, .string (sb (([48] : List UInt8) ++ ((List.replicate j 48) ++ (decS (p % 1000))))))] W (by kernel_rfl) (.cons o28 .nil) ?_
      exact GoS.cast (by rw [List.replicate_succ]; rfl) (ih (j + 1) _ (by rw [List.length_append, List.length_replicate] at *; omega) hM (by omega))
    ·
      have h2p : ¬ (((((List.replicate j 48) ++ (decS (p % 1000))).length : Nat) : Int) < 3) := of_decide_eq_false h2
      have o3 : (binOp .add 9 (.string (sb (decS w))) (.string (sb ([46] : List UInt8)))).run Try.prog W = .ok (.string (sb ((decS w) ++ ([46] : List UInt8)))) W := f_stradd (by (simp only [List.length_append, List.length_cons, List.length_nil, List.length_replicate]; omega))
      have o4 : (binOp .add 9 (.string (sb ((decS w) ++ ([46] : List UInt8)))) (.string (sb ((List.replicate j 48) ++ (decS (p % 1000)))))).run Try.prog W = .ok (.string (sb (((decS w) ++ ([46] : List UInt8)) ++ ((List.replicate j 48) ++ (decS (p % 1000)))))) W := f_stradd (by (simp only [List.length_append, List.length_cons, List.length_nil, List.length_replicate]; omega))
      refine GoS.run [0, 5, 6, 7, 35] [.n, .n, .n, .n, .h (.string (sb ((decS w) ++ ([46] : List UInt8)))), .n, .h (.string (sb (((decS w) ++ ([46] : List UInt8)) ++ ((List.replicate j 48) ++ (decS (p % 1000))))))] _ [.inRegion (cops (csub (cd Try.f6) [1,1,1,1,1,0])) [4,5,6,7,8,9], .code (csub (cd Try.f6) [1,1,1,1,1,1])] [(0, .int .u32 ((w : Nat) : Int)), (5, .string (sb (decS w))), (6, .int .i64 (((p % 1000) : Nat) : Int)), (7, .string (sb ((List.replicate j 48) ++ (decS (p % 1000))))), (35, .string (sb (((decS w) ++ ([46] : List UInt8)) ++ ((List.replicate j 48) ++ (decS (p % 1000))))))] W (by kernel_rfl) (.cons o3 (.cons o4 .nil)) ?_
      refine GoS.call [0, 5, 6, 7] 14 #[.string (sb (((decS w) ++ ([46] : List UInt8)) ++ ((List.replicate j 48) ++ (decS (p % 1000)))))] (some 36) [.inRegion (cops (csub (cd Try.f6) [1,1,1,1,1,0])) [5,6,7,8,9], .code (csub (cd Try.f6) [1,1,1,1,1,1])] [(0, .int .u32 ((w : Nat) : Int)), (5, .string (sb (decS w))), (6, .int .i64 (((p % 1000) : Nat) : Int)), (7, .string (sb ((List.replicate j 48) ++ (decS (p % 1000)))))] (by kernel_rfl) (parse_x w (p % 1000) _ (pad_done (by omega) hj (by omega)) hw (by omega) W) ?_
      rintro _ _ ⟨rfl, rfl⟩
      refine ⟨_, rfl, ?_⟩
      have o5 : (binOp .add 9 (.string (sb ([45] : List UInt8))) (.string (sb (decS w)))).run Try.prog W = .ok (.string (sb (([45] : List UInt8) ++ (decS w)))) W := f_stradd (by (simp only [List.length_append, List.length_cons, List.length_nil, List.length_replicate]; omega))
      have o6 : (binOp .add 9 (.string (sb (([45] : List UInt8) ++ (decS w)))) (.string (sb ([46] : List UInt8)))).run Try.prog W = .ok (.string (sb ((([45] : List UInt8) ++ (decS w)) ++ ([46] : List UInt8)))) W := f_stradd (by (simp only [List.length_append, List.length_cons, List.length_nil, List.length_replicate]; omega))
      have o7 : (binOp .add 9 (.string (sb ((([45] : List UInt8) ++ (decS w)) ++ ([46] : List UInt8)))) (.string (sb ((List.replicate j 48) ++ (decS (p % 1000)))))).run Try.prog W = .ok (.string (sb (((([45] : List UInt8) ++ (decS w)) ++ ([46] : List UInt8)) ++ ((List.replicate j 48) ++ (decS (p % 1000)))))) W := f_stradd (by (simp only [List.length_append, List.length_cons, List.length_nil, List.length_replicate]; omega))
      refine GoS.run [0, 5, 6, 7, 8, 9, 44] [.n, .n, .n, .n, .n, .n, .n, .n, .n, .h (.string (sb (([45] : List UInt8) ++ (decS w)))), .h (.string (sb ((([45] : List UInt8) ++ (decS w)) ++ ([46] : List UInt8)))), .n, .h (.string (sb (((([45] : List UInt8) ++ (decS w)) ++ ([46] : List UInt8)) ++ ((List.replicate j 48) ++ (decS (p % 1000))))))] _ [.inRegion (cops (csub (cd Try.f6) [1,1,1,1,1,1,0])) [5,6,7,8,9,10], .code (csub (cd Try.f6) [1,1,1,1,1,1,1])] [(0, .int .u32 ((w : Nat) : Int)), (5, .string (sb (decS w))), (6, .int .i64 (((p % 1000) : Nat) : Int)), (7, .string (sb ((List.replicate j 48) ++ (decS (p % 1000))))), (8, .int .u64 (((ratN (w * 1000 + (p % 1000)) 1000) : Nat) : Int)), (9, .int .i64 0), (44, .string (sb (((([45] : List UInt8) ++ (decS w)) ++ ([46] : List UInt8)) ++ ((List.replicate j 48) ++ (decS (p % 1000))))))] W (by kernel_rfl) (.cons o5 (.cons o6 (.cons o7 .nil))) ?_
      refine GoS.call [0, 5, 6, 7, 8, 9] 14 #[.string (sb (((([45] : List UInt8) ++ (decS w)) ++ ([46] : List UInt8)) ++ ((List.replicate j 48) ++ (decS (p % 1000)))))] (some 45) [.inRegion (cops (csub (cd Try.f6) [1,1,1,1,1,1,0])) [6,7,8,9,10], .code (csub (cd Try.f6) [1,1,1,1,1,1,1])] [(0, .int .u32 ((w : Nat) : Int)), (5, .string (sb (decS w))), (6, .int .i64 (((p % 1000) : Nat) : Int)), (7, .string (sb ((List.replicate j 48) ++ (decS (p % 1000))))), (8, .int .u64 (((ratN (w * 1000 + (p % 1000)) 1000) : Nat) : Int)), (9, .int .i64 0)] (by kernel_rfl) (parse_y w (p % 1000) _ (pad_done (by omega) hj (by omega)) hw (by omega) W) ?_
      rintro _ _ ⟨rfl, rfl⟩
      refine ⟨_, rfl, ?_⟩
      have o8 : (binOp .add 9 (.string (sb ([48, 48] : List UInt8))) (.string (sb (decS w)))).run Try.prog W = .ok (.string (sb (([48, 48] : List UInt8) ++ (decS w)))) W := f_stradd (by (simp only [List.length_append, List.length_cons, List.length_nil, List.length_replicate]; omega))
      have o9 : (binOp .add 9 (.string (sb (([48, 48] : List UInt8) ++ (decS w)))) (.string (sb ([46] : List UInt8)))).run Try.prog W = .ok (.string (sb ((([48, 48] : List UInt8) ++ (decS w)) ++ ([46] : List UInt8)))) W := f_stradd (by (simp only [List.length_append, List.length_cons, List.length_nil, List.length_replicate]; omega))
      have o10 : (binOp .add 9 (.string (sb ((([48, 48] : List UInt8) ++ (decS w)) ++ ([46] : List UInt8)))) (.string (sb ((List.replicate j 48) ++ (decS (p % 1000)))))).run Try.prog W = .ok (.string (sb (((([48, 48] : List UInt8) ++ (decS w)) ++ ([46] : List UInt8)) ++ ((List.replicate j 48) ++ (decS (p % 1000)))))) W := f_stradd (by (simp only [List.length_append, List.length_cons, List.length_nil, List.length_replicate]; omega))
      refine GoS.run [0, 5, 6, 8, 9, 10, 11, 53] [.n, .n, .n, .n, .n, .n, .n, .n, .n, .h (.string (sb (([48, 48] : List UInt8) ++ (decS w)))), .h (.string (sb ((([48, 48] : List UInt8) ++ (decS w)) ++ ([46] : List UInt8)))), .n, .h (.string (sb (((([48, 48] : List UInt8) ++ (decS w)) ++ ([46] : List UInt8)) ++ ((List.replicate j 48) ++ (decS (p % 1000))))))] _ [.inRegion (cops (csub (cd Try.f6) [1,1,1,1,1,1,1,0])) [5,6,7,8,9,10], .code (csub (cd Try.f6) [1,1,1,1,1,1,1,1])] [(0, .int .u32 ((w : Nat) : Int)), (5, .string (sb (decS w))), (6, .int .i64 (((p % 1000) : Nat) : Int)), (8, .int .u64 (((ratN (w * 1000 + (p % 1000)) 1000) : Nat) : Int)), (9, .int .i64 0), (10, .int .u64 ((((ratN (w * 1000 + (p % 1000)) 1000) + 9223372036854775808) : Nat) : Int)), (11, .int .i64 0), (53, .string (sb (((([48, 48] : List UInt8) ++ (decS w)) ++ ([46] : List UInt8)) ++ ((List.replicate j 48) ++ (decS (p % 1000))))))] W (by kernel_rfl) (.cons o8 (.cons o9 (.cons o10 .nil))) ?_
      refine GoS.call [0, 5, 6, 8, 9, 10, 11] 14 #[.string (sb (((([48, 48] : List UInt8) ++ (decS w)) ++ ([46] : List UInt8)) ++ ((List.replicate j 48) ++ (decS (p % 1000)))))] (some 54) [.inRegion (cops (csub (cd Try.f6) [1,1,1,1,1,1,1,0])) [6,7,8,9,10], .code (csub (cd Try.f6) [1,1,1,1,1,1,1,1])] [(0, .int .u32 ((w : Nat) : Int)), (5, .string (sb (decS w))), (6, .int .i64 (((p % 1000) : Nat) : Int)), (8, .int .u64 (((ratN (w * 1000 + (p % 1000)) 1000) : Nat) : Int)), (9, .int .i64 0), (10, .int .u64 ((((ratN (w * 1000 + (p % 1000)) 1000) + 9223372036854775808) : Nat) : Int)), (11, .int .i64 0)] (by kernel_rfl) (parse_z w (p % 1000) _ (pad_done (by omega) hj (by omega)) hw (by omega) W) ?_
      rintro _ _ ⟨rfl, rfl⟩
      refine ⟨_, rfl, ?_⟩
      refine GoS.run [0, 6, 8, 9, 10, 11, 12, 13, 58] [.n, .n, .n, .n, .n, .n, .n, .n, .n] _ [.inRegion (cops (csub (cd Try.f6) [1,1,1,1,1,1,1,1,0])) [1,2,3,4,5,6], .code (csub (cd Try.f6) [1,1,1,1,1,1,1,1,1])] [(0, .int .u32 ((w : Nat) : Int)), (6, .int .i64 (((p % 1000) : Nat) : Int)), (8, .int .u64 (((ratN (w * 1000 + (p % 1000)) 1000) : Nat) : Int)), (9, .int .i64 0), (10, .int .u64 ((((ratN (w * 1000 + (p % 1000)) 1000) + 9223372036854775808) : Nat) : Int)), (11, .int .i64 0), (12, .int .u64 (((ratN (w * 1000 + (p % 1000)) 1000) : Nat) : Int)), (13, .int .i64 0), (58, .string (sb (decS w)))] W (by kernel_rfl) .nil ?_
      refine GoS.call [0, 6, 8, 9, 10, 11, 12, 13] 14 #[.string (sb (decS w))] (some 59) [.inRegion (cops (csub (cd Try.f6) [1,1,1,1,1,1,1,1,0])) [2,3,4,5,6], .code (csub (cd Try.f6) [1,1,1,1,1,1,1,1,1])] [(0, .int .u32 ((w : Nat) : Int)), (6, .int .i64 (((p % 1000) : Nat) : Int)), (8, .int .u64 (((ratN (w * 1000 + (p % 1000)) 1000) : Nat) : Int)), (9, .int .i64 0), (10, .int .u64 ((((ratN (w * 1000 + (p % 1000)) 1000) + 9223372036854775808) : Nat) : Int)), (11, .int .i64 0), (12, .int .u64 (((ratN (w * 1000 + (p % 1000)) 1000) : Nat) : Int)), (13, .int .i64 0)] (by kernel_rfl) (parse_i w (by omega) W) ?_
      rintro _ _ ⟨rfl, rfl⟩
      refine ⟨_, rfl, ?_⟩
      have o11 : (convert 35 3 (.int .u32 ((w : Nat) : Int))).run Try.prog W = .ok (.int .i64 ((w : Nat) : Int)) W := f_conv (u := .int .u32) (by kernel_rfl) (by kernel_rfl) (IntWalk.i64_in _ (by omega))
      have o12 : (binOp .add 3 (.int .i64 ((w : Nat) : Int)) (.int .i64 1)).run Try.prog W = .ok (.int .i64 (((w + 1) : Nat) : Int)) W := f_add (by rw [show ((w : Nat) : Int) + 1 = (((w + 1) : Nat) : Int) by omega]; exact IntWalk.i64_in _ (by omega))
      refine GoS.run [6, 8, 9, 10, 11, 12, 13, 14, 15, 65] [.n, .n, .n, .n, .n, .n, .n, .n, .n, .h (.int .i64 ((w : Nat) : Int)), .h (.int .i64 (((w + 1) : Nat) : Int))] _ [.inRegion (cops (csub (cd Try.f6) [1,1,1,1,1,1,1,1,1,0])) [3,4,5,6,7,8,9], .code (csub (cd Try.f6) [1,1,1,1,1,1,1,1,1,1])] [(6, .int .i64 (((p % 1000) : Nat) : Int)), (8, .int .u64 (((ratN (w * 1000 + (p % 1000)) 1000) : Nat) : Int)), (9, .int .i64 0), (10, .int .u64 ((((ratN (w * 1000 + (p % 1000)) 1000) + 9223372036854775808) : Nat) : Int)), (11, .int .i64 0), (12, .int .u64 (((ratN (w * 1000 + (p % 1000)) 1000) : Nat) : Int)), (13, .int .i64 0), (14, .int .u64 (((ratN w 1) : Nat) : Int)), (15, .int .i64 0), (65, .int .i64 (((w + 1) : Nat) : Int))] W (by kernel_rfl) (.cons o11 (.cons o12 .nil)) ?_
      refine GoS.call [6, 8, 9, 10, 11, 12, 13, 14, 15] 17 #[.int .i64 (((w + 1) : Nat) : Int)] (some 66) [.inRegion (cops (csub (cd Try.f6) [1,1,1,1,1,1,1,1,1,0])) [4,5,6,7,8,9], .code (csub (cd Try.f6) [1,1,1,1,1,1,1,1,1,1])] [(6, .int .i64 (((p % 1000) : Nat) : Int)), (8, .int .u64 (((ratN (w * 1000 + (p % 1000)) 1000) : Nat) : Int)), (9, .int .i64 0), (10, .int .u64 ((((ratN (w * 1000 + (p % 1000)) 1000) + 9223372036854775808) : Nat) : Int)), (11, .int .i64 0), (12, .int .u64 (((ratN (w * 1000 + (p % 1000)) 1000) : Nat) : Int)), (13, .int .i64 0), (14, .int .u64 (((ratN w 1) : Nat) : Int)), (15, .int .i64 0)] (by kernel_rfl) (decimal_c (w + 1) (by omega) W) ?_
      rintro _ w13 ⟨rfl, m14⟩
      refine ⟨_, rfl, ?_⟩
      have hM15 := Mem.join hM m14
      have hdl16 := decS_lenW (w := (w + 1)) (by omega)
      refine GoS.call [6, 8, 9, 10, 11, 12, 13, 14, 15] 14 #[.string (sb (decS (w + 1)))] (some 67) [.inRegion (cops (csub (cd Try.f6) [1,1,1,1,1,1,1,1,1,0])) [5,6,7,8,9], .code (csub (cd Try.f6) [1,1,1,1,1,1,1,1,1,1])] [(6, .int .i64 (((p % 1000) : Nat) : Int)), (8, .int .u64 (((ratN (w * 1000 + (p % 1000)) 1000) : Nat) : Int)), (9, .int .i64 0), (10, .int .u64 ((((ratN (w * 1000 + (p % 1000)) 1000) + 9223372036854775808) : Nat) : Int)), (11, .int .i64 0), (12, .int .u64 (((ratN (w * 1000 + (p % 1000)) 1000) : Nat) : Int)), (13, .int .i64 0), (14, .int .u64 (((ratN w 1) : Nat) : Int)), (15, .int .i64 0)] (by kernel_rfl) (parse_i (w + 1) (by omega) w13) ?_
      rintro _ _ ⟨rfl, rfl⟩
      refine ⟨_, rfl, ?_⟩
      refine GoS.run [6, 8, 9, 10, 11, 12, 13, 14, 15, 16, 17] [.n, .n, .n, .n, .n, .n, .n, .n, .n] _ [.inRegion (cops (csub (cd Try.f6) [1,1,1,1,1,1,1,1,1,1,0,0])) [0,1,2,3,4,5,6,7,8,9,10,11,12,13,14,15,16,17,18,19,20,21], .code (csub (cd Try.f6) [1,1,1,1,1,1,1,1,1,1,0,1]), .code (csub (cd Try.f6) [1,1,1,1,1,1,1,1,1,1,1])] [(6, .int .i64 (((p % 1000) : Nat) : Int)), (8, .int .u64 (((ratN (w * 1000 + (p % 1000)) 1000) : Nat) : Int)), (9, .int .i64 0), (10, .int .u64 ((((ratN (w * 1000 + (p % 1000)) 1000) + 9223372036854775808) : Nat) : Int)), (11, .int .i64 0), (12, .int .u64 (((ratN (w * 1000 + (p % 1000)) 1000) : Nat) : Int)), (13, .int .i64 0), (14, .int .u64 (((ratN w 1) : Nat) : Int)), (15, .int .i64 0), (16, .int .u64 (((ratN (w + 1) 1) : Nat) : Int)), (17, .int .i64 0)] w13 (by kernel_rfl) .nil ?_
      refine GoS.call [6, 8, 9, 10, 11, 12, 13, 14, 15, 16, 17] 8 #[] (some 70) [.inRegion (cops (csub (cd Try.f6) [1,1,1,1,1,1,1,1,1,1,0,0])) [1,2,3,4,5,6,7,8,9,10,11,12,13,14,15,16,17,18,19,20,21], .code (csub (cd Try.f6) [1,1,1,1,1,1,1,1,1,1,0,1]), .code (csub (cd Try.f6) [1,1,1,1,1,1,1,1,1,1,1])] [(6, .int .i64 (((p % 1000) : Nat) : Int)), (8, .int .u64 (((ratN (w * 1000 + (p % 1000)) 1000) : Nat) : Int)), (9, .int .i64 0), (10, .int .u64 ((((ratN (w * 1000 + (p % 1000)) 1000) + 9223372036854775808) : Nat) : Int)), (11, .int .i64 0), (12, .int .u64 (((ratN (w * 1000 + (p % 1000)) 1000) : Nat) : Int)), (13, .int .i64 0), (14, .int .u64 (((ratN w 1) : Nat) : Int)), (15, .int .i64 0), (16, .int .u64 (((ratN (w + 1) 1) : Nat) : Int)), (17, .int .i64 0)] (by kernel_rfl) (awake_c w13) ?_
      rintro _ _ ⟨rfl, rfl⟩
      refine ⟨_, rfl, ?_⟩
      have o17 : (IntKind.i64 = IntKind.i64) ∧ w13 = w13 ∧ Value.bool false = .bool (0 != 0) := ⟨rfl, rfl, congrArg Value.bool (Eq.symm (bne_self_eq_false _))⟩
      have o18 : (IntKind.i64 = IntKind.i64) ∧ w13 = w13 ∧ Value.bool false = .bool (0 != 0) := ⟨rfl, rfl, congrArg Value.bool (Eq.symm (bne_self_eq_false _))⟩
      have o19 : (IntKind.i64 = IntKind.i64) ∧ w13 = w13 ∧ Value.bool false = .bool (0 != 0) := ⟨rfl, rfl, congrArg Value.bool (Eq.symm (bne_self_eq_false _))⟩
      have o20 : (IntKind.i64 = IntKind.i64) ∧ w13 = w13 ∧ Value.bool false = .bool (0 != 0) := ⟨rfl, rfl, congrArg Value.bool (Eq.symm (bne_self_eq_false _))⟩
      have o21 : (IntKind.i64 = IntKind.i64) ∧ w13 = w13 ∧ Value.bool false = .bool (0 != 0) := ⟨rfl, rfl, congrArg Value.bool (Eq.symm (bne_self_eq_false _))⟩
      refine GoS.run [6, 8, 10, 12, 14, 16, 92, 93, 94] [.n, .n, .n, .h (.bool false), .n, .n, .n, .h (.bool false), .n, .n, .n, .h (.bool false), .n, .n, .n, .h (.bool false), .n, .n, .n, .h (.bool false), .n, .n, .n, .n, .n, .n, .n, .n, .n] _ [.inRegion (cops (csub (cd Try.f6) [1,1,1,1,1,1,1,1,1,1,1,0])) [3,4,5,6,7,8,9,10,11,12,13,14,15,16,17,18,19,20,21,22,23,24,25,26,27,28,29,30,31,32,33], .code (csub (cd Try.f6) [1,1,1,1,1,1,1,1,1,1,1,1])] [(6, .int .i64 (((p % 1000) : Nat) : Int)), (8, .int .u64 (((ratN (w * 1000 + (p % 1000)) 1000) : Nat) : Int)), (10, .int .u64 ((((ratN (w * 1000 + (p % 1000)) 1000) + 9223372036854775808) : Nat) : Int)), (12, .int .u64 (((ratN (w * 1000 + (p % 1000)) 1000) : Nat) : Int)), (14, .int .u64 (((ratN w 1) : Nat) : Int)), (16, .int .u64 (((ratN (w + 1) 1) : Nat) : Int)), (92, .int .u64 (((ratN (w * 1000 + (p % 1000)) 1000) : Nat) : Int)), (93, .int .u64 (((ratN w 1) : Nat) : Int)), (94, .int .u64 (((ratN (w + 1) 1) : Nat) : Int))] w13 (by kernel_rfl) (.cons o17 (.cons o18 (.cons o19 (.cons o20 (.cons o21 .nil))))) ?_
      refine GoS.call [6, 8, 10, 12, 14, 16] 11 #[.int .u64 (((ratN (w * 1000 + (p % 1000)) 1000) : Nat) : Int), .int .u64 (((ratN w 1) : Nat) : Int), .int .u64 (((ratN (w + 1) 1) : Nat) : Int)] (some 95) [.inRegion (cops (csub (cd Try.f6) [1,1,1,1,1,1,1,1,1,1,1,0])) [4,5,6,7,8,9,10,11,12,13,14,15,16,17,18,19,20,21,22,23,24,25,26,27,28,29,30,31,32,33], .code (csub (cd Try.f6) [1,1,1,1,1,1,1,1,1,1,1,1])] [(6, .int .i64 (((p % 1000) : Nat) : Int)), (8, .int .u64 (((ratN (w * 1000 + (p % 1000)) 1000) : Nat) : Int)), (10, .int .u64 ((((ratN (w * 1000 + (p % 1000)) 1000) + 9223372036854775808) : Nat) : Int)), (12, .int .u64 (((ratN (w * 1000 + (p % 1000)) 1000) : Nat) : Int)), (14, .int .u64 (((ratN w 1) : Nat) : Int)), (16, .int .u64 (((ratN (w + 1) 1) : Nat) : Int))] (by kernel_rfl) (within_c (ratN (w * 1000 + (p % 1000)) 1000) (ratN w 1) (ratN (w + 1) 1) (by omega) (by omega) (by omega) w13) ?_
      rintro _ _ ⟨rfl, rfl⟩
      refine ⟨_, rfl, ?_⟩
      refine GoS.run [6, 8, 10, 12, 14, 16, 96] [.n] _ [.inRegion (cops (csub (cd Try.f6) [1,1,1,1,1,1,1,1,1,1,1,0])) [5,6,7,8,9,10,11,12,13,14,15,16,17,18,19,20,21,22,23,24,25,26,27,28,29,30,31,32,33], .code (csub (cd Try.f6) [1,1,1,1,1,1,1,1,1,1,1,1])] [(6, .int .i64 (((p % 1000) : Nat) : Int)), (8, .int .u64 (((ratN (w * 1000 + (p % 1000)) 1000) : Nat) : Int)), (10, .int .u64 ((((ratN (w * 1000 + (p % 1000)) 1000) + 9223372036854775808) : Nat) : Int)), (12, .int .u64 (((ratN (w * 1000 + (p % 1000)) 1000) : Nat) : Int)), (14, .int .u64 (((ratN w 1) : Nat) : Int)), (16, .int .u64 (((ratN (w + 1) 1) : Nat) : Int)), (96, .bool (withinB (ratN (w * 1000 + (p % 1000)) 1000) (ratN w 1) (ratN (w + 1) 1)))] w13 (by kernel_rfl) .nil ?_
      refine GoS.fork 96 (withinB (ratN (w * 1000 + (p % 1000)) 1000) (ratN w 1) (ratN (w + 1) 1)) (by kernel_rfl) (fun h22 => ?_) (fun h22 => ?_)
      ·
        have o23 : (binOp .add 22 (.int .u64 (((ratN (w * 1000 + (p % 1000)) 1000) : Nat) : Int)) (.int .u64 9223372036854775808)).run Try.prog w13 = .ok (.int .u64 ((((ratN (w * 1000 + (p % 1000)) 1000) + 9223372036854775808) : Nat) : Int)) w13 := f_add (by rw [show (((ratN (w * 1000 + (p % 1000)) 1000) : Nat) : Int) + 9223372036854775808 = ((((ratN (w * 1000 + (p % 1000)) 1000) + 9223372036854775808) : Nat) : Int) by omega]; exact IntWalk.u64_in _ (by omega))
        have o24 : (IntKind.u64 = IntKind.u64) ∧ w13 = w13 ∧ Value.bool true = .bool (((((ratN (w * 1000 + (p % 1000)) 1000) + 9223372036854775808) : Nat) : Int) == ((((ratN (w * 1000 + (p % 1000)) 1000) + 9223372036854775808) : Nat) : Int)) := ⟨rfl, rfl, congrArg Value.bool (Eq.symm (beq_self_eq_true _))⟩
        have o25 : (IntKind.u64 = IntKind.u64) ∧ w13 = w13 ∧ Value.bool true = .bool ((((ratN (w * 1000 + (p % 1000)) 1000) : Nat) : Int) == (((ratN (w * 1000 + (p % 1000)) 1000) : Nat) : Int)) := ⟨rfl, rfl, congrArg Value.bool (Eq.symm (beq_self_eq_true _))⟩
        have o26 : Try.prog.underlying 4 = some .bool ∧ w13 = w13 ∧ Value.bool true = .bool (((((p % 1000) : Nat) : Int) == 0) == ((((ratN (w * 1000 + (p % 1000)) 1000) : Nat) : Int) == (((ratN w 1) : Nat) : Int))) := ⟨by kernel_rfl, rfl, congrArg Value.bool (Eq.symm (by rw [beq_iff_eq, Bool.eq_iff_iff, beq_iff_eq, beq_iff_eq]; have := hc.2.2; constructor <;> intro h <;> omega))⟩
        refine GoS.run [14, 16, 115, 116, 117] [.n, .n, .h (.int .u64 ((((ratN (w * 1000 + (p % 1000)) 1000) + 9223372036854775808) : Nat) : Int)), .h (.bool true), .n, .n, .n, .n, .h (.bool true), .n, .n, .n, .n, .n, .n, .n, .h (.bool true), .n, .n, .n, .n] _ [.inRegion (cops (csub (cd Try.f6) [1,1,1,1,1,1,1,1,1,1,1,0])) [26,27,28,29,30,31,32,33], .code (csub (cd Try.f6) [1,1,1,1,1,1,1,1,1,1,1,1])] [(14, .int .u64 (((ratN w 1) : Nat) : Int)), (16, .int .u64 (((ratN (w + 1) 1) : Nat) : Int)), (115, .bool true), (116, .int .u64 (((ratN (w * 1000 + (p % 1000)) 1000) : Nat) : Int)), (117, .int .u64 (((ratN (w + 1) 1) : Nat) : Int))] w13 (by kernel_rfl) (.cons o23 (.cons o24 (.cons o25 (.cons o26 .nil)))) ?_
        refine GoS.call [14, 16, 115] 9 #[.int .u64 (((ratN (w * 1000 + (p % 1000)) 1000) : Nat) : Int), .int .u64 (((ratN (w + 1) 1) : Nat) : Int)] (some 118) [.inRegion (cops (csub (cd Try.f6) [1,1,1,1,1,1,1,1,1,1,1,0])) [27,28,29,30,31,32,33], .code (csub (cd Try.f6) [1,1,1,1,1,1,1,1,1,1,1,1])] [(14, .int .u64 (((ratN w 1) : Nat) : Int)), (16, .int .u64 (((ratN (w + 1) 1) : Nat) : Int)), (115, .bool true)] (by kernel_rfl) (less_c (ratN (w * 1000 + (p % 1000)) 1000) (ratN (w + 1) 1) (by omega) (by omega) w13) ?_
        rintro _ _ ⟨rfl, rfl⟩
        refine ⟨_, rfl, ?_⟩
        refine GoS.run [14, 16, 120] [.n, .n] _ [.inRegion (cops (csub (cd Try.f6) [1,1,1,1,1,1,1,1,1,1,1,0])) [29,30,31,32,33], .code (csub (cd Try.f6) [1,1,1,1,1,1,1,1,1,1,1,1])] [(14, .int .u64 (((ratN w 1) : Nat) : Int)), (16, .int .u64 (((ratN (w + 1) 1) : Nat) : Int)), (120, .bool (lessB (ratN (w * 1000 + (p % 1000)) 1000) (ratN (w + 1) 1)))] w13 (by kernel_rfl) .nil ?_
        refine GoS.fork 120 (lessB (ratN (w * 1000 + (p % 1000)) 1000) (ratN (w + 1) 1)) (by kernel_rfl) (fun h27 => ?_) (fun h27 => ?_)
        ·
          refine GoS.run [120, 121, 122] [.n, .n] _ [.inRegion (cops (csub (cd Try.f6) [1,1,1,1,1,1,1,1,1,1,1,0])) [31,32,33], .code (csub (cd Try.f6) [1,1,1,1,1,1,1,1,1,1,1,1])] [(120, .bool true), (121, .int .u64 (((ratN w 1) : Nat) : Int)), (122, .int .u64 (((ratN (w + 1) 1) : Nat) : Int))] w13 (by kernel_rfl) .nil ?_
          refine GoS.call [120] 9 #[.int .u64 (((ratN w 1) : Nat) : Int), .int .u64 (((ratN (w + 1) 1) : Nat) : Int)] (some 123) [.inRegion (cops (csub (cd Try.f6) [1,1,1,1,1,1,1,1,1,1,1,0])) [32,33], .code (csub (cd Try.f6) [1,1,1,1,1,1,1,1,1,1,1,1])] [(120, .bool true)] (by kernel_rfl) (less_c (ratN w 1) (ratN (w + 1) 1) (by omega) (by omega) w13) ?_
          rintro _ _ ⟨rfl, rfl⟩
          refine ⟨_, rfl, ?_⟩
          refine GoS.run [4] [.n, .n] _ [.inRegion (cops (csub (cd Try.f6) [1,1,1,1,1,1,1,1,1,1,1,0])) [], .code (csub (cd Try.f6) [1,1,1,1,1,1,1,1,1,1,1,1])] [(4, .bool (lessB (ratN w 1) (ratN (w + 1) 1)))] w13 (by kernel_rfl) .nil ?_
          refine GoS.run [4] [.n] _ [.code (csub (cd Try.f6) [1,1,1,1,1,1,1,1,1,1,1,1])] [(4, .bool (lessB (ratN w 1) (ratN (w + 1) 1)))] w13 (by kernel_rfl) .nil ?_
          refine GoS.ret (fn := Try.f6) (v := (.bool (lessB (ratN w 1) (ratN (w + 1) 1)))) Try.func6 (by kernel_rfl) ?_
          rw [hR]
          exact ⟨ret_bool hl2, hM15.below⟩
        ·
          rw [hl1] at h27; cases h27
      ·
        rw [hwi] at h22; cases h22

set_option maxHeartbeats 400000 in
theorem lreads_c (w p : Nat) (hw : w < 4294967296) (hp : p < 65536) (W : World) :
    Calls Try.prog 6 #[.int .u32 ((w : Nat) : Int), .int .u16 ((p : Nat) : Int)] W (fun e w' => e = .returned (.bool true) ∧ Below W.heap.size W w') := by
  obtain ⟨R, hR⟩ : ∃ R : Ending → World → Prop, R = (fun e w' => e = .returned (.bool true) ∧ Below W.heap.size W w') := ⟨_, rfl⟩
  rw [← hR]
  refine GoS.enter (n := 125) Try.func6 (by kernel_rfl) rfl [(0, .int .u32 ((w : Nat) : Int)), (1, .int .u16 ((p : Nat) : Int))] (by kernel_rfl) (by kernel_rfl) ?_
  have hM0 := Mem.start W
  have o1 : (convert 35 3 (.int .u32 ((w : Nat) : Int))).run Try.prog W = .ok (.int .i64 ((w : Nat) : Int)) W := f_conv (u := .int .u32) (by kernel_rfl) (by kernel_rfl) (IntWalk.i64_in _ (by omega))
  refine GoS.run [0, 1, 19] [.n, .n, .n, .n, .n, .n, .n, .h (.int .i64 ((w : Nat) : Int))] _ [.inRegion (cops (csub (cd Try.f6) [1,0])) [2,3], .code (csub (cd Try.f6) [1,1])] [(0, .int .u32 ((w : Nat) : Int)), (1, .int .u16 ((p : Nat) : Int)), (19, .int .i64 ((w : Nat) : Int))] W (by kernel_rfl) (.cons o1 .nil) ?_
  refine GoS.call [0, 1] 17 #[.int .i64 ((w : Nat) : Int)] (some 20) [.inRegion (cops (csub (cd Try.f6) [1,0])) [3], .code (csub (cd Try.f6) [1,1])] [(0, .int .u32 ((w : Nat) : Int)), (1, .int .u16 ((p : Nat) : Int))] (by kernel_rfl) (decimal_c w (by omega) W) ?_
  rintro _ w2 ⟨rfl, m3⟩
  refine ⟨_, rfl, ?_⟩
  have hM4 := Mem.join hM0 m3
  have hdl5 := decS_lenW (w := w) (by omega)
  have o6 : (binOp .rem 36 (.int .u16 ((p : Nat) : Int)) (.int .u16 1000)).run Try.prog w2 = .ok (.int .u16 (((p % 1000) : Nat) : Int)) w2 := f_rem (by decide) ((IntWalk.rem_in _ _ (by omega)).trans (by omega))
  have o7 : (convert 36 3 (.int .u16 (((p % 1000) : Nat) : Int))).run Try.prog w2 = .ok (.int .i64 (((p % 1000) : Nat) : Int)) w2 := f_conv (u := .int .u16) (by kernel_rfl) (by kernel_rfl) (IntWalk.i64_in _ (by omega))
  refine GoS.run [0, 5, 6, 24] [.n, .n, .n, .n, .n, .h (.int .u16 (((p % 1000) : Nat) : Int)), .h (.int .i64 (((p % 1000) : Nat) : Int)), .n, .n, .n, .n, .n] _ [.inRegion (cops (csub (cd Try.f6) [1,1,1,0])) [1,2], .code (csub (cd Try.f6) [1,1,1,1])] [(0, .int .u32 ((w : Nat) : Int)), (5, .string (sb (decS w))), (6, .int .i64 (((p % 1000) : Nat) : Int)), (24, .int .i64 (((p % 1000) : Nat) : Int))] w2 (by kernel_rfl) (.cons o6 (.cons o7 .nil)) ?_
  refine GoS.call [0, 5, 6] 17 #[.int .i64 (((p % 1000) : Nat) : Int)] (some 25) [.inRegion (cops (csub (cd Try.f6) [1,1,1,0])) [2], .code (csub (cd Try.f6) [1,1,1,1])] [(0, .int .u32 ((w : Nat) : Int)), (5, .string (sb (decS w))), (6, .int .i64 (((p % 1000) : Nat) : Int))] (by kernel_rfl) (decimal_c (p % 1000) (by omega) w2) ?_
  rintro _ w8 ⟨rfl, m9⟩
  refine ⟨_, rfl, ?_⟩
  have hM10 := Mem.join hM4 m9
  have hdl11 := decS_lenW (w := (p % 1000)) (by omega)
  refine GoS.run [0, 5, 6, 7] [.n, .n, .n, .n, .n] _ [.code (csub (cd Try.f6) [1,1,1,1,0,0,0]), .inLoop (csub (cd Try.f6) [1,1,1,1,0,0,0]), .inBlock 0, .code (csub (cd Try.f6) [1,1,1,1,1])] [(0, .int .u32 ((w : Nat) : Int)), (5, .string (sb (decS w))), (6, .int .i64 (((p % 1000) : Nat) : Int)), (7, .string (sb (decS (p % 1000))))] w8 (by kernel_rfl) .nil ?_
  exact GoS.cast (by simp) (lreads_L w p hw hp R hR 4 0 w8 (by have := decS_len 2 (p % 1000) (by simp; omega); omega) hM10 (by omega))


end Go.Proofs.Ythioghimgiknkaa
