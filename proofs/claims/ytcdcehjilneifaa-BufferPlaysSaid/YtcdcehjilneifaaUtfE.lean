/-
  The walk of Encode: the bytes of a list of numbers.
-/
import Derived.Test.YtcdcehjilneifaaUtfF
namespace Go.Proofs.Ytcdcehjilneifaa
open Go Go.Gw Go.UtfP Go.TokP Go.RowKit
set_option linter.unusedVariables false
set_option linter.unusedSimpArgs false
set_option maxRecDepth 20000

theorem sT86 : SliceT Try.prog 86 3 1 8 (.int .i64 0) := ⟨by kernel_rfl, ⟨_, rfl, by kernel_rfl, by kernel_rfl, by kernel_rfl⟩, rfl, by decide⟩
theorem sT104 : SliceT Try.prog 104 5 1 1 (.int .u8 0) := ⟨by kernel_rfl, ⟨_, rfl, by kernel_rfl, by kernel_rfl, by kernel_rfl⟩, rfl, by decide⟩
theorem pE3 : Plain Try.prog 3 := ⟨.int .i64, by kernel_rfl, (fun _ h => by cases h), (fun _ _ h => by cases h)⟩

abbrev uUtfE0 : List Nat := [1,1,0,1,0,0]
abbrev uUtfE1 : List Nat := [1,1,1]
abbrev uUtfE2 : List Nat := [1,1,0,1,0,0,1,1,1]
abbrev uUtfE3 : List Nat := [1,1,0,1,0,0,1,1,0,0,1,1]
abbrev uUtfE4 : List Nat := [1,1,0,1,0,0,1,1]
abbrev uUtfE5 : List Nat := [1,1,0,1,0,0,1,1,0,0,1,0,1]
set_option maxHeartbeats 400000 in
theorem encode_L (v : Value) (l : List Int) {w0 : World} (hv : Rd w0 1 v l.length (ivals .i64 l)) (hlen : l.length * 8 ≤ 140737488355328) (R : Ending → World → Prop) (hR : R = (fun e w' => e = .returned (.tuple #[sS (encT l), .int .i64 (encE l)]) ∧ Mem [] w0 w' [])) : ∀ (N : Nat) (k : Nat) (b : Value) (w : World) (hk : k ≤ l.length) (hw : ∀ j, j < k → whole (l.getD j 0) = true) (hM : Mem [] w0 w [⟨5, 1, b, (List.length (enc (List.take k l))), (ivals .u8 (enc (List.take k l)))⟩]) (hN : l.length - k < N), GoS Try.prog 45 R 82 [iC Try.f45 uUtfE0, iL Try.f45 uUtfE0, .inBlock 0, iC Try.f45 uUtfE1] [(4, b), (8, v), (9, iN l.length), (10, iN k)] w := by
 intro N
 induction N with
 | zero => intro k b w hk hw hM hN; exact absurd hN (Nat.not_lt_zero _)
 | succ N ih =>
  intro k b w hk hw hM hN
  refine GoS.run [4, 8, 9, 10, 11] [.n, .n, .n, .n, .n] _ [iC Try.f45 [1,1,0,1,0,0,1,0], iC Try.f45 uUtfE4, iL Try.f45 uUtfE0, .inBlock 0, iC Try.f45 uUtfE1] [(4, b), (8, v), (9, iN l.length), (10, iN k), (11, .bool (decide (((k : Nat) : Int) < ((l.length : Nat) : Int))))] w (by kernel_rfl) .nil ?_
  refine GoS.cond (decide (((k : Nat) : Int) < ((l.length : Nat) : Int))) [iC Try.f45 [1,1,0,1,0,0,1,0,0], iC Try.f45 uUtfE4, iL Try.f45 uUtfE0, .inBlock 0, iC Try.f45 uUtfE1] [iC Try.f45 [1,1,0,1,0,0,1,0,1], iC Try.f45 uUtfE4, iL Try.f45 uUtfE0, .inBlock 0, iC Try.f45 uUtfE1] (by kernel_rfl) (fun h1 => ?_) (fun h1 => ?_)
  ·
   have h1p : ((k : Nat) : Int) < ((l.length : Nat) : Int) := of_decide_eq_true h1
   refine GoS.run [4, 8, 9, 10] [.n] _ [iC Try.f45 uUtfE4, iL Try.f45 uUtfE0, .inBlock 0, iC Try.f45 uUtfE1] [(4, b), (8, v), (9, iN l.length), (10, iN k)] w (by kernel_rfl) .nil ?_
   obtain ⟨p4, hp5, hq6⟩ := rd_at (i := ((k : Nat) : Int)) sT86 (hv.kept0 hM.kept) k (by omega) (by first | omega | (dsimp only; omega))
   have o7 : (Instr.indexAt 86 (v) (iN k)).run Try.prog w = .ok (.pointer (some p4)) w := hq6 _ _
   have o8 : (Instr.loadAt 3 (.pointer (some p4))).run Try.prog w = .ok (.int .i64 (List.getD l k 0)) w := at_load pE3 (hv.kept0 hM.kept) hp5 (ivals_at (by first | omega | (dsimp only; omega)))
   refine GoS.run [4, 6, 8, 9, 10, 14] [.n, .n, .n, .n, .h (.pointer (some p4)), .h (.int .i64 (List.getD l k 0)), .n, .n, .n, .n, .n, .n] _ [.inRegion (cops (csub (cd Try.f45) [1,1,0,1,0,0,1,1,0,0,1,0,0])) [1,2], iC Try.f45 uUtfE5, iC Try.f45 uUtfE3, .inBlock 1, iC Try.f45 uUtfE2, iL Try.f45 uUtfE0, .inBlock 0, iC Try.f45 uUtfE1] [(4, b), (6, .int .i64 (List.getD l k 0)), (8, v), (9, iN l.length), (10, iN k), (14, .int .i64 (List.getD l k 0))] w (by kernel_rfl) (.cons o7 (.cons o8 .nil)) ?_
   refine GoS.call [4, 6, 8, 9, 10] 57 #[.int .i64 (List.getD l k 0)] (some 15) [.inRegion (cops (csub (cd Try.f45) [1,1,0,1,0,0,1,1,0,0,1,0,0])) [2], iC Try.f45 uUtfE5, iC Try.f45 uUtfE3, .inBlock 1, iC Try.f45 uUtfE2, iL Try.f45 uUtfE0, .inBlock 0, iC Try.f45 uUtfE1] [(4, b), (6, .int .i64 (List.getD l k 0)), (8, v), (9, iN l.length), (10, iN k)] (by kernel_rfl) (whole_c (List.getD l k 0) w) ?_
   rintro _ _ ⟨rfl, rfl⟩
   refine ⟨_, rfl, ?_⟩
   refine GoS.run [4, 6, 8, 9, 10, 16] [.n, .n] _ [iC Try.f45 uUtfE5, iC Try.f45 uUtfE3, .inBlock 1, iC Try.f45 uUtfE2, iL Try.f45 uUtfE0, .inBlock 0, iC Try.f45 uUtfE1] [(4, b), (6, .int .i64 (List.getD l k 0)), (8, v), (9, iN l.length), (10, iN k), (16, .bool (!(whole (List.getD l k 0))))] w (by kernel_rfl) .nil ?_
   refine GoS.cond (!(whole (List.getD l k 0))) [iC Try.f45 [1,1,0,1,0,0,1,1,0,0,1,0,1,0], iC Try.f45 uUtfE3, .inBlock 1, iC Try.f45 uUtfE2, iL Try.f45 uUtfE0, .inBlock 0, iC Try.f45 uUtfE1] [iC Try.f45 [1,1,0,1,0,0,1,1,0,0,1,0,1,1], iC Try.f45 uUtfE3, .inBlock 1, iC Try.f45 uUtfE2, iL Try.f45 uUtfE0, .inBlock 0, iC Try.f45 uUtfE1] (by kernel_rfl) (fun h9 => ?_) (fun h9 => ?_)
   ·
    have hM10 := hM.sub (sD sR)
    refine GoS.run [2, 3] [.n, .n, .n, .n, .n] _ [iC Try.f45 [1,1,0,1,0,0,1,1,0,0,1,0,1,0,1], iC Try.f45 uUtfE3, .inBlock 1, iC Try.f45 uUtfE2, iL Try.f45 uUtfE0, .inBlock 0, iC Try.f45 uUtfE1] [(2, sS ([])), (3, .int .i64 1)] w (by kernel_rfl) .nil ?_
    refine GoS.ret (fn := Try.f45) (v := (.tuple #[sS ([]), .int .i64 1])) Try.func45 (by kernel_rfl) ?_
    rw [hR]
    have e := allW_no (k := k) (by omega) (p_nf h9)
    exact ⟨ret_str2 (by rw [encT, e]; rfl) (by rw [encE, e]; rfl), hM10⟩
   ·
    have h9p : 0 ≤ (List.getD l k 0) ∧ (List.getD l k 0) ≤ 1114111 ∧ ((List.getD l k 0) < 55296 ∨ (List.getD l k 0) > 57343) := whole_iff.1 (p_nt h9)
    refine GoS.run [4, 6, 8, 9, 10] [.n] _ [iC Try.f45 uUtfE3, .inBlock 1, iC Try.f45 uUtfE2, iL Try.f45 uUtfE0, .inBlock 0, iC Try.f45 uUtfE1] [(4, b), (6, .int .i64 (List.getD l k 0)), (8, v), (9, iN l.length), (10, iN k)] w (by kernel_rfl) .nil ?_
    refine GoS.run [4, 6, 8, 9, 10, 38] [.n, .n, .n, .n, .n, .n, .n] _ [iC Try.f45 [1,1,0,1,0,0,1,1,0,0,1,1,0,1], .inBlock 2, .inBlock 1, iC Try.f45 uUtfE2, iL Try.f45 uUtfE0, .inBlock 0, iC Try.f45 uUtfE1] [(4, b), (6, .int .i64 (List.getD l k 0)), (8, v), (9, iN l.length), (10, iN k), (38, .bool (decide ((List.getD l k 0) < 128)))] w (by kernel_rfl) .nil ?_
    refine GoS.cond (decide ((List.getD l k 0) < 128)) [iC Try.f45 [1,1,0,1,0,0,1,1,0,0,1,1,0,1,0], .inBlock 2, .inBlock 1, iC Try.f45 uUtfE2, iL Try.f45 uUtfE0, .inBlock 0, iC Try.f45 uUtfE1] [iC Try.f45 [1,1,0,1,0,0,1,1,0,0,1,1,0,1,1], .inBlock 2, .inBlock 1, iC Try.f45 uUtfE2, iL Try.f45 uUtfE0, .inBlock 0, iC Try.f45 uUtfE1] (by kernel_rfl) (fun h11 => ?_) (fun h11 => ?_)
    ·
     have h11p : (List.getD l k 0) < 128 := of_decide_eq_true h11
     have o21 : (convert 3 5 (.int .i64 (List.getD l k 0))).run Try.prog w = .ok (.int .u8 (List.getD l k 0)) w := f_conv (u := .int .i64) (by kernel_rfl) (by kernel_rfl) (IntWalk.u8_in _ (by omega))
     obtain ⟨v12, w13, hr14, hM15⟩ := m_lit sT104 hM (n := 1) (parts := #[(0, .int .u8 (List.getD l k 0))]) (cs := [.int .u8 (List.getD l k 0)]) (by decide) (by kernel_rfl) rfl
     obtain ⟨v16, w17, hr18, hM19⟩ := m_append sT104 hM15 1 rfl (hM15.rd 0 rfl) (by intro u hu; simp at hu; rcases hu with rfl <;> rfl) (by have h1 := enc_len (List.take k l); have h2 : (List.take k l).length = k := (by rw [List.length_take]; omega); (try dsimp only); omega) (by have h1 := enc_len (List.take k l); have h2 : (List.take k l).length = k := (by rw [List.length_take]; omega); (try dsimp only); omega) 104
     have hM20 : Mem [] w0 w17 [⟨5, 1, v12, 1, [.int .u8 (List.getD l k 0)]⟩, ⟨5, 1, v16, (List.length ((enc (List.take k l)) ++ ([(List.getD l k 0)] : List Int))), (ivals .u8 ((enc (List.take k l)) ++ ([(List.getD l k 0)] : List Int)))⟩] := hM19.cast (by first | (simp [ivals, svals, bvals, nvals, u8s, Nat.add_assoc]; done) | (simp [ivals, svals, bvals, nvals, u8s, Nat.add_assoc]; omega))
     have hM22 := hM20.sub (sD (sK sR))
     refine GoS.run [4, 8, 9, 10] [.n, .n, .n, .h (.int .u8 (List.getD l k 0)), .u (v12) (w13), .u (v16) (w17), .n, .n] _ [.inBlock 2, .inBlock 1, iC Try.f45 uUtfE2, iL Try.f45 uUtfE0, .inBlock 0, iC Try.f45 uUtfE1] [(4, v16), (8, v), (9, iN l.length), (10, iN k)] w17 (by kernel_rfl) (.cons o21 (.cons hr14 (.cons hr18 .nil))) ?_
     have o85 : (binOp .add 3 (iN k) (.int .i64 1)).run Try.prog w17 = .ok (iN (k + 1)) w17 := f_add (by rw [show ((k : Nat) : Int) + 1 = (((k + 1) : Nat) : Int) by omega]; exact IntWalk.i64_in _ (by omega))
     refine GoS.run [4, 8, 9, 10] [.n, .n, .n, .h (iN (k + 1)), .n, .n, .n] _ [iC Try.f45 uUtfE0, iL Try.f45 uUtfE0, .inBlock 0, iC Try.f45 uUtfE1] [(4, v16), (8, v), (9, iN l.length), (10, iN (k + 1))] w17 (by kernel_rfl) (.cons o85 .nil) ?_
     have e : ((enc (List.take k l)) ++ ([(List.getD l k 0)] : List Int)) = enc (List.take (k + 1) l) := by
      rw [take_snoc l (by omega), enc_snoc]
      unfold one
      (repeat' split) <;> first | rfl | omega
     rw [e] at hM22
     exact ih (k + 1) _ _ (by omega) (fun j hj => by rcases Nat.lt_succ_iff_lt_or_eq.1 hj with h | h; exact hw j h; subst h; exact p_nf2 h9) hM22 (by omega)
    ·
     have h11p : ¬ ((List.getD l k 0) < 128) := of_decide_eq_false h11
     refine GoS.run [4, 6, 8, 9, 10, 46] [.n, .n, .n, .n, .n, .n] _ [iC Try.f45 [1,1,0,1,0,0,1,1,0,0,1,1,0,1,1,1], .inBlock 2, .inBlock 1, iC Try.f45 uUtfE2, iL Try.f45 uUtfE0, .inBlock 0, iC Try.f45 uUtfE1] [(4, b), (6, .int .i64 (List.getD l k 0)), (8, v), (9, iN l.length), (10, iN k), (46, .bool (decide ((List.getD l k 0) < 2048)))] w (by kernel_rfl) .nil ?_
     refine GoS.cond (decide ((List.getD l k 0) < 2048)) [iC Try.f45 [1,1,0,1,0,0,1,1,0,0,1,1,0,1,1,1,0], .inBlock 2, .inBlock 1, iC Try.f45 uUtfE2, iL Try.f45 uUtfE0, .inBlock 0, iC Try.f45 uUtfE1] [iC Try.f45 [1,1,0,1,0,0,1,1,0,0,1,1,0,1,1,1,1], .inBlock 2, .inBlock 1, iC Try.f45 uUtfE2, iL Try.f45 uUtfE0, .inBlock 0, iC Try.f45 uUtfE1] (by kernel_rfl) (fun h23 => ?_) (fun h23 => ?_)
     ·
      have h23p : (List.getD l k 0) < 2048 := of_decide_eq_true h23
      have o33 : (binOp .shr 3 (.int .i64 (List.getD l k 0)) (.int .u64 6)).run Try.prog w = .ok (.int .i64 ((List.getD l k 0) / 64)) w := f_shr (by decide) (by rw [show min (Int.toNat 6) (IntKind.bits .i64) = 6 by decide]; exact fdiv_pow _ 6 64 (by decide) (by decide))
      have o34 : (binOp .or 3 (.int .i64 192) (.int .i64 ((List.getD l k 0) / 64))).run Try.prog w = .ok (.int .i64 (192 + ((List.getD l k 0) / 64))) w := f_or (or_i64 6 64 (by decide) (by omega) (by omega) (by omega) (by omega) (by omega))
      have o35 : (convert 3 5 (.int .i64 (192 + ((List.getD l k 0) / 64)))).run Try.prog w = .ok (.int .u8 (192 + ((List.getD l k 0) / 64))) w := f_conv (u := .int .i64) (by kernel_rfl) (by kernel_rfl) (IntWalk.u8_in _ (by omega))
      have o36 : (binOp .and 3 (.int .i64 (List.getD l k 0)) (.int .i64 63)).run Try.prog w = .ok (.int .i64 ((List.getD l k 0) % 64)) w := f_and (and_i64 _ 6 63 (by decide) (by decide))
      have o37 : (binOp .or 3 (.int .i64 128) (.int .i64 ((List.getD l k 0) % 64))).run Try.prog w = .ok (.int .i64 (128 + ((List.getD l k 0) % 64))) w := f_or (or_i64 6 64 (by decide) (by omega) (by omega) (by omega) (by omega) (by omega))
      have o38 : (convert 3 5 (.int .i64 (128 + ((List.getD l k 0) % 64)))).run Try.prog w = .ok (.int .u8 (128 + ((List.getD l k 0) % 64))) w := f_conv (u := .int .i64) (by kernel_rfl) (by kernel_rfl) (IntWalk.u8_in _ (by omega))
      obtain ⟨v24, w25, hr26, hM27⟩ := m_lit sT104 hM (n := 2) (parts := #[(0, .int .u8 (192 + ((List.getD l k 0) / 64))), (1, .int .u8 (128 + ((List.getD l k 0) % 64)))]) (cs := [.int .u8 (192 + ((List.getD l k 0) / 64)), .int .u8 (128 + ((List.getD l k 0) % 64))]) (by decide) (by kernel_rfl) rfl
      obtain ⟨v28, w29, hr30, hM31⟩ := m_append sT104 hM27 1 rfl (hM27.rd 0 rfl) (by intro u hu; simp at hu; rcases hu with rfl | rfl <;> rfl) (by have h1 := enc_len (List.take k l); have h2 : (List.take k l).length = k := (by rw [List.length_take]; omega); (try dsimp only); omega) (by have h1 := enc_len (List.take k l); have h2 : (List.take k l).length = k := (by rw [List.length_take]; omega); (try dsimp only); omega) 104
      have hM32 : Mem [] w0 w29 [⟨5, 1, v24, 2, [.int .u8 (192 + ((List.getD l k 0) / 64)), .int .u8 (128 + ((List.getD l k 0) % 64))]⟩, ⟨5, 1, v28, (List.length ((enc (List.take k l)) ++ ([(192 + ((List.getD l k 0) / 64)), (128 + ((List.getD l k 0) % 64))] : List Int))), (ivals .u8 ((enc (List.take k l)) ++ ([(192 + ((List.getD l k 0) / 64)), (128 + ((List.getD l k 0) % 64))] : List Int)))⟩] := hM31.cast (by first | (simp [ivals, svals, bvals, nvals, u8s, Nat.add_assoc]; done) | (simp [ivals, svals, bvals, nvals, u8s, Nat.add_assoc]; omega))
      have hM39 := hM32.sub (sD (sK sR))
      refine GoS.run [4, 8, 9, 10] [.n, .n, .n, .h (.int .i64 ((List.getD l k 0) / 64)), .h (.int .i64 (192 + ((List.getD l k 0) / 64))), .h (.int .u8 (192 + ((List.getD l k 0) / 64))), .n, .h (.int .i64 ((List.getD l k 0) % 64)), .h (.int .i64 (128 + ((List.getD l k 0) % 64))), .h (.int .u8 (128 + ((List.getD l k 0) % 64))), .u (v24) (w25), .u (v28) (w29), .n, .n] _ [.inBlock 2, .inBlock 1, iC Try.f45 uUtfE2, iL Try.f45 uUtfE0, .inBlock 0, iC Try.f45 uUtfE1] [(4, v28), (8, v), (9, iN l.length), (10, iN k)] w29 (by kernel_rfl) (.cons o33 (.cons o34 (.cons o35 (.cons o36 (.cons o37 (.cons o38 (.cons hr26 (.cons hr30 .nil)))))))) ?_
      have o86 : (binOp .add 3 (iN k) (.int .i64 1)).run Try.prog w29 = .ok (iN (k + 1)) w29 := f_add (by rw [show ((k : Nat) : Int) + 1 = (((k + 1) : Nat) : Int) by omega]; exact IntWalk.i64_in _ (by omega))
      refine GoS.run [4, 8, 9, 10] [.n, .n, .n, .h (iN (k + 1)), .n, .n, .n] _ [iC Try.f45 uUtfE0, iL Try.f45 uUtfE0, .inBlock 0, iC Try.f45 uUtfE1] [(4, v28), (8, v), (9, iN l.length), (10, iN (k + 1))] w29 (by kernel_rfl) (.cons o86 .nil) ?_
      have e : ((enc (List.take k l)) ++ ([(192 + ((List.getD l k 0) / 64)), (128 + ((List.getD l k 0) % 64))] : List Int)) = enc (List.take (k + 1) l) := by
       rw [take_snoc l (by omega), enc_snoc]
       unfold one
       (repeat' split) <;> first | rfl | omega
      rw [e] at hM39
      exact ih (k + 1) _ _ (by omega) (fun j hj => by rcases Nat.lt_succ_iff_lt_or_eq.1 hj with h | h; exact hw j h; subst h; exact p_nf2 h9) hM39 (by omega)
     ·
      have h23p : ¬ ((List.getD l k 0) < 2048) := of_decide_eq_false h23
      refine GoS.run [4, 6, 8, 9, 10, 60] [.n, .n, .n, .n, .n, .n] _ [iC Try.f45 [1,1,0,1,0,0,1,1,0,0,1,1,0,1,1,1,1,1], .inBlock 2, .inBlock 1, iC Try.f45 uUtfE2, iL Try.f45 uUtfE0, .inBlock 0, iC Try.f45 uUtfE1] [(4, b), (6, .int .i64 (List.getD l k 0)), (8, v), (9, iN l.length), (10, iN k), (60, .bool (decide ((List.getD l k 0) < 65536)))] w (by kernel_rfl) .nil ?_
      refine GoS.cond (decide ((List.getD l k 0) < 65536)) [iC Try.f45 [1,1,0,1,0,0,1,1,0,0,1,1,0,1,1,1,1,1,0], .inBlock 2, .inBlock 1, iC Try.f45 uUtfE2, iL Try.f45 uUtfE0, .inBlock 0, iC Try.f45 uUtfE1] [iC Try.f45 [1,1,0,1,0,0,1,1,0,0,1,1,0,1,1,1,1,1,1], .inBlock 2, .inBlock 1, iC Try.f45 uUtfE2, iL Try.f45 uUtfE0, .inBlock 0, iC Try.f45 uUtfE1] (by kernel_rfl) (fun h40 => ?_) (fun h40 => ?_)
      ·
       have h40p : (List.getD l k 0) < 65536 := of_decide_eq_true h40
       have o50 : (binOp .shr 3 (.int .i64 (List.getD l k 0)) (.int .u64 12)).run Try.prog w = .ok (.int .i64 ((List.getD l k 0) / 4096)) w := f_shr (by decide) (by rw [show min (Int.toNat 12) (IntKind.bits .i64) = 12 by decide]; exact fdiv_pow _ 12 4096 (by decide) (by decide))
       have o51 : (binOp .or 3 (.int .i64 224) (.int .i64 ((List.getD l k 0) / 4096))).run Try.prog w = .ok (.int .i64 (224 + ((List.getD l k 0) / 4096))) w := f_or (or_i64 5 32 (by decide) (by omega) (by omega) (by omega) (by omega) (by omega))
       have o52 : (convert 3 5 (.int .i64 (224 + ((List.getD l k 0) / 4096)))).run Try.prog w = .ok (.int .u8 (224 + ((List.getD l k 0) / 4096))) w := f_conv (u := .int .i64) (by kernel_rfl) (by kernel_rfl) (IntWalk.u8_in _ (by omega))
       have o53 : (binOp .shr 3 (.int .i64 (List.getD l k 0)) (.int .u64 6)).run Try.prog w = .ok (.int .i64 ((List.getD l k 0) / 64)) w := f_shr (by decide) (by rw [show min (Int.toNat 6) (IntKind.bits .i64) = 6 by decide]; exact fdiv_pow _ 6 64 (by decide) (by decide))
       have o54 : (binOp .and 3 (.int .i64 ((List.getD l k 0) / 64)) (.int .i64 63)).run Try.prog w = .ok (.int .i64 (((List.getD l k 0) / 64) % 64)) w := f_and (and_i64 _ 6 63 (by decide) (by decide))
       have o55 : (binOp .or 3 (.int .i64 128) (.int .i64 (((List.getD l k 0) / 64) % 64))).run Try.prog w = .ok (.int .i64 (128 + (((List.getD l k 0) / 64) % 64))) w := f_or (or_i64 6 64 (by decide) (by omega) (by omega) (by omega) (by omega) (by omega))
       have o56 : (convert 3 5 (.int .i64 (128 + (((List.getD l k 0) / 64) % 64)))).run Try.prog w = .ok (.int .u8 (128 + (((List.getD l k 0) / 64) % 64))) w := f_conv (u := .int .i64) (by kernel_rfl) (by kernel_rfl) (IntWalk.u8_in _ (by omega))
       have o57 : (binOp .and 3 (.int .i64 (List.getD l k 0)) (.int .i64 63)).run Try.prog w = .ok (.int .i64 ((List.getD l k 0) % 64)) w := f_and (and_i64 _ 6 63 (by decide) (by decide))
       have o58 : (binOp .or 3 (.int .i64 128) (.int .i64 ((List.getD l k 0) % 64))).run Try.prog w = .ok (.int .i64 (128 + ((List.getD l k 0) % 64))) w := f_or (or_i64 6 64 (by decide) (by omega) (by omega) (by omega) (by omega) (by omega))
       have o59 : (convert 3 5 (.int .i64 (128 + ((List.getD l k 0) % 64)))).run Try.prog w = .ok (.int .u8 (128 + ((List.getD l k 0) % 64))) w := f_conv (u := .int .i64) (by kernel_rfl) (by kernel_rfl) (IntWalk.u8_in _ (by omega))
       obtain ⟨v41, w42, hr43, hM44⟩ := m_lit sT104 hM (n := 3) (parts := #[(0, .int .u8 (224 + ((List.getD l k 0) / 4096))), (1, .int .u8 (128 + (((List.getD l k 0) / 64) % 64))), (2, .int .u8 (128 + ((List.getD l k 0) % 64)))]) (cs := [.int .u8 (224 + ((List.getD l k 0) / 4096)), .int .u8 (128 + (((List.getD l k 0) / 64) % 64)), .int .u8 (128 + ((List.getD l k 0) % 64))]) (by decide) (by kernel_rfl) rfl
       obtain ⟨v45, w46, hr47, hM48⟩ := m_append sT104 hM44 1 rfl (hM44.rd 0 rfl) (by intro u hu; simp at hu; rcases hu with rfl | rfl | rfl <;> rfl) (by have h1 := enc_len (List.take k l); have h2 : (List.take k l).length = k := (by rw [List.length_take]; omega); (try dsimp only); omega) (by have h1 := enc_len (List.take k l); have h2 : (List.take k l).length = k := (by rw [List.length_take]; omega); (try dsimp only); omega) 104
       have hM49 : Mem [] w0 w46 [⟨5, 1, v41, 3, [.int .u8 (224 + ((List.getD l k 0) / 4096)), .int .u8 (128 + (((List.getD l k 0) / 64) % 64)), .int .u8 (128 + ((List.getD l k 0) % 64))]⟩, ⟨5, 1, v45, (List.length ((enc (List.take k l)) ++ ([(224 + ((List.getD l k 0) / 4096)), (128 + (((List.getD l k 0) / 64) % 64)), (128 + ((List.getD l k 0) % 64))] : List Int))), (ivals .u8 ((enc (List.take k l)) ++ ([(224 + ((List.getD l k 0) / 4096)), (128 + (((List.getD l k 0) / 64) % 64)), (128 + ((List.getD l k 0) % 64))] : List Int)))⟩] := hM48.cast (by first | (simp [ivals, svals, bvals, nvals, u8s, Nat.add_assoc]; done) | (simp [ivals, svals, bvals, nvals, u8s, Nat.add_assoc]; omega))
       have hM60 := hM49.sub (sD (sK sR))
       refine GoS.run [4, 8, 9, 10] [.n, .n, .n, .h (.int .i64 ((List.getD l k 0) / 4096)), .h (.int .i64 (224 + ((List.getD l k 0) / 4096))), .h (.int .u8 (224 + ((List.getD l k 0) / 4096))), .n, .h (.int .i64 ((List.getD l k 0) / 64)), .h (.int .i64 (((List.getD l k 0) / 64) % 64)), .h (.int .i64 (128 + (((List.getD l k 0) / 64) % 64))), .h (.int .u8 (128 + (((List.getD l k 0) / 64) % 64))), .n, .h (.int .i64 ((List.getD l k 0) % 64)), .h (.int .i64 (128 + ((List.getD l k 0) % 64))), .h (.int .u8 (128 + ((List.getD l k 0) % 64))), .u (v41) (w42), .u (v45) (w46), .n, .n] _ [.inBlock 2, .inBlock 1, iC Try.f45 uUtfE2, iL Try.f45 uUtfE0, .inBlock 0, iC Try.f45 uUtfE1] [(4, v45), (8, v), (9, iN l.length), (10, iN k)] w46 (by kernel_rfl) (.cons o50 (.cons o51 (.cons o52 (.cons o53 (.cons o54 (.cons o55 (.cons o56 (.cons o57 (.cons o58 (.cons o59 (.cons hr43 (.cons hr47 .nil)))))))))))) ?_
       have o87 : (binOp .add 3 (iN k) (.int .i64 1)).run Try.prog w46 = .ok (iN (k + 1)) w46 := f_add (by rw [show ((k : Nat) : Int) + 1 = (((k + 1) : Nat) : Int) by omega]; exact IntWalk.i64_in _ (by omega))
       refine GoS.run [4, 8, 9, 10] [.n, .n, .n, .h (iN (k + 1)), .n, .n, .n] _ [iC Try.f45 uUtfE0, iL Try.f45 uUtfE0, .inBlock 0, iC Try.f45 uUtfE1] [(4, v45), (8, v), (9, iN l.length), (10, iN (k + 1))] w46 (by kernel_rfl) (.cons o87 .nil) ?_
       have e : ((enc (List.take k l)) ++ ([(224 + ((List.getD l k 0) / 4096)), (128 + (((List.getD l k 0) / 64) % 64)), (128 + ((List.getD l k 0) % 64))] : List Int)) = enc (List.take (k + 1) l) := by
        rw [take_snoc l (by omega), enc_snoc]
        unfold one
        (repeat' split) <;> first | rfl | omega
       rw [e] at hM60
       exact ih (k + 1) _ _ (by omega) (fun j hj => by rcases Nat.lt_succ_iff_lt_or_eq.1 hj with h | h; exact hw j h; subst h; exact p_nf2 h9) hM60 (by omega)
      ·
       have h40p : ¬ ((List.getD l k 0) < 65536) := of_decide_eq_false h40
       have o70 : (binOp .shr 3 (.int .i64 (List.getD l k 0)) (.int .u64 18)).run Try.prog w = .ok (.int .i64 ((List.getD l k 0) / 262144)) w := f_shr (by decide) (by rw [show min (Int.toNat 18) (IntKind.bits .i64) = 18 by decide]; exact fdiv_pow _ 18 262144 (by decide) (by decide))
       have o71 : (binOp .or 3 (.int .i64 240) (.int .i64 ((List.getD l k 0) / 262144))).run Try.prog w = .ok (.int .i64 (240 + ((List.getD l k 0) / 262144))) w := f_or (or_i64 4 16 (by decide) (by omega) (by omega) (by omega) (by omega) (by omega))
       have o72 : (convert 3 5 (.int .i64 (240 + ((List.getD l k 0) / 262144)))).run Try.prog w = .ok (.int .u8 (240 + ((List.getD l k 0) / 262144))) w := f_conv (u := .int .i64) (by kernel_rfl) (by kernel_rfl) (IntWalk.u8_in _ (by omega))
       have o73 : (binOp .shr 3 (.int .i64 (List.getD l k 0)) (.int .u64 12)).run Try.prog w = .ok (.int .i64 ((List.getD l k 0) / 4096)) w := f_shr (by decide) (by rw [show min (Int.toNat 12) (IntKind.bits .i64) = 12 by decide]; exact fdiv_pow _ 12 4096 (by decide) (by decide))
       have o74 : (binOp .and 3 (.int .i64 ((List.getD l k 0) / 4096)) (.int .i64 63)).run Try.prog w = .ok (.int .i64 (((List.getD l k 0) / 4096) % 64)) w := f_and (and_i64 _ 6 63 (by decide) (by decide))
       have o75 : (binOp .or 3 (.int .i64 128) (.int .i64 (((List.getD l k 0) / 4096) % 64))).run Try.prog w = .ok (.int .i64 (128 + (((List.getD l k 0) / 4096) % 64))) w := f_or (or_i64 6 64 (by decide) (by omega) (by omega) (by omega) (by omega) (by omega))
       have o76 : (convert 3 5 (.int .i64 (128 + (((List.getD l k 0) / 4096) % 64)))).run Try.prog w = .ok (.int .u8 (128 + (((List.getD l k 0) / 4096) % 64))) w := f_conv (u := .int .i64) (by kernel_rfl) (by kernel_rfl) (IntWalk.u8_in _ (by omega))
       have o77 : (binOp .shr 3 (.int .i64 (List.getD l k 0)) (.int .u64 6)).run Try.prog w = .ok (.int .i64 ((List.getD l k 0) / 64)) w := f_shr (by decide) (by rw [show min (Int.toNat 6) (IntKind.bits .i64) = 6 by decide]; exact fdiv_pow _ 6 64 (by decide) (by decide))
       have o78 : (binOp .and 3 (.int .i64 ((List.getD l k 0) / 64)) (.int .i64 63)).run Try.prog w = .ok (.int .i64 (((List.getD l k 0) / 64) % 64)) w := f_and (and_i64 _ 6 63 (by decide) (by decide))
       have o79 : (binOp .or 3 (.int .i64 128) (.int .i64 (((List.getD l k 0) / 64) % 64))).run Try.prog w = .ok (.int .i64 (128 + (((List.getD l k 0) / 64) % 64))) w := f_or (or_i64 6 64 (by decide) (by omega) (by omega) (by omega) (by omega) (by omega))
       have o80 : (convert 3 5 (.int .i64 (128 + (((List.getD l k 0) / 64) % 64)))).run Try.prog w = .ok (.int .u8 (128 + (((List.getD l k 0) / 64) % 64))) w := f_conv (u := .int .i64) (by kernel_rfl) (by kernel_rfl) (IntWalk.u8_in _ (by omega))
       have o81 : (binOp .and 3 (.int .i64 (List.getD l k 0)) (.int .i64 63)).run Try.prog w = .ok (.int .i64 ((List.getD l k 0) % 64)) w := f_and (and_i64 _ 6 63 (by decide) (by decide))
       have o82 : (binOp .or 3 (.int .i64 128) (.int .i64 ((List.getD l k 0) % 64))).run Try.prog w = .ok (.int .i64 (128 + ((List.getD l k 0) % 64))) w := f_or (or_i64 6 64 (by decide) (by omega) (by omega) (by omega) (by omega) (by omega))
       have o83 : (convert 3 5 (.int .i64 (128 + ((List.getD l k 0) % 64)))).run Try.prog w = .ok (.int .u8 (128 + ((List.getD l k 0) % 64))) w := f_conv (u := .int .i64) (by kernel_rfl) (by kernel_rfl) (IntWalk.u8_in _ (by omega))
       obtain ⟨v61, w62, hr63, hM64⟩ := m_lit sT104 hM (n := 4) (parts := #[(0, .int .u8 (240 + ((List.getD l k 0) / 262144))), (1, .int .u8 (128 + (((List.getD l k 0) / 4096) % 64))), (2, .int .u8 (128 + (((List.getD l k 0) / 64) % 64))), (3, .int .u8 (128 + ((List.getD l k 0) % 64)))]) (cs := [.int .u8 (240 + ((List.getD l k 0) / 262144)), .int .u8 (128 + (((List.getD l k 0) / 4096) % 64)), .int .u8 (128 + (((List.getD l k 0) / 64) % 64)), .int .u8 (128 + ((List.getD l k 0) % 64))]) (by decide) (by kernel_rfl) rfl
       obtain ⟨v65, w66, hr67, hM68⟩ := m_append sT104 hM64 1 rfl (hM64.rd 0 rfl) (by intro u hu; simp at hu; rcases hu with rfl | rfl | rfl | rfl <;> rfl) (by have h1 := enc_len (List.take k l); have h2 : (List.take k l).length = k := (by rw [List.length_take]; omega); (try dsimp only); omega) (by have h1 := enc_len (List.take k l); have h2 : (List.take k l).length = k := (by rw [List.length_take]; omega); (try dsimp only); omega) 104
       have hM69 : Mem [] w0 w66 [⟨5, 1, v61, 4, [.int .u8 (240 + ((List.getD l k 0) / 262144)), .int .u8 (128 + (((List.getD l k 0) / 4096) % 64)), .int .u8 (128 + (((List.getD l k 0) / 64) % 64)), .int .u8 (128 + ((List.getD l k 0) % 64))]⟩, ⟨5, 1, v65, (List.length ((enc (List.take k l)) ++ ([(240 + ((List.getD l k 0) / 262144)), (128 + (((List.getD l k 0) / 4096) % 64)), (128 + (((List.getD l k 0) / 64) % 64)), (128 + ((List.getD l k 0) % 64))] : List Int))), (ivals .u8 ((enc (List.take k l)) ++ ([(240 + ((List.getD l k 0) / 262144)), (128 + (((List.getD l k 0) / 4096) % 64)), (128 + (((List.getD l k 0) / 64) % 64)), (128 + ((List.getD l k 0) % 64))] : List Int)))⟩] := hM68.cast (by first | (simp [ivals, svals, bvals, nvals, u8s, Nat.add_assoc]; done) | (simp [ivals, svals, bvals, nvals, u8s, Nat.add_assoc]; omega))
       have hM84 := hM69.sub (sD (sK sR))
       refine GoS.run [4, 8, 9, 10] [.n, .n, .n, .h (.int .i64 ((List.getD l k 0) / 262144)), .h (.int .i64 (240 + ((List.getD l k 0) / 262144))), .h (.int .u8 (240 + ((List.getD l k 0) / 262144))), .n, .h (.int .i64 ((List.getD l k 0) / 4096)), .h (.int .i64 (((List.getD l k 0) / 4096) % 64)), .h (.int .i64 (128 + (((List.getD l k 0) / 4096) % 64))), .h (.int .u8 (128 + (((List.getD l k 0) / 4096) % 64))), .n, .h (.int .i64 ((List.getD l k 0) / 64)), .h (.int .i64 (((List.getD l k 0) / 64) % 64)), .h (.int .i64 (128 + (((List.getD l k 0) / 64) % 64))), .h (.int .u8 (128 + (((List.getD l k 0) / 64) % 64))), .n, .h (.int .i64 ((List.getD l k 0) % 64)), .h (.int .i64 (128 + ((List.getD l k 0) % 64))), .h (.int .u8 (128 + ((List.getD l k 0) % 64))), .u (v61) (w62), .u (v65) (w66), .n, .n] _ [.inBlock 2, .inBlock 1, iC Try.f45 uUtfE2, iL Try.f45 uUtfE0, .inBlock 0, iC Try.f45 uUtfE1] [(4, v65), (8, v), (9, iN l.length), (10, iN k)] w66 (by kernel_rfl) (.cons o70 (.cons o71 (.cons o72 (.cons o73 (.cons o74 (.cons o75 (.cons o76 (.cons o77 (.cons o78 (.cons o79 (.cons o80 (.cons o81 (.cons o82 (.cons o83 (.cons hr63 (.cons hr67 .nil)))))))))))))))) ?_
       have o88 : (binOp .add 3 (iN k) (.int .i64 1)).run Try.prog w66 = .ok (iN (k + 1)) w66 := f_add (by rw [show ((k : Nat) : Int) + 1 = (((k + 1) : Nat) : Int) by omega]; exact IntWalk.i64_in _ (by omega))
       refine GoS.run [4, 8, 9, 10] [.n, .n, .n, .h (iN (k + 1)), .n, .n, .n] _ [iC Try.f45 uUtfE0, iL Try.f45 uUtfE0, .inBlock 0, iC Try.f45 uUtfE1] [(4, v65), (8, v), (9, iN l.length), (10, iN (k + 1))] w66 (by kernel_rfl) (.cons o88 .nil) ?_
       have e : ((enc (List.take k l)) ++ ([(240 + ((List.getD l k 0) / 262144)), (128 + (((List.getD l k 0) / 4096) % 64)), (128 + (((List.getD l k 0) / 64) % 64)), (128 + ((List.getD l k 0) % 64))] : List Int)) = enc (List.take (k + 1) l) := by
        rw [take_snoc l (by omega), enc_snoc]
        unfold one
        (repeat' split) <;> first | rfl | omega
       rw [e] at hM84
       exact ih (k + 1) _ _ (by omega) (fun j hj => by rcases Nat.lt_succ_iff_lt_or_eq.1 hj with h | h; exact hw j h; subst h; exact p_nf2 h9) hM84 (by omega)
  ·
   have h1p : ¬ (((k : Nat) : Int) < ((l.length : Nat) : Int)) := of_decide_eq_false h1
   have o2 : (convert 104 9 (b)).run Try.prog w = .ok (sS (bytesOf (enc (List.take k l)))) w := f_string_i sT104 (by kernel_rfl) (by kernel_rfl) (hM.rd 0 rfl) (by exact enc_bd (allW_upto hw))
   have hM3 := hM.sub (sD sR)
   refine GoS.run [2, 3] [.n, .n, .n, .n, .h (sS (bytesOf (enc (List.take k l)))), .n, .n, .n] _ [iC Try.f45 [1,1,1,1]] [(2, sS (bytesOf (enc (List.take k l)))), (3, .int .i64 0)] w (by kernel_rfl) (.cons o2 .nil) ?_
   refine GoS.ret (fn := Try.f45) (v := (.tuple #[sS (bytesOf (enc (List.take k l))), .int .i64 0])) Try.func45 (by kernel_rfl) ?_
   rw [hR]
   have e : k = l.length := by omega
   subst e
   have e := allW_all hw
   exact ⟨ret_str2 (by rw [encT, if_pos e, List.take_length]) (by rw [encE, if_pos e]), hM3⟩

set_option maxHeartbeats 400000 in
theorem encode_c (v : Value) (l : List Int) (w : World) (hv : Rd w 1 v l.length (ivals .i64 l)) (hlen : l.length * 8 ≤ 140737488355328) :
  Calls Try.prog 45 #[v] w (fun e w' => e = .returned (.tuple #[sS (encT l), .int .i64 (encE l)]) ∧ Mem [] w w' []) := by
 obtain ⟨R, hR⟩ : ∃ R : Ending → World → Prop, R = (fun e w' => e = .returned (.tuple #[sS (encT l), .int .i64 (encE l)]) ∧ Mem [] w w' []) := ⟨_, rfl⟩
 rw [← hR]
 refine GoS.enter (n := 82) Try.func45 (by kernel_rfl) rfl [(0, v)] (by kernel_rfl) (by kernel_rfl) ?_
 have hM0 := Mem.start w
 obtain ⟨v1, w2, hr3, hM4⟩ := m_lit sT104 hM0 (n := 0) (parts := #[]) (cs := []) (by decide) (by kernel_rfl) rfl
 have o5 : (Builtin.len_ #[86] 3 #[v]).run Try.prog w2 = .ok (iN (List.length l)) w2 := f_slen sT86 (hv.kept0 hM4.kept) 3 _
 refine GoS.run [4, 8, 9, 10] [.n, .n, .n, .n, .n, .n, .n, .u (v1) (w2), .n, .n, .n, .n, .n, .n, .h (iN (List.length l)), .n, .n, .n, .n] _ [iC Try.f45 uUtfE0, iL Try.f45 uUtfE0, .inBlock 0, iC Try.f45 uUtfE1] [(4, v1), (8, v), (9, iN (List.length l)), (10, .int .i64 0)] w2 (by kernel_rfl) (.cons hr3 (.cons o5 .nil)) ?_
 exact encode_L v l hv hlen R hR (l.length + 1) 0 v1 w2 (by omega) (by intro j hj; omega) (hM4.cast (by simp [enc, ivals])) (by omega)


end Go.Proofs.Ytcdcehjilneifaa
