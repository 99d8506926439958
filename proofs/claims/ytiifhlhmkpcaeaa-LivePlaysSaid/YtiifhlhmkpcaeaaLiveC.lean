/-
  The walk of Pack of a set.
-/
import Derived.Test.YtiifhlhmkpcaeaaLiveB
namespace Go.Proofs.Ytiifhlhmkpcaeaa
open Go Go.Gw Go.NumP Go.LiveP Go.RowKit
set_option linter.unusedVariables false
set_option linter.unusedSimpArgs false

theorem pE5 : Plain Try.prog 5 := ⟨.int .u8, by kernel_rfl, (fun _ h => by cases h), (fun _ _ h => by cases h)⟩

set_option maxHeartbeats 400000 in
theorem pack_L (b : Nat) (v : Value) (g : List Bool) (hg : g.length ≤ 1048576) {w0 : World} (k1 : Rd w0 2 (obj b) 1 [v, .int .i64 ((lft g : Nat) : Int)]) (k2 : Rd w0 1 v (List.length g) (bvals g)) (R : Ending → World → Prop) (hR : R = (fun e w' => e = .returned (.string (sb (packG g))) ∧ Mem [] w0 w' [])) : ∀ (N : Nat) (k : Nat) (p : Value) (w : World) (hk : k ≤ g.length) (hM : Mem [] w0 w [⟨5, 1, p, (List.length (packI ((List.length g + 7) / 8) (upto g k))), (ivals .u8 (packI ((List.length g + 7) / 8) (upto g k)))⟩]) (hN : g.length - k < N), GoS Try.prog 17 R 48 [.code (csub (cd Try.f17) [1,1,1,0,1,0,0]), .inLoop (csub (cd Try.f17) [1,1,1,0,1,0,0]), .inBlock 0, .code (csub (cd Try.f17) [1,1,1,1])] [(0, .pointer (some (⟨b, 0, none⟩))), (3, p), (19, v), (20, .int .i64 (((List.length g) : Nat) : Int)), (21, .int .i64 ((k : Nat) : Int))] w := by
  intro N
  induction N with
  | zero => intro k p w hk hM hN; exact absurd hN (Nat.not_lt_zero _)
  | succ N ih =>
    intro k p w hk hM hN
    refine GoS.run [0, 3, 19, 20, 21, 22] [.n, .n, .n, .n, .n] _ [.code (csub (cd Try.f17) [1,1,1,0,1,0,0,1,0]), .code (csub (cd Try.f17) [1,1,1,0,1,0,0,1,1]), .inLoop (csub (cd Try.f17) [1,1,1,0,1,0,0]), .inBlock 0, .code (csub (cd Try.f17) [1,1,1,1])] [(0, .pointer (some (⟨b, 0, none⟩))), (3, p), (19, v), (20, .int .i64 (((List.length g) : Nat) : Int)), (21, .int .i64 ((k : Nat) : Int)), (22, .bool (decide (((k : Nat) : Int) < (((List.length g) : Nat) : Int))))] w (by kernel_rfl) .nil ?_
    refine GoS.cond (decide (((k : Nat) : Int) < (((List.length g) : Nat) : Int))) [.code (csub (cd Try.f17) [1,1,1,0,1,0,0,1,0,0]), .code (csub (cd Try.f17) [1,1,1,0,1,0,0,1,1]), .inLoop (csub (cd Try.f17) [1,1,1,0,1,0,0]), .inBlock 0, .code (csub (cd Try.f17) [1,1,1,1])] [.code (csub (cd Try.f17) [1,1,1,0,1,0,0,1,0,1]), .code (csub (cd Try.f17) [1,1,1,0,1,0,0,1,1]), .inLoop (csub (cd Try.f17) [1,1,1,0,1,0,0]), .inBlock 0, .code (csub (cd Try.f17) [1,1,1,1])] (by kernel_rfl) (fun h1 => ?_) (fun h1 => ?_)
    ·
      have h1p : ((k : Nat) : Int) < (((List.length g) : Nat) : Int) := of_decide_eq_true h1
      refine GoS.run [0, 3, 19, 20, 21] [.n] _ [.code (csub (cd Try.f17) [1,1,1,0,1,0,0,1,1]), .inLoop (csub (cd Try.f17) [1,1,1,0,1,0,0]), .inBlock 0, .code (csub (cd Try.f17) [1,1,1,1])] [(0, .pointer (some (⟨b, 0, none⟩))), (3, p), (19, v), (20, .int .i64 (((List.length g) : Nat) : Int)), (21, .int .i64 ((k : Nat) : Int))] w (by kernel_rfl) .nil ?_
      obtain ⟨p16, hp17, hq18⟩ := rd_at (i := ((k : Nat) : Int)) sT47 (k2.kept0 hM.kept) k (by omega) (by first | omega | (simp only [packI_len]; omega))
      have o19 : (Instr.indexAt 47 (v) (.int .i64 ((k : Nat) : Int))).run Try.prog w = .ok (.pointer (some p16)) w := hq18 _ _
      have o20 : (Instr.loadAt 4 (.pointer (some p16))).run Try.prog w = .ok (.bool (List.getD g k false)) w := at_load pE4 (k2.kept0 hM.kept) hp17 (bvals_at (by first | omega | (simp only [packI_len]; omega)))
      refine GoS.run [0, 3, 4, 19, 20, 21, 26] [.n, .n, .n, .n, .n, .h (.pointer (some p16)), .h (.bool (List.getD g k false)), .n, .n, .n, .n, .n, .n, .n] _ [.code (csub (cd Try.f17) [1,1,1,0,1,0,0,1,1,0,0,1,1]), .inBlock 1, .code (csub (cd Try.f17) [1,1,1,0,1,0,0,1,1,1]), .inLoop (csub (cd Try.f17) [1,1,1,0,1,0,0]), .inBlock 0, .code (csub (cd Try.f17) [1,1,1,1])] [(0, .pointer (some (⟨b, 0, none⟩))), (3, p), (4, .int .i64 ((k : Nat) : Int)), (19, v), (20, .int .i64 (((List.length g) : Nat) : Int)), (21, .int .i64 ((k : Nat) : Int)), (26, .bool (List.getD g k false))] w (by kernel_rfl) (.cons o19 (.cons o20 .nil)) ?_
      refine GoS.cond (List.getD g k false) [.code (csub (cd Try.f17) [1,1,1,0,1,0,0,1,1,0,0,1,1,0]), .inBlock 1, .code (csub (cd Try.f17) [1,1,1,0,1,0,0,1,1,1]), .inLoop (csub (cd Try.f17) [1,1,1,0,1,0,0]), .inBlock 0, .code (csub (cd Try.f17) [1,1,1,1])] [.code (csub (cd Try.f17) [1,1,1,0,1,0,0,1,1,0,0,1,1,1]), .inBlock 1, .code (csub (cd Try.f17) [1,1,1,0,1,0,0,1,1,1]), .inLoop (csub (cd Try.f17) [1,1,1,0,1,0,0]), .inBlock 0, .code (csub (cd Try.f17) [1,1,1,1])] (by kernel_rfl) (fun h21 => ?_) (fun h21 => ?_)
      ·
        obtain ⟨w22, hw23⟩ : ∃ w_, (w).drewN 1 = w_ := ⟨_, rfl⟩
        refine GoS.held (fun W_ => Mem [] w0 W_ []) [] 8 (by kernel_rfl) (by kernel_rfl) 11 (by kernel_rfl) ?_
        rw [hw23]
        have hM24 : Mem [] w0 w22 [⟨5, 1, p, (List.length (packI ((List.length g + 7) / 8) (upto g k))), (ivals .u8 (packI ((List.length g + 7) / 8) (upto g k)))⟩] := hw23 ▸ hM.ext (Kept.drewN _ _ 1)
        have hS25 : Mem [] w0 w22 [] := hM24.sub (List.Sublist.cons _ (List.Sublist.refl _))
        refine GoH.takeV 0 (p) (p) (some 27) (fun W_ => by kernel_rfl) rfl hS25 ?_
        refine GoH.takeV 1 (.int .i64 ((k : Nat) : Int)) (.int .i64 ((k : Nat) : Int)) (some 28) (fun W_ => by kernel_rfl) rfl hS25 ?_
        refine GoH.takeF 2 (.int .i64 (((k / 8) : Nat) : Int)) (fun W_ => (binOp .quo 3 (.int .i64 ((k : Nat) : Int)) (.int .i64 8)).run Try.prog W_ = .ok (.int .i64 (((k / 8) : Nat) : Int)) W_) (some 29) (fun W_ => by kernel_rfl) (fun W_ hW_ => f_quo (by decide) ((IntWalk.i64_quo _ _ (by omega)).trans (by omega))) hS25 ?_
        refine GoH.takeV 5 (.int .i64 ((k : Nat) : Int)) (.int .i64 ((k : Nat) : Int)) (some 32) (fun W_ => by kernel_rfl) rfl hS25 ?_
        refine GoH.takeF 6 (.int .i64 (((k % 8) : Nat) : Int)) (fun W_ => (binOp .rem 3 (.int .i64 ((k : Nat) : Int)) (.int .i64 8)).run Try.prog W_ = .ok (.int .i64 (((k % 8) : Nat) : Int)) W_) (some 33) (fun W_ => by kernel_rfl) (fun W_ hW_ => f_rem (by decide) ((IntWalk.rem_in _ _ (by omega)).trans (by omega))) hS25 ?_
        refine GoH.takeF 7 (.int .u8 (((2 ^ (k % 8)) : Nat) : Int)) (fun W_ => (binOp .shl 5 (.int .u8 1) (.int .i64 (((k % 8) : Nat) : Int))).run Try.prog W_ = .ok (.int .u8 (((2 ^ (k % 8)) : Nat) : Int)) W_) (some 34) (fun W_ => by kernel_rfl) (fun W_ hW_ => f_shl (by omega) (shl8 (by omega))) hS25 ?_
        obtain ⟨p26, hp27, hq28⟩ := rd_at (i := (((k / 8) : Nat) : Int)) sT50 (hM24.rd 0 rfl) (k / 8) (by omega) (by first | omega | (simp only [packI_len]; omega))
        have hS29 : Mem [] w0 w22 [] := hM24.sub (List.Sublist.cons _ (List.Sublist.refl _))
        refine GoH.stepF 3 (.pointer (some p26)) (w22) ((Instr.indexAt 50 (p) (.int .i64 (((k / 8) : Nat) : Int))).run Try.prog w22 = .ok (.pointer (some p26)) w22) (some 30) (by kernel_rfl) (hq28 _ _) (.inr hS29) ?_
        have hS30 : Mem [] w0 w22 [] := hM24.sub (List.Sublist.cons _ (List.Sublist.refl _))
        refine GoH.stepF 4 (.int .u8 (List.getD (packI ((List.length g + 7) / 8) (upto g k)) (k / 8) 0)) (w22) ((Instr.loadAt 5 (.pointer (some p26))).run Try.prog w22 = .ok (.int .u8 (List.getD (packI ((List.length g + 7) / 8) (upto g k)) (k / 8) 0)) w22) (some 31) (by kernel_rfl) (at_load pE5 (hM24.rd 0 rfl) hp27 (ivals_at (by first | omega | (simp only [packI_len]; omega)))) (.inr hS30) ?_
        refine GoH.takeF 8 (.int .u8 ((byteN (upd (upto g k) k) (k / 8) : Nat) : Int)) (fun W_ => (binOp .or 5 (.int .u8 (List.getD (packI ((List.length g + 7) / 8) (upto g k)) (k / 8) 0)) (.int .u8 (((2 ^ (k % 8)) : Nat) : Int))).run Try.prog W_ = .ok (.int .u8 ((byteN (upd (upto g k) k) (k / 8) : Nat) : Int)) W_) (some 35) (fun W_ => by kernel_rfl) (fun W_ hW_ => f_or ((by rw [packI_get _ (by omega)]; exact byteN_or (upto_self g k)))) hS30 ?_
        obtain ⟨p31, hp32, hq33⟩ := rd_at (i := (((k / 8) : Nat) : Int)) sT50 (hM24.rd 0 rfl) (k / 8) (by omega) (by first | omega | (simp only [packI_len]; omega))
        have hS34 : Mem [] w0 w22 [] := hM24.sub (List.Sublist.cons _ (List.Sublist.refl _))
        refine GoH.stepF 9 (.pointer (some p31)) (w22) ((Instr.indexAt 50 (p) (.int .i64 (((k / 8) : Nat) : Int))).run Try.prog w22 = .ok (.pointer (some p31)) w22) (some 36) (by kernel_rfl) (hq33 _ _) (.inr hS34) ?_
        obtain ⟨w35, hr36, hM37⟩ := at_store (u := .int .u8 ((byteN (upd (upto g k) k) (k / 8) : Nat) : Int)) (by kernel_rfl) hM24 0 rfl hp32 (by first | omega | (simp only [packI_len]; omega)) rfl rfl
        have hM38 : Mem [] w0 w35 [⟨5, 1, p, (List.length (packI ((List.length g + 7) / 8) (upto g k))), (ivals .u8 (List.set (packI ((List.length g + 7) / 8) (upto g k)) (k / 8) ((byteN (upd (upto g k) k) (k / 8) : Nat) : Int)))⟩] := hM37.cast (by simp [ivals, svals, bvals, nvals, u8s, List.map_set])
        have hS39 : Mem [] w0 w35 [] := hM38.sub (List.Sublist.cons _ (List.Sublist.refl _))
        refine GoH.stepF 10 (undef) (w35) ((Instr.storeAt 5 (.pointer (some p31)) (.int .u8 ((byteN (upd (upto g k) k) (k / 8) : Nat) : Int))).run Try.prog w22 = .ok () w35 ∧ undef = undef) none (by kernel_rfl) (⟨hr36, rfl⟩) (.inr hS39) ?_
        refine GoH.done [0, 3, 19, 20, 21] [(0, .pointer (some (⟨b, 0, none⟩))), (3, p), (19, v), (20, .int .i64 (((List.length g) : Nat) : Int)), (21, .int .i64 ((k : Nat) : Int))] (by kernel_rfl) (by kernel_rfl) ?_
        have o40 : (binOp .add 3 (.int .i64 ((k : Nat) : Int)) (.int .i64 1)).run Try.prog w35 = .ok (.int .i64 (((k + 1) : Nat) : Int)) w35 := f_add (by rw [show ((k : Nat) : Int) + 1 = (((k + 1) : Nat) : Int) by omega]; exact IntWalk.i64_in _ (by omega))
        refine GoS.run [0, 3, 19, 20, 21] [.n, .n, .h (.int .i64 (((k + 1) : Nat) : Int)), .n, .n, .n] _ [.code (csub (cd Try.f17) [1,1,1,0,1,0,0]), .inLoop (csub (cd Try.f17) [1,1,1,0,1,0,0]), .inBlock 0, .code (csub (cd Try.f17) [1,1,1,1])] [(0, .pointer (some (⟨b, 0, none⟩))), (3, p), (19, v), (20, .int .i64 (((List.length g) : Nat) : Int)), (21, .int .i64 (((k + 1) : Nat) : Int))] w35 (by kernel_rfl) (.cons o40 .nil) ?_
        exact ih (k + 1) _ _ (by omega) (hM38.cast (by rw [packI_set (by omega), ← upto_yes h21, packI_len, packI_len])) (by omega)
      ·
        refine GoS.run [0, 3, 19, 20, 21] [.n] _ [.inBlock 1, .code (csub (cd Try.f17) [1,1,1,0,1,0,0,1,1,1]), .inLoop (csub (cd Try.f17) [1,1,1,0,1,0,0]), .inBlock 0, .code (csub (cd Try.f17) [1,1,1,1])] [(0, .pointer (some (⟨b, 0, none⟩))), (3, p), (19, v), (20, .int .i64 (((List.length g) : Nat) : Int)), (21, .int .i64 ((k : Nat) : Int))] w (by kernel_rfl) .nil ?_
        have o41 : (binOp .add 3 (.int .i64 ((k : Nat) : Int)) (.int .i64 1)).run Try.prog w = .ok (.int .i64 (((k + 1) : Nat) : Int)) w := f_add (by rw [show ((k : Nat) : Int) + 1 = (((k + 1) : Nat) : Int) by omega]; exact IntWalk.i64_in _ (by omega))
        refine GoS.run [0, 3, 19, 20, 21] [.n, .n, .h (.int .i64 (((k + 1) : Nat) : Int)), .n, .n, .n] _ [.code (csub (cd Try.f17) [1,1,1,0,1,0,0]), .inLoop (csub (cd Try.f17) [1,1,1,0,1,0,0]), .inBlock 0, .code (csub (cd Try.f17) [1,1,1,1])] [(0, .pointer (some (⟨b, 0, none⟩))), (3, p), (19, v), (20, .int .i64 (((List.length g) : Nat) : Int)), (21, .int .i64 (((k + 1) : Nat) : Int))] w (by kernel_rfl) (.cons o41 .nil) ?_
        exact ih (k + 1) _ _ (by omega) (hM.cast (by rw [upto_no h21])) (by omega)
    ·
      have h1p : ¬ (((k : Nat) : Int) < (((List.length g) : Nat) : Int)) := of_decide_eq_false h1
      refine GoS.run [0, 3] [.n, .n] _ [.code (csub (cd Try.f17) [1,1,1,1,0]), .code (csub (cd Try.f17) [1,1,1,1,1])] [(0, .pointer (some (⟨b, 0, none⟩))), (3, p)] w (by kernel_rfl) .nil ?_
      obtain ⟨w2, hw3⟩ : ∃ w_, (w).drewN 1 = w_ := ⟨_, rfl⟩
      refine GoS.held (fun W_ => Mem [] w0 W_ [⟨5, 1, p, (List.length (packI ((List.length g + 7) / 8) (upto g k))), (ivals .u8 (packI ((List.length g + 7) / 8) (upto g k)))⟩]) [] 10 (by kernel_rfl) (by kernel_rfl) 11 (by kernel_rfl) ?_
      rw [hw3]
      have hM4 : Mem [] w0 w2 [⟨5, 1, p, (List.length (packI ((List.length g + 7) / 8) (upto g k))), (ivals .u8 (packI ((List.length g + 7) / 8) (upto g k)))⟩] := hw3 ▸ hM.ext (Kept.drewN _ _ 1)
      have hS5 : Mem [] w0 w2 [⟨5, 1, p, (List.length (packI ((List.length g + 7) / 8) (upto g k))), (ivals .u8 (packI ((List.length g + 7) / 8) (upto g k)))⟩] := hM4.sub (List.Sublist.cons_cons _ (List.Sublist.refl _))
      refine GoH.takeV 0 (.pointer (some (⟨b, 0, none⟩))) (.pointer (some (⟨b, 0, none⟩))) (some 38) (fun W_ => by kernel_rfl) rfl hS5 ?_
      refine GoH.takeV 1 (.pointer (some (⟨b, 0, none⟩))) (.pointer (some (⟨b, 0, none⟩))) (some 39) (fun W_ => by kernel_rfl) rfl hS5 ?_
      refine GoH.takeV 2 (.pointer (some (⟨b, 0, none⟩))) (.pointer (some (⟨b, 0, none⟩))) (some 40) (fun W_ => by kernel_rfl) rfl hS5 ?_
      refine GoH.takeF 3 (v) (fun W_ => (Instr.loadAt 47 (.pointer (some (⟨b, 0, none⟩)))).run Try.prog W_ = .ok (v) W_) (some 41) (fun W_ => by kernel_rfl) (fun W_ hW_ => c_load pE47 (k1.kept0 hW_.kept) (cel_obj b 0) rfl) hS5 ?_
      refine GoH.takeF 4 (.int .i64 (((List.length g) : Nat) : Int)) (fun W_ => (Builtin.len_ #[47] 3 #[v]).run Try.prog W_ = .ok (.int .i64 (((List.length g) : Nat) : Int)) W_) (some 42) (fun W_ => by kernel_rfl) (fun W_ hW_ => f_slen sT47 (k2.kept0 hW_.kept) 3 _) hS5 ?_
      refine GoH.takeV 7 (p) (p) (some 45) (fun W_ => by kernel_rfl) rfl hS5 ?_
      refine GoH.takeF 8 (.string (sb (bytesOf (packI ((List.length g + 7) / 8) (upto g k))))) (fun W_ => (convert 50 9 (p)).run Try.prog W_ = .ok (.string (sb (bytesOf (packI ((List.length g + 7) / 8) (upto g k))))) W_) (some 46) (fun W_ => by kernel_rfl) (fun W_ hW_ => f_string_i sT50 (by kernel_rfl) (by kernel_rfl) (hW_.rd 0 rfl) (by exact packI_bd _ _)) hS5 ?_
      obtain ⟨v6, w7, hr8, hM9⟩ := m_lit sT38 hM4 (n := 1) (parts := #[(0, .int .i64 (((List.length g) : Nat) : Int))]) (cs := [.int .i64 (((List.length g) : Nat) : Int)]) (by decide) (by kernel_rfl) rfl
      have hS10 : Mem [] w0 w7 [⟨5, 1, p, (List.length (packI ((List.length g + 7) / 8) (upto g k))), (ivals .u8 (packI ((List.length g + 7) / 8) (upto g k)))⟩] := hM9.sub (List.Sublist.cons _ (List.Sublist.cons_cons _ (List.Sublist.refl _)))
      refine GoH.stepF 5 (v6) (w7) ((Instr.buildSlice 38 1 #[(0, .int .i64 (((List.length g) : Nat) : Int))]).run Try.prog w2 = .ok v6 w7) (some 43) (by kernel_rfl) (hr8) (.inr hS10) ?_
      refine GoH.callF 6 21 #[v6] (some 44) (by kernel_rfl) (nums_c v6 ([(((List.length g) : Nat) : Int)] : List Int) (by first | exact one_bd (by omega) | simp) (by first | (simp; done) | (simp; omega)) w7 (hM9.rd 0 rfl)) ?_
      rintro _ w11 ⟨rfl, m12⟩
      have hM13 := Mem.join hM9 m12
      have hS14 : Mem [] w0 w11 [⟨5, 1, p, (List.length (packI ((List.length g + 7) / 8) (upto g k))), (ivals .u8 (packI ((List.length g + 7) / 8) (upto g k)))⟩] := hM13.sub (List.Sublist.cons _ (List.Sublist.cons_cons _ (List.Sublist.refl _)))
      refine ⟨.string (sb (bytesOf (numsB ([(((List.length g) : Nat) : Int)] : List Int)))), rfl, .inr hS14, ?_⟩
      refine GoH.takeF 9 (.string (sb ((bytesOf (numsB ([(((List.length g) : Nat) : Int)] : List Int))) ++ (bytesOf (packI ((List.length g + 7) / 8) (upto g k)))))) (fun W_ => (binOp .add 9 (.string (sb (bytesOf (numsB ([(((List.length g) : Nat) : Int)] : List Int))))) (.string (sb (bytesOf (packI ((List.length g + 7) / 8) (upto g k)))))).run Try.prog W_ = .ok (.string (sb ((bytesOf (numsB ([(((List.length g) : Nat) : Int)] : List Int))) ++ (bytesOf (packI ((List.length g + 7) / 8) (upto g k)))))) W_) (some 47) (fun W_ => by kernel_rfl) (fun W_ hW_ => f_stradd (by (have q1 := numsB_len [((List.length g : Nat) : Int)]; simp only [bytesOf_len, packI_len, List.length_cons, List.length_nil] at *; omega))) hS14 ?_
      refine GoH.takeV 10 (.string (sb ((bytesOf (numsB ([(((List.length g) : Nat) : Int)] : List Int))) ++ (bytesOf (packI ((List.length g + 7) / 8) (upto g k)))))) (.string (sb ((bytesOf (numsB ([(((List.length g) : Nat) : Int)] : List Int))) ++ (bytesOf (packI ((List.length g + 7) / 8) (upto g k)))))) (some 2) (fun W_ => by kernel_rfl) rfl hS14 ?_
      refine GoH.done [2] [(2, .string (sb ((bytesOf (numsB ([(((List.length g) : Nat) : Int)] : List Int))) ++ (bytesOf (packI ((List.length g + 7) / 8) (upto g k))))))] (by kernel_rfl) (by kernel_rfl) ?_
      have hM15 : Mem [] w0 w11 [] := hM13.sub (List.Sublist.cons _ (List.Sublist.cons _ (List.Sublist.refl _)))
      refine GoS.ret (fn := Try.f17) (v := (.string (sb ((bytesOf (numsB ([(((List.length g) : Nat) : Int)] : List Int))) ++ (bytesOf (packI ((List.length g + 7) / 8) (upto g k))))))) Try.func17 (by kernel_rfl) ?_
      rw [hR]
      exact ⟨ret_str (packG_eq (by omega)), hM15⟩

set_option maxHeartbeats 400000 in
theorem pack_c (b : Nat) (v : Value) (g : List Bool) (hg : g.length ≤ 1048576) (w : World) (k1 : Rd w 2 (obj b) 1 [v, .int .i64 ((lft g : Nat) : Int)]) (k2 : Rd w 1 v (List.length g) (bvals g)) :
    Calls Try.prog 17 #[.pointer (some (⟨b, 0, none⟩))] w (fun e w' => e = .returned (.string (sb (packG g))) ∧ Mem [] w w' []) := by
  obtain ⟨R, hR⟩ : ∃ R : Ending → World → Prop, R = (fun e w' => e = .returned (.string (sb (packG g))) ∧ Mem [] w w' []) := ⟨_, rfl⟩
  rw [← hR]
  refine GoS.enter (n := 48) Try.func17 (by kernel_rfl) rfl [(0, .pointer (some (⟨b, 0, none⟩)))] (by kernel_rfl) (by kernel_rfl) ?_
  have hM0 := Mem.start w
  have o6 : (Instr.loadAt 47 (.pointer (some (⟨b, 0, none⟩)))).run Try.prog w = .ok (v) w := c_load pE47 (k1.kept0 hM0.kept) (cel_obj b 0) rfl
  have o7 : (Builtin.len_ #[47] 3 #[v]).run Try.prog w = .ok (.int .i64 (((List.length g) : Nat) : Int)) w := f_slen sT47 (k2.kept0 hM0.kept) 3 _
  have o8 : (binOp .add 3 (.int .i64 (((List.length g) : Nat) : Int)) (.int .i64 7)).run Try.prog w = .ok (.int .i64 ((((List.length g) + 7) : Nat) : Int)) w := f_add (by rw [show (((List.length g) : Nat) : Int) + 7 = ((((List.length g) + 7) : Nat) : Int) by omega]; exact IntWalk.i64_in _ (by omega))
  have o9 : (binOp .quo 3 (.int .i64 ((((List.length g) + 7) : Nat) : Int)) (.int .i64 8)).run Try.prog w = .ok (.int .i64 (((((List.length g) + 7) / 8) : Nat) : Int)) w := f_quo (by decide) ((IntWalk.i64_quo _ _ (by omega)).trans (by omega))
  obtain ⟨v1, w2, hr3, hM4⟩ := m_make (x := (((((List.length g) + 7) / 8) : Nat) : Int)) (y := (((((List.length g) + 7) / 8) : Nat) : Int)) sT50 rfl hM0 (((List.length g) + 7) / 8) (by omega) (by omega) (by (try dsimp only); omega) (by (try dsimp only); omega) .i64 .i64
  have hM5 : Mem [] w w2 [⟨5, 1, v1, (((List.length g) + 7) / 8), (ivals .u8 (List.replicate (((List.length g) + 7) / 8) 0))⟩] := hM4.cast (by simp [ivals, svals, bvals])
  have o10 : (Instr.makeSlice 50 (.int .i64 (((((List.length g) + 7) / 8) : Nat) : Int)) (.int .i64 (((((List.length g) + 7) / 8) : Nat) : Int))).run Try.prog w = .ok v1 w2 := hr3
  have o11 : (Instr.loadAt 47 (.pointer (some (⟨b, 0, none⟩)))).run Try.prog w2 = .ok (v) w2 := c_load pE47 (k1.kept0 hM5.kept) (cel_obj b 0) rfl
  have o12 : (Builtin.len_ #[47] 3 #[v]).run Try.prog w2 = .ok (.int .i64 (((List.length g) : Nat) : Int)) w2 := f_slen sT47 (k2.kept0 hM5.kept) 3 _
  refine GoS.run [0, 3, 19, 20, 21] [.n, .n, .n, .n, .n, .n, .n, .n, .n, .n, .n, .n, .n, .n, .n, .n, .n, .h (v), .h (.int .i64 (((List.length g) : Nat) : Int)), .h (.int .i64 ((((List.length g) + 7) : Nat) : Int)), .h (.int .i64 (((((List.length g) + 7) / 8) : Nat) : Int)), .u (v1) (w2), .n, .n, .n, .n, .n, .n, .n, .n, .h (v), .h (.int .i64 (((List.length g) : Nat) : Int)), .n, .n, .n, .n] _ [.code (csub (cd Try.f17) [1,1,1,0,1,0,0]), .inLoop (csub (cd Try.f17) [1,1,1,0,1,0,0]), .inBlock 0, .code (csub (cd Try.f17) [1,1,1,1])] [(0, .pointer (some (⟨b, 0, none⟩))), (3, v1), (19, v), (20, .int .i64 (((List.length g) : Nat) : Int)), (21, .int .i64 0)] w2 (by kernel_rfl) (.cons o6 (.cons o7 (.cons o8 (.cons o9 (.cons o10 (.cons o11 (.cons o12 .nil))))))) ?_
  have e : (packI ((List.length g + 7) / 8) (upto g 0)) = List.replicate ((List.length g + 7) / 8) 0 := by rw [upto_zero, packI_zero]
  exact pack_L b v g hg k1 k2 R hR (g.length + 1) 0 _ w2 (by omega) (hM5.cast (by rw [e, List.length_replicate])) (by omega)

set_option maxHeartbeats 400000 in
theorem pack_n (w : World) :
    Calls Try.prog 17 #[.pointer none] w (fun e w' => e = .returned (.string (sb [])) ∧ w = w') := by
  obtain ⟨R, hR⟩ : ∃ R : Ending → World → Prop, R = (fun e w' => e = .returned (.string (sb [])) ∧ w = w') := ⟨_, rfl⟩
  rw [← hR]
  refine GoS.enter (n := 48) Try.func17 (by kernel_rfl) rfl [(0, .pointer none)] (by kernel_rfl) (by kernel_rfl) ?_
  refine GoS.run [2] [.n, .n, .n, .n, .n, .n, .n, .n, .n, .n, .n, .n, .n, .n, .n] _ [.code (csub (cd Try.f17) [1,0,1,0,1]), .code (csub (cd Try.f17) [1,1])] [(2, .string (sb ([])))] w (by kernel_rfl) .nil ?_
  refine GoS.ret (fn := Try.f17) (v := (.string (sb ([])))) Try.func17 (by kernel_rfl) ?_
  rw [hR]
  exact ⟨rfl, rfl⟩


end Go.Proofs.Ytiifhlhmkpcaeaa
