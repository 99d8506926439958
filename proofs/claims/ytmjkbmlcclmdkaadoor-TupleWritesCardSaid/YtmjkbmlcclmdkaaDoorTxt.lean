/-
  The walks of a cursor's Text and End, of a nil cursor, of the reference's ReadText.
-/
import Derived.Test.YtmjkbmlcclmdkaaDoorBui
import Derived.Test.YtmjkbmlcclmdkaaDoorDoorQ
import Derived.Test.YtmjkbmlcclmdkaaDoorBlk
namespace Go.Proofs.YtmjkbmlcclmdkaaDoor
open Go Go.Gw Go.NumP Go.CrcP Go.SealP Go.TupP Go.DoorP Go.RowKit
set_option linter.unusedVariables false
set_option linter.unusedSimpArgs false

theorem oT57 : ObjT Tryd.prog 57 2 (.agg #[.pointer none, .slice none 0 0]) := ⟨⟨_, rfl, by kernel_rfl, by kernel_rfl⟩, rfl⟩

theorem u8_of_bl0 {s : List UInt8} {k : Nat} (h : bl s k = 0) : s.getD k 0 = 0 := by
  unfold bl at h
  exact UInt8.toNat_inj.1 (by show (s.getD k 0).toNat = 0; omega)

set_option maxHeartbeats 1000000 in
theorem ctext_L {S : List Nat} {w0 : World} (s : List UInt8) (cb b : Nat) (hs0 : s.length ≤ 9000000000000000000) (hs : s.length ≤ 140737488355327 ∨ txE s = 0 ∧ (txS s).length ≤ 140737488355327) (R : Ending → World → Prop) (hR : R = (fun e w' => e = .returned (.tuple #[.string (sb (txS s)), .int .i64 (txE s)]) ∧ Mem S w0 w' [⟨52, 1, (obj cb), 1, [.string (sb (txR s))]⟩])) : ∀ (N : Nat) (k : Nat) (acc : List UInt8) (l : List Int) (p v : Value) (w : World) (hF : txF s k acc = txF s 0 []) (hb : bytesOf l = acc) (hbd : ∀ x ∈ l, 0 ≤ x ∧ x ≤ 255) (hl : l.length ≤ k) (hp : p = .pointer none ∨ p = .pointer (some ⟨b, 0, none⟩)) (hk : k ≤ s.length) (hM : Mem S w0 w [⟨52, 1, (obj cb), 1, [.string (sb s)]⟩, ⟨57, 2, (obj b), 1, [p, v]⟩, ⟨5, 1, v, (List.length l), (ivals .u8 l)⟩]) (hN : s.length - k < N), GoS Tryd.prog 19 R 71 [.code (csub (cd Tryd.f19) [1,1,1,0,1,0,0]), .inLoop (csub (cd Tryd.f19) [1,1,1,0,1,0,0]), .inBlock 0, .code (csub (cd Tryd.f19) [1,1,1,1])] [(0, .pointer (some (⟨cb, 0, none⟩))), (4, .pointer (some (⟨b, 0, none⟩))), (5, .int .i64 ((k : Nat) : Int))] w := by
  intro N
  induction N with
  | zero => intro k acc l p v w hF hb hbd hl hp hk hM hN; exact absurd hN (Nat.not_lt_zero _)
  | succ N ih =>
    intro k acc l p v w hF hb hbd hl hp hk hM hN
    have hb0 := bl_bd s k
    have hb1 := bl_bd s (k + 1)
    have o1 : (Instr.loadAt 9 (.pointer (some (⟨cb, 0, none⟩)))).run Tryd.prog w = .ok (.string (sb s)) w := c_load pE9 (hM.rd 0 rfl) (cel_obj cb 0) rfl
    have o2 : (Builtin.len_ #[9] 3 #[.string (sb s)]).run Tryd.prog w = .ok (.int .i64 ((s.length : Nat) : Int)) w := f_len (by kernel_rfl)
    refine GoS.run [0, 4, 5, 14] [.n, .n, .n, .n, .n, .n, .n, .h (.string (sb s)), .h (.int .i64 ((s.length : Nat) : Int)), .n, .n] _ [.code (csub (cd Tryd.f19) [1,1,1,0,1,0,0,0,1]), .code (csub (cd Tryd.f19) [1,1,1,0,1,0,0,1]), .inLoop (csub (cd Tryd.f19) [1,1,1,0,1,0,0]), .inBlock 0, .code (csub (cd Tryd.f19) [1,1,1,1])] [(0, .pointer (some (⟨cb, 0, none⟩))), (4, .pointer (some (⟨b, 0, none⟩))), (5, .int .i64 ((k : Nat) : Int)), (14, .bool (decide (((k : Nat) : Int) < ((s.length : Nat) : Int))))] w (by kernel_rfl) (.cons o1 (.cons o2 .nil)) ?_
    refine GoS.cond (decide (((k : Nat) : Int) < ((s.length : Nat) : Int))) [.code (csub (cd Tryd.f19) [1,1,1,0,1,0,0,0,1,0]), .code (csub (cd Tryd.f19) [1,1,1,0,1,0,0,1]), .inLoop (csub (cd Tryd.f19) [1,1,1,0,1,0,0]), .inBlock 0, .code (csub (cd Tryd.f19) [1,1,1,1])] [.code (csub (cd Tryd.f19) [1,1,1,0,1,0,0,0,1,1]), .code (csub (cd Tryd.f19) [1,1,1,0,1,0,0,1]), .inLoop (csub (cd Tryd.f19) [1,1,1,0,1,0,0]), .inBlock 0, .code (csub (cd Tryd.f19) [1,1,1,1])] (by kernel_rfl) (fun h3 => ?_) (fun h3 => ?_)
    ·
      have h3p : ((k : Nat) : Int) < ((s.length : Nat) : Int) := of_decide_eq_true h3
      refine GoS.run [0, 4, 5] [.n] _ [.code (csub (cd Tryd.f19) [1,1,1,0,1,0,0,1]), .inLoop (csub (cd Tryd.f19) [1,1,1,0,1,0,0]), .inBlock 0, .code (csub (cd Tryd.f19) [1,1,1,1])] [(0, .pointer (some (⟨cb, 0, none⟩))), (4, .pointer (some (⟨b, 0, none⟩))), (5, .int .i64 ((k : Nat) : Int))] w (by kernel_rfl) .nil ?_
      have o6 : (Instr.loadAt 9 (.pointer (some (⟨cb, 0, none⟩)))).run Tryd.prog w = .ok (.string (sb s)) w := c_load pE9 (hM.rd 0 rfl) (cel_obj cb 0) rfl
      have hb5 := bl_bd s k
      have o7 : (Instr.index 9 (.string (sb s)) (.int .i64 ((k : Nat) : Int))).run Tryd.prog w = .ok (.int .u8 (bl s k)) w := f_index k (by kernel_rfl) (by omega) (by first | omega | (simp [bytesOf]; omega) | (simp [bytesOf]; done))
      refine GoS.run [0, 4, 5, 22] [.n, .n, .n, .n, .n, .n, .n, .h (.string (sb s)), .n, .h (.int .u8 (bl s k))] _ [.inRegion (cops (csub (cd Tryd.f19) [1,1,1,0,1,0,0,1,0,0,0])) [6], .code (csub (cd Tryd.f19) [1,1,1,0,1,0,0,1,0,0,1]), .inBlock 1, .code (csub (cd Tryd.f19) [1,1,1,0,1,0,0,1,1]), .inLoop (csub (cd Tryd.f19) [1,1,1,0,1,0,0]), .inBlock 0, .code (csub (cd Tryd.f19) [1,1,1,1])] [(0, .pointer (some (⟨cb, 0, none⟩))), (4, .pointer (some (⟨b, 0, none⟩))), (5, .int .i64 ((k : Nat) : Int)), (22, .int .u8 (bl s k))] w (by kernel_rfl) (.cons o6 (.cons o7 .nil)) ?_
      have hM8 : Mem S w0 w [⟨5, 1, v, (List.length l), (ivals .u8 l)⟩, ⟨52, 1, (obj cb), 1, [.string (sb s)]⟩, ⟨57, 2, (obj b), 1, [p, v]⟩] := hM.perm ((List.Perm.cons _ ((List.Perm.cons _ (List.Perm.refl _)).trans (List.Perm.swap _ _ _))).trans (List.Perm.swap _ _ _))
      have hM9 : Mem S w0 w [⟨57, 2, (obj b), 1, [p, v]⟩, ⟨5, 1, v, (List.length l), (ivals .u8 l)⟩, ⟨52, 1, (obj cb), 1, [.string (sb s)]⟩] := hM8.perm ((List.Perm.cons _ ((List.Perm.cons _ (List.Perm.refl _)).trans (List.Perm.swap _ _ _))).trans (List.Perm.swap _ _ _))
      refine GoS.call [0, 4, 5] 28 #[.pointer (some (⟨b, 0, none⟩)), .int .u8 (bl s k)] (some 23) [.inRegion (cops (csub (cd Tryd.f19) [1,1,1,0,1,0,0,1,0,0,0])) [], .code (csub (cd Tryd.f19) [1,1,1,0,1,0,0,1,0,0,1]), .inBlock 1, .code (csub (cd Tryd.f19) [1,1,1,0,1,0,0,1,1]), .inLoop (csub (cd Tryd.f19) [1,1,1,0,1,0,0]), .inBlock 0, .code (csub (cd Tryd.f19) [1,1,1,1])] [(0, .pointer (some (⟨cb, 0, none⟩))), (4, .pointer (some (⟨b, 0, none⟩))), (5, .int .i64 ((k : Nat) : Int))] (by kernel_rfl) (bwb_c b p v hp l (bl s k) (by exact tx_room hs hF hb hl (by omega)) w (Mem.lend (R := [⟨57, 2, (obj b), 1, [p, v]⟩, ⟨5, 1, v, (List.length l), (ivals .u8 l)⟩]) (L := [⟨52, 1, (obj cb), 1, [.string (sb s)]⟩]) hM9)) ?_
      rintro _ w10 ⟨rfl, v12, m11⟩
      refine ⟨_, rfl, ?_⟩
      have hM13 : Mem S w0 w10 [⟨57, 2, (obj b), 1, [.pointer (some (⟨b, 0, none⟩)), v12]⟩, ⟨5, 1, v12, (List.length (l ++ ([(bl s k)] : List Int))), (ivals .u8 (l ++ ([(bl s k)] : List Int)))⟩, ⟨52, 1, (obj cb), 1, [.string (sb s)]⟩] := Mem.back (R := [⟨57, 2, (obj b), 1, [p, v]⟩, ⟨5, 1, v, (List.length l), (ivals .u8 l)⟩]) (L := [⟨52, 1, (obj cb), 1, [.string (sb s)]⟩]) hM9 m11
      have o15 : (Instr.loadAt 9 (.pointer (some (⟨cb, 0, none⟩)))).run Tryd.prog w10 = .ok (.string (sb s)) w10 := c_load pE9 (hM13.rd 2 rfl) (cel_obj cb 0) rfl
      have hb14 := bl_bd s k
      have o16 : (Instr.index 9 (.string (sb s)) (.int .i64 ((k : Nat) : Int))).run Tryd.prog w10 = .ok (.int .u8 (bl s k)) w10 := f_index k (by kernel_rfl) (by omega) (by first | omega | (simp [bytesOf]; omega) | (simp [bytesOf]; done))
      refine GoS.run [0, 4, 5, 30] [.n, .n, .n, .n, .n, .n, .n, .h (.string (sb s)), .n, .h (.int .u8 (bl s k)), .n, .n] _ [.code (csub (cd Tryd.f19) [1,1,1,0,1,0,0,1,0,0,1,0,1]), .code (csub (cd Tryd.f19) [1,1,1,0,1,0,0,1,0,0,1,1]), .inBlock 1, .code (csub (cd Tryd.f19) [1,1,1,0,1,0,0,1,1]), .inLoop (csub (cd Tryd.f19) [1,1,1,0,1,0,0]), .inBlock 0, .code (csub (cd Tryd.f19) [1,1,1,1])] [(0, .pointer (some (⟨cb, 0, none⟩))), (4, .pointer (some (⟨b, 0, none⟩))), (5, .int .i64 ((k : Nat) : Int)), (30, .bool ((bl s k) != 0))] w10 (by kernel_rfl) (.cons o15 (.cons o16 .nil)) ?_
      refine GoS.cond ((bl s k) != 0) [.code (csub (cd Tryd.f19) [1,1,1,0,1,0,0,1,0,0,1,0,1,0]), .code (csub (cd Tryd.f19) [1,1,1,0,1,0,0,1,0,0,1,1]), .inBlock 1, .code (csub (cd Tryd.f19) [1,1,1,0,1,0,0,1,1]), .inLoop (csub (cd Tryd.f19) [1,1,1,0,1,0,0]), .inBlock 0, .code (csub (cd Tryd.f19) [1,1,1,1])] [.code (csub (cd Tryd.f19) [1,1,1,0,1,0,0,1,0,0,1,0,1,1]), .code (csub (cd Tryd.f19) [1,1,1,0,1,0,0,1,0,0,1,1]), .inBlock 1, .code (csub (cd Tryd.f19) [1,1,1,0,1,0,0,1,1]), .inLoop (csub (cd Tryd.f19) [1,1,1,0,1,0,0]), .inBlock 0, .code (csub (cd Tryd.f19) [1,1,1,1])] (by kernel_rfl) (fun h17 => ?_) (fun h17 => ?_)
      ·
        have h17p : ¬ ((bl s k) = 0) := bne_iff_ne.1 h17
        have o18 : (binOp .add 3 (.int .i64 ((k : Nat) : Int)) (.int .i64 1)).run Tryd.prog w10 = .ok (.int .i64 (((k + 1) : Nat) : Int)) w10 := f_add (by rw [show ((k : Nat) : Int) + 1 = (((k + 1) : Nat) : Int) by omega]; exact IntWalk.i64_in _ (by omega))
        refine GoS.run [0, 4, 5] [.n, .n, .n, .h (.int .i64 (((k + 1) : Nat) : Int)), .n, .n, .n] _ [.code (csub (cd Tryd.f19) [1,1,1,0,1,0,0]), .inLoop (csub (cd Tryd.f19) [1,1,1,0,1,0,0]), .inBlock 0, .code (csub (cd Tryd.f19) [1,1,1,1])] [(0, .pointer (some (⟨cb, 0, none⟩))), (4, .pointer (some (⟨b, 0, none⟩))), (5, .int .i64 (((k + 1) : Nat) : Int))] w10 (by kernel_rfl) (.cons o18 .nil) ?_
        have hM19 : Mem S w0 w10 [⟨5, 1, v12, (List.length (l ++ ([(bl s k)] : List Int))), (ivals .u8 (l ++ ([(bl s k)] : List Int)))⟩, ⟨57, 2, (obj b), 1, [.pointer (some (⟨b, 0, none⟩)), v12]⟩, ⟨52, 1, (obj cb), 1, [.string (sb s)]⟩] := hM13.perm ((List.Perm.cons _ (List.Perm.refl _)).trans (List.Perm.swap _ _ _))
        have hM20 : Mem S w0 w10 [⟨57, 2, (obj b), 1, [.pointer (some (⟨b, 0, none⟩)), v12]⟩, ⟨5, 1, v12, (List.length (l ++ ([(bl s k)] : List Int))), (ivals .u8 (l ++ ([(bl s k)] : List Int)))⟩, ⟨52, 1, (obj cb), 1, [.string (sb s)]⟩] := hM19.perm ((List.Perm.cons _ (List.Perm.refl _)).trans (List.Perm.swap _ _ _))
        have hM21 : Mem S w0 w10 [⟨52, 1, (obj cb), 1, [.string (sb s)]⟩, ⟨57, 2, (obj b), 1, [.pointer (some (⟨b, 0, none⟩)), v12]⟩, ⟨5, 1, v12, (List.length (l ++ ([(bl s k)] : List Int))), (ivals .u8 (l ++ ([(bl s k)] : List Int)))⟩] := hM20.perm ((List.Perm.cons _ ((List.Perm.cons _ (List.Perm.refl _)).trans (List.Perm.swap _ _ _))).trans (List.Perm.swap _ _ _))
        exact ih (k + 1) (acc ++ [s.getD k 0]) _ _ _ _ ((tx_char (by omega) (by omega)).symm.trans hF) (bytes_app hb) (bd_app hbd (by omega)) (by simp; omega) (.inr rfl) (by omega) hM21 (by omega)
      ·
        have h17p : (bl s k) = 0 := p_eq h17
        refine GoS.run [0, 4, 5] [.n] _ [.code (csub (cd Tryd.f19) [1,1,1,0,1,0,0,1,0,0,1,1]), .inBlock 1, .code (csub (cd Tryd.f19) [1,1,1,0,1,0,0,1,1]), .inLoop (csub (cd Tryd.f19) [1,1,1,0,1,0,0]), .inBlock 0, .code (csub (cd Tryd.f19) [1,1,1,1])] [(0, .pointer (some (⟨cb, 0, none⟩))), (4, .pointer (some (⟨b, 0, none⟩))), (5, .int .i64 ((k : Nat) : Int))] w10 (by kernel_rfl) .nil ?_
        have o22 : (binOp .add 3 (.int .i64 ((k : Nat) : Int)) (.int .i64 1)).run Tryd.prog w10 = .ok (.int .i64 (((k + 1) : Nat) : Int)) w10 := f_add (by rw [show ((k : Nat) : Int) + 1 = (((k + 1) : Nat) : Int) by omega]; exact IntWalk.i64_in _ (by omega))
        have o23 : (Instr.loadAt 9 (.pointer (some (⟨cb, 0, none⟩)))).run Tryd.prog w10 = .ok (.string (sb s)) w10 := c_load pE9 (hM13.rd 2 rfl) (cel_obj cb 0) rfl
        have o24 : (Builtin.len_ #[9] 3 #[.string (sb s)]).run Tryd.prog w10 = .ok (.int .i64 ((s.length : Nat) : Int)) w10 := f_len (by kernel_rfl)
        refine GoS.run [0, 4, 5, 33] [.n, .n, .n, .h (.int .i64 (((k + 1) : Nat) : Int)), .n, .n, .n, .n, .n, .n, .n, .n, .n, .h (.string (sb s)), .h (.int .i64 ((s.length : Nat) : Int)), .n, .n, .n] _ [.code (csub (cd Tryd.f19) [1,1,1,0,1,0,0,1,0,0,1,1,1,0,1]), .inBlock 2, .inBlock 1, .code (csub (cd Tryd.f19) [1,1,1,0,1,0,0,1,1]), .inLoop (csub (cd Tryd.f19) [1,1,1,0,1,0,0]), .inBlock 0, .code (csub (cd Tryd.f19) [1,1,1,1])] [(0, .pointer (some (⟨cb, 0, none⟩))), (4, .pointer (some (⟨b, 0, none⟩))), (5, .int .i64 (((k + 1) : Nat) : Int)), (33, .bool ((((k + 1) : Nat) : Int) == ((s.length : Nat) : Int)))] w10 (by kernel_rfl) (.cons o22 (.cons o23 (.cons o24 .nil))) ?_
        refine GoS.cond ((((k + 1) : Nat) : Int) == ((s.length : Nat) : Int)) [.code (csub (cd Tryd.f19) [1,1,1,0,1,0,0,1,0,0,1,1,1,0,1,0]), .inBlock 2, .inBlock 1, .code (csub (cd Tryd.f19) [1,1,1,0,1,0,0,1,1]), .inLoop (csub (cd Tryd.f19) [1,1,1,0,1,0,0]), .inBlock 0, .code (csub (cd Tryd.f19) [1,1,1,1])] [.code (csub (cd Tryd.f19) [1,1,1,0,1,0,0,1,0,0,1,1,1,0,1,1]), .inBlock 2, .inBlock 1, .code (csub (cd Tryd.f19) [1,1,1,0,1,0,0,1,1]), .inLoop (csub (cd Tryd.f19) [1,1,1,0,1,0,0]), .inBlock 0, .code (csub (cd Tryd.f19) [1,1,1,1])] (by kernel_rfl) (fun h25 => ?_) (fun h25 => ?_)
        ·
          have h25p : (((k + 1) : Nat) : Int) = ((s.length : Nat) : Int) := eq_of_beq h25
          have hM26 : Mem S w0 w10 [⟨52, 1, (obj cb), 1, [.string (sb s)]⟩] := hM13.sub (List.Sublist.cons _ (List.Sublist.cons _ (List.Sublist.cons_cons _ (List.Sublist.refl _))))
          refine GoS.run [2, 3] [.n, .n, .n, .n, .n] _ [.code (csub (cd Tryd.f19) [1,1,1,0,1,0,0,1,0,0,1,1,1,0,1,0,1]), .inBlock 2, .inBlock 1, .code (csub (cd Tryd.f19) [1,1,1,0,1,0,0,1,1]), .inLoop (csub (cd Tryd.f19) [1,1,1,0,1,0,0]), .inBlock 0, .code (csub (cd Tryd.f19) [1,1,1,1])] [(2, .string (sb ([]))), (3, .int .i64 2)] w10 (by kernel_rfl) .nil ?_
          refine GoS.ret (fn := Tryd.f19) (v := (.tuple #[.string (sb ([])), .int .i64 2])) Tryd.func19 (by kernel_rfl) ?_
          rw [hR]
          have e := tx_short (s := s) (k := k) (acc := acc) (by omega) (by omega) (by omega)
          rw [hF] at e
          have e1 : txS s = [] := congrArg (fun x => x.1) e
          have e2 : txN s = 0 := congrArg (fun x => x.2.1) e
          have e3 : txE s = 2 := congrArg (fun x => x.2.2) e
          exact ⟨by rw [e1, e3], hM26.cast (by unfold txR; rw [e2]; first | done | rfl)⟩
        ·
          have h25p : ¬ ((((k + 1) : Nat) : Int) = ((s.length : Nat) : Int)) := p_ne h25
          have o28 : (Instr.loadAt 9 (.pointer (some (⟨cb, 0, none⟩)))).run Tryd.prog w10 = .ok (.string (sb s)) w10 := c_load pE9 (hM13.rd 2 rfl) (cel_obj cb 0) rfl
          have hb27 := bl_bd s (k + 1)
          have o29 : (Instr.index 9 (.string (sb s)) (.int .i64 (((k + 1) : Nat) : Int))).run Tryd.prog w10 = .ok (.int .u8 (bl s (k + 1))) w10 := f_index (k + 1) (by kernel_rfl) (by omega) (by first | omega | (simp [bytesOf]; omega) | (simp [bytesOf]; done))
          refine GoS.run [0, 4, 5, 41] [.n, .n, .n, .n, .n, .h (.string (sb s)), .n, .h (.int .u8 (bl s (k + 1))), .n, .n, .n] _ [.code (csub (cd Tryd.f19) [1,1,1,0,1,0,0,1,0,0,1,1,1,0,1,1,1]), .inBlock 2, .inBlock 1, .code (csub (cd Tryd.f19) [1,1,1,0,1,0,0,1,1]), .inLoop (csub (cd Tryd.f19) [1,1,1,0,1,0,0]), .inBlock 0, .code (csub (cd Tryd.f19) [1,1,1,1])] [(0, .pointer (some (⟨cb, 0, none⟩))), (4, .pointer (some (⟨b, 0, none⟩))), (5, .int .i64 (((k + 1) : Nat) : Int)), (41, .bool ((bl s (k + 1)) == 1))] w10 (by kernel_rfl) (.cons o28 (.cons o29 .nil)) ?_
          refine GoS.cond ((bl s (k + 1)) == 1) [.code (csub (cd Tryd.f19) [1,1,1,0,1,0,0,1,0,0,1,1,1,0,1,1,1,0]), .inBlock 2, .inBlock 1, .code (csub (cd Tryd.f19) [1,1,1,0,1,0,0,1,1]), .inLoop (csub (cd Tryd.f19) [1,1,1,0,1,0,0]), .inBlock 0, .code (csub (cd Tryd.f19) [1,1,1,1])] [.code (csub (cd Tryd.f19) [1,1,1,0,1,0,0,1,0,0,1,1,1,0,1,1,1,1]), .inBlock 2, .inBlock 1, .code (csub (cd Tryd.f19) [1,1,1,0,1,0,0,1,1]), .inLoop (csub (cd Tryd.f19) [1,1,1,0,1,0,0]), .inBlock 0, .code (csub (cd Tryd.f19) [1,1,1,1])] (by kernel_rfl) (fun h30 => ?_) (fun h30 => ?_)
          ·
            have h30p : (bl s (k + 1)) = 1 := eq_of_beq h30
            have o35 : (Instr.loadAt 9 (.pointer (some (⟨cb, 0, none⟩)))).run Tryd.prog w10 = .ok (.string (sb s)) w10 := c_load pE9 (hM13.rd 2 rfl) (cel_obj cb 0) rfl
            have o36 : (binOp .add 3 (.int .i64 (((k + 1) : Nat) : Int)) (.int .i64 1)).run Tryd.prog w10 = .ok (.int .i64 ((((k + 1) + 1) : Nat) : Int)) w10 := f_add (by rw [show (((k + 1) : Nat) : Int) + 1 = ((((k + 1) + 1) : Nat) : Int) by omega]; exact IntWalk.i64_in _ (by omega))
            have o37 : (Instr.sliceAt 9 (.string (sb s)) (some (.int .i64 ((((k + 1) + 1) : Nat) : Int))) none none).run Tryd.prog w10 = .ok (.string (sb (List.drop ((k + 1) + 1) s))) w10 := f_slice_lo ((k + 1) + 1) (by kernel_rfl) (by omega) (by first | omega | (simp [bytesOf]; omega) | (simp [bytesOf]; done))
            obtain ⟨w31, hr32, hM33⟩ := c_store (u := .string (sb (List.drop ((k + 1) + 1) s))) (by kernel_rfl) hM13 2 rfl (cel_obj cb 0) (by decide) rfl rfl
            have hM34 : Mem S w0 w31 [⟨57, 2, (obj b), 1, [.pointer (some (⟨b, 0, none⟩)), v12]⟩, ⟨5, 1, v12, (List.length (l ++ ([(bl s k)] : List Int))), (ivals .u8 (l ++ ([(bl s k)] : List Int)))⟩, ⟨52, 1, (obj cb), 1, [.string (sb (List.drop ((k + 1) + 1) s))]⟩] := hM33
            have o38 : (Instr.storeAt 9 (.pointer (some (⟨cb, 0, none⟩))) (.string (sb (List.drop ((k + 1) + 1) s)))).run Tryd.prog w10 = .ok () w31 ∧ undef = undef := ⟨hr32, rfl⟩
            refine GoS.run [4] [.n, .n, .n, .n, .n, .n, .h (.string (sb s)), .n, .h (.int .i64 ((((k + 1) + 1) : Nat) : Int)), .h (.string (sb (List.drop ((k + 1) + 1) s))), .n, .n, .u (undef) (w31), .n, .n, .n] _ [.inRegion (cops (csub (cd Tryd.f19) [1,1,1,0,1,0,0,1,0,0,1,1,1,0,1,1,1,0,1,0])) [0,1,2,3,4,5], .code (csub (cd Tryd.f19) [1,1,1,0,1,0,0,1,0,0,1,1,1,0,1,1,1,0,1,1]), .inBlock 2, .inBlock 1, .code (csub (cd Tryd.f19) [1,1,1,0,1,0,0,1,1]), .inLoop (csub (cd Tryd.f19) [1,1,1,0,1,0,0]), .inBlock 0, .code (csub (cd Tryd.f19) [1,1,1,1])] [(4, .pointer (some (⟨b, 0, none⟩)))] w31 (by kernel_rfl) (.cons o35 (.cons o36 (.cons o37 (.cons o38 .nil)))) ?_
            have hM39 : Mem S w0 w31 [⟨5, 1, v12, (List.length (l ++ ([(bl s k)] : List Int))), (ivals .u8 (l ++ ([(bl s k)] : List Int)))⟩, ⟨57, 2, (obj b), 1, [.pointer (some (⟨b, 0, none⟩)), v12]⟩, ⟨52, 1, (obj cb), 1, [.string (sb (List.drop ((k + 1) + 1) s))]⟩] := hM34.perm ((List.Perm.cons _ (List.Perm.refl _)).trans (List.Perm.swap _ _ _))
            have hM40 : Mem S w0 w31 [⟨57, 2, (obj b), 1, [.pointer (some (⟨b, 0, none⟩)), v12]⟩, ⟨5, 1, v12, (List.length (l ++ ([(bl s k)] : List Int))), (ivals .u8 (l ++ ([(bl s k)] : List Int)))⟩, ⟨52, 1, (obj cb), 1, [.string (sb (List.drop ((k + 1) + 1) s))]⟩] := hM39.perm ((List.Perm.cons _ (List.Perm.refl _)).trans (List.Perm.swap _ _ _))
            have hsl41 : ∀ W : World, (Builtin.len_ #[45] 3 #[v12]).run Tryd.prog W = .ok (.int .i64 ((List.length (l ++ ([(bl s k)] : List Int)) : Nat) : Int)) W := fun W => f_slen sT45 (hM40.rd 1 rfl) 3 W
            refine GoS.call [4] 29 #[.pointer (some (⟨b, 0, none⟩))] (some 59) [.inRegion (cops (csub (cd Tryd.f19) [1,1,1,0,1,0,0,1,0,0,1,1,1,0,1,1,1,0,1,0])) [1,2,3,4,5], .code (csub (cd Tryd.f19) [1,1,1,0,1,0,0,1,0,0,1,1,1,0,1,1,1,0,1,1]), .inBlock 2, .inBlock 1, .code (csub (cd Tryd.f19) [1,1,1,0,1,0,0,1,1]), .inLoop (csub (cd Tryd.f19) [1,1,1,0,1,0,0]), .inBlock 0, .code (csub (cd Tryd.f19) [1,1,1,1])] [(4, .pointer (some (⟨b, 0, none⟩)))] (by kernel_rfl) (bstr_c b v12 (l ++ ([(bl s k)] : List Int)) (by exact bd_app hbd (by omega)) (by simp) w31 (Mem.lend (R := [⟨57, 2, (obj b), 1, [.pointer (some (⟨b, 0, none⟩)), v12]⟩, ⟨5, 1, v12, (List.length (l ++ ([(bl s k)] : List Int))), (ivals .u8 (l ++ ([(bl s k)] : List Int)))⟩]) (L := [⟨52, 1, (obj cb), 1, [.string (sb (List.drop ((k + 1) + 1) s))]⟩]) hM40)) ?_
            rintro _ w42 ⟨rfl, m43⟩
            refine ⟨_, rfl, ?_⟩
            have hM44 : Mem S w0 w42 [⟨57, 2, (obj b), 1, [.pointer (some (⟨b, 0, none⟩)), v12]⟩, ⟨52, 1, (obj cb), 1, [.string (sb (List.drop ((k + 1) + 1) s))]⟩] := Mem.back (R := [⟨57, 2, (obj b), 1, [.pointer (some (⟨b, 0, none⟩)), v12]⟩, ⟨5, 1, v12, (List.length (l ++ ([(bl s k)] : List Int))), (ivals .u8 (l ++ ([(bl s k)] : List Int)))⟩]) (L := [⟨52, 1, (obj cb), 1, [.string (sb (List.drop ((k + 1) + 1) s))]⟩]) hM40 m43
            have hla45 : List.length (l ++ ([(bl s k)] : List Int)) = List.length l + 1 := by simp
            refine GoS.call [59] 30 #[.pointer (some (⟨b, 0, none⟩))] (some 60) [.inRegion (cops (csub (cd Tryd.f19) [1,1,1,0,1,0,0,1,0,0,1,1,1,0,1,1,1,0,1,0])) [2,3,4,5], .code (csub (cd Tryd.f19) [1,1,1,0,1,0,0,1,0,0,1,1,1,0,1,1,1,0,1,1]), .inBlock 2, .inBlock 1, .code (csub (cd Tryd.f19) [1,1,1,0,1,0,0,1,1]), .inLoop (csub (cd Tryd.f19) [1,1,1,0,1,0,0]), .inBlock 0, .code (csub (cd Tryd.f19) [1,1,1,1])] [(59, .string (sb (bytesOf (l ++ ([(bl s k)] : List Int)))))] (by kernel_rfl) (blen_c b (.pointer (some (⟨b, 0, none⟩))) v12 (List.length (l ++ ([(bl s k)] : List Int))) hsl41 w42 (Mem.lend (R := [⟨57, 2, (obj b), 1, [.pointer (some (⟨b, 0, none⟩)), v12]⟩]) (L := [⟨52, 1, (obj cb), 1, [.string (sb (List.drop ((k + 1) + 1) s))]⟩]) hM44)) ?_
            rintro _ w46 ⟨rfl, m47⟩
            refine ⟨_, rfl, ?_⟩
            have hM48 : Mem S w0 w46 [⟨57, 2, (obj b), 1, [.pointer (some (⟨b, 0, none⟩)), v12]⟩, ⟨52, 1, (obj cb), 1, [.string (sb (List.drop ((k + 1) + 1) s))]⟩] := Mem.back (R := [⟨57, 2, (obj b), 1, [.pointer (some (⟨b, 0, none⟩)), v12]⟩]) (L := [⟨52, 1, (obj cb), 1, [.string (sb (List.drop ((k + 1) + 1) s))]⟩]) hM44 m47
            have o49 : (binOp .sub 3 (.int .i64 (((List.length (l ++ ([(bl s k)] : List Int))) : Nat) : Int)) (.int .i64 1)).run Tryd.prog w46 = .ok (.int .i64 ((((List.length (l ++ ([(bl s k)] : List Int))) : Nat) : Int) - 1)) w46 := f_sub (IntWalk.i64_in _ (by omega))
            have o50 : (Instr.sliceAt 9 (.string (sb (bytesOf (l ++ ([(bl s k)] : List Int))))) none (some (.int .i64 ((((List.length (l ++ ([(bl s k)] : List Int))) : Nat) : Int) - 1))) none).run Tryd.prog w46 = .ok (.string (sb (List.take (Int.toNat ((((List.length (l ++ ([(bl s k)] : List Int))) : Nat) : Int) - 1)) (bytesOf (l ++ ([(bl s k)] : List Int)))))) w46 := f_slice_hi (Int.toNat ((((List.length (l ++ ([(bl s k)] : List Int))) : Nat) : Int) - 1)) (by kernel_rfl) (by omega) (by first | omega | (simp [bytesOf]; omega) | (simp [bytesOf]; done))
            have hM51 : Mem S w0 w46 [⟨52, 1, (obj cb), 1, [.string (sb (List.drop ((k + 1) + 1) s))]⟩] := hM48.sub (List.Sublist.cons _ (List.Sublist.cons_cons _ (List.Sublist.refl _)))
            refine GoS.run [2, 3] [.h (.int .i64 ((((List.length (l ++ ([(bl s k)] : List Int))) : Nat) : Int) - 1)), .h (.string (sb (List.take (Int.toNat ((((List.length (l ++ ([(bl s k)] : List Int))) : Nat) : Int) - 1)) (bytesOf (l ++ ([(bl s k)] : List Int)))))), .n, .n, .n] _ [.code (csub (cd Tryd.f19) [1,1,1,0,1,0,0,1,0,0,1,1,1,0,1,1,1,0,1,1]), .inBlock 2, .inBlock 1, .code (csub (cd Tryd.f19) [1,1,1,0,1,0,0,1,1]), .inLoop (csub (cd Tryd.f19) [1,1,1,0,1,0,0]), .inBlock 0, .code (csub (cd Tryd.f19) [1,1,1,1])] [(2, .string (sb (List.take (Int.toNat ((((List.length (l ++ ([(bl s k)] : List Int))) : Nat) : Int) - 1)) (bytesOf (l ++ ([(bl s k)] : List Int)))))), (3, .int .i64 0)] w46 (by kernel_rfl) (.cons o49 (.cons o50 .nil)) ?_
            refine GoS.ret (fn := Tryd.f19) (v := (.tuple #[.string (sb (List.take (Int.toNat ((((List.length (l ++ ([(bl s k)] : List Int))) : Nat) : Int) - 1)) (bytesOf (l ++ ([(bl s k)] : List Int))))), .int .i64 0])) Tryd.func19 (by kernel_rfl) ?_
            rw [hR]
            have e := tx_done (s := s) (k := k) (acc := acc) (by omega) (by omega) (by omega) (by omega)
            rw [hF] at e
            have e1 : txS s = acc := congrArg (fun x => x.1) e
            have e2 : txN s = k + 2 := congrArg (fun x => x.2.1) e
            have e3 : txE s = 0 := congrArg (fun x => x.2.2) e
            exact ⟨by rw [e1, e3]; exact ret_str2 (bytes_cut hb (by first | (simp; done) | (simp; omega))) rfl, hM51.cast (by unfold txR; rw [e2]; first | done | rfl)⟩
          ·
            have h30p : ¬ ((bl s (k + 1)) = 1) := p_ne h30
            have o53 : (Instr.loadAt 9 (.pointer (some (⟨cb, 0, none⟩)))).run Tryd.prog w10 = .ok (.string (sb s)) w10 := c_load pE9 (hM13.rd 2 rfl) (cel_obj cb 0) rfl
            have hb52 := bl_bd s (k + 1)
            have o54 : (Instr.index 9 (.string (sb s)) (.int .i64 (((k + 1) : Nat) : Int))).run Tryd.prog w10 = .ok (.int .u8 (bl s (k + 1))) w10 := f_index (k + 1) (by kernel_rfl) (by omega) (by first | omega | (simp [bytesOf]; omega) | (simp [bytesOf]; done))
            refine GoS.run [0, 4, 5, 63] [.n, .n, .n, .n, .n, .h (.string (sb s)), .n, .h (.int .u8 (bl s (k + 1))), .n, .n, .n] _ [.code (csub (cd Tryd.f19) [1,1,1,0,1,0,0,1,0,0,1,1,1,0,1,1,1,1,1]), .inBlock 2, .inBlock 1, .code (csub (cd Tryd.f19) [1,1,1,0,1,0,0,1,1]), .inLoop (csub (cd Tryd.f19) [1,1,1,0,1,0,0]), .inBlock 0, .code (csub (cd Tryd.f19) [1,1,1,1])] [(0, .pointer (some (⟨cb, 0, none⟩))), (4, .pointer (some (⟨b, 0, none⟩))), (5, .int .i64 (((k + 1) : Nat) : Int)), (63, .bool ((bl s (k + 1)) != 255))] w10 (by kernel_rfl) (.cons o53 (.cons o54 .nil)) ?_
            refine GoS.cond ((bl s (k + 1)) != 255) [.code (csub (cd Tryd.f19) [1,1,1,0,1,0,0,1,0,0,1,1,1,0,1,1,1,1,1,0]), .inBlock 2, .inBlock 1, .code (csub (cd Tryd.f19) [1,1,1,0,1,0,0,1,1]), .inLoop (csub (cd Tryd.f19) [1,1,1,0,1,0,0]), .inBlock 0, .code (csub (cd Tryd.f19) [1,1,1,1])] [.code (csub (cd Tryd.f19) [1,1,1,0,1,0,0,1,0,0,1,1,1,0,1,1,1,1,1,1]), .inBlock 2, .inBlock 1, .code (csub (cd Tryd.f19) [1,1,1,0,1,0,0,1,1]), .inLoop (csub (cd Tryd.f19) [1,1,1,0,1,0,0]), .inBlock 0, .code (csub (cd Tryd.f19) [1,1,1,1])] (by kernel_rfl) (fun h55 => ?_) (fun h55 => ?_)
            ·
              have h55p : ¬ ((bl s (k + 1)) = 255) := bne_iff_ne.1 h55
              have hM56 : Mem S w0 w10 [⟨52, 1, (obj cb), 1, [.string (sb s)]⟩] := hM13.sub (List.Sublist.cons _ (List.Sublist.cons _ (List.Sublist.cons_cons _ (List.Sublist.refl _))))
              refine GoS.run [2, 3] [.n, .n, .n, .n, .n] _ [.code (csub (cd Tryd.f19) [1,1,1,0,1,0,0,1,0,0,1,1,1,0,1,1,1,1,1,0,1]), .inBlock 2, .inBlock 1, .code (csub (cd Tryd.f19) [1,1,1,0,1,0,0,1,1]), .inLoop (csub (cd Tryd.f19) [1,1,1,0,1,0,0]), .inBlock 0, .code (csub (cd Tryd.f19) [1,1,1,1])] [(2, .string (sb ([]))), (3, .int .i64 3)] w10 (by kernel_rfl) .nil ?_
              refine GoS.ret (fn := Tryd.f19) (v := (.tuple #[.string (sb ([])), .int .i64 3])) Tryd.func19 (by kernel_rfl) ?_
              rw [hR]
              have e := tx_form (s := s) (k := k) (acc := acc) (by omega) (by omega) (by omega) (by omega) (by omega)
              rw [hF] at e
              have e1 : txS s = [] := congrArg (fun x => x.1) e
              have e2 : txN s = 0 := congrArg (fun x => x.2.1) e
              have e3 : txE s = 3 := congrArg (fun x => x.2.2) e
              exact ⟨by rw [e1, e3], hM56.cast (by unfold txR; rw [e2]; first | done | rfl)⟩
            ·
              have h55p : (bl s (k + 1)) = 255 := p_eq h55
              refine GoS.run [0, 4, 5] [.n] _ [.inBlock 2, .inBlock 1, .code (csub (cd Tryd.f19) [1,1,1,0,1,0,0,1,1]), .inLoop (csub (cd Tryd.f19) [1,1,1,0,1,0,0]), .inBlock 0, .code (csub (cd Tryd.f19) [1,1,1,1])] [(0, .pointer (some (⟨cb, 0, none⟩))), (4, .pointer (some (⟨b, 0, none⟩))), (5, .int .i64 (((k + 1) : Nat) : Int))] w10 (by kernel_rfl) .nil ?_
              have o57 : (binOp .add 3 (.int .i64 (((k + 1) : Nat) : Int)) (.int .i64 1)).run Tryd.prog w10 = .ok (.int .i64 ((((k + 1) + 1) : Nat) : Int)) w10 := f_add (by rw [show (((k + 1) : Nat) : Int) + 1 = ((((k + 1) + 1) : Nat) : Int) by omega]; exact IntWalk.i64_in _ (by omega))
              refine GoS.run [0, 4, 5] [.n, .n, .n, .n, .h (.int .i64 ((((k + 1) + 1) : Nat) : Int)), .n, .n, .n] _ [.code (csub (cd Tryd.f19) [1,1,1,0,1,0,0]), .inLoop (csub (cd Tryd.f19) [1,1,1,0,1,0,0]), .inBlock 0, .code (csub (cd Tryd.f19) [1,1,1,1])] [(0, .pointer (some (⟨cb, 0, none⟩))), (4, .pointer (some (⟨b, 0, none⟩))), (5, .int .i64 ((((k + 1) + 1) : Nat) : Int))] w10 (by kernel_rfl) (.cons o57 .nil) ?_
              have hM58 : Mem S w0 w10 [⟨5, 1, v12, (List.length (l ++ ([(bl s k)] : List Int))), (ivals .u8 (l ++ ([(bl s k)] : List Int)))⟩, ⟨57, 2, (obj b), 1, [.pointer (some (⟨b, 0, none⟩)), v12]⟩, ⟨52, 1, (obj cb), 1, [.string (sb s)]⟩] := hM13.perm ((List.Perm.cons _ (List.Perm.refl _)).trans (List.Perm.swap _ _ _))
              have hM59 : Mem S w0 w10 [⟨57, 2, (obj b), 1, [.pointer (some (⟨b, 0, none⟩)), v12]⟩, ⟨5, 1, v12, (List.length (l ++ ([(bl s k)] : List Int))), (ivals .u8 (l ++ ([(bl s k)] : List Int)))⟩, ⟨52, 1, (obj cb), 1, [.string (sb s)]⟩] := hM58.perm ((List.Perm.cons _ (List.Perm.refl _)).trans (List.Perm.swap _ _ _))
              have hM60 : Mem S w0 w10 [⟨52, 1, (obj cb), 1, [.string (sb s)]⟩, ⟨57, 2, (obj b), 1, [.pointer (some (⟨b, 0, none⟩)), v12]⟩, ⟨5, 1, v12, (List.length (l ++ ([(bl s k)] : List Int))), (ivals .u8 (l ++ ([(bl s k)] : List Int)))⟩] := hM59.perm ((List.Perm.cons _ ((List.Perm.cons _ (List.Perm.refl _)).trans (List.Perm.swap _ _ _))).trans (List.Perm.swap _ _ _))
              have e0 : s.getD k 0 = 0 := u8_of_bl0 (by omega)
              have hb2 := bytes_app (s := s) (k := k) hb
              rw [e0] at hb2
              exact GoS.cast (by rw [show ((((k + 1) + 1) : Nat) : Int) = ((k + 2 : Nat) : Int) by omega]; first | done | rfl) (ih (k + 2) (acc ++ [0]) _ _ _ _ ((tx_zero (by omega) (by omega) (by omega) (by omega)).symm.trans hF) hb2 (bd_app hbd (by omega)) (by simp; omega) (.inr rfl) (by omega) hM60 (by omega))
    ·
      have h3p : ¬ (((k : Nat) : Int) < ((s.length : Nat) : Int)) := of_decide_eq_false h3
      have hM4 : Mem S w0 w [⟨52, 1, (obj cb), 1, [.string (sb s)]⟩] := hM.sub (List.Sublist.cons_cons _ (List.Sublist.cons _ (List.Sublist.cons _ (List.Sublist.refl _))))
      refine GoS.run [2, 3] [.n, .n, .n, .n, .n, .n] _ [.code (csub (cd Tryd.f19) [1,1,1,1,1])] [(2, .string (sb ([]))), (3, .int .i64 2)] w (by kernel_rfl) .nil ?_
      refine GoS.ret (fn := Tryd.f19) (v := (.tuple #[.string (sb ([])), .int .i64 2])) Tryd.func19 (by kernel_rfl) ?_
      rw [hR]
      have e := tx_end (s := s) (k := k) (acc := acc) (by omega)
      rw [hF] at e
      have e1 : txS s = [] := congrArg (fun x => x.1) e
      have e2 : txN s = 0 := congrArg (fun x => x.2.1) e
      have e3 : txE s = 2 := congrArg (fun x => x.2.2) e
      exact ⟨by rw [e1, e3], hM4.cast (by unfold txR; rw [e2]; first | done | rfl)⟩

set_option maxHeartbeats 400000 in
theorem ctext_c {S : List Nat} {w0 : World} (s : List UInt8) (cb : Nat) (hs0 : s.length ≤ 9000000000000000000) (hs : s.length ≤ 140737488355327 ∨ txE s = 0 ∧ (txS s).length ≤ 140737488355327) (w : World) (hM : Mem S w0 w [⟨52, 1, (obj cb), 1, [.string (sb s)]⟩]) :
    Calls Tryd.prog 19 #[.pointer (some (⟨cb, 0, none⟩))] w (fun e w' => e = .returned (.tuple #[.string (sb (txS s)), .int .i64 (txE s)]) ∧ Mem S w0 w' [⟨52, 1, (obj cb), 1, [.string (sb (txR s))]⟩]) := by
  obtain ⟨R, hR⟩ : ∃ R : Ending → World → Prop, R = (fun e w' => e = .returned (.tuple #[.string (sb (txS s)), .int .i64 (txE s)]) ∧ Mem S w0 w' [⟨52, 1, (obj cb), 1, [.string (sb (txR s))]⟩]) := ⟨_, rfl⟩
  rw [← hR]
  refine GoS.enter (n := 71) Tryd.func19 (by kernel_rfl) rfl [(0, .pointer (some (⟨cb, 0, none⟩)))] (by kernel_rfl) (by kernel_rfl) ?_
  obtain ⟨b1, w2, hr3, hM4⟩ := m_alloc oT57 hM
  have hM5 : Mem S w0 w2 [⟨57, 2, (obj b1), 1, [.pointer none, .slice none 0 0]⟩, ⟨52, 1, (obj cb), 1, [.string (sb s)]⟩] := hM4
  have o6 : (Instr.alloc 57 true (.tuple #[])).run Tryd.prog w = .ok (.pointer (some (⟨b1, 0, none⟩))) w2 := hr3
  refine GoS.run [0, 4, 5] [.n, .n, .n, .n, .n, .n, .n, .n, .n, .n, .n, .n, .n, .n, .n, .u (.pointer (some (⟨b1, 0, none⟩))) (w2), .n, .n, .n, .n, .n, .n, .n, .n] _ [.code (csub (cd Tryd.f19) [1,1,1,0,1,0,0]), .inLoop (csub (cd Tryd.f19) [1,1,1,0,1,0,0]), .inBlock 0, .code (csub (cd Tryd.f19) [1,1,1,1])] [(0, .pointer (some (⟨cb, 0, none⟩))), (4, .pointer (some (⟨b1, 0, none⟩))), (5, .int .i64 0)] w2 (by kernel_rfl) (.cons o6 .nil) ?_
  have hM7 := hM5.nilrow 5 1
  have hM8 : Mem S w0 w2 [⟨57, 2, (obj b1), 1, [.pointer none, .slice none 0 0]⟩, ⟨5, 1, (.slice none 0 0), (List.length ([] : List Int)), (ivals .u8 ([] : List Int))⟩, ⟨52, 1, (obj cb), 1, [.string (sb s)]⟩] := hM7.perm ((List.Perm.cons _ (List.Perm.refl _)).trans (List.Perm.swap _ _ _))
  have hM9 : Mem S w0 w2 [⟨52, 1, (obj cb), 1, [.string (sb s)]⟩, ⟨57, 2, (obj b1), 1, [.pointer none, .slice none 0 0]⟩, ⟨5, 1, (.slice none 0 0), (List.length ([] : List Int)), (ivals .u8 ([] : List Int))⟩] := hM8.perm ((List.Perm.cons _ ((List.Perm.cons _ (List.Perm.refl _)).trans (List.Perm.swap _ _ _))).trans (List.Perm.swap _ _ _))
  exact ctext_L s cb b1 hs0 hs R hR (s.length + 1) 0 [] [] (.pointer none) (.slice none 0 0) w2 rfl rfl (by simp) (by simp) (.inl rfl) (by omega) hM9 (by omega)

set_option maxHeartbeats 400000 in
theorem cend_c {S : List Nat} {w0 : World} (s : List UInt8) (b : Nat) (w : World) (hM : Mem S w0 w [⟨52, 1, (obj b), 1, [.string (sb s)]⟩]) :
    Calls Tryd.prog 23 #[.pointer (some (⟨b, 0, none⟩))] w (fun e w' => e = .returned (.int .i64 (endE s)) ∧ Mem S w0 w' [⟨52, 1, (obj b), 1, [.string (sb s)]⟩]) := by
  obtain ⟨R, hR⟩ : ∃ R : Ending → World → Prop, R = (fun e w' => e = .returned (.int .i64 (endE s)) ∧ Mem S w0 w' [⟨52, 1, (obj b), 1, [.string (sb s)]⟩]) := ⟨_, rfl⟩
  rw [← hR]
  refine GoS.enter (n := 12) Tryd.func23 (by kernel_rfl) rfl [(0, .pointer (some (⟨b, 0, none⟩)))] (by kernel_rfl) (by kernel_rfl) ?_
  have o1 : (Instr.loadAt 9 (.pointer (some (⟨b, 0, none⟩)))).run Tryd.prog w = .ok (.string (sb s)) w := c_load pE9 (hM.rd 0 rfl) (cel_obj b 0) rfl
  have o2 : (binOp .neq 9 (.string (sb s)) (.string (sb ([])))).run Tryd.prog w = .ok (.bool (!(decide (s = [])))) w := f_strneq
  refine GoS.run [6] [.n, .n, .n, .n, .n, .n, .n, .n, .n, .n, .n, .n, .n, .n, .n, .n, .n, .n, .h (.string (sb s)), .h (.bool (!(decide (s = [])))), .n, .n] _ [.code (csub (cd Tryd.f23) [1,0,0,1,1,1]), .inBlock 0, .code (csub (cd Tryd.f23) [1,1])] [(6, .bool (!(decide (s = []))))] w (by kernel_rfl) (.cons o1 (.cons o2 .nil)) ?_
  refine GoS.cond (!(decide (s = []))) [.code (csub (cd Tryd.f23) [1,0,0,1,1,1,0]), .inBlock 0, .code (csub (cd Tryd.f23) [1,1])] [.code (csub (cd Tryd.f23) [1,0,0,1,1,1,1]), .inBlock 0, .code (csub (cd Tryd.f23) [1,1])] (by kernel_rfl) (fun h3 => ?_) (fun h3 => ?_)
  ·
    have h3p : ¬ (s = []) := of_decide_eq_false (p_nf h3)
    refine GoS.run [2] [.n, .n, .n, .n] _ [.code (csub (cd Tryd.f23) [1,0,0,1,1,1,0,1]), .inBlock 0, .code (csub (cd Tryd.f23) [1,1])] [(2, .int .i64 5)] w (by kernel_rfl) .nil ?_
    refine GoS.ret (fn := Tryd.f23) (v := (.int .i64 5)) Tryd.func23 (by kernel_rfl) ?_
    rw [hR]
    exact ⟨ret_int (by unfold endE; rw [if_neg h3p]), hM⟩
  ·
    have h3p : s = [] := of_decide_eq_true (p_nt h3)
    refine GoS.run [] [.n] _ [.inBlock 0, .code (csub (cd Tryd.f23) [1,1])] [] w (by kernel_rfl) .nil ?_
    refine GoS.run [2] [.n, .n, .n, .n, .n] _ [.code (csub (cd Tryd.f23) [1,1,1])] [(2, .int .i64 0)] w (by kernel_rfl) .nil ?_
    refine GoS.ret (fn := Tryd.f23) (v := (.int .i64 0)) Tryd.func23 (by kernel_rfl) ?_
    rw [hR]
    exact ⟨ret_int (by unfold endE; rw [if_pos h3p]), hM⟩

set_option maxHeartbeats 400000 in
theorem cnum_n (w : World) :
    Calls Tryd.prog 18 #[.pointer none] w (fun e w' => e = .returned (.tuple #[.int .i64 0, .int .i64 1]) ∧ w = w') := by
  obtain ⟨R, hR⟩ : ∃ R : Ending → World → Prop, R = (fun e w' => e = .returned (.tuple #[.int .i64 0, .int .i64 1]) ∧ w = w') := ⟨_, rfl⟩
  rw [← hR]
  refine GoS.enter (n := 31) Tryd.func18 (by kernel_rfl) rfl [(0, .pointer none)] (by kernel_rfl) (by kernel_rfl) ?_
  refine GoS.run [2, 3] [.n, .n, .n, .n, .n, .n, .n, .n, .n, .n, .n, .n, .n, .n, .n, .n, .n] _ [.code (csub (cd Tryd.f18) [1,0,1,0,1]), .code (csub (cd Tryd.f18) [1,1])] [(2, .int .i64 0), (3, .int .i64 1)] w (by kernel_rfl) .nil ?_
  refine GoS.ret (fn := Tryd.f18) (v := (.tuple #[.int .i64 0, .int .i64 1])) Tryd.func18 (by kernel_rfl) ?_
  rw [hR]
  exact ⟨rfl, rfl⟩

set_option maxHeartbeats 400000 in
theorem ccount_n (w : World) :
    Calls Tryd.prog 22 #[.pointer none] w (fun e w' => e = .returned (.tuple #[.int .i64 0, .int .i64 1]) ∧ w = w') := by
  obtain ⟨R, hR⟩ : ∃ R : Ending → World → Prop, R = (fun e w' => e = .returned (.tuple #[.int .i64 0, .int .i64 1]) ∧ w = w') := ⟨_, rfl⟩
  rw [← hR]
  refine GoS.enter (n := 30) Tryd.func22 (by kernel_rfl) rfl [(0, .pointer none)] (by kernel_rfl) (by kernel_rfl) ?_
  refine GoS.run [2, 3] [.n, .n, .n, .n, .n, .n, .n, .n, .n, .n, .n, .n, .n, .n, .n, .n, .n] _ [.code (csub (cd Tryd.f22) [1,0,1,0,1]), .code (csub (cd Tryd.f22) [1,1])] [(2, .int .i64 0), (3, .int .i64 1)] w (by kernel_rfl) .nil ?_
  refine GoS.ret (fn := Tryd.f22) (v := (.tuple #[.int .i64 0, .int .i64 1])) Tryd.func22 (by kernel_rfl) ?_
  rw [hR]
  exact ⟨rfl, rfl⟩

set_option maxHeartbeats 400000 in
theorem ctext_n (w : World) :
    Calls Tryd.prog 19 #[.pointer none] w (fun e w' => e = .returned (.tuple #[.string (sb ([])), .int .i64 1]) ∧ w = w') := by
  obtain ⟨R, hR⟩ : ∃ R : Ending → World → Prop, R = (fun e w' => e = .returned (.tuple #[.string (sb ([])), .int .i64 1]) ∧ w = w') := ⟨_, rfl⟩
  rw [← hR]
  refine GoS.enter (n := 71) Tryd.func19 (by kernel_rfl) rfl [(0, .pointer none)] (by kernel_rfl) (by kernel_rfl) ?_
  refine GoS.run [2, 3] [.n, .n, .n, .n, .n, .n, .n, .n, .n, .n, .n, .n, .n, .n, .n, .n, .n] _ [.code (csub (cd Tryd.f19) [1,0,1,0,1]), .code (csub (cd Tryd.f19) [1,1])] [(2, .string (sb ([]))), (3, .int .i64 1)] w (by kernel_rfl) .nil ?_
  refine GoS.ret (fn := Tryd.f19) (v := (.tuple #[.string (sb ([])), .int .i64 1])) Tryd.func19 (by kernel_rfl) ?_
  rw [hR]
  exact ⟨rfl, rfl⟩

set_option maxHeartbeats 400000 in
theorem cblock_n (w : World) :
    Calls Tryd.prog 20 #[.pointer none] w (fun e w' => e = .returned (.tuple #[.string (sb ([])), .int .i64 1]) ∧ w = w') := by
  obtain ⟨R, hR⟩ : ∃ R : Ending → World → Prop, R = (fun e w' => e = .returned (.tuple #[.string (sb ([])), .int .i64 1]) ∧ w = w') := ⟨_, rfl⟩
  rw [← hR]
  refine GoS.enter (n := 53) Tryd.func20 (by kernel_rfl) rfl [(0, .pointer none)] (by kernel_rfl) (by kernel_rfl) ?_
  refine GoS.run [2, 3] [.n, .n, .n, .n, .n, .n, .n, .n, .n, .n, .n, .n, .n, .n, .n, .n, .n] _ [.code (csub (cd Tryd.f20) [1,0,1,0,1]), .code (csub (cd Tryd.f20) [1,1])] [(2, .string (sb ([]))), (3, .int .i64 1)] w (by kernel_rfl) .nil ?_
  refine GoS.ret (fn := Tryd.f20) (v := (.tuple #[.string (sb ([])), .int .i64 1])) Tryd.func20 (by kernel_rfl) ?_
  rw [hR]
  exact ⟨rfl, rfl⟩

set_option maxHeartbeats 400000 in
theorem crest_n (w : World) :
    Calls Tryd.prog 21 #[.pointer none] w (fun e w' => e = .returned (.string (sb ([]))) ∧ w = w') := by
  obtain ⟨R, hR⟩ : ∃ R : Ending → World → Prop, R = (fun e w' => e = .returned (.string (sb ([]))) ∧ w = w') := ⟨_, rfl⟩
  rw [← hR]
  refine GoS.enter (n := 9) Tryd.func21 (by kernel_rfl) rfl [(0, .pointer none)] (by kernel_rfl) (by kernel_rfl) ?_
  refine GoS.run [2] [.n, .n, .n, .n, .n, .n, .n, .n, .n, .n, .n, .n, .n, .n, .n] _ [.code (csub (cd Tryd.f21) [1,0,1,0,1]), .code (csub (cd Tryd.f21) [1,1])] [(2, .string (sb ([])))] w (by kernel_rfl) .nil ?_
  refine GoS.ret (fn := Tryd.f21) (v := (.string (sb ([])))) Tryd.func21 (by kernel_rfl) ?_
  rw [hR]
  exact ⟨rfl, rfl⟩

set_option maxHeartbeats 400000 in
theorem cend_n (w : World) :
    Calls Tryd.prog 23 #[.pointer none] w (fun e w' => e = .returned (.int .i64 1) ∧ w = w') := by
  obtain ⟨R, hR⟩ : ∃ R : Ending → World → Prop, R = (fun e w' => e = .returned (.int .i64 1) ∧ w = w') := ⟨_, rfl⟩
  rw [← hR]
  refine GoS.enter (n := 12) Tryd.func23 (by kernel_rfl) rfl [(0, .pointer none)] (by kernel_rfl) (by kernel_rfl) ?_
  refine GoS.run [2] [.n, .n, .n, .n, .n, .n, .n, .n, .n, .n, .n, .n, .n, .n, .n, .n, .n] _ [.code (csub (cd Tryd.f23) [1,0,0,1,0,1]), .inBlock 0, .code (csub (cd Tryd.f23) [1,1])] [(2, .int .i64 1)] w (by kernel_rfl) .nil ?_
  refine GoS.ret (fn := Tryd.f23) (v := (.int .i64 1)) Tryd.func23 (by kernel_rfl) ?_
  rw [hR]
  exact ⟨rfl, rfl⟩


end Go.Proofs.YtmjkbmlcclmdkaaDoor
