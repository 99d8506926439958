/-
  The walk of spoil.
-/
import Derived.Test.YtcdcehjilneifaaPcM
import Derived.Test.YtcdcehjilneifaaPcS
namespace Go.Proofs.Ytcdcehjilneifaa
open Go Go.Gw Go.UtfP Go.TokP Go.PcP Go.RowKit
set_option linter.unusedVariables false
set_option linter.unusedSimpArgs false
set_option maxRecDepth 20000


abbrev uO0 : List Nat := [1,1,1,0,1,0,0]
abbrev uO1 : List Nat := [1,1,1,1]
abbrev uO2 : List Nat := [1,1,1,0,1,0,0,1,1]
abbrev uO3 : List Nat := [1,1,1,0,1,0,0,1,0,0,1,1,1,0,0]
abbrev uO4 : List Nat := [1,1,0,1,0,0]
abbrev uO5 : List Nat := [1,1,1,0,1,0,0,1,0,0,1,1,1,0,0,1,1]
abbrev uO6 : List Nat := [1,1,1,0,1,0,0,1,0,0,1,1]
abbrev uO7 : List Nat := [1,1,1,0,1,0,0,1,0,0,1,1,1,0,0,1,0,0,1]
abbrev uO8 : List Nat := [1,1,0,1,0,0,1,1]
abbrev uO9 : List Nat := [1,1,1,0,1,0,0,1,0,0,1,1,1,0,0,1,0,0,0]
abbrev uO10 : List Nat := [1,1,1,0,1,0,0,1,0,0,1,1,1,0,0,1]
abbrev uO11 : List Nat := [1,1,1,0,1,0,0,1]
abbrev uO12 : List Nat := [1,1,1,0,1,0,0,1,0,0,1,0,1,0,1]
abbrev uO13 : List Nat := [1,1,1,0,1,0,0,1,0,0,1,1,1,0,0,1,0,0,1,0,1]
set_option maxHeartbeats 1000000 in
theorem rcheck_L3 {w0 : World} (p : Pc) (nv wv : Value) (hn : Rd w0 2 nv p.nums.length (recs nmC p.nums)) (Z : List WZ) (hZ : p.words = Z.map WZ.wd) (hz : Rd w0 2 wv Z.length (recs wzC Z)) (ht : ∀ z ∈ Z, Rd w0 2 z.toks z.wd.toks.length (recs tokc z.wd.toks)) (hs : SmallN p) (hs2 : ∀ z ∈ Z, z.wd.name.length ≤ 9223372036854775807) (hk : 1 ≤ p.key.length ∧ p.key.length ≤ 32) (h8 : p.nums.length ≤ 8) (h9 : Z.length ≤ 8) (bp : Nat) (i : Nat) (hi : i < Z.length) (h4 : ¬ ((List.getD Z i wz).wd.toks).length > 4096) (b5 : Nat) (R : Ending → World → Prop) (hR : R = (fun e w' => e = .returned (.bool (checkP p)) ∧ Mem [] w0 w' [])) : ∀ (N : Nat) (k : Nat) (w : World) (out : ∀ (w : World), Mem [] w0 w [⟨29, 3, (obj bp), 1, [sS (p.key), nv, wv]⟩] → wordG (List.getD Z i wz).wd = true → GoS Try.prog 20 R 137 [iC Try.f20 uO0, iL Try.f20 uO0, .inBlock 2, iC Try.f20 uO1] [(1, pq bp), (4, iN (i + 1))] w) (hk2 : k ≤ ((List.getD Z i wz).wd.toks).length) (hT : tokG k (((List.getD Z i wz).wd.toks).drop k) = tokG 0 ((List.getD Z i wz).wd.toks)) (hM : Mem [] w0 w [⟨29, 3, (obj bp), 1, [sS (p.key), nv, wv]⟩, ⟨68, 2, (obj b5), 1, [sS ((List.getD Z i wz).wd.name), ((List.getD Z i wz).toks)]⟩]) (hN : ((List.getD Z i wz).wd.toks).length - k < N), GoS Try.prog 20 R 137 [iC Try.f20 uO3, iL Try.f20 uO3, .inBlock 4, .inBlock 3, iC Try.f20 uO2, iL Try.f20 uO0, .inBlock 2, iC Try.f20 uO1] [(1, pq bp), (4, iN i), (5, pq b5), (6, iN k)] w := by
 intro N
 induction N with
 | zero => intro k w out hk2 hT hM hN; exact absurd hN (Nat.not_lt_zero _)
 | succ N ih =>
  intro k w out hk2 hT hM hN
  have hl1 := rd_len hn
  have hl2 := rd_len hz
  simp only [maxLen] at hl1 hl2
  have o1 : (Instr.loadAt 64 (.pointer (some (⟨b5, 1, none⟩)))).run Try.prog w = .ok (((List.getD Z i wz).toks)) w := c_load pE64 (hM.rd 1 rfl) (cel_obj b5 1) rfl
  have o2 : (Builtin.len_ #[64] 3 #[((List.getD Z i wz).toks)]).run Try.prog w = .ok (iN (List.length (List.getD Z i wz).wd.toks)) w := f_slen sT64 ((ht (List.getD Z i wz) (getD_mem (by omega))).kept0 hM.kept) 3 _
  refine GoS.run [1, 4, 5, 6, 106] [.n, .n, .n, .n, .n, .h (((List.getD Z i wz).toks)), .h (iN (List.length (List.getD Z i wz).wd.toks)), .n, .n] _ [iC Try.f20 [1,1,1,0,1,0,0,1,0,0,1,1,1,0,0,0,1], iC Try.f20 uO10, iL Try.f20 uO3, .inBlock 4, .inBlock 3, iC Try.f20 uO2, iL Try.f20 uO0, .inBlock 2, iC Try.f20 uO1] [(1, pq bp), (4, iN i), (5, pq b5), (6, iN k), (106, .bool (decide (((k : Nat) : Int) < (((List.length (List.getD Z i wz).wd.toks) : Nat) : Int))))] w (by kernel_rfl) (.cons o1 (.cons o2 .nil)) ?_
  refine GoS.cond (decide (((k : Nat) : Int) < (((List.length (List.getD Z i wz).wd.toks) : Nat) : Int))) [iC Try.f20 [1,1,1,0,1,0,0,1,0,0,1,1,1,0,0,0,1,0], iC Try.f20 uO10, iL Try.f20 uO3, .inBlock 4, .inBlock 3, iC Try.f20 uO2, iL Try.f20 uO0, .inBlock 2, iC Try.f20 uO1] [iC Try.f20 [1,1,1,0,1,0,0,1,0,0,1,1,1,0,0,0,1,1], iC Try.f20 uO10, iL Try.f20 uO3, .inBlock 4, .inBlock 3, iC Try.f20 uO2, iL Try.f20 uO0, .inBlock 2, iC Try.f20 uO1] (by kernel_rfl) (fun h3 => ?_) (fun h3 => ?_)
  ·
   have h3p : ((k : Nat) : Int) < (((List.length (List.getD Z i wz).wd.toks) : Nat) : Int) := of_decide_eq_true h3
   refine GoS.run [1, 4, 5, 6] [.n] _ [iC Try.f20 uO10, iL Try.f20 uO3, .inBlock 4, .inBlock 3, iC Try.f20 uO2, iL Try.f20 uO0, .inBlock 2, iC Try.f20 uO1] [(1, pq bp), (4, iN i), (5, pq b5), (6, iN k)] w (by kernel_rfl) .nil ?_
   have o9 : (Instr.loadAt 64 (.pointer (some (⟨b5, 1, none⟩)))).run Try.prog w = .ok (((List.getD Z i wz).toks)) w := c_load pE64 (hM.rd 1 rfl) (cel_obj b5 1) rfl
   obtain ⟨p6, hp7, hq8⟩ := rd_at (i := ((k : Nat) : Int)) sT64 ((ht (List.getD Z i wz) (getD_mem (by omega))).kept0 hM.kept) k (by omega) (by first | omega | (dsimp only; omega))
   have o10 : (Instr.indexAt 64 (((List.getD Z i wz).toks)) (iN k)).run Try.prog w = .ok (.pointer (some p6)) w := hq8 _ _
   have o11 : (Instr.loadAt 3 (.pointer (some (Addr.add p6 1)))).run Try.prog w = .ok (.int .i64 ((List.getD ((List.getD Z i wz).wd.toks) k (Tok.mk [] 0)).a)) w := c_load pE3 ((ht (List.getD Z i wz) (getD_mem (by omega))).kept0 hM.kept) (Cel.add (At.cel hp7) 1) (recs_at (i := 1) tokc_len (Tok.mk [] 0) (by first | omega | (dsimp only; omega)) rfl)
   refine GoS.run [1, 4, 5, 6, 117] [.n, .n, .n, .n, .n, .h (((List.getD Z i wz).toks)), .n, .h (.pointer (some p6)), .n, .h (.int .i64 ((List.getD ((List.getD Z i wz).wd.toks) k (Tok.mk [] 0)).a)), .n, .n, .n] _ [.inRegion (cops (csub (cd Try.f20) uO9)) [9,10,11,12,13,14,15,16,17,18,19,20,21,22,23,24,25,26,27], iC Try.f20 uO7, .inBlock 5, iC Try.f20 uO5, iL Try.f20 uO3, .inBlock 4, .inBlock 3, iC Try.f20 uO2, iL Try.f20 uO0, .inBlock 2, iC Try.f20 uO1] [(1, pq bp), (4, iN i), (5, pq b5), (6, iN k), (117, .bool (((List.getD ((List.getD Z i wz).wd.toks) k (Tok.mk [] 0)).a) != ((k : Nat) : Int)))] w (by kernel_rfl) (.cons o9 (.cons o10 (.cons o11 .nil))) ?_
   refine GoS.fork 117 (((List.getD ((List.getD Z i wz).wd.toks) k (Tok.mk [] 0)).a) != ((k : Nat) : Int)) (by kernel_rfl) (fun h12 => ?_) (fun h12 => ?_)
   ·
    have h12p : ¬ (((List.getD ((List.getD Z i wz).wd.toks) k (Tok.mk [] 0)).a) = ((k : Nat) : Int)) := bne_iff_ne.1 h12
    refine GoS.run [1, 4, 5, 6, 136] [.n, .n, .n, .n, .n, .n, .n, .n, .n, .n, .n, .n, .n, .n, .n, .n, .n, .n, .n] _ [.inRegion (cops (csub (cd Try.f20) uO9)) [], iC Try.f20 uO7, .inBlock 5, iC Try.f20 uO5, iL Try.f20 uO3, .inBlock 4, .inBlock 3, iC Try.f20 uO2, iL Try.f20 uO0, .inBlock 2, iC Try.f20 uO1] [(1, pq bp), (4, iN i), (5, pq b5), (6, iN k), (136, .bool true)] w (by kernel_rfl) .nil ?_
    have hM28 := hM.sub (sD (sD sR))
    refine GoS.run [2] [.n, .n, .n, .n, .n, .n] _ [iC Try.f20 uO13, .inBlock 5, iC Try.f20 uO5, iL Try.f20 uO3, .inBlock 4, .inBlock 3, iC Try.f20 uO2, iL Try.f20 uO0, .inBlock 2, iC Try.f20 uO1] [(2, .bool false)] w (by kernel_rfl) .nil ?_
    refine GoS.ret (fn := Try.f20) (v := (.bool false)) Try.func20 (by kernel_rfl) ?_
    rw [hR]
    exact ⟨ret_bool (check_words (by rw [hZ]; exact words_no (i := i) (by omega) (by rw [word_of (by omega), ← hT]; exact tokG_at (by omega) (by first | omega | exact h12p | simpa using h12)))).symm, hM28.sub sN⟩
   ·
    have h12p : ((List.getD ((List.getD Z i wz).wd.toks) k (Tok.mk [] 0)).a) = ((k : Nat) : Int) := p_eq h12
    have o16 : (Instr.loadAt 64 (.pointer (some (⟨b5, 1, none⟩)))).run Try.prog w = .ok (((List.getD Z i wz).toks)) w := c_load pE64 (hM.rd 1 rfl) (cel_obj b5 1) rfl
    obtain ⟨p13, hp14, hq15⟩ := rd_at (i := ((k : Nat) : Int)) sT64 ((ht (List.getD Z i wz) (getD_mem (by omega))).kept0 hM.kept) k (by omega) (by first | omega | (dsimp only; omega))
    have o17 : (Instr.indexAt 64 (((List.getD Z i wz).toks)) (iN k)).run Try.prog w = .ok (.pointer (some p13)) w := hq15 _ _
    have o18 : (Instr.loadAt 9 (.pointer (some (Addr.add p13 0)))).run Try.prog w = .ok (sS ((List.getD ((List.getD Z i wz).wd.toks) k (Tok.mk [] 0)).t)) w := c_load pE9 ((ht (List.getD Z i wz) (getD_mem (by omega))).kept0 hM.kept) (Cel.add (At.cel hp14) 0) (recs_at (i := 0) tokc_len (Tok.mk [] 0) (by first | omega | (dsimp only; omega)) rfl)
    have o19 : (Builtin.len_ #[9] 3 #[sS ((List.getD ((List.getD Z i wz).wd.toks) k (Tok.mk [] 0)).t)]).run Try.prog w = .ok (iN (((List.getD ((List.getD Z i wz).wd.toks) k (Tok.mk [] 0)).t).length)) w := f_len (by kernel_rfl)
    refine GoS.run [1, 4, 5, 6, 127] [.n, .h (((List.getD Z i wz).toks)), .n, .h (.pointer (some p13)), .n, .h (sS ((List.getD ((List.getD Z i wz).wd.toks) k (Tok.mk [] 0)).t)), .h (iN (((List.getD ((List.getD Z i wz).wd.toks) k (Tok.mk [] 0)).t).length)), .n, .n, .n] _ [.inRegion (cops (csub (cd Try.f20) uO9)) [19,20,21,22,23,24,25,26,27], iC Try.f20 uO7, .inBlock 5, iC Try.f20 uO5, iL Try.f20 uO3, .inBlock 4, .inBlock 3, iC Try.f20 uO2, iL Try.f20 uO0, .inBlock 2, iC Try.f20 uO1] [(1, pq bp), (4, iN i), (5, pq b5), (6, iN k), (127, .bool (decide (((((List.getD ((List.getD Z i wz).wd.toks) k (Tok.mk [] 0)).t).length : Nat) : Int) < 1)))] w (by kernel_rfl) (.cons o16 (.cons o17 (.cons o18 (.cons o19 .nil)))) ?_
    refine GoS.fork 127 (decide (((((List.getD ((List.getD Z i wz).wd.toks) k (Tok.mk [] 0)).t).length : Nat) : Int) < 1)) (by kernel_rfl) (fun h20 => ?_) (fun h20 => ?_)
    ·
     have h20p : ((((List.getD ((List.getD Z i wz).wd.toks) k (Tok.mk [] 0)).t).length : Nat) : Int) < 1 := of_decide_eq_true h20
     refine GoS.run [1, 4, 5, 6, 136] [.n, .n, .n, .n, .n, .n, .n, .n, .n] _ [.inRegion (cops (csub (cd Try.f20) uO9)) [], iC Try.f20 uO7, .inBlock 5, iC Try.f20 uO5, iL Try.f20 uO3, .inBlock 4, .inBlock 3, iC Try.f20 uO2, iL Try.f20 uO0, .inBlock 2, iC Try.f20 uO1] [(1, pq bp), (4, iN i), (5, pq b5), (6, iN k), (136, .bool true)] w (by kernel_rfl) .nil ?_
     have hM29 := hM.sub (sD (sD sR))
     refine GoS.run [2] [.n, .n, .n, .n, .n, .n] _ [iC Try.f20 uO13, .inBlock 5, iC Try.f20 uO5, iL Try.f20 uO3, .inBlock 4, .inBlock 3, iC Try.f20 uO2, iL Try.f20 uO0, .inBlock 2, iC Try.f20 uO1] [(2, .bool false)] w (by kernel_rfl) .nil ?_
     refine GoS.ret (fn := Try.f20) (v := (.bool false)) Try.func20 (by kernel_rfl) ?_
     rw [hR]
     exact ⟨ret_bool (check_words (by rw [hZ]; exact words_no (i := i) (by omega) (by rw [word_of (by omega), ← hT]; exact tokG_one (by omega) (by omega)))).symm, hM29.sub sN⟩
    ·
     have h20p : ¬ (((((List.getD ((List.getD Z i wz).wd.toks) k (Tok.mk [] 0)).t).length : Nat) : Int) < 1) := of_decide_eq_false h20
     have o24 : (Instr.loadAt 64 (.pointer (some (⟨b5, 1, none⟩)))).run Try.prog w = .ok (((List.getD Z i wz).toks)) w := c_load pE64 (hM.rd 1 rfl) (cel_obj b5 1) rfl
     obtain ⟨p21, hp22, hq23⟩ := rd_at (i := ((k : Nat) : Int)) sT64 ((ht (List.getD Z i wz) (getD_mem (by omega))).kept0 hM.kept) k (by omega) (by first | omega | (dsimp only; omega))
     have o25 : (Instr.indexAt 64 (((List.getD Z i wz).toks)) (iN k)).run Try.prog w = .ok (.pointer (some p21)) w := hq23 _ _
     have o26 : (Instr.loadAt 9 (.pointer (some (Addr.add p21 0)))).run Try.prog w = .ok (sS ((List.getD ((List.getD Z i wz).wd.toks) k (Tok.mk [] 0)).t)) w := c_load pE9 ((ht (List.getD Z i wz) (getD_mem (by omega))).kept0 hM.kept) (Cel.add (At.cel hp22) 0) (recs_at (i := 0) tokc_len (Tok.mk [] 0) (by first | omega | (dsimp only; omega)) rfl)
     have o27 : (Builtin.len_ #[9] 3 #[sS ((List.getD ((List.getD Z i wz).wd.toks) k (Tok.mk [] 0)).t)]).run Try.prog w = .ok (iN (((List.getD ((List.getD Z i wz).wd.toks) k (Tok.mk [] 0)).t).length)) w := f_len (by kernel_rfl)
     refine GoS.run [1, 4, 5, 6, 136] [.n, .h (((List.getD Z i wz).toks)), .n, .h (.pointer (some p21)), .n, .h (sS ((List.getD ((List.getD Z i wz).wd.toks) k (Tok.mk [] 0)).t)), .h (iN (((List.getD ((List.getD Z i wz).wd.toks) k (Tok.mk [] 0)).t).length)), .n, .n] _ [.inRegion (cops (csub (cd Try.f20) uO9)) [], iC Try.f20 uO7, .inBlock 5, iC Try.f20 uO5, iL Try.f20 uO3, .inBlock 4, .inBlock 3, iC Try.f20 uO2, iL Try.f20 uO0, .inBlock 2, iC Try.f20 uO1] [(1, pq bp), (4, iN i), (5, pq b5), (6, iN k), (136, .bool (decide (((((List.getD ((List.getD Z i wz).wd.toks) k (Tok.mk [] 0)).t).length : Nat) : Int) > 64)))] w (by kernel_rfl) (.cons o24 (.cons o25 (.cons o26 (.cons o27 .nil)))) ?_
     refine GoS.run [1, 4, 5, 6, 136] [.n] _ [iC Try.f20 uO7, .inBlock 5, iC Try.f20 uO5, iL Try.f20 uO3, .inBlock 4, .inBlock 3, iC Try.f20 uO2, iL Try.f20 uO0, .inBlock 2, iC Try.f20 uO1] [(1, pq bp), (4, iN i), (5, pq b5), (6, iN k), (136, .bool (decide (((((List.getD ((List.getD Z i wz).wd.toks) k (Tok.mk [] 0)).t).length : Nat) : Int) > 64)))] w (by kernel_rfl) .nil ?_
     refine GoS.cond (decide (((((List.getD ((List.getD Z i wz).wd.toks) k (Tok.mk [] 0)).t).length : Nat) : Int) > 64)) [iC Try.f20 [1,1,1,0,1,0,0,1,0,0,1,1,1,0,0,1,0,0,1,0], .inBlock 5, iC Try.f20 uO5, iL Try.f20 uO3, .inBlock 4, .inBlock 3, iC Try.f20 uO2, iL Try.f20 uO0, .inBlock 2, iC Try.f20 uO1] [iC Try.f20 [1,1,1,0,1,0,0,1,0,0,1,1,1,0,0,1,0,0,1,1], .inBlock 5, iC Try.f20 uO5, iL Try.f20 uO3, .inBlock 4, .inBlock 3, iC Try.f20 uO2, iL Try.f20 uO0, .inBlock 2, iC Try.f20 uO1] (by kernel_rfl) (fun h30 => ?_) (fun h30 => ?_)
     ·
      have h30p : ((((List.getD ((List.getD Z i wz).wd.toks) k (Tok.mk [] 0)).t).length : Nat) : Int) > 64 := of_decide_eq_true h30
      have hM31 := hM.sub (sD (sD sR))
      refine GoS.run [2] [.n, .n, .n, .n] _ [iC Try.f20 uO13, .inBlock 5, iC Try.f20 uO5, iL Try.f20 uO3, .inBlock 4, .inBlock 3, iC Try.f20 uO2, iL Try.f20 uO0, .inBlock 2, iC Try.f20 uO1] [(2, .bool false)] w (by kernel_rfl) .nil ?_
      refine GoS.ret (fn := Try.f20) (v := (.bool false)) Try.func20 (by kernel_rfl) ?_
      rw [hR]
      exact ⟨ret_bool (check_words (by rw [hZ]; exact words_no (i := i) (by omega) (by rw [word_of (by omega), ← hT]; exact tokG_long (by omega) (by omega)))).symm, hM31.sub sN⟩
     ·
      have h30p : ¬ (((((List.getD ((List.getD Z i wz).wd.toks) k (Tok.mk [] 0)).t).length : Nat) : Int) > 64) := of_decide_eq_false h30
      refine GoS.run [1, 4, 5, 6] [.n] _ [.inBlock 5, iC Try.f20 uO5, iL Try.f20 uO3, .inBlock 4, .inBlock 3, iC Try.f20 uO2, iL Try.f20 uO0, .inBlock 2, iC Try.f20 uO1] [(1, pq bp), (4, iN i), (5, pq b5), (6, iN k)] w (by kernel_rfl) .nil ?_
      have o32 : (binOp .add 3 (iN k) (.int .i64 1)).run Try.prog w = .ok (iN (k + 1)) w := f_add (by rw [show ((k : Nat) : Int) + 1 = (((k + 1) : Nat) : Int) by omega]; exact IntWalk.i64_in _ (by omega))
      refine GoS.run [1, 4, 5, 6] [.n, .n, .n, .h (iN (k + 1)), .n, .n, .n] _ [iC Try.f20 uO3, iL Try.f20 uO3, .inBlock 4, .inBlock 3, iC Try.f20 uO2, iL Try.f20 uO0, .inBlock 2, iC Try.f20 uO1] [(1, pq bp), (4, iN i), (5, pq b5), (6, iN (k + 1))] w (by kernel_rfl) (.cons o32 .nil) ?_
      exact ih (k + 1) _ out (by omega) ((tokG_on (by omega) (by first | omega | exact h12p | simpa using h12) (by omega) (by omega)).symm.trans hT) (hM.sub (sK (sK sN))) (by omega)
  ·
   have h3p : ¬ (((k : Nat) : Int) < (((List.length (List.getD Z i wz).wd.toks) : Nat) : Int)) := of_decide_eq_false h3
   have o4 : (binOp .add 3 (iN i) (.int .i64 1)).run Try.prog w = .ok (iN (i + 1)) w := f_add (by rw [show ((i : Nat) : Int) + 1 = (((i + 1) : Nat) : Int) by omega]; exact IntWalk.i64_in _ (by omega))
   have hM5 := hM.sub (sK (sD sR))
   refine GoS.run [1, 4] [.n, .n, .n, .n, .h (iN (i + 1)), .n, .n, .n] _ [iC Try.f20 uO0, iL Try.f20 uO0, .inBlock 2, iC Try.f20 uO1] [(1, pq bp), (4, iN (i + 1))] w (by kernel_rfl) (.cons o4 .nil) ?_
   exact out _ (hM5.sub (sK sN)) (by rw [word_of (by omega), ← hT]; exact tokG_all (by omega))

set_option maxHeartbeats 1000000 in
theorem rcheck_L2 {w0 : World} (p : Pc) (nv wv : Value) (hn : Rd w0 2 nv p.nums.length (recs nmC p.nums)) (Z : List WZ) (hZ : p.words = Z.map WZ.wd) (hz : Rd w0 2 wv Z.length (recs wzC Z)) (ht : ∀ z ∈ Z, Rd w0 2 z.toks z.wd.toks.length (recs tokc z.wd.toks)) (hs : SmallN p) (hs2 : ∀ z ∈ Z, z.wd.name.length ≤ 9223372036854775807) (hk : 1 ≤ p.key.length ∧ p.key.length ≤ 32) (h8 : p.nums.length ≤ 8) (h9 : Z.length ≤ 8) (bp : Nat) (hNy : namesP (p.nums.map Nm.name) = true) (R : Ending → World → Prop) (hR : R = (fun e w' => e = .returned (.bool (checkP p)) ∧ Mem [] w0 w' [])) : ∀ (N : Nat) (i : Nat) (w : World) (hi : i ≤ Z.length) (hR0 : risesF (prevN (List.map (fun z : WZ => z.wd.name) Z) i) (List.drop i (List.map (fun z : WZ => z.wd.name) Z)) = risesF none (List.map (fun z : WZ => z.wd.name) Z)) (hG : ((Z.take i).map WZ.wd).all wordG = true) (hM : Mem [] w0 w [⟨29, 3, (obj bp), 1, [sS (p.key), nv, wv]⟩]) (hN : Z.length - i < N), GoS Try.prog 20 R 137 [iC Try.f20 uO0, iL Try.f20 uO0, .inBlock 2, iC Try.f20 uO1] [(1, pq bp), (4, iN i)] w := by
 intro N
 induction N with
 | zero => intro i w hi hR0 hG hM hN; exact absurd hN (Nat.not_lt_zero _)
 | succ N ih =>
  intro i w hi hR0 hG hM hN
  have hl1 := rd_len hn
  have hl2 := rd_len hz
  simp only [maxLen] at hl1 hl2
  have o1 : (Instr.loadAt 27 (.pointer (some (⟨bp, 2, none⟩)))).run Try.prog w = .ok (wv) w := c_load pE27 (hM.rd 0 rfl) (cel_obj bp 2) rfl
  have o2 : (Builtin.len_ #[27] 3 #[wv]).run Try.prog w = .ok (iN (List.length Z)) w := f_slen sT27 (hz.kept0 hM.kept) 3 _
  refine GoS.run [1, 4, 68] [.n, .n, .n, .n, .n, .h (wv), .h (iN (List.length Z)), .n, .n] _ [iC Try.f20 [1,1,1,0,1,0,0,0,1], iC Try.f20 uO11, iL Try.f20 uO0, .inBlock 2, iC Try.f20 uO1] [(1, pq bp), (4, iN i), (68, .bool (decide (((i : Nat) : Int) < (((List.length Z) : Nat) : Int))))] w (by kernel_rfl) (.cons o1 (.cons o2 .nil)) ?_
  refine GoS.cond (decide (((i : Nat) : Int) < (((List.length Z) : Nat) : Int))) [iC Try.f20 [1,1,1,0,1,0,0,0,1,0], iC Try.f20 uO11, iL Try.f20 uO0, .inBlock 2, iC Try.f20 uO1] [iC Try.f20 [1,1,1,0,1,0,0,0,1,1], iC Try.f20 uO11, iL Try.f20 uO0, .inBlock 2, iC Try.f20 uO1] (by kernel_rfl) (fun h3 => ?_) (fun h3 => ?_)
  ·
   have h3p : ((i : Nat) : Int) < (((List.length Z) : Nat) : Int) := of_decide_eq_true h3
   refine GoS.run [1, 4] [.n] _ [iC Try.f20 uO11, iL Try.f20 uO0, .inBlock 2, iC Try.f20 uO1] [(1, pq bp), (4, iN i)] w (by kernel_rfl) .nil ?_
   have o17 : (Instr.loadAt 27 (.pointer (some (⟨bp, 2, none⟩)))).run Try.prog w = .ok (wv) w := c_load pE27 (hM.rd 0 rfl) (cel_obj bp 2) rfl
   obtain ⟨p5, hp6, hq7⟩ := rd_at (i := ((i : Nat) : Int)) sT27 (hz.kept0 hM.kept) i (by omega) (by first | omega | (dsimp only; omega))
   have o18 : (Instr.indexAt 27 (wv) (iN i)).run Try.prog w = .ok (.pointer (some p5)) w := hq7 _ _
   have o19 : (Instr.loadAt 68 (.pointer (some p5))).run Try.prog w = .ok (.agg #[sS ((List.getD Z i wz).wd.name), ((List.getD Z i wz).toks)]) w := r_loads (f := wzC) (l := Z) aE68 (hz.kept0 hM.kept) wzC_len hp6 (by first | omega | (dsimp only; omega)) wz
   obtain ⟨b8, w9, hr10, hM11⟩ := m_alloc oT68 hM
   have hM12 : Mem [] w0 w9 [⟨68, 2, (obj b8), 1, [sS ([]), .slice none 0 0]⟩, ⟨29, 3, (obj bp), 1, [sS (p.key), nv, wv]⟩] := hM11
   obtain ⟨w13, hr14, hM15⟩ := c_stores (ys := [sS ((List.getD Z i wz).wd.name), ((List.getD Z i wz).toks)]) aE68 hM12 0 rfl (cel_obj b8 0) rfl (by decide) (by intro u hu; simp at hu; rcases hu with rfl | rfl <;> first | rfl | exact (rd_one ((ht (List.getD Z i wz) (getD_mem (by omega))).kept0 hM12.kept)))
   have hM16 : Mem [] w0 w13 [⟨68, 2, (obj b8), 1, [sS ((List.getD Z i wz).wd.name), ((List.getD Z i wz).toks)]⟩, ⟨29, 3, (obj bp), 1, [sS (p.key), nv, wv]⟩] := hM15
   have o20 : (Instr.storeAt 68 (pq b8) (.agg #[sS ((List.getD Z i wz).wd.name), ((List.getD Z i wz).toks)])).run Try.prog w9 = .ok () w13 ∧ undef = undef := ⟨hr14, rfl⟩
   refine GoS.run [1, 4, 5] [.n, .n, .n, .n, .n, .h (wv), .n, .h (.pointer (some p5)), .h (.agg #[sS ((List.getD Z i wz).wd.name), ((List.getD Z i wz).toks)]), .u (pq b8) (w9), .u (undef) (w13), .n, .n, .n] _ [iC Try.f20 [1,1,1,0,1,0,0,1,0,0,1,0,0], iC Try.f20 [1,1,1,0,1,0,0,1,0,0,1,0,1], iC Try.f20 uO6, .inBlock 3, iC Try.f20 uO2, iL Try.f20 uO0, .inBlock 2, iC Try.f20 uO1] [(1, pq bp), (4, iN i), (5, pq b8)] w13 (by kernel_rfl) (.cons o17 (.cons o18 (.cons o19 (.cons hr10 (.cons o20 .nil))))) ?_
   rcases Bool.eq_false_or_eq_true (!(nameP ((List.getD Z i wz).wd.name))) with h21 | h21
   ·
    refine GoS.drawC (fun W_ => Kept [] w13 W_) 12 (by kernel_rfl) [1, 4, 5, 101] [.u (pq b8) w13, .h (sS ((List.getD Z i wz).wd.name)), .h (.bool (nameP ((List.getD Z i wz).wd.name))), .u (.bool true) w13, .u (.bool true) w13, .u (.bool true) w13, .u (.bool true) w13, .u (.bool true) w13] (fun W_ => [(Instr.loadAt 9 (pq b8)).run Try.prog W_ = .ok (sS ((List.getD Z i wz).wd.name)) W_, (W_ = W_) ∧ Calls Try.prog 34 #[sS ((List.getD Z i wz).wd.name)] W_ (fun e W2 => e = .returned (.bool (nameP ((List.getD Z i wz).wd.name))) ∧ (fun W_ => Kept [] w13 W_) W2)]) [(pq b8, pq b8), (.bool (!(nameP ((List.getD Z i wz).wd.name))), .bool true), (.bool true, .bool true), (.bool true, .bool true), (.bool true, .bool true), (.bool true, .bool true)] [(1, pq bp), (4, iN i), (5, pq b8), (101, .bool true)] (by kernel_rfl) (by kernel_rfl) ([(101, .bool true), (100, undef), (99, undef), (98, undef), (97, undef), (96, .bool true), (95, .bool true), (94, undef), (93, undef), (92, undef), (91, undef), (90, undef), (89, undef), (88, undef), (87, undef), (86, undef), (85, undef), (84, undef), (83, undef), (82, undef), (81, undef), (80, .bool true), (79, .bool true), (78, .bool (nameP ((List.getD Z i wz).wd.name))), (77, sS ((List.getD Z i wz).wd.name)), (76, pq b8)] ++ [(1, pq bp), (4, iN i), (5, pq b8)]) (fun W_ => by kernel_rfl) (by kernel_rfl) (.cons rfl (.cons (congrArg Value.bool h21) (.cons rfl (.cons rfl (.cons rfl (.cons rfl Obs.nil)))))) (Kept.drewN _ _ 1) (fun W_ hW_ => (.cons (c_load pE9 ((hM16.rd 0 rfl).kept0 hW_) (cel_obj b8 0) rfl) (.cons (⟨rfl, Calls.mono (rname_c ((List.getD Z i wz).wd.name) (by first | exact hs.nums _ (getD_mem (by omega)) | exact hs2 _ (getD_mem (by omega))) W_) (fun e W2 h => ⟨h.1, h.2 ▸ hW_⟩)⟩) Obs.nil))) (fun w22 hw23 => ?_)
    have hM24 := hM16.ext hw23
    have hM25 := hM24.sub (sD (sD sR))
    refine GoS.run [2] [.n, .n, .n, .n, .n] _ [iC Try.f20 uO12, iC Try.f20 uO6, .inBlock 3, iC Try.f20 uO2, iL Try.f20 uO0, .inBlock 2, iC Try.f20 uO1] [(2, .bool false)] w22 (by kernel_rfl) .nil ?_
    refine GoS.ret (fn := Try.f20) (v := (.bool false)) Try.func20 (by kernel_rfl) ?_
    rw [hR]
    exact ⟨ret_bool (check_wn (by rw [wd_names hZ]; exact namesP_no (hR0.symm.trans (gr_name (f := (fun z : WZ => z.wd.name)) wz (by omega) (by simpa using h21))))).symm, hM25.sub sN⟩
   ·
    rcases Bool.eq_false_or_eq_true (decide (((i : Nat) : Int) > 0)) with h26 | h26
    ·
     have h26p : ((i : Nat) : Int) > 0 := of_decide_eq_true h26
     rcases Bool.eq_false_or_eq_true (!(Op.bytesLess ((List.getD Z (i - 1) wz).wd.name) ((List.getD Z i wz).wd.name))) with h30 | h30
     ·
      obtain ⟨p31, hp32, hq33⟩ := rd_at (i := (((i - 1) : Nat) : Int)) sT27 (hz.kept0 hM16.kept) (i - 1) (by omega) (by first | omega | (dsimp only; omega))
      refine GoS.drawC (fun W_ => Kept [] w13 W_) 12 (by kernel_rfl) [1, 4, 5, 101] [.u (pq b8) w13, .h (sS ((List.getD Z i wz).wd.name)), .h (.bool (nameP ((List.getD Z i wz).wd.name))), .u (.bool false) w13, .u (.bool false) w13, .u (iN i) w13, .u (.bool true) w13, .u (.bool true) w13, .u (pq b8) w13, .h (sS ((List.getD Z i wz).wd.name)), .u (.pointer (some (⟨bp, 2, none⟩))) w13, .h (wv), .u (iN i) w13, .h (iN (i - 1)), .h (.pointer (some p31)), .u (.pointer (some (Addr.add p31 0))) w13, .h (sS ((List.getD Z (i - 1) wz).wd.name)), .h (.bool true), .u (.bool true) w13, .u (.bool true) w13, .u (.bool true) w13, .u (.bool true) w13] (fun W_ => [(Instr.loadAt 9 (pq b8)).run Try.prog W_ = .ok (sS ((List.getD Z i wz).wd.name)) W_, (W_ = W_) ∧ Calls Try.prog 34 #[sS ((List.getD Z i wz).wd.name)] W_ (fun e W2 => e = .returned (.bool (nameP ((List.getD Z i wz).wd.name))) ∧ (fun W_ => Kept [] w13 W_) W2), (Instr.loadAt 9 (pq b8)).run Try.prog W_ = .ok (sS ((List.getD Z i wz).wd.name)) W_, (Instr.loadAt 27 (.pointer (some (⟨bp, 2, none⟩)))).run Try.prog W_ = .ok (wv) W_, (binOp .sub 3 (iN i) (.int .i64 1)).run Try.prog W_ = .ok (iN (i - 1)) W_, (Instr.indexAt 27 (wv) (iN (i - 1))).run Try.prog W_ = .ok (.pointer (some p31)) W_, (Instr.loadAt 9 (.pointer (some (Addr.add p31 0)))).run Try.prog W_ = .ok (sS ((List.getD Z (i - 1) wz).wd.name)) W_, Sem.run Try.prog (do pure (Next.value (← binOp .leq 9 (sS ((List.getD Z i wz).wd.name)) (sS ((List.getD Z (i - 1) wz).wd.name))))) W_ = .ok (.value (.bool true)) W_]) [(pq b8, pq b8), (.bool (!(nameP ((List.getD Z i wz).wd.name))), .bool false), (.bool false, .bool false), (iN i, iN i), (.bool (decide (((i : Nat) : Int) > 0)), .bool true), (.bool true, .bool true), (pq b8, pq b8), (.pointer (some (⟨bp, 2, none⟩)), .pointer (some (⟨bp, 2, none⟩))), (iN i, iN i), (.pointer (some (Addr.add p31 0)), .pointer (some (Addr.add p31 0))), (.bool true, .bool true), (.bool true, .bool true), (.bool true, .bool true), (.bool true, .bool true)] [(1, pq bp), (4, iN i), (5, pq b8), (101, .bool true)] (by kernel_rfl) (by kernel_rfl) ([(101, .bool true), (100, undef), (99, undef), (98, undef), (97, undef), (96, .bool true), (95, .bool true), (94, .bool true), (93, .bool true), (92, sS ((List.getD Z (i - 1) wz).wd.name)), (91, .pointer (some (Addr.add p31 0))), (90, .pointer (some p31)), (89, iN (i - 1)), (88, iN i), (87, wv), (86, .pointer (some (⟨bp, 2, none⟩))), (85, sS ((List.getD Z i wz).wd.name)), (84, pq b8), (83, .bool true), (82, .bool true), (81, iN i), (80, .bool false), (79, .bool false), (78, .bool (nameP ((List.getD Z i wz).wd.name))), (77, sS ((List.getD Z i wz).wd.name)), (76, pq b8)] ++ [(1, pq bp), (4, iN i), (5, pq b8)]) (fun W_ => by kernel_rfl) (by kernel_rfl) (.cons rfl (.cons (congrArg Value.bool h21) (.cons rfl (.cons rfl (.cons (congrArg Value.bool h26) (.cons rfl (.cons rfl (.cons rfl (.cons rfl (.cons rfl (.cons rfl (.cons rfl (.cons rfl (.cons rfl Obs.nil)))))))))))))) (Kept.drewN _ _ 1) (fun W_ hW_ => (.cons (c_load pE9 ((hM16.rd 0 rfl).kept0 hW_) (cel_obj b8 0) rfl) (.cons (⟨rfl, Calls.mono (rname_c ((List.getD Z i wz).wd.name) (by first | exact hs.nums _ (getD_mem (by omega)) | exact hs2 _ (getD_mem (by omega))) W_) (fun e W2 h => ⟨h.1, h.2 ▸ hW_⟩)⟩) (.cons (c_load pE9 ((hM16.rd 0 rfl).kept0 hW_) (cel_obj b8 0) rfl) (.cons (c_load pE27 ((hM16.rd 1 rfl).kept0 hW_) (cel_obj bp 2) rfl) (.cons (f_sub (by rw [show ((i : Nat) : Int) - 1 = (((i - 1) : Nat) : Int) by omega]; exact IntWalk.i64_in _ (by omega))) (.cons (hq33 _ _) (.cons (c_load pE9 ((hz.kept0 hM16.kept).kept0 hW_) (Cel.add (At.cel hp32) 0) (recs_at (i := 0) wzC_len wz (by first | omega | (dsimp only; omega)) rfl)) (.cons (congrArg Value.bool h30 ▸ (f_strle ((List.getD Z i wz).wd.name) ((List.getD Z (i - 1) wz).wd.name) W_)) Obs.nil))))))))) (fun w34 hw35 => ?_)
      have hM36 := hM16.ext hw35
      have hM37 := hM36.sub (sD (sD sR))
      refine GoS.run [2] [.n, .n, .n, .n, .n] _ [iC Try.f20 uO12, iC Try.f20 uO6, .inBlock 3, iC Try.f20 uO2, iL Try.f20 uO0, .inBlock 2, iC Try.f20 uO1] [(2, .bool false)] w34 (by kernel_rfl) .nil ?_
      refine GoS.ret (fn := Try.f20) (v := (.bool false)) Try.func20 (by kernel_rfl) ?_
      rw [hR]
      exact ⟨ret_bool (check_wn (by rw [wd_names hZ]; exact namesP_no (hR0.symm.trans (gr_low (f := (fun z : WZ => z.wd.name)) wz (by omega) (by omega) (by simpa using h30))))).symm, hM37.sub sN⟩
     ·
      obtain ⟨p38, hp39, hq40⟩ := rd_at (i := (((i - 1) : Nat) : Int)) sT27 (hz.kept0 hM16.kept) (i - 1) (by omega) (by first | omega | (dsimp only; omega))
      refine GoS.drawC (fun W_ => Kept [] w13 W_) 12 (by kernel_rfl) [1, 4, 5, 101] [.u (pq b8) w13, .h (sS ((List.getD Z i wz).wd.name)), .h (.bool (nameP ((List.getD Z i wz).wd.name))), .u (.bool false) w13, .u (.bool false) w13, .u (iN i) w13, .u (.bool true) w13, .u (.bool true) w13, .u (pq b8) w13, .h (sS ((List.getD Z i wz).wd.name)), .u (.pointer (some (⟨bp, 2, none⟩))) w13, .h (wv), .u (iN i) w13, .h (iN (i - 1)), .h (.pointer (some p38)), .u (.pointer (some (Addr.add p38 0))) w13, .h (sS ((List.getD Z (i - 1) wz).wd.name)), .h (.bool false), .u (.bool false) w13, .u (.bool false) w13, .u (.bool false) w13, .u (.pointer (some (⟨b8, 1, none⟩))) w13, .h (((List.getD Z i wz).toks)), .h (iN (List.length (List.getD Z i wz).wd.toks)), .u (.bool (decide ((((List.length (List.getD Z i wz).wd.toks) : Nat) : Int) > 4096))) w13, .u (.bool (decide ((((List.length (List.getD Z i wz).wd.toks) : Nat) : Int) > 4096))) w13] (fun W_ => [(Instr.loadAt 9 (pq b8)).run Try.prog W_ = .ok (sS ((List.getD Z i wz).wd.name)) W_, (W_ = W_) ∧ Calls Try.prog 34 #[sS ((List.getD Z i wz).wd.name)] W_ (fun e W2 => e = .returned (.bool (nameP ((List.getD Z i wz).wd.name))) ∧ (fun W_ => Kept [] w13 W_) W2), (Instr.loadAt 9 (pq b8)).run Try.prog W_ = .ok (sS ((List.getD Z i wz).wd.name)) W_, (Instr.loadAt 27 (.pointer (some (⟨bp, 2, none⟩)))).run Try.prog W_ = .ok (wv) W_, (binOp .sub 3 (iN i) (.int .i64 1)).run Try.prog W_ = .ok (iN (i - 1)) W_, (Instr.indexAt 27 (wv) (iN (i - 1))).run Try.prog W_ = .ok (.pointer (some p38)) W_, (Instr.loadAt 9 (.pointer (some (Addr.add p38 0)))).run Try.prog W_ = .ok (sS ((List.getD Z (i - 1) wz).wd.name)) W_, Sem.run Try.prog (do pure (Next.value (← binOp .leq 9 (sS ((List.getD Z i wz).wd.name)) (sS ((List.getD Z (i - 1) wz).wd.name))))) W_ = .ok (.value (.bool false)) W_, (Instr.loadAt 64 (.pointer (some (⟨b8, 1, none⟩)))).run Try.prog W_ = .ok (((List.getD Z i wz).toks)) W_, (Builtin.len_ #[64] 3 #[((List.getD Z i wz).toks)]).run Try.prog W_ = .ok (iN (List.length (List.getD Z i wz).wd.toks)) W_]) [(pq b8, pq b8), (.bool (!(nameP ((List.getD Z i wz).wd.name))), .bool false), (.bool false, .bool false), (iN i, iN i), (.bool (decide (((i : Nat) : Int) > 0)), .bool true), (.bool true, .bool true), (pq b8, pq b8), (.pointer (some (⟨bp, 2, none⟩)), .pointer (some (⟨bp, 2, none⟩))), (iN i, iN i), (.pointer (some (Addr.add p38 0)), .pointer (some (Addr.add p38 0))), (.bool false, .bool false), (.bool false, .bool false), (.bool false, .bool false), (.pointer (some (⟨b8, 1, none⟩)), .pointer (some (⟨b8, 1, none⟩))), (.bool (decide ((((List.length (List.getD Z i wz).wd.toks) : Nat) : Int) > 4096)), .bool (decide ((((List.length (List.getD Z i wz).wd.toks) : Nat) : Int) > 4096))), (.bool (decide ((((List.length (List.getD Z i wz).wd.toks) : Nat) : Int) > 4096)), .bool (decide ((((List.length (List.getD Z i wz).wd.toks) : Nat) : Int) > 4096)))] [(1, pq bp), (4, iN i), (5, pq b8), (101, .bool (decide ((((List.length (List.getD Z i wz).wd.toks) : Nat) : Int) > 4096)))] (by kernel_rfl) (by kernel_rfl) ([(101, .bool (decide ((((List.length (List.getD Z i wz).wd.toks) : Nat) : Int) > 4096))), (100, .bool (decide ((((List.length (List.getD Z i wz).wd.toks) : Nat) : Int) > 4096))), (99, iN (List.length (List.getD Z i wz).wd.toks)), (98, ((List.getD Z i wz).toks)), (97, .pointer (some (⟨b8, 1, none⟩))), (96, .bool false), (95, .bool false), (94, .bool false), (93, .bool false), (92, sS ((List.getD Z (i - 1) wz).wd.name)), (91, .pointer (some (Addr.add p38 0))), (90, .pointer (some p38)), (89, iN (i - 1)), (88, iN i), (87, wv), (86, .pointer (some (⟨bp, 2, none⟩))), (85, sS ((List.getD Z i wz).wd.name)), (84, pq b8), (83, .bool true), (82, .bool true), (81, iN i), (80, .bool false), (79, .bool false), (78, .bool (nameP ((List.getD Z i wz).wd.name))), (77, sS ((List.getD Z i wz).wd.name)), (76, pq b8)] ++ [(1, pq bp), (4, iN i), (5, pq b8)]) (fun W_ => by kernel_rfl) (by kernel_rfl) (.cons rfl (.cons (congrArg Value.bool h21) (.cons rfl (.cons rfl (.cons (congrArg Value.bool h26) (.cons rfl (.cons rfl (.cons rfl (.cons rfl (.cons rfl (.cons rfl (.cons rfl (.cons rfl (.cons rfl (.cons rfl (.cons rfl Obs.nil)))))))))))))))) (Kept.drewN _ _ 1) (fun W_ hW_ => (.cons (c_load pE9 ((hM16.rd 0 rfl).kept0 hW_) (cel_obj b8 0) rfl) (.cons (⟨rfl, Calls.mono (rname_c ((List.getD Z i wz).wd.name) (by first | exact hs.nums _ (getD_mem (by omega)) | exact hs2 _ (getD_mem (by omega))) W_) (fun e W2 h => ⟨h.1, h.2 ▸ hW_⟩)⟩) (.cons (c_load pE9 ((hM16.rd 0 rfl).kept0 hW_) (cel_obj b8 0) rfl) (.cons (c_load pE27 ((hM16.rd 1 rfl).kept0 hW_) (cel_obj bp 2) rfl) (.cons (f_sub (by rw [show ((i : Nat) : Int) - 1 = (((i - 1) : Nat) : Int) by omega]; exact IntWalk.i64_in _ (by omega))) (.cons (hq40 _ _) (.cons (c_load pE9 ((hz.kept0 hM16.kept).kept0 hW_) (Cel.add (At.cel hp39) 0) (recs_at (i := 0) wzC_len wz (by first | omega | (dsimp only; omega)) rfl)) (.cons (congrArg Value.bool h30 ▸ (f_strle ((List.getD Z i wz).wd.name) ((List.getD Z (i - 1) wz).wd.name) W_)) (.cons (c_load pE64 ((hM16.rd 0 rfl).kept0 hW_) (cel_obj b8 1) rfl) (.cons (f_slen sT64 ((ht (List.getD Z i wz) (getD_mem (by omega))).kept0 hM16.kept) 3 _) Obs.nil))))))))))) (fun w41 hw42 => ?_)
      have hM43 := hM16.ext hw42
      refine GoS.cond (decide ((((List.length (List.getD Z i wz).wd.toks) : Nat) : Int) > 4096)) [iC Try.f20 [1,1,1,0,1,0,0,1,0,0,1,0,1,0], iC Try.f20 uO6, .inBlock 3, iC Try.f20 uO2, iL Try.f20 uO0, .inBlock 2, iC Try.f20 uO1] [iC Try.f20 [1,1,1,0,1,0,0,1,0,0,1,0,1,1], iC Try.f20 uO6, .inBlock 3, iC Try.f20 uO2, iL Try.f20 uO0, .inBlock 2, iC Try.f20 uO1] (by kernel_rfl) (fun h44 => ?_) (fun h44 => ?_)
      ·
       have h44p : (((List.length (List.getD Z i wz).wd.toks) : Nat) : Int) > 4096 := of_decide_eq_true h44
       have hM45 := hM43.sub (sD (sD sR))
       refine GoS.run [2] [.n, .n, .n, .n] _ [iC Try.f20 uO12, iC Try.f20 uO6, .inBlock 3, iC Try.f20 uO2, iL Try.f20 uO0, .inBlock 2, iC Try.f20 uO1] [(2, .bool false)] w41 (by kernel_rfl) .nil ?_
       refine GoS.ret (fn := Try.f20) (v := (.bool false)) Try.func20 (by kernel_rfl) ?_
       rw [hR]
       exact ⟨ret_bool (check_words (by rw [hZ]; exact words_no (i := i) (by omega) (word_long (by omega)))).symm, hM45.sub sN⟩
      ·
       have h44p : ¬ ((((List.length (List.getD Z i wz).wd.toks) : Nat) : Int) > 4096) := of_decide_eq_false h44
       refine GoS.run [1, 4, 5] [.n] _ [iC Try.f20 uO6, .inBlock 3, iC Try.f20 uO2, iL Try.f20 uO0, .inBlock 2, iC Try.f20 uO1] [(1, pq bp), (4, iN i), (5, pq b8)] w41 (by kernel_rfl) .nil ?_
       refine GoS.run [1, 4, 5, 6] [.n, .n, .n, .n, .n, .n] _ [iC Try.f20 uO3, iL Try.f20 uO3, .inBlock 4, .inBlock 3, iC Try.f20 uO2, iL Try.f20 uO0, .inBlock 2, iC Try.f20 uO1] [(1, pq bp), (4, iN i), (5, pq b8), (6, .int .i64 0)] w41 (by kernel_rfl) .nil ?_
       have hM46 : Mem [] w0 w41 [⟨29, 3, (obj bp), 1, [sS (p.key), nv, wv]⟩, ⟨68, 2, (obj b8), 1, [sS ((List.getD Z i wz).wd.name), ((List.getD Z i wz).toks)]⟩] := hM43.perm (pS pR)
       exact rcheck_L3 p nv wv hn Z hZ hz ht hs hs2 hk h8 h9 bp i (by omega) (by omega) b8 R hR (((List.getD Z i wz).wd.toks).length + 1) 0 w41 (fun w_ hM_ hw_ => ih (i + 1) w_ (by omega) ((gr_on (f := (fun z : WZ => z.wd.name)) wz (by omega) (by omega) (by simpa using h21) (by simpa using h30)).symm.trans hR0) (words_on (by omega) hG hw_) hM_ (by omega)) (Nat.zero_le _) rfl (hM46.sub (sK (sK sN))) (by omega)
    ·
     have h26p : ¬ (((i : Nat) : Int) > 0) := of_decide_eq_false h26
     refine GoS.drawC (fun W_ => Kept [] w13 W_) 12 (by kernel_rfl) [1, 4, 5, 101] [.u (pq b8) w13, .h (sS ((List.getD Z i wz).wd.name)), .h (.bool (nameP ((List.getD Z i wz).wd.name))), .u (.bool false) w13, .u (.bool false) w13, .u (iN i) w13, .u (.bool false) w13, .u (.bool false) w13, .u (.bool false) w13, .u (.bool false) w13, .u (.bool false) w13, .u (.pointer (some (⟨b8, 1, none⟩))) w13, .h (((List.getD Z i wz).toks)), .h (iN (List.length (List.getD Z i wz).wd.toks)), .u (.bool (decide ((((List.length (List.getD Z i wz).wd.toks) : Nat) : Int) > 4096))) w13, .u (.bool (decide ((((List.length (List.getD Z i wz).wd.toks) : Nat) : Int) > 4096))) w13] (fun W_ => [(Instr.loadAt 9 (pq b8)).run Try.prog W_ = .ok (sS ((List.getD Z i wz).wd.name)) W_, (W_ = W_) ∧ Calls Try.prog 34 #[sS ((List.getD Z i wz).wd.name)] W_ (fun e W2 => e = .returned (.bool (nameP ((List.getD Z i wz).wd.name))) ∧ (fun W_ => Kept [] w13 W_) W2), (Instr.loadAt 64 (.pointer (some (⟨b8, 1, none⟩)))).run Try.prog W_ = .ok (((List.getD Z i wz).toks)) W_, (Builtin.len_ #[64] 3 #[((List.getD Z i wz).toks)]).run Try.prog W_ = .ok (iN (List.length (List.getD Z i wz).wd.toks)) W_]) [(pq b8, pq b8), (.bool (!(nameP ((List.getD Z i wz).wd.name))), .bool false), (.bool false, .bool false), (iN i, iN i), (.bool (decide (((i : Nat) : Int) > 0)), .bool false), (.bool false, .bool false), (.bool false, .bool false), (.bool false, .bool false), (.bool false, .bool false), (.pointer (some (⟨b8, 1, none⟩)), .pointer (some (⟨b8, 1, none⟩))), (.bool (decide ((((List.length (List.getD Z i wz).wd.toks) : Nat) : Int) > 4096)), .bool (decide ((((List.length (List.getD Z i wz).wd.toks) : Nat) : Int) > 4096))), (.bool (decide ((((List.length (List.getD Z i wz).wd.toks) : Nat) : Int) > 4096)), .bool (decide ((((List.length (List.getD Z i wz).wd.toks) : Nat) : Int) > 4096)))] [(1, pq bp), (4, iN i), (5, pq b8), (101, .bool (decide ((((List.length (List.getD Z i wz).wd.toks) : Nat) : Int) > 4096)))] (by kernel_rfl) (by kernel_rfl) ([(101, .bool (decide ((((List.length (List.getD Z i wz).wd.toks) : Nat) : Int) > 4096))), (100, .bool (decide ((((List.length (List.getD Z i wz).wd.toks) : Nat) : Int) > 4096))), (99, iN (List.length (List.getD Z i wz).wd.toks)), (98, ((List.getD Z i wz).toks)), (97, .pointer (some (⟨b8, 1, none⟩))), (96, .bool false), (95, .bool false), (94, .bool false), (93, undef), (92, undef), (91, undef), (90, undef), (89, undef), (88, undef), (87, undef), (86, undef), (85, undef), (84, undef), (83, .bool false), (82, .bool false), (81, iN i), (80, .bool false), (79, .bool false), (78, .bool (nameP ((List.getD Z i wz).wd.name))), (77, sS ((List.getD Z i wz).wd.name)), (76, pq b8)] ++ [(1, pq bp), (4, iN i), (5, pq b8)]) (fun W_ => by kernel_rfl) (by kernel_rfl) (.cons rfl (.cons (congrArg Value.bool h21) (.cons rfl (.cons rfl (.cons (congrArg Value.bool h26) (.cons rfl (.cons rfl (.cons rfl (.cons rfl (.cons rfl (.cons rfl (.cons rfl Obs.nil)))))))))))) (Kept.drewN _ _ 1) (fun W_ hW_ => (.cons (c_load pE9 ((hM16.rd 0 rfl).kept0 hW_) (cel_obj b8 0) rfl) (.cons (⟨rfl, Calls.mono (rname_c ((List.getD Z i wz).wd.name) (by first | exact hs.nums _ (getD_mem (by omega)) | exact hs2 _ (getD_mem (by omega))) W_) (fun e W2 h => ⟨h.1, h.2 ▸ hW_⟩)⟩) (.cons (c_load pE64 ((hM16.rd 0 rfl).kept0 hW_) (cel_obj b8 1) rfl) (.cons (f_slen sT64 ((ht (List.getD Z i wz) (getD_mem (by omega))).kept0 hM16.kept) 3 _) Obs.nil))))) (fun w47 hw48 => ?_)
     have hM49 := hM16.ext hw48
     refine GoS.cond (decide ((((List.length (List.getD Z i wz).wd.toks) : Nat) : Int) > 4096)) [iC Try.f20 [1,1,1,0,1,0,0,1,0,0,1,0,1,0], iC Try.f20 uO6, .inBlock 3, iC Try.f20 uO2, iL Try.f20 uO0, .inBlock 2, iC Try.f20 uO1] [iC Try.f20 [1,1,1,0,1,0,0,1,0,0,1,0,1,1], iC Try.f20 uO6, .inBlock 3, iC Try.f20 uO2, iL Try.f20 uO0, .inBlock 2, iC Try.f20 uO1] (by kernel_rfl) (fun h50 => ?_) (fun h50 => ?_)
     ·
      have h50p : (((List.length (List.getD Z i wz).wd.toks) : Nat) : Int) > 4096 := of_decide_eq_true h50
      have hM51 := hM49.sub (sD (sD sR))
      refine GoS.run [2] [.n, .n, .n, .n] _ [iC Try.f20 uO12, iC Try.f20 uO6, .inBlock 3, iC Try.f20 uO2, iL Try.f20 uO0, .inBlock 2, iC Try.f20 uO1] [(2, .bool false)] w47 (by kernel_rfl) .nil ?_
      refine GoS.ret (fn := Try.f20) (v := (.bool false)) Try.func20 (by kernel_rfl) ?_
      rw [hR]
      exact ⟨ret_bool (check_words (by rw [hZ]; exact words_no (i := i) (by omega) (word_long (by omega)))).symm, hM51.sub sN⟩
     ·
      have h50p : ¬ ((((List.length (List.getD Z i wz).wd.toks) : Nat) : Int) > 4096) := of_decide_eq_false h50
      refine GoS.run [1, 4, 5] [.n] _ [iC Try.f20 uO6, .inBlock 3, iC Try.f20 uO2, iL Try.f20 uO0, .inBlock 2, iC Try.f20 uO1] [(1, pq bp), (4, iN i), (5, pq b8)] w47 (by kernel_rfl) .nil ?_
      refine GoS.run [1, 4, 5, 6] [.n, .n, .n, .n, .n, .n] _ [iC Try.f20 uO3, iL Try.f20 uO3, .inBlock 4, .inBlock 3, iC Try.f20 uO2, iL Try.f20 uO0, .inBlock 2, iC Try.f20 uO1] [(1, pq bp), (4, iN i), (5, pq b8), (6, .int .i64 0)] w47 (by kernel_rfl) .nil ?_
      have hM52 : Mem [] w0 w47 [⟨29, 3, (obj bp), 1, [sS (p.key), nv, wv]⟩, ⟨68, 2, (obj b8), 1, [sS ((List.getD Z i wz).wd.name), ((List.getD Z i wz).toks)]⟩] := hM49.perm (pS pR)
      exact rcheck_L3 p nv wv hn Z hZ hz ht hs hs2 hk h8 h9 bp i (by omega) (by omega) b8 R hR (((List.getD Z i wz).wd.toks).length + 1) 0 w47 (fun w_ hM_ hw_ => ih (i + 1) w_ (by omega) ((gr_zero (f := (fun z : WZ => z.wd.name)) wz (by omega) (by omega) (by simpa using h21)).symm.trans hR0) (words_on (by omega) hG hw_) hM_ (by omega)) (Nat.zero_le _) rfl (hM52.sub (sK (sK sN))) (by omega)
  ·
   have h3p : ¬ (((i : Nat) : Int) < (((List.length Z) : Nat) : Int)) := of_decide_eq_false h3
   have hM4 := hM.sub (sD sR)
   refine GoS.run [2] [.n, .n, .n, .n, .n] _ [iC Try.f20 [1,1,1,1,1]] [(2, .bool true)] w (by kernel_rfl) .nil ?_
   refine GoS.ret (fn := Try.f20) (v := (.bool true)) Try.func20 (by kernel_rfl) ?_
   rw [hR]
   exact ⟨ret_bool (check_yes hk (by rw [hZ]; rw [take_all' (by omega)] at hG; exact hG) hNy (by rw [wd_names hZ]; exact namesP_yes (hR0.symm.trans (gr_all (f := (fun z : WZ => z.wd.name)) (by omega))) (by rw [List.length_map]; omega))).symm, hM4.sub sN⟩

set_option maxHeartbeats 1000000 in
theorem rcheck_L1 {w0 : World} (p : Pc) (nv wv : Value) (hn : Rd w0 2 nv p.nums.length (recs nmC p.nums)) (Z : List WZ) (hZ : p.words = Z.map WZ.wd) (hz : Rd w0 2 wv Z.length (recs wzC Z)) (ht : ∀ z ∈ Z, Rd w0 2 z.toks z.wd.toks.length (recs tokc z.wd.toks)) (hs : SmallN p) (hs2 : ∀ z ∈ Z, z.wd.name.length ≤ 9223372036854775807) (hk : 1 ≤ p.key.length ∧ p.key.length ≤ 32) (h8 : p.nums.length ≤ 8) (h9 : Z.length ≤ 8) (bp : Nat) (R : Ending → World → Prop) (hR : R = (fun e w' => e = .returned (.bool (checkP p)) ∧ Mem [] w0 w' [])) : ∀ (N : Nat) (i : Nat) (w : World) (hi : i ≤ p.nums.length) (hR0 : risesF (prevN (List.map Nm.name p.nums) i) (List.drop i (List.map Nm.name p.nums)) = risesF none (List.map Nm.name p.nums)) (hM : Mem [] w0 w [⟨29, 3, (obj bp), 1, [sS (p.key), nv, wv]⟩]) (hN : p.nums.length - i < N), GoS Try.prog 20 R 137 [iC Try.f20 uO4, iL Try.f20 uO4, .inBlock 0, iC Try.f20 [1,1,1]] [(1, pq bp), (3, iN i)] w := by
 intro N
 induction N with
 | zero => intro i w hi hR0 hM hN; exact absurd hN (Nat.not_lt_zero _)
 | succ N ih =>
  intro i w hi hR0 hM hN
  have hl1 := rd_len hn
  have hl2 := rd_len hz
  simp only [maxLen] at hl1 hl2
  have o1 : (Instr.loadAt 23 (.pointer (some (⟨bp, 1, none⟩)))).run Try.prog w = .ok (nv) w := c_load pE23 (hM.rd 0 rfl) (cel_obj bp 1) rfl
  have o2 : (Builtin.len_ #[23] 3 #[nv]).run Try.prog w = .ok (iN (List.length (p.nums))) w := f_slen sT23 (hn.kept0 hM.kept) 3 _
  refine GoS.run [1, 3, 33] [.n, .n, .n, .n, .n, .h (nv), .h (iN (List.length (p.nums))), .n, .n] _ [iC Try.f20 [1,1,0,1,0,0,0,1], iC Try.f20 [1,1,0,1,0,0,1], iL Try.f20 uO4, .inBlock 0, iC Try.f20 [1,1,1]] [(1, pq bp), (3, iN i), (33, .bool (decide (((i : Nat) : Int) < (((List.length (p.nums)) : Nat) : Int))))] w (by kernel_rfl) (.cons o1 (.cons o2 .nil)) ?_
  refine GoS.cond (decide (((i : Nat) : Int) < (((List.length (p.nums)) : Nat) : Int))) [iC Try.f20 [1,1,0,1,0,0,0,1,0], iC Try.f20 [1,1,0,1,0,0,1], iL Try.f20 uO4, .inBlock 0, iC Try.f20 [1,1,1]] [iC Try.f20 [1,1,0,1,0,0,0,1,1], iC Try.f20 [1,1,0,1,0,0,1], iL Try.f20 uO4, .inBlock 0, iC Try.f20 [1,1,1]] (by kernel_rfl) (fun h3 => ?_) (fun h3 => ?_)
  ·
   have h3p : ((i : Nat) : Int) < (((List.length (p.nums)) : Nat) : Int) := of_decide_eq_true h3
   refine GoS.run [1, 3] [.n] _ [iC Try.f20 [1,1,0,1,0,0,1], iL Try.f20 uO4, .inBlock 0, iC Try.f20 [1,1,1]] [(1, pq bp), (3, iN i)] w (by kernel_rfl) .nil ?_
   refine GoS.run [1, 3] [.n, .n, .n] _ [iC Try.f20 [1,1,0,1,0,0,1,0,0,0], iC Try.f20 [1,1,0,1,0,0,1,0,0,1], .inBlock 1, iC Try.f20 uO8, iL Try.f20 uO4, .inBlock 0, iC Try.f20 [1,1,1]] [(1, pq bp), (3, iN i)] w (by kernel_rfl) .nil ?_
   rcases Bool.eq_false_or_eq_true (!(nameP ((List.getD (p.nums) i nz).name))) with h7 | h7
   ·
    obtain ⟨p8, hp9, hq10⟩ := rd_at (i := ((i : Nat) : Int)) sT23 (hn.kept0 hM.kept) i (by omega) (by first | omega | (dsimp only; omega))
    refine GoS.drawC (fun W_ => Kept [] w W_) 6 (by kernel_rfl) [1, 3, 63] [.u (.pointer (some (⟨bp, 1, none⟩))) w, .h (nv), .u (iN i) w, .h (.pointer (some p8)), .u (.pointer (some (Addr.add p8 0))) w, .h (sS ((List.getD (p.nums) i nz).name)), .h (.bool (nameP ((List.getD (p.nums) i nz).name))), .u (.bool true) w, .u (.bool true) w, .u (.bool true) w] (fun W_ => [(Instr.loadAt 23 (.pointer (some (⟨bp, 1, none⟩)))).run Try.prog W_ = .ok (nv) W_, (Instr.indexAt 23 (nv) (iN i)).run Try.prog W_ = .ok (.pointer (some p8)) W_, (Instr.loadAt 9 (.pointer (some (Addr.add p8 0)))).run Try.prog W_ = .ok (sS ((List.getD (p.nums) i nz).name)) W_, (W_ = W_) ∧ Calls Try.prog 34 #[sS ((List.getD (p.nums) i nz).name)] W_ (fun e W2 => e = .returned (.bool (nameP ((List.getD (p.nums) i nz).name))) ∧ (fun W_ => Kept [] w W_) W2)]) [(.pointer (some (⟨bp, 1, none⟩)), .pointer (some (⟨bp, 1, none⟩))), (iN i, iN i), (.pointer (some (Addr.add p8 0)), .pointer (some (Addr.add p8 0))), (.bool (!(nameP ((List.getD (p.nums) i nz).name))), .bool true), (.bool true, .bool true), (.bool true, .bool true)] [(1, pq bp), (3, iN i), (63, .bool true)] (by kernel_rfl) (by kernel_rfl) ([(63, .bool true), (62, undef), (61, undef), (60, undef), (59, undef), (58, undef), (57, undef), (56, undef), (55, undef), (54, undef), (53, undef), (52, undef), (51, undef), (50, undef), (49, undef), (48, undef), (47, undef), (46, undef), (45, undef), (44, .bool true), (43, .bool true), (42, .bool (nameP ((List.getD (p.nums) i nz).name))), (41, sS ((List.getD (p.nums) i nz).name)), (40, .pointer (some (Addr.add p8 0))), (39, .pointer (some p8)), (38, iN i), (37, nv), (36, .pointer (some (⟨bp, 1, none⟩)))] ++ [(1, pq bp), (3, iN i)]) (fun W_ => by kernel_rfl) (by kernel_rfl) (.cons rfl (.cons rfl (.cons rfl (.cons (congrArg Value.bool h7) (.cons rfl (.cons rfl Obs.nil)))))) (Kept.drewN _ _ 1) (fun W_ hW_ => (.cons (c_load pE23 ((hM.rd 0 rfl).kept0 hW_) (cel_obj bp 1) rfl) (.cons (hq10 _ _) (.cons (c_load pE9 ((hn.kept0 hM.kept).kept0 hW_) (Cel.add (At.cel hp9) 0) (recs_at (i := 0) nmC_len nz (by first | omega | (dsimp only; omega)) rfl)) (.cons (⟨rfl, Calls.mono (rname_c ((List.getD (p.nums) i nz).name) (by first | exact hs.nums _ (getD_mem (by omega)) | exact hs2 _ (getD_mem (by omega))) W_) (fun e W2 h => ⟨h.1, h.2 ▸ hW_⟩)⟩) Obs.nil))))) (fun w11 hw12 => ?_)
    have hM13 := hM.ext hw12
    have hM14 := hM13.sub (sD sR)
    refine GoS.run [2] [.n, .n, .n, .n, .n] _ [iC Try.f20 [1,1,0,1,0,0,1,0,0,1,0,1], .inBlock 1, iC Try.f20 uO8, iL Try.f20 uO4, .inBlock 0, iC Try.f20 [1,1,1]] [(2, .bool false)] w11 (by kernel_rfl) .nil ?_
    refine GoS.ret (fn := Try.f20) (v := (.bool false)) Try.func20 (by kernel_rfl) ?_
    rw [hR]
    exact ⟨ret_bool (check_nn (namesP_no (hR0.symm.trans (gr_name (f := Nm.name) nz (by omega) (by simpa using h7))))).symm, hM14.sub sN⟩
   ·
    rcases Bool.eq_false_or_eq_true (decide (((i : Nat) : Int) > 0)) with h18 | h18
    ·
     have h18p : ((i : Nat) : Int) > 0 := of_decide_eq_true h18
     obtain ⟨p19, hp20, hq21⟩ := rd_at (i := ((i : Nat) : Int)) sT23 (hn.kept0 hM.kept) i (by omega) (by first | omega | (dsimp only; omega))
     obtain ⟨p22, hp23, hq24⟩ := rd_at (i := ((i : Nat) : Int)) sT23 (hn.kept0 hM.kept) i (by omega) (by first | omega | (dsimp only; omega))
     obtain ⟨p25, hp26, hq27⟩ := rd_at (i := (((i - 1) : Nat) : Int)) sT23 (hn.kept0 hM.kept) (i - 1) (by omega) (by first | omega | (dsimp only; omega))
     refine GoS.drawC (fun W_ => Kept [] w W_) 6 (by kernel_rfl) [1, 3, 63] [.u (.pointer (some (⟨bp, 1, none⟩))) w, .h (nv), .u (iN i) w, .h (.pointer (some p19)), .u (.pointer (some (Addr.add p19 0))) w, .h (sS ((List.getD (p.nums) i nz).name)), .h (.bool (nameP ((List.getD (p.nums) i nz).name))), .u (.bool false) w, .u (.bool false) w, .u (iN i) w, .u (.bool true) w, .u (.bool true) w, .u (.pointer (some (⟨bp, 1, none⟩))) w, .h (nv), .u (iN i) w, .h (.pointer (some p22)), .u (.pointer (some (Addr.add p22 0))) w, .h (sS ((List.getD (p.nums) i nz).name)), .u (.pointer (some (⟨bp, 1, none⟩))) w, .h (nv), .u (iN i) w, .h (iN (i - 1)), .h (.pointer (some p25)), .u (.pointer (some (Addr.add p25 0))) w, .h (sS ((List.getD (p.nums) (i - 1) nz).name)), .h (.bool (!(Op.bytesLess ((List.getD (p.nums) (i - 1) nz).name) ((List.getD (p.nums) i nz).name)))), .u (.bool (!(Op.bytesLess ((List.getD (p.nums) (i - 1) nz).name) ((List.getD (p.nums) i nz).name)))) w, .u (.bool (!(Op.bytesLess ((List.getD (p.nums) (i - 1) nz).name) ((List.getD (p.nums) i nz).name)))) w] (fun W_ => [(Instr.loadAt 23 (.pointer (some (⟨bp, 1, none⟩)))).run Try.prog W_ = .ok (nv) W_, (Instr.indexAt 23 (nv) (iN i)).run Try.prog W_ = .ok (.pointer (some p19)) W_, (Instr.loadAt 9 (.pointer (some (Addr.add p19 0)))).run Try.prog W_ = .ok (sS ((List.getD (p.nums) i nz).name)) W_, (W_ = W_) ∧ Calls Try.prog 34 #[sS ((List.getD (p.nums) i nz).name)] W_ (fun e W2 => e = .returned (.bool (nameP ((List.getD (p.nums) i nz).name))) ∧ (fun W_ => Kept [] w W_) W2), (Instr.loadAt 23 (.pointer (some (⟨bp, 1, none⟩)))).run Try.prog W_ = .ok (nv) W_, (Instr.indexAt 23 (nv) (iN i)).run Try.prog W_ = .ok (.pointer (some p22)) W_, (Instr.loadAt 9 (.pointer (some (Addr.add p22 0)))).run Try.prog W_ = .ok (sS ((List.getD (p.nums) i nz).name)) W_, (Instr.loadAt 23 (.pointer (some (⟨bp, 1, none⟩)))).run Try.prog W_ = .ok (nv) W_, (binOp .sub 3 (iN i) (.int .i64 1)).run Try.prog W_ = .ok (iN (i - 1)) W_, (Instr.indexAt 23 (nv) (iN (i - 1))).run Try.prog W_ = .ok (.pointer (some p25)) W_, (Instr.loadAt 9 (.pointer (some (Addr.add p25 0)))).run Try.prog W_ = .ok (sS ((List.getD (p.nums) (i - 1) nz).name)) W_, Sem.run Try.prog (do pure (Next.value (← binOp .leq 9 (sS ((List.getD (p.nums) i nz).name)) (sS ((List.getD (p.nums) (i - 1) nz).name))))) W_ = .ok (.value (.bool (!(Op.bytesLess ((List.getD (p.nums) (i - 1) nz).name) ((List.getD (p.nums) i nz).name))))) W_]) [(.pointer (some (⟨bp, 1, none⟩)), .pointer (some (⟨bp, 1, none⟩))), (iN i, iN i), (.pointer (some (Addr.add p19 0)), .pointer (some (Addr.add p19 0))), (.bool (!(nameP ((List.getD (p.nums) i nz).name))), .bool false), (.bool false, .bool false), (iN i, iN i), (.bool (decide (((i : Nat) : Int) > 0)), .bool true), (.bool true, .bool true), (.pointer (some (⟨bp, 1, none⟩)), .pointer (some (⟨bp, 1, none⟩))), (iN i, iN i), (.pointer (some (Addr.add p22 0)), .pointer (some (Addr.add p22 0))), (.pointer (some (⟨bp, 1, none⟩)), .pointer (some (⟨bp, 1, none⟩))), (iN i, iN i), (.pointer (some (Addr.add p25 0)), .pointer (some (Addr.add p25 0))), (.bool (!(Op.bytesLess ((List.getD (p.nums) (i - 1) nz).name) ((List.getD (p.nums) i nz).name))), .bool (!(Op.bytesLess ((List.getD (p.nums) (i - 1) nz).name) ((List.getD (p.nums) i nz).name)))), (.bool (!(Op.bytesLess ((List.getD (p.nums) (i - 1) nz).name) ((List.getD (p.nums) i nz).name))), .bool (!(Op.bytesLess ((List.getD (p.nums) (i - 1) nz).name) ((List.getD (p.nums) i nz).name))))] [(1, pq bp), (3, iN i), (63, .bool (!(Op.bytesLess ((List.getD (p.nums) (i - 1) nz).name) ((List.getD (p.nums) i nz).name))))] (by kernel_rfl) (by kernel_rfl) ([(63, .bool (!(Op.bytesLess ((List.getD (p.nums) (i - 1) nz).name) ((List.getD (p.nums) i nz).name)))), (62, .bool (!(Op.bytesLess ((List.getD (p.nums) (i - 1) nz).name) ((List.getD (p.nums) i nz).name)))), (61, .bool (!(Op.bytesLess ((List.getD (p.nums) (i - 1) nz).name) ((List.getD (p.nums) i nz).name)))), (60, sS ((List.getD (p.nums) (i - 1) nz).name)), (59, .pointer (some (Addr.add p25 0))), (58, .pointer (some p25)), (57, iN (i - 1)), (56, iN i), (55, nv), (54, .pointer (some (⟨bp, 1, none⟩))), (53, sS ((List.getD (p.nums) i nz).name)), (52, .pointer (some (Addr.add p22 0))), (51, .pointer (some p22)), (50, iN i), (49, nv), (48, .pointer (some (⟨bp, 1, none⟩))), (47, .bool true), (46, .bool true), (45, iN i), (44, .bool false), (43, .bool false), (42, .bool (nameP ((List.getD (p.nums) i nz).name))), (41, sS ((List.getD (p.nums) i nz).name)), (40, .pointer (some (Addr.add p19 0))), (39, .pointer (some p19)), (38, iN i), (37, nv), (36, .pointer (some (⟨bp, 1, none⟩)))] ++ [(1, pq bp), (3, iN i)]) (fun W_ => by kernel_rfl) (by kernel_rfl) (.cons rfl (.cons rfl (.cons rfl (.cons (congrArg Value.bool h7) (.cons rfl (.cons rfl (.cons (congrArg Value.bool h18) (.cons rfl (.cons rfl (.cons rfl (.cons rfl (.cons rfl (.cons rfl (.cons rfl (.cons rfl (.cons rfl Obs.nil)))))))))))))))) (Kept.drewN _ _ 1) (fun W_ hW_ => (.cons (c_load pE23 ((hM.rd 0 rfl).kept0 hW_) (cel_obj bp 1) rfl) (.cons (hq21 _ _) (.cons (c_load pE9 ((hn.kept0 hM.kept).kept0 hW_) (Cel.add (At.cel hp20) 0) (recs_at (i := 0) nmC_len nz (by first | omega | (dsimp only; omega)) rfl)) (.cons (⟨rfl, Calls.mono (rname_c ((List.getD (p.nums) i nz).name) (by first | exact hs.nums _ (getD_mem (by omega)) | exact hs2 _ (getD_mem (by omega))) W_) (fun e W2 h => ⟨h.1, h.2 ▸ hW_⟩)⟩) (.cons (c_load pE23 ((hM.rd 0 rfl).kept0 hW_) (cel_obj bp 1) rfl) (.cons (hq24 _ _) (.cons (c_load pE9 ((hn.kept0 hM.kept).kept0 hW_) (Cel.add (At.cel hp23) 0) (recs_at (i := 0) nmC_len nz (by first | omega | (dsimp only; omega)) rfl)) (.cons (c_load pE23 ((hM.rd 0 rfl).kept0 hW_) (cel_obj bp 1) rfl) (.cons (f_sub (by rw [show ((i : Nat) : Int) - 1 = (((i - 1) : Nat) : Int) by omega]; exact IntWalk.i64_in _ (by omega))) (.cons (hq27 _ _) (.cons (c_load pE9 ((hn.kept0 hM.kept).kept0 hW_) (Cel.add (At.cel hp26) 0) (recs_at (i := 0) nmC_len nz (by first | omega | (dsimp only; omega)) rfl)) (.cons (f_strle ((List.getD (p.nums) i nz).name) ((List.getD (p.nums) (i - 1) nz).name) W_) Obs.nil))))))))))))) (fun w28 hw29 => ?_)
     have hM30 := hM.ext hw29
     refine GoS.cond (!(Op.bytesLess ((List.getD (p.nums) (i - 1) nz).name) ((List.getD (p.nums) i nz).name))) [iC Try.f20 [1,1,0,1,0,0,1,0,0,1,0], .inBlock 1, iC Try.f20 uO8, iL Try.f20 uO4, .inBlock 0, iC Try.f20 [1,1,1]] [iC Try.f20 [1,1,0,1,0,0,1,0,0,1,1], .inBlock 1, iC Try.f20 uO8, iL Try.f20 uO4, .inBlock 0, iC Try.f20 [1,1,1]] (by kernel_rfl) (fun h31 => ?_) (fun h31 => ?_)
     ·
      have hM32 := hM30.sub (sD sR)
      refine GoS.run [2] [.n, .n, .n, .n] _ [iC Try.f20 [1,1,0,1,0,0,1,0,0,1,0,1], .inBlock 1, iC Try.f20 uO8, iL Try.f20 uO4, .inBlock 0, iC Try.f20 [1,1,1]] [(2, .bool false)] w28 (by kernel_rfl) .nil ?_
      refine GoS.ret (fn := Try.f20) (v := (.bool false)) Try.func20 (by kernel_rfl) ?_
      rw [hR]
      exact ⟨ret_bool (check_nn (namesP_no (hR0.symm.trans (gr_low (f := Nm.name) nz (by omega) (by omega) (by simpa using h31))))).symm, hM32.sub sN⟩
     ·
      refine GoS.run [1, 3] [.n] _ [.inBlock 1, iC Try.f20 uO8, iL Try.f20 uO4, .inBlock 0, iC Try.f20 [1,1,1]] [(1, pq bp), (3, iN i)] w28 (by kernel_rfl) .nil ?_
      have o33 : (binOp .add 3 (iN i) (.int .i64 1)).run Try.prog w28 = .ok (iN (i + 1)) w28 := f_add (by rw [show ((i : Nat) : Int) + 1 = (((i + 1) : Nat) : Int) by omega]; exact IntWalk.i64_in _ (by omega))
      refine GoS.run [1, 3] [.n, .n, .n, .h (iN (i + 1)), .n, .n, .n] _ [iC Try.f20 uO4, iL Try.f20 uO4, .inBlock 0, iC Try.f20 [1,1,1]] [(1, pq bp), (3, iN (i + 1))] w28 (by kernel_rfl) (.cons o33 .nil) ?_
      exact ih (i + 1) _ (by omega) ((gr_on (f := Nm.name) nz (by omega) (by omega) (by simpa using h7) (by simpa using h31)).symm.trans hR0) (hM30.sub (sK sN)) (by omega)
    ·
     have h18p : ¬ (((i : Nat) : Int) > 0) := of_decide_eq_false h18
     obtain ⟨p34, hp35, hq36⟩ := rd_at (i := ((i : Nat) : Int)) sT23 (hn.kept0 hM.kept) i (by omega) (by first | omega | (dsimp only; omega))
     refine GoS.drawC (fun W_ => Kept [] w W_) 6 (by kernel_rfl) [1, 3, 63] [.u (.pointer (some (⟨bp, 1, none⟩))) w, .h (nv), .u (iN i) w, .h (.pointer (some p34)), .u (.pointer (some (Addr.add p34 0))) w, .h (sS ((List.getD (p.nums) i nz).name)), .h (.bool (nameP ((List.getD (p.nums) i nz).name))), .u (.bool false) w, .u (.bool false) w, .u (iN i) w, .u (.bool false) w, .u (.bool false) w, .u (.bool false) w, .u (.bool false) w] (fun W_ => [(Instr.loadAt 23 (.pointer (some (⟨bp, 1, none⟩)))).run Try.prog W_ = .ok (nv) W_, (Instr.indexAt 23 (nv) (iN i)).run Try.prog W_ = .ok (.pointer (some p34)) W_, (Instr.loadAt 9 (.pointer (some (Addr.add p34 0)))).run Try.prog W_ = .ok (sS ((List.getD (p.nums) i nz).name)) W_, (W_ = W_) ∧ Calls Try.prog 34 #[sS ((List.getD (p.nums) i nz).name)] W_ (fun e W2 => e = .returned (.bool (nameP ((List.getD (p.nums) i nz).name))) ∧ (fun W_ => Kept [] w W_) W2)]) [(.pointer (some (⟨bp, 1, none⟩)), .pointer (some (⟨bp, 1, none⟩))), (iN i, iN i), (.pointer (some (Addr.add p34 0)), .pointer (some (Addr.add p34 0))), (.bool (!(nameP ((List.getD (p.nums) i nz).name))), .bool false), (.bool false, .bool false), (iN i, iN i), (.bool (decide (((i : Nat) : Int) > 0)), .bool false), (.bool false, .bool false), (.bool false, .bool false), (.bool false, .bool false)] [(1, pq bp), (3, iN i), (63, .bool false)] (by kernel_rfl) (by kernel_rfl) ([(63, .bool false), (62, .bool false), (61, undef), (60, undef), (59, undef), (58, undef), (57, undef), (56, undef), (55, undef), (54, undef), (53, undef), (52, undef), (51, undef), (50, undef), (49, undef), (48, undef), (47, .bool false), (46, .bool false), (45, iN i), (44, .bool false), (43, .bool false), (42, .bool (nameP ((List.getD (p.nums) i nz).name))), (41, sS ((List.getD (p.nums) i nz).name)), (40, .pointer (some (Addr.add p34 0))), (39, .pointer (some p34)), (38, iN i), (37, nv), (36, .pointer (some (⟨bp, 1, none⟩)))] ++ [(1, pq bp), (3, iN i)]) (fun W_ => by kernel_rfl) (by kernel_rfl) (.cons rfl (.cons rfl (.cons rfl (.cons (congrArg Value.bool h7) (.cons rfl (.cons rfl (.cons (congrArg Value.bool h18) (.cons rfl (.cons rfl (.cons rfl Obs.nil)))))))))) (Kept.drewN _ _ 1) (fun W_ hW_ => (.cons (c_load pE23 ((hM.rd 0 rfl).kept0 hW_) (cel_obj bp 1) rfl) (.cons (hq36 _ _) (.cons (c_load pE9 ((hn.kept0 hM.kept).kept0 hW_) (Cel.add (At.cel hp35) 0) (recs_at (i := 0) nmC_len nz (by first | omega | (dsimp only; omega)) rfl)) (.cons (⟨rfl, Calls.mono (rname_c ((List.getD (p.nums) i nz).name) (by first | exact hs.nums _ (getD_mem (by omega)) | exact hs2 _ (getD_mem (by omega))) W_) (fun e W2 h => ⟨h.1, h.2 ▸ hW_⟩)⟩) Obs.nil))))) (fun w37 hw38 => ?_)
     have hM39 := hM.ext hw38
     have o40 : (binOp .add 3 (iN i) (.int .i64 1)).run Try.prog w37 = .ok (iN (i + 1)) w37 := f_add (by rw [show ((i : Nat) : Int) + 1 = (((i + 1) : Nat) : Int) by omega]; exact IntWalk.i64_in _ (by omega))
     refine GoS.run [1, 3] [.n, .n, .n, .n, .n, .h (iN (i + 1)), .n, .n, .n] _ [iC Try.f20 uO4, iL Try.f20 uO4, .inBlock 0, iC Try.f20 [1,1,1]] [(1, pq bp), (3, iN (i + 1))] w37 (by kernel_rfl) (.cons o40 .nil) ?_
     exact ih (i + 1) _ (by omega) ((gr_zero (f := Nm.name) nz (by omega) (by omega) (by simpa using h7)).symm.trans hR0) (hM39.sub (sK sN)) (by omega)
  ·
   have h3p : ¬ (((i : Nat) : Int) < (((List.length (p.nums)) : Nat) : Int)) := of_decide_eq_false h3
   refine GoS.run [1, 4] [.n, .n, .n, .n, .n, .n, .n, .n] _ [iC Try.f20 uO0, iL Try.f20 uO0, .inBlock 2, iC Try.f20 uO1] [(1, pq bp), (4, .int .i64 0)] w (by kernel_rfl) .nil ?_
   exact rcheck_L2 p nv wv hn Z hZ hz ht hs hs2 hk h8 h9 bp (namesP_yes (hR0.symm.trans (gr_all (f := Nm.name) (by omega))) (by rw [List.length_map]; omega)) R hR (Z.length + 1) 0 w (Nat.zero_le _) rfl rfl (hM.sub (sK sN)) (by omega)

set_option maxHeartbeats 400000 in
theorem rcheck_c {w : World} (p : Pc) (nv wv : Value) (hp : RdP w p nv wv) (hs : SmallN p) :
  Calls Try.prog 20 #[.agg #[sS (p.key), nv, wv]] w (fun e w' => e = .returned (.bool (checkP p)) ∧ Mem [] w w' []) := by
 obtain ⟨hn, Z, hZ, hz, ht⟩ := hp
 have hs2 : ∀ z ∈ Z, z.wd.name.length ≤ 9223372036854775807 := fun z hq => hs.words _ (by rw [hZ]; exact List.mem_map_of_mem hq)
 have hl1 := rd_len hn
 have hl2 := rd_len hz
 simp only [maxLen] at hl1 hl2
 obtain ⟨R, hR⟩ : ∃ R : Ending → World → Prop, R = (fun e w' => e = .returned (.bool (checkP p)) ∧ Mem [] w w' []) := ⟨_, rfl⟩
 rw [← hR]
 refine GoS.enter (n := 137) Try.func20 (by kernel_rfl) rfl [(0, .agg #[sS (p.key), nv, wv])] (by kernel_rfl) (by kernel_rfl) ?_
 have hM0 := Mem.start w
 obtain ⟨b1, w2, hr3, hM4⟩ := m_box (T := 29) (k := 3) (u := .agg #[sS (p.key), nv, wv]) rfl rfl hM0
 have hM5 : Mem [] w w2 [⟨29, 3, (obj b1), 1, [sS (p.key), nv, wv]⟩] := hM4
 have o6 : (Instr.box 29 (.agg #[sS (p.key), nv, wv])).run Try.prog w = .ok (pq b1) w2 := hr3
 have o7 : (Instr.loadAt 9 (pq b1)).run Try.prog w2 = .ok (sS (p.key)) w2 := c_load pE9 (hM5.rd 0 rfl) (cel_obj b1 0) rfl
 have o8 : (Builtin.len_ #[9] 3 #[sS (p.key)]).run Try.prog w2 = .ok (iN ((p.key).length)) w2 := f_len (by kernel_rfl)
 refine GoS.run [1, 11] [.n, .n, .u (pq b1) (w2), .n, .n, .n, .n, .n, .n, .h (sS (p.key)), .h (iN ((p.key).length)), .n, .n] _ [.inRegion (cops (csub (cd Try.f20) [1,0,0])) [5,6,7,8,9,10,11,12,13,14,15,16,17,18,19,20,21], iC Try.f20 [1,0,1], iC Try.f20 [1,1]] [(1, pq b1), (11, .bool (decide ((((p.key).length : Nat) : Int) < 1)))] w2 (by kernel_rfl) (.cons o6 (.cons o7 (.cons o8 .nil))) ?_
 refine GoS.fork 11 (decide ((((p.key).length : Nat) : Int) < 1)) (by kernel_rfl) (fun h9 => ?_) (fun h9 => ?_)
 ·
  have h9p : (((p.key).length : Nat) : Int) < 1 := of_decide_eq_true h9
  refine GoS.run [1, 28] [.n, .n, .n, .n, .n, .n, .n, .n, .n, .n, .n, .n, .n, .n, .n, .n, .n] _ [.inRegion (cops (csub (cd Try.f20) [1,0,0])) [], iC Try.f20 [1,0,1], iC Try.f20 [1,1]] [(1, pq b1), (28, .bool true)] w2 (by kernel_rfl) .nil ?_
  have hM18 := hM5.sub (sD sR)
  refine GoS.run [2] [.n, .n, .n, .n, .n, .n] _ [iC Try.f20 [1,0,1,0,1], iC Try.f20 [1,1]] [(2, .bool false)] w2 (by kernel_rfl) .nil ?_
  refine GoS.ret (fn := Try.f20) (v := (.bool false)) Try.func20 (by kernel_rfl) ?_
  rw [hR]
  exact ⟨ret_bool (check_key (by omega)).symm, hM18.sub sN⟩
 ·
  have h9p : ¬ ((((p.key).length : Nat) : Int) < 1) := of_decide_eq_false h9
  have o10 : (Instr.loadAt 9 (pq b1)).run Try.prog w2 = .ok (sS (p.key)) w2 := c_load pE9 (hM5.rd 0 rfl) (cel_obj b1 0) rfl
  have o11 : (Builtin.len_ #[9] 3 #[sS (p.key)]).run Try.prog w2 = .ok (iN ((p.key).length)) w2 := f_len (by kernel_rfl)
  refine GoS.run [1, 17] [.n, .h (sS (p.key)), .h (iN ((p.key).length)), .n, .n, .n] _ [.inRegion (cops (csub (cd Try.f20) [1,0,0])) [11,12,13,14,15,16,17,18,19,20,21], iC Try.f20 [1,0,1], iC Try.f20 [1,1]] [(1, pq b1), (17, .bool (decide ((((p.key).length : Nat) : Int) > 32)))] w2 (by kernel_rfl) (.cons o10 (.cons o11 .nil)) ?_
  refine GoS.fork 17 (decide ((((p.key).length : Nat) : Int) > 32)) (by kernel_rfl) (fun h12 => ?_) (fun h12 => ?_)
  ·
   have h12p : (((p.key).length : Nat) : Int) > 32 := of_decide_eq_true h12
   refine GoS.run [1, 28] [.n, .n, .n, .n, .n, .n, .n, .n, .n, .n, .n] _ [.inRegion (cops (csub (cd Try.f20) [1,0,0])) [], iC Try.f20 [1,0,1], iC Try.f20 [1,1]] [(1, pq b1), (28, .bool true)] w2 (by kernel_rfl) .nil ?_
   have hM19 := hM5.sub (sD sR)
   refine GoS.run [2] [.n, .n, .n, .n, .n, .n] _ [iC Try.f20 [1,0,1,0,1], iC Try.f20 [1,1]] [(2, .bool false)] w2 (by kernel_rfl) .nil ?_
   refine GoS.ret (fn := Try.f20) (v := (.bool false)) Try.func20 (by kernel_rfl) ?_
   rw [hR]
   exact ⟨ret_bool (check_key (by omega)).symm, hM19.sub sN⟩
  ·
   have h12p : ¬ ((((p.key).length : Nat) : Int) > 32) := of_decide_eq_false h12
   have o13 : (Instr.loadAt 23 (.pointer (some (⟨b1, 1, none⟩)))).run Try.prog w2 = .ok (nv) w2 := c_load pE23 (hM5.rd 0 rfl) (cel_obj b1 1) rfl
   have o14 : (Builtin.len_ #[23] 3 #[nv]).run Try.prog w2 = .ok (iN (List.length (p.nums))) w2 := f_slen sT23 (hn.kept0 hM5.kept) 3 _
   refine GoS.run [1, 23] [.n, .h (nv), .h (iN (List.length (p.nums))), .n, .n, .n] _ [.inRegion (cops (csub (cd Try.f20) [1,0,0])) [17,18,19,20,21], iC Try.f20 [1,0,1], iC Try.f20 [1,1]] [(1, pq b1), (23, .bool (decide ((((List.length (p.nums)) : Nat) : Int) > 8)))] w2 (by kernel_rfl) (.cons o13 (.cons o14 .nil)) ?_
   refine GoS.fork 23 (decide ((((List.length (p.nums)) : Nat) : Int) > 8)) (by kernel_rfl) (fun h15 => ?_) (fun h15 => ?_)
   ·
    have h15p : (((List.length (p.nums)) : Nat) : Int) > 8 := of_decide_eq_true h15
    refine GoS.run [1, 28] [.n, .n, .n, .n, .n] _ [.inRegion (cops (csub (cd Try.f20) [1,0,0])) [], iC Try.f20 [1,0,1], iC Try.f20 [1,1]] [(1, pq b1), (28, .bool true)] w2 (by kernel_rfl) .nil ?_
    have hM20 := hM5.sub (sD sR)
    refine GoS.run [2] [.n, .n, .n, .n, .n, .n] _ [iC Try.f20 [1,0,1,0,1], iC Try.f20 [1,1]] [(2, .bool false)] w2 (by kernel_rfl) .nil ?_
    refine GoS.ret (fn := Try.f20) (v := (.bool false)) Try.func20 (by kernel_rfl) ?_
    rw [hR]
    exact ⟨ret_bool (check_nn (namesP_long (by rw [List.length_map]; omega))).symm, hM20.sub sN⟩
   ·
    have h15p : ¬ ((((List.length (p.nums)) : Nat) : Int) > 8) := of_decide_eq_false h15
    have o16 : (Instr.loadAt 27 (.pointer (some (⟨b1, 2, none⟩)))).run Try.prog w2 = .ok (wv) w2 := c_load pE27 (hM5.rd 0 rfl) (cel_obj b1 2) rfl
    have o17 : (Builtin.len_ #[27] 3 #[wv]).run Try.prog w2 = .ok (iN (List.length Z)) w2 := f_slen sT27 (hz.kept0 hM5.kept) 3 _
    refine GoS.run [1, 28] [.n, .h (wv), .h (iN (List.length Z)), .n, .n] _ [.inRegion (cops (csub (cd Try.f20) [1,0,0])) [], iC Try.f20 [1,0,1], iC Try.f20 [1,1]] [(1, pq b1), (28, .bool (decide ((((List.length Z) : Nat) : Int) > 8)))] w2 (by kernel_rfl) (.cons o16 (.cons o17 .nil)) ?_
    refine GoS.run [1, 28] [.n] _ [iC Try.f20 [1,0,1], iC Try.f20 [1,1]] [(1, pq b1), (28, .bool (decide ((((List.length Z) : Nat) : Int) > 8)))] w2 (by kernel_rfl) .nil ?_
    refine GoS.cond (decide ((((List.length Z) : Nat) : Int) > 8)) [iC Try.f20 [1,0,1,0], iC Try.f20 [1,1]] [iC Try.f20 [1,0,1,1], iC Try.f20 [1,1]] (by kernel_rfl) (fun h21 => ?_) (fun h21 => ?_)
    ·
     have h21p : (((List.length Z) : Nat) : Int) > 8 := of_decide_eq_true h21
     have hM22 := hM5.sub (sD sR)
     refine GoS.run [2] [.n, .n, .n, .n] _ [iC Try.f20 [1,0,1,0,1], iC Try.f20 [1,1]] [(2, .bool false)] w2 (by kernel_rfl) .nil ?_
     refine GoS.ret (fn := Try.f20) (v := (.bool false)) Try.func20 (by kernel_rfl) ?_
     rw [hR]
     exact ⟨ret_bool (check_wn (namesP_long (by rw [wd_names hZ, List.length_map]; omega))).symm, hM22.sub sN⟩
    ·
     have h21p : ¬ ((((List.length Z) : Nat) : Int) > 8) := of_decide_eq_false h21
     refine GoS.run [1] [.n] _ [iC Try.f20 [1,1]] [(1, pq b1)] w2 (by kernel_rfl) .nil ?_
     refine GoS.run [1, 3] [.n, .n, .n, .n, .n, .n, .n] _ [iC Try.f20 uO4, iL Try.f20 uO4, .inBlock 0, iC Try.f20 [1,1,1]] [(1, pq b1), (3, .int .i64 0)] w2 (by kernel_rfl) .nil ?_
     exact rcheck_L1 p nv wv hn Z hZ hz ht hs hs2 ⟨by omega, by omega⟩ (by omega) (by omega) b1 R hR (p.nums.length + 1) 0 w2 (Nat.zero_le _) rfl (hM5.sub (sK sN)) (by omega)



abbrev uU0 : List Nat := [1,1,0,1,0,0]
abbrev uU1 : List Nat := [1,1,1]
abbrev uU2 : List Nat := [1,1,0,1,0,0,1,0,0,1,0,1,0,0]
abbrev uU3 : List Nat := [1,1,0,1,0,0,1,1]
abbrev uU4 : List Nat := [1,1,0,1,0,0,1,0,0,1,1]
abbrev uU5 : List Nat := [1,1,0,1,0,0,1,0,0,1,0,1,0,0,1]
set_option maxHeartbeats 1000000 in
theorem rcopy_L2 {w0 : World} (v : Value) (Z : List PZ) (hv : Rd w0 3 v Z.length (recs pzC Z)) (hz : ∀ z ∈ Z, RdP w0 z.pc z.nums z.words) (hs : ∀ z ∈ Z, SmallP z.pc) (hlz : Z.length ≤ 2000000) (i : Nat) (hi : i < Z.length) (X : List WZ) (hX : (List.getD Z i pz).pc.words = X.map WZ.wd) (hx : Rd w0 2 (List.getD Z i pz).words X.length (recs wzC X)) (hxt : ∀ z ∈ X, Rd w0 2 z.toks z.wd.toks.length (recs tokc z.wd.toks)) (vN : Value) (b5 : Nat) (Q : List PZ) (hQ : Q.map PZ.pc = (Z.take i).map PZ.pc) (vo : Value) (R : Ending → World → Prop) (hR : R = (fun e w' => ∃ (v' : Value) (Y : List PZ) (T : List Row), e = .returned v' ∧ Y.map PZ.pc = Z.map PZ.pc ∧ OwZ 60 68 79 T Y ∧ Mem [] w0 w' (⟨29, 3, v', (List.length Y), (recs pzC Y)⟩ :: T))) : ∀ (N : Nat) (vW : Value) (Y : List WZ) (T : List Row) (k : Nat) (w : World) (out : ∀ (vo : Value) (Q : List PZ) (T : List Row) (w : World), Q.map PZ.pc = (Z.take (i + 1)).map PZ.pc → OwZ 60 68 79 T Q → Mem [] w0 w (⟨29, 3, vo, (List.length Q), (recs pzC Q)⟩ :: T) → GoS Try.prog 18 R 67 [iC Try.f18 uU0, iL Try.f18 uU0, .inBlock 0, iC Try.f18 uU1] [(0, v), (3, vo), (4, iN (i + 1))] w) (hi2 : k ≤ X.length) (hY : Y.map WZ.wd = (X.take k).map WZ.wd) (hT : OwZ 60 68 79 T Q) (hTY : ∀ z ∈ Y, (⟨79, 2, z.toks, z.wd.toks.length, recs tokc z.wd.toks⟩ : Row) ∈ T) (hM : Mem [] w0 w (⟨68, 2, vW, (List.length Y), (recs wzC Y)⟩ :: ⟨60, 2, vN, (List.length ((List.getD Z i pz).pc.nums)), (recs nmC ((List.getD Z i pz).pc.nums))⟩ :: ⟨29, 3, (obj b5), 1, [sS ((List.getD Z i pz).pc.key), vN, vW]⟩ :: ⟨29, 3, vo, (List.length Q), (recs pzC Q)⟩ :: T)) (hN : X.length - k < N), GoS Try.prog 18 R 67 [iC Try.f18 uU2, iL Try.f18 uU2, .inBlock 2, iC Try.f18 uU4, .inBlock 1, iC Try.f18 uU3, iL Try.f18 uU0, .inBlock 0, iC Try.f18 uU1] [(0, v), (3, vo), (4, iN i), (5, pq b5), (6, iN k)] w := by
 intro N
 induction N with
 | zero => intro vW Y T k w out hi2 hY hT hTY hM hN; exact absurd hN (Nat.not_lt_zero _)
 | succ N ih =>
  intro vW Y T k w out hi2 hY hT hTY hM hN
  have hl1 := rd_len hv
  simp only [maxLen] at hl1
  have hQl : Q.length = i := by have z := congrArg List.length hQ; simp only [List.length_map, List.length_take] at z; omega
  have hYl : Y.length = k := by have z := congrArg List.length hY; simp only [List.length_map, List.length_take] at z; omega
  have hXl : X.length ≤ 3518437208780 := by have z := (hs _ (getD_mem (i := i) (d := pz) hi)).words; rw [hX, List.length_map] at z; exact z
  obtain ⟨p1, hp2, hq3⟩ := rd_at (i := ((i : Nat) : Int)) sT43 (hv.kept0 hM.kept) i (by omega) (by first | omega | (dsimp only; omega))
  have o4 : (Instr.indexAt 43 (v) (iN i)).run Try.prog w = .ok (.pointer (some p1)) w := hq3 _ _
  have o5 : (Instr.loadAt 27 (.pointer (some (Addr.add p1 2)))).run Try.prog w = .ok (((List.getD Z i pz).words)) w := c_load pE27 (hv.kept0 hM.kept) (Cel.add (At.cel hp2) 2) (recs_at (i := 2) pzC_len pz (by first | omega | (dsimp only; omega)) rfl)
  have o6 : (Builtin.len_ #[27] 3 #[((List.getD Z i pz).words)]).run Try.prog w = .ok (iN (List.length X)) w := f_slen sT27 (hx.kept0 hM.kept) 3 _
  refine GoS.run [0, 3, 4, 5, 6, 33] [.n, .n, .n, .n, .n, .n, .h (.pointer (some p1)), .n, .h (((List.getD Z i pz).words)), .h (iN (List.length X)), .n, .n] _ [iC Try.f18 [1,1,0,1,0,0,1,0,0,1,0,1,0,0,0,1], iC Try.f18 uU5, iL Try.f18 uU2, .inBlock 2, iC Try.f18 uU4, .inBlock 1, iC Try.f18 uU3, iL Try.f18 uU0, .inBlock 0, iC Try.f18 uU1] [(0, v), (3, vo), (4, iN i), (5, pq b5), (6, iN k), (33, .bool (decide (((k : Nat) : Int) < (((List.length X) : Nat) : Int))))] w (by kernel_rfl) (.cons o4 (.cons o5 (.cons o6 .nil))) ?_
  refine GoS.cond (decide (((k : Nat) : Int) < (((List.length X) : Nat) : Int))) [iC Try.f18 [1,1,0,1,0,0,1,0,0,1,0,1,0,0,0,1,0], iC Try.f18 uU5, iL Try.f18 uU2, .inBlock 2, iC Try.f18 uU4, .inBlock 1, iC Try.f18 uU3, iL Try.f18 uU0, .inBlock 0, iC Try.f18 uU1] [iC Try.f18 [1,1,0,1,0,0,1,0,0,1,0,1,0,0,0,1,1], iC Try.f18 uU5, iL Try.f18 uU2, .inBlock 2, iC Try.f18 uU4, .inBlock 1, iC Try.f18 uU3, iL Try.f18 uU0, .inBlock 0, iC Try.f18 uU1] (by kernel_rfl) (fun h7 => ?_) (fun h7 => ?_)
  ·
   have h7p : ((k : Nat) : Int) < (((List.length X) : Nat) : Int) := of_decide_eq_true h7
   refine GoS.run [0, 3, 4, 5, 6] [.n] _ [iC Try.f18 uU5, iL Try.f18 uU2, .inBlock 2, iC Try.f18 uU4, .inBlock 1, iC Try.f18 uU3, iL Try.f18 uU0, .inBlock 0, iC Try.f18 uU1] [(0, v), (3, vo), (4, iN i), (5, pq b5), (6, iN k)] w (by kernel_rfl) .nil ?_
   refine GoS.run [0, 3, 4, 5, 6] [.n, .n] _ [iC Try.f18 [1,1,0,1,0,0,1,0,0,1,0,1,0,0,1,0,0], .inBlock 3, iC Try.f18 [1,1,0,1,0,0,1,0,0,1,0,1,0,0,1,1], iL Try.f18 uU2, .inBlock 2, iC Try.f18 uU4, .inBlock 1, iC Try.f18 uU3, iL Try.f18 uU0, .inBlock 0, iC Try.f18 uU1] [(0, v), (3, vo), (4, iN i), (5, pq b5), (6, iN k)] w (by kernel_rfl) .nil ?_
   obtain ⟨w23, hw24⟩ : ∃ w_, (w).drewN 1 = w_ := ⟨_, rfl⟩
   refine GoS.held (fun W_ => Mem [] w0 W_ (⟨60, 2, vN, (List.length ((List.getD Z i pz).pc.nums)), (recs nmC ((List.getD Z i pz).pc.nums))⟩ :: ⟨29, 3, (obj b5), 1, [sS ((List.getD Z i pz).pc.key), vN, vW]⟩ :: ⟨29, 3, vo, (List.length Q), (recs pzC Q)⟩ :: T)) [26] 9 (by kernel_rfl) (by kernel_rfl) 27 (by kernel_rfl) ?_
   rw [hw24]
   have hM25 : Mem [] w0 w23 (⟨68, 2, vW, (List.length Y), (recs wzC Y)⟩ :: ⟨60, 2, vN, (List.length ((List.getD Z i pz).pc.nums)), (recs nmC ((List.getD Z i pz).pc.nums))⟩ :: ⟨29, 3, (obj b5), 1, [sS ((List.getD Z i pz).pc.key), vN, vW]⟩ :: ⟨29, 3, vo, (List.length Q), (recs pzC Q)⟩ :: T) := hw24 ▸ hM.ext (Kept.drewN _ _ 1)
   have hS26 := hM25.sub (sD (sK (sK (sK sR))))
   refine GoH.takeV 0 (.pointer (some (⟨b5, 2, none⟩))) (.pointer (some (⟨b5, 2, none⟩))) (some 36) (fun W_ => by kernel_rfl) rfl hS26 ?_
   refine GoH.takeF 1 (vW) (fun W_ => (Instr.loadAt 27 (.pointer (some (⟨b5, 2, none⟩)))).run Try.prog W_ = .ok (vW) W_) (some 37) (fun W_ => by kernel_rfl) (fun W_ hW_ => c_load pE27 (hW_.rd 1 rfl) (cel_obj b5 2) rfl) hS26 ?_
   refine GoH.takeV 2 (v) (v) (some 38) (fun W_ => by kernel_rfl) rfl hS26 ?_
   refine GoH.takeV 3 (iN i) (iN i) (some 39) (fun W_ => by kernel_rfl) rfl hS26 ?_
   obtain ⟨p27, hp28, hq29⟩ := rd_at (i := ((i : Nat) : Int)) sT43 (hv.kept0 hS26.kept) i (by omega) (by first | omega | (dsimp only; omega))
   refine GoH.takeF 4 (.pointer (some p27)) (fun W_ => (Instr.indexAt 43 (v) (iN i)).run Try.prog W_ = .ok (.pointer (some p27)) W_) (some 40) (fun W_ => by kernel_rfl) (fun W_ hW_ => hq29 _ _) hS26 ?_
   refine GoH.takeV 5 (.pointer (some (Addr.add p27 2))) (.pointer (some (Addr.add p27 2))) (some 41) (fun W_ => by kernel_rfl) rfl hS26 ?_
   refine GoH.takeF 6 (((List.getD Z i pz).words)) (fun W_ => (Instr.loadAt 27 (.pointer (some (Addr.add p27 2)))).run Try.prog W_ = .ok (((List.getD Z i pz).words)) W_) (some 42) (fun W_ => by kernel_rfl) (fun W_ hW_ => c_load pE27 (hv.kept0 hW_.kept) (Cel.add (At.cel hp28) 2) (recs_at (i := 2) pzC_len pz (by first | omega | (dsimp only; omega)) rfl)) hS26 ?_
   refine GoH.takeV 7 (iN k) (iN k) (some 43) (fun W_ => by kernel_rfl) rfl hS26 ?_
   obtain ⟨p30, hp31, hq32⟩ := rd_at (i := ((k : Nat) : Int)) sT27 (hx.kept0 hS26.kept) k (by omega) (by first | omega | (dsimp only; omega))
   refine GoH.takeF 8 (.pointer (some p30)) (fun W_ => (Instr.indexAt 27 (((List.getD Z i pz).words)) (iN k)).run Try.prog W_ = .ok (.pointer (some p30)) W_) (some 44) (fun W_ => by kernel_rfl) (fun W_ hW_ => hq32 _ _) hS26 ?_
   refine GoH.takeV 9 (.pointer (some (Addr.add p30 0))) (.pointer (some (Addr.add p30 0))) (some 45) (fun W_ => by kernel_rfl) rfl hS26 ?_
   refine GoH.takeF 10 (sS ((List.getD X k wz).wd.name)) (fun W_ => (Instr.loadAt 9 (.pointer (some (Addr.add p30 0)))).run Try.prog W_ = .ok (sS ((List.getD X k wz).wd.name)) W_) (some 46) (fun W_ => by kernel_rfl) (fun W_ hW_ => c_load pE9 (hx.kept0 hW_.kept) (Cel.add (At.cel hp31) 0) (recs_at (i := 0) wzC_len wz (by first | omega | (dsimp only; omega)) rfl)) hS26 ?_
   refine GoH.takeV 12 (v) (v) (some 48) (fun W_ => by kernel_rfl) rfl hS26 ?_
   refine GoH.takeV 13 (iN i) (iN i) (some 49) (fun W_ => by kernel_rfl) rfl hS26 ?_
   obtain ⟨p33, hp34, hq35⟩ := rd_at (i := ((i : Nat) : Int)) sT43 (hv.kept0 hS26.kept) i (by omega) (by first | omega | (dsimp only; omega))
   refine GoH.takeF 14 (.pointer (some p33)) (fun W_ => (Instr.indexAt 43 (v) (iN i)).run Try.prog W_ = .ok (.pointer (some p33)) W_) (some 50) (fun W_ => by kernel_rfl) (fun W_ hW_ => hq35 _ _) hS26 ?_
   refine GoH.takeV 15 (.pointer (some (Addr.add p33 2))) (.pointer (some (Addr.add p33 2))) (some 51) (fun W_ => by kernel_rfl) rfl hS26 ?_
   refine GoH.takeF 16 (((List.getD Z i pz).words)) (fun W_ => (Instr.loadAt 27 (.pointer (some (Addr.add p33 2)))).run Try.prog W_ = .ok (((List.getD Z i pz).words)) W_) (some 52) (fun W_ => by kernel_rfl) (fun W_ hW_ => c_load pE27 (hv.kept0 hW_.kept) (Cel.add (At.cel hp34) 2) (recs_at (i := 2) pzC_len pz (by first | omega | (dsimp only; omega)) rfl)) hS26 ?_
   refine GoH.takeV 17 (iN k) (iN k) (some 53) (fun W_ => by kernel_rfl) rfl hS26 ?_
   obtain ⟨p36, hp37, hq38⟩ := rd_at (i := ((k : Nat) : Int)) sT27 (hx.kept0 hS26.kept) k (by omega) (by first | omega | (dsimp only; omega))
   refine GoH.takeF 18 (.pointer (some p36)) (fun W_ => (Instr.indexAt 27 (((List.getD Z i pz).words)) (iN k)).run Try.prog W_ = .ok (.pointer (some p36)) W_) (some 54) (fun W_ => by kernel_rfl) (fun W_ hW_ => hq38 _ _) hS26 ?_
   refine GoH.takeV 19 (.pointer (some (Addr.add p36 1))) (.pointer (some (Addr.add p36 1))) (some 55) (fun W_ => by kernel_rfl) rfl hS26 ?_
   refine GoH.takeF 20 (((List.getD X k wz).toks)) (fun W_ => (Instr.loadAt 64 (.pointer (some (Addr.add p36 1)))).run Try.prog W_ = .ok (((List.getD X k wz).toks)) W_) (some 56) (fun W_ => by kernel_rfl) (fun W_ hW_ => c_load pE64 (hx.kept0 hW_.kept) (Cel.add (At.cel hp37) 1) (recs_at (i := 1) wzC_len wz (by first | omega | (dsimp only; omega)) rfl)) hS26 ?_
   obtain ⟨v39, w40, hr41, hM42⟩ := m_lit sT64 hM25 (n := 0) (parts := #[]) (cs := []) (by decide) (by kernel_rfl) rfl
   have hS43 := hM42.sub (sD (sD (sK (sK (sK sR)))))
   refine GoH.stepF 11 (v39) (w40) ((Instr.buildSlice 64 0 #[]).run Try.prog w23 = .ok v39 w40) (some 47) (by kernel_rfl) (hr41) (.inr hS43) ?_
   obtain ⟨v44, w45, hr46, hM47⟩ := m_append sT64 hM42 0 rfl ((hxt (List.getD X k wz) (getD_mem (by omega))).kept0 hM42.kept) (recs_ones tokc_one ((List.getD X k wz).wd.toks)) (by first | omega | (dsimp only; omega) | (have z := (hs _ (getD_mem (i := i) (d := pz) (by omega))).nums; (try dsimp only); omega) | (have z := small_at (hs _ (getD_mem (i := i) (d := pz) hi)) hX (i := k) (by omega); (try dsimp only); omega)) (by first | omega | (dsimp only; omega) | (have z := (hs _ (getD_mem (i := i) (d := pz) (by omega))).nums; (try dsimp only); omega) | (have z := small_at (hs _ (getD_mem (i := i) (d := pz) hi)) hX (i := k) (by omega); (try dsimp only); omega)) 64
   have hM48 : Mem [] w0 w45 (⟨79, 2, v44, (List.length ((List.getD X k wz).wd.toks)), (recs tokc ((List.getD X k wz).wd.toks))⟩ :: ⟨68, 2, vW, (List.length Y), (recs wzC Y)⟩ :: ⟨60, 2, vN, (List.length ((List.getD Z i pz).pc.nums)), (recs nmC ((List.getD Z i pz).pc.nums))⟩ :: ⟨29, 3, (obj b5), 1, [sS ((List.getD Z i pz).pc.key), vN, vW]⟩ :: ⟨29, 3, vo, (List.length Q), (recs pzC Q)⟩ :: T) := hM47.cast (by simp [ivals, svals, bvals, nvals, u8s, Nat.add_assoc, recs, tokc])
   have hS49 := hM48.sub (sD (sD (sK (sK (sK sR)))))
   refine GoH.stepF 21 (v44) (w45) ((Builtin.append_ #[64, 64] 64 #[v39, ((List.getD X k wz).toks)]).run Try.prog w40 = .ok v44 w45) (some 57) (by kernel_rfl) (hr46) (.inr hS49) ?_
   have hS50 := hM48.sub (sD (sD (sK (sK (sK sR)))))
   refine GoH.stepF 22 (.agg #[sS ((List.getD X k wz).wd.name), v44]) (w45) ((Instr.build 68 #[(0, sS ((List.getD X k wz).wd.name)), (1, v44)]).run Try.prog w45 = .ok (.agg #[sS ((List.getD X k wz).wd.name), v44]) w45) (some 58) (by kernel_rfl) ((by obtain ⟨a0_, m0_, c0_, e0_⟩ : ∃ a m c, v44 = Value.slice a m c := rd_form (hM48.rd 0 rfl); rw [e0_]; kernel_rfl)) (.inr hS50) ?_
   obtain ⟨v51, w52, hr53, hM54⟩ := m_lit sT27 hM48 (n := 1) (parts := #[(0, .agg #[sS ((List.getD X k wz).wd.name), v44])]) (cs := [sS ((List.getD X k wz).wd.name), v44]) (by decide) (by kernel_rfl) rfl
   have hS55 := hM54.sub (sD (sD (sD (sK (sK (sK sR))))))
   refine GoH.stepF 23 (v51) (w52) ((Instr.buildSlice 27 1 #[(0, .agg #[sS ((List.getD X k wz).wd.name), v44])]).run Try.prog w45 = .ok v51 w52) (some 59) (by kernel_rfl) (hr53) (.inr hS55) ?_
   obtain ⟨v56, w57, hr58, hM59⟩ := m_append sT27 hM54 2 rfl (hM54.rd 0 rfl) (by intro u hu; simp only [List.mem_cons, List.not_mem_nil, or_false] at hu; rcases hu with rfl | rfl; exact rfl; exact (rd_one (hM54.rd 1 rfl))) (by first | omega | (dsimp only; omega) | (have z := (hs _ (getD_mem (i := i) (d := pz) (by omega))).nums; (try dsimp only); omega) | (have z := small_at (hs _ (getD_mem (i := i) (d := pz) hi)) hX (i := k) (by omega); (try dsimp only); omega)) (by first | omega | (dsimp only; omega) | (have z := (hs _ (getD_mem (i := i) (d := pz) (by omega))).nums; (try dsimp only); omega) | (have z := small_at (hs _ (getD_mem (i := i) (d := pz) hi)) hX (i := k) (by omega); (try dsimp only); omega)) 27
   have hM60 : Mem [] w0 w57 (⟨68, 2, v51, 1, [sS ((List.getD X k wz).wd.name), v44]⟩ :: ⟨79, 2, v44, (List.length ((List.getD X k wz).wd.toks)), (recs tokc ((List.getD X k wz).wd.toks))⟩ :: ⟨68, 2, v56, (List.length (Y ++ ([(WZ.mk (Wd.mk ((List.getD X k wz).wd.name) ((List.getD X k wz).wd.toks)) v44)] : List WZ))), (recs wzC (Y ++ ([(WZ.mk (Wd.mk ((List.getD X k wz).wd.name) ((List.getD X k wz).wd.toks)) v44)] : List WZ)))⟩ :: ⟨60, 2, vN, (List.length ((List.getD Z i pz).pc.nums)), (recs nmC ((List.getD Z i pz).pc.nums))⟩ :: ⟨29, 3, (obj b5), 1, [sS ((List.getD Z i pz).pc.key), vN, vW]⟩ :: ⟨29, 3, vo, (List.length Q), (recs pzC Q)⟩ :: T) := hM59.cast (by simp [ivals, svals, bvals, nvals, u8s, Nat.add_assoc, recs, wzC])
   have hS61 := hM60.sub (sD (sD (sD (sK (sK (sK sR))))))
   refine GoH.stepF 24 (v56) (w57) ((Builtin.append_ #[27, 27] 27 #[vW, v51]).run Try.prog w52 = .ok v56 w57) (some 60) (by kernel_rfl) (hr58) (.inr hS61) ?_
   refine GoH.takeV 25 (.pointer (some (⟨b5, 2, none⟩))) (.pointer (some (⟨b5, 2, none⟩))) (some 61) (fun W_ => by kernel_rfl) rfl hS61 ?_
   obtain ⟨w62, hr63, hM64⟩ := c_store (u := v56) (by kernel_rfl) hM60 4 rfl (cel_obj b5 2) (by decide) (rd_one (hM60.rd 2 rfl)) (rd_cells (hM60.rd 2 rfl))
   have hM65 : Mem [] w0 w62 (⟨68, 2, v51, 1, [sS ((List.getD X k wz).wd.name), v44]⟩ :: ⟨79, 2, v44, (List.length ((List.getD X k wz).wd.toks)), (recs tokc ((List.getD X k wz).wd.toks))⟩ :: ⟨68, 2, v56, (List.length (Y ++ ([(WZ.mk (Wd.mk ((List.getD X k wz).wd.name) ((List.getD X k wz).wd.toks)) v44)] : List WZ))), (recs wzC (Y ++ ([(WZ.mk (Wd.mk ((List.getD X k wz).wd.name) ((List.getD X k wz).wd.toks)) v44)] : List WZ)))⟩ :: ⟨60, 2, vN, (List.length ((List.getD Z i pz).pc.nums)), (recs nmC ((List.getD Z i pz).pc.nums))⟩ :: ⟨29, 3, (obj b5), 1, [sS ((List.getD Z i pz).pc.key), vN, v56]⟩ :: ⟨29, 3, vo, (List.length Q), (recs pzC Q)⟩ :: T) := hM64
   refine GoH.stepF 26 (undef) (w62) ((Instr.storeAt 27 (.pointer (some (⟨b5, 2, none⟩))) (v56)).run Try.prog w57 = .ok () w62 ∧ undef = undef) none (by kernel_rfl) (⟨hr63, rfl⟩) (.inl rfl) ?_
   refine GoH.done [0, 3, 4, 5, 6] [(0, v), (3, vo), (4, iN i), (5, pq b5), (6, iN k)] (by kernel_rfl) (by kernel_rfl) ?_
   have hM66 := hM65.sub (sD (sK (sK (sK (sK (sK sR))))))
   have o67 : (binOp .add 3 (iN k) (.int .i64 1)).run Try.prog w62 = .ok (iN (k + 1)) w62 := f_add (by rw [show ((k : Nat) : Int) + 1 = (((k + 1) : Nat) : Int) by omega]; exact IntWalk.i64_in _ (by omega))
   refine GoS.run [0, 3, 4, 5, 6] [.n, .n, .n, .h (iN (k + 1)), .n, .n, .n] _ [iC Try.f18 uU2, iL Try.f18 uU2, .inBlock 2, iC Try.f18 uU4, .inBlock 1, iC Try.f18 uU3, iL Try.f18 uU0, .inBlock 0, iC Try.f18 uU1] [(0, v), (3, vo), (4, iN i), (5, pq b5), (6, iN (k + 1))] w62 (by kernel_rfl) (.cons o67 .nil) ?_
   have hM68 : Mem [] w0 w62 (⟨29, 3, vo, (List.length Q), (recs pzC Q)⟩ :: ⟨79, 2, v44, (List.length ((List.getD X k wz).wd.toks)), (recs tokc ((List.getD X k wz).wd.toks))⟩ :: ⟨68, 2, v56, (List.length (Y ++ ([(WZ.mk (Wd.mk ((List.getD X k wz).wd.name) ((List.getD X k wz).wd.toks)) v44)] : List WZ))), (recs wzC (Y ++ ([(WZ.mk (Wd.mk ((List.getD X k wz).wd.name) ((List.getD X k wz).wd.toks)) v44)] : List WZ)))⟩ :: ⟨60, 2, vN, (List.length ((List.getD Z i pz).pc.nums)), (recs nmC ((List.getD Z i pz).pc.nums))⟩ :: ⟨29, 3, (obj b5), 1, [sS ((List.getD Z i pz).pc.key), vN, v56]⟩ :: T) := hM66.perm (pS (pS (pS (pS pR))))
   have hM69 : Mem [] w0 w62 (⟨29, 3, (obj b5), 1, [sS ((List.getD Z i pz).pc.key), vN, v56]⟩ :: ⟨29, 3, vo, (List.length Q), (recs pzC Q)⟩ :: ⟨79, 2, v44, (List.length ((List.getD X k wz).wd.toks)), (recs tokc ((List.getD X k wz).wd.toks))⟩ :: ⟨68, 2, v56, (List.length (Y ++ ([(WZ.mk (Wd.mk ((List.getD X k wz).wd.name) ((List.getD X k wz).wd.toks)) v44)] : List WZ))), (recs wzC (Y ++ ([(WZ.mk (Wd.mk ((List.getD X k wz).wd.name) ((List.getD X k wz).wd.toks)) v44)] : List WZ)))⟩ :: ⟨60, 2, vN, (List.length ((List.getD Z i pz).pc.nums)), (recs nmC ((List.getD Z i pz).pc.nums))⟩ :: T) := hM68.perm (pS (pS (pS (pS pR))))
   have hM70 : Mem [] w0 w62 (⟨60, 2, vN, (List.length ((List.getD Z i pz).pc.nums)), (recs nmC ((List.getD Z i pz).pc.nums))⟩ :: ⟨29, 3, (obj b5), 1, [sS ((List.getD Z i pz).pc.key), vN, v56]⟩ :: ⟨29, 3, vo, (List.length Q), (recs pzC Q)⟩ :: ⟨79, 2, v44, (List.length ((List.getD X k wz).wd.toks)), (recs tokc ((List.getD X k wz).wd.toks))⟩ :: ⟨68, 2, v56, (List.length (Y ++ ([(WZ.mk (Wd.mk ((List.getD X k wz).wd.name) ((List.getD X k wz).wd.toks)) v44)] : List WZ))), (recs wzC (Y ++ ([(WZ.mk (Wd.mk ((List.getD X k wz).wd.name) ((List.getD X k wz).wd.toks)) v44)] : List WZ)))⟩ :: T) := hM69.perm (pS (pS (pS (pS pR))))
   have hM71 : Mem [] w0 w62 (⟨68, 2, v56, (List.length (Y ++ ([(WZ.mk (Wd.mk ((List.getD X k wz).wd.name) ((List.getD X k wz).wd.toks)) v44)] : List WZ))), (recs wzC (Y ++ ([(WZ.mk (Wd.mk ((List.getD X k wz).wd.name) ((List.getD X k wz).wd.toks)) v44)] : List WZ)))⟩ :: ⟨60, 2, vN, (List.length ((List.getD Z i pz).pc.nums)), (recs nmC ((List.getD Z i pz).pc.nums))⟩ :: ⟨29, 3, (obj b5), 1, [sS ((List.getD Z i pz).pc.key), vN, v56]⟩ :: ⟨29, 3, vo, (List.length Q), (recs pzC Q)⟩ :: ⟨79, 2, v44, (List.length ((List.getD X k wz).wd.toks)), (recs tokc ((List.getD X k wz).wd.toks))⟩ :: T) := hM70.perm (pS (pS (pS (pS pR))))
   exact ih v56 (Y ++ ([(WZ.mk (Wd.mk ((List.getD X k wz).wd.name) ((List.getD X k wz).wd.toks)) v44)] : List WZ)) (⟨79, 2, v44, (List.length ((List.getD X k wz).wd.toks)), (recs tokc ((List.getD X k wz).wd.toks))⟩ :: T) (k + 1) _ out (by omega) (wz_snoc hY (by omega)) (hT.mono (fun r h => mS h)) (fun z hz => by rcases List.mem_append.1 hz with g | g; exact mS (hTY z g); obtain rfl := List.mem_singleton.1 g; exact List.mem_cons_self ..) (hM71.sub (sK (sK (sK (sK (sK sR)))))) (by omega)
  ·
   have h7p : ¬ (((k : Nat) : Int) < (((List.length X) : Nat) : Int)) := of_decide_eq_false h7
   have o17 : (Instr.loadAt 29 (pq b5)).run Try.prog w = .ok (.agg #[sS ((List.getD Z i pz).pc.key), vN, vW]) w := c_loads (ys := [sS ((List.getD Z i pz).pc.key), vN, vW]) aE29 (hM.rd 2 rfl) (cel_obj b5 0) rfl (by intro j u hj; match j, hj with | 0, hj => exact hj | 1, hj => exact hj | 2, hj => exact hj | n + 3, hj => cases hj)
   obtain ⟨v8, w9, hr10, hM11⟩ := m_lit sT43 hM (n := 1) (parts := #[(0, .agg #[sS ((List.getD Z i pz).pc.key), vN, vW])]) (cs := [sS ((List.getD Z i pz).pc.key), vN, vW]) (by decide) (by kernel_rfl) rfl
   obtain ⟨v12, w13, hr14, hM15⟩ := m_append sT43 hM11 4 rfl (hM11.rd 0 rfl) (by intro u hu; simp only [List.mem_cons, List.not_mem_nil, or_false] at hu; rcases hu with rfl | rfl | rfl; exact rfl; exact (rd_one (hM11.rd 2 rfl)); exact (rd_one (hM11.rd 1 rfl))) (by first | omega | (dsimp only; omega) | (have z := (hs _ (getD_mem (i := i) (d := pz) (by omega))).nums; (try dsimp only); omega) | (have z := small_at (hs _ (getD_mem (i := i) (d := pz) hi)) hX (i := k) (by omega); (try dsimp only); omega)) (by first | omega | (dsimp only; omega) | (have z := (hs _ (getD_mem (i := i) (d := pz) (by omega))).nums; (try dsimp only); omega) | (have z := small_at (hs _ (getD_mem (i := i) (d := pz) hi)) hX (i := k) (by omega); (try dsimp only); omega)) 43
   have hM16 : Mem [] w0 w13 (⟨29, 3, v8, 1, [sS ((List.getD Z i pz).pc.key), vN, vW]⟩ :: ⟨68, 2, vW, (List.length Y), (recs wzC Y)⟩ :: ⟨60, 2, vN, (List.length ((List.getD Z i pz).pc.nums)), (recs nmC ((List.getD Z i pz).pc.nums))⟩ :: ⟨29, 3, (obj b5), 1, [sS ((List.getD Z i pz).pc.key), vN, vW]⟩ :: ⟨29, 3, v12, (List.length (Q ++ ([(PZ.mk (List.getD Z i pz).pc vN vW)] : List PZ))), (recs pzC (Q ++ ([(PZ.mk (List.getD Z i pz).pc vN vW)] : List PZ)))⟩ :: T) := hM15.cast (by simp [ivals, svals, bvals, nvals, u8s, Nat.add_assoc, recs, pzC])
   have o18 : (binOp .add 3 (iN i) (.int .i64 1)).run Try.prog w13 = .ok (iN (i + 1)) w13 := f_add (by rw [show ((i : Nat) : Int) + 1 = (((i + 1) : Nat) : Int) by omega]; exact IntWalk.i64_in _ (by omega))
   have hM19 := hM16.sub (sD (sK (sK (sK (sK sR)))))
   refine GoS.run [0, 3, 4] [.n, .n, .n, .h (.agg #[sS ((List.getD Z i pz).pc.key), vN, vW]), .u (v8) (w9), .u (v12) (w13), .n, .n, .n, .n, .n, .h (iN (i + 1)), .n, .n, .n] _ [iC Try.f18 uU0, iL Try.f18 uU0, .inBlock 0, iC Try.f18 uU1] [(0, v), (3, v12), (4, iN (i + 1))] w13 (by kernel_rfl) (.cons o17 (.cons hr10 (.cons hr14 (.cons o18 .nil)))) ?_
   have hM20 : Mem [] w0 w13 (⟨60, 2, vN, (List.length ((List.getD Z i pz).pc.nums)), (recs nmC ((List.getD Z i pz).pc.nums))⟩ :: ⟨68, 2, vW, (List.length Y), (recs wzC Y)⟩ :: ⟨29, 3, (obj b5), 1, [sS ((List.getD Z i pz).pc.key), vN, vW]⟩ :: ⟨29, 3, v12, (List.length (Q ++ ([(PZ.mk (List.getD Z i pz).pc vN vW)] : List PZ))), (recs pzC (Q ++ ([(PZ.mk (List.getD Z i pz).pc vN vW)] : List PZ)))⟩ :: T) := hM19.perm (pS pR)
   have hM21 : Mem [] w0 w13 (⟨68, 2, vW, (List.length Y), (recs wzC Y)⟩ :: ⟨60, 2, vN, (List.length ((List.getD Z i pz).pc.nums)), (recs nmC ((List.getD Z i pz).pc.nums))⟩ :: ⟨29, 3, (obj b5), 1, [sS ((List.getD Z i pz).pc.key), vN, vW]⟩ :: ⟨29, 3, v12, (List.length (Q ++ ([(PZ.mk (List.getD Z i pz).pc vN vW)] : List PZ))), (recs pzC (Q ++ ([(PZ.mk (List.getD Z i pz).pc vN vW)] : List PZ)))⟩ :: T) := hM20.perm (pS pR)
   have hM22 : Mem [] w0 w13 (⟨29, 3, v12, (List.length (Q ++ ([(PZ.mk (List.getD Z i pz).pc vN vW)] : List PZ))), (recs pzC (Q ++ ([(PZ.mk (List.getD Z i pz).pc vN vW)] : List PZ)))⟩ :: ⟨68, 2, vW, (List.length Y), (recs wzC Y)⟩ :: ⟨60, 2, vN, (List.length ((List.getD Z i pz).pc.nums)), (recs nmC ((List.getD Z i pz).pc.nums))⟩ :: ⟨29, 3, (obj b5), 1, [sS ((List.getD Z i pz).pc.key), vN, vW]⟩ :: T) := hM21.perm (pS (pS (pS pR)))
   exact out _ (Q ++ ([(PZ.mk (List.getD Z i pz).pc vN vW)] : List PZ)) (⟨68, 2, vW, (List.length Y), (recs wzC Y)⟩ :: ⟨60, 2, vN, (List.length ((List.getD Z i pz).pc.nums)), (recs nmC ((List.getD Z i pz).pc.nums))⟩ :: T) _ (pz_snoc hQ hi) (OwZ.snoc (hT.mono (fun r h => mS (mS h))) ⟨mS (List.mem_cons_self ..), Y, by rw [hX, hY, take_all' (by omega)], List.mem_cons_self .., fun z hz => mS (mS (hTY z hz))⟩) (hM22.sub (sK (sK (sK (sD sR)))))

set_option maxHeartbeats 1000000 in
theorem rcopy_L1 {w0 : World} (v : Value) (Z : List PZ) (hv : Rd w0 3 v Z.length (recs pzC Z)) (hz : ∀ z ∈ Z, RdP w0 z.pc z.nums z.words) (hs : ∀ z ∈ Z, SmallP z.pc) (hlz : Z.length ≤ 2000000) (R : Ending → World → Prop) (hR : R = (fun e w' => ∃ (v' : Value) (Y : List PZ) (T : List Row), e = .returned v' ∧ Y.map PZ.pc = Z.map PZ.pc ∧ OwZ 60 68 79 T Y ∧ Mem [] w0 w' (⟨29, 3, v', (List.length Y), (recs pzC Y)⟩ :: T))) : ∀ (N : Nat) (vo : Value) (Q : List PZ) (T : List Row) (i : Nat) (w : World) (hi : i ≤ Z.length) (hQ : Q.map PZ.pc = (Z.take i).map PZ.pc) (hT : OwZ 60 68 79 T Q) (hM : Mem [] w0 w (⟨29, 3, vo, (List.length Q), (recs pzC Q)⟩ :: T)) (hN : Z.length - i < N), GoS Try.prog 18 R 67 [iC Try.f18 uU0, iL Try.f18 uU0, .inBlock 0, iC Try.f18 uU1] [(0, v), (3, vo), (4, iN i)] w := by
 intro N
 induction N with
 | zero => intro vo Q T i w hi hQ hT hM hN; exact absurd hN (Nat.not_lt_zero _)
 | succ N ih =>
  intro vo Q T i w hi hQ hT hM hN
  have hl1 := rd_len hv
  simp only [maxLen] at hl1
  have hQl : Q.length = i := by have z := congrArg List.length hQ; simp only [List.length_map, List.length_take] at z; omega
  have o1 : (Builtin.len_ #[43] 3 #[v]).run Try.prog w = .ok (iN (List.length Z)) w := f_slen sT43 (hv.kept0 hM.kept) 3 _
  refine GoS.run [0, 3, 4, 10] [.n, .n, .n, .n, .n, .h (iN (List.length Z)), .n, .n] _ [iC Try.f18 [1,1,0,1,0,0,0,1], iC Try.f18 [1,1,0,1,0,0,1], iL Try.f18 uU0, .inBlock 0, iC Try.f18 uU1] [(0, v), (3, vo), (4, iN i), (10, .bool (decide (((i : Nat) : Int) < (((List.length Z) : Nat) : Int))))] w (by kernel_rfl) (.cons o1 .nil) ?_
  refine GoS.cond (decide (((i : Nat) : Int) < (((List.length Z) : Nat) : Int))) [iC Try.f18 [1,1,0,1,0,0,0,1,0], iC Try.f18 [1,1,0,1,0,0,1], iL Try.f18 uU0, .inBlock 0, iC Try.f18 uU1] [iC Try.f18 [1,1,0,1,0,0,0,1,1], iC Try.f18 [1,1,0,1,0,0,1], iL Try.f18 uU0, .inBlock 0, iC Try.f18 uU1] (by kernel_rfl) (fun h2 => ?_) (fun h2 => ?_)
  ·
   have h2p : ((i : Nat) : Int) < (((List.length Z) : Nat) : Int) := of_decide_eq_true h2
   refine GoS.run [0, 3, 4] [.n] _ [iC Try.f18 [1,1,0,1,0,0,1], iL Try.f18 uU0, .inBlock 0, iC Try.f18 uU1] [(0, v), (3, vo), (4, iN i)] w (by kernel_rfl) .nil ?_
   refine GoS.run [0, 3, 4] [.n, .n, .n] _ [iC Try.f18 [1,1,0,1,0,0,1,0,0,0], iC Try.f18 [1,1,0,1,0,0,1,0,0,1], .inBlock 1, iC Try.f18 uU3, iL Try.f18 uU0, .inBlock 0, iC Try.f18 uU1] [(0, v), (3, vo), (4, iN i)] w (by kernel_rfl) .nil ?_
   obtain ⟨w3, hw4⟩ : ∃ w_, (w).drewN 1 = w_ := ⟨_, rfl⟩
   refine GoS.held (fun W_ => Mem [] w0 W_ (⟨29, 3, vo, (List.length Q), (recs pzC Q)⟩ :: T)) [14] 5 (by kernel_rfl) (by kernel_rfl) 15 (by kernel_rfl) ?_
   rw [hw4]
   have hM5 : Mem [] w0 w3 (⟨29, 3, vo, (List.length Q), (recs pzC Q)⟩ :: T) := hw4 ▸ hM.ext (Kept.drewN _ _ 1)
   have hS6 := hM5.sub (sK sR)
   refine GoH.takeV 0 (v) (v) (some 13) (fun W_ => by kernel_rfl) rfl hS6 ?_
   refine GoH.takeV 1 (iN i) (iN i) (some 14) (fun W_ => by kernel_rfl) rfl hS6 ?_
   obtain ⟨p7, hp8, hq9⟩ := rd_at (i := ((i : Nat) : Int)) sT43 (hv.kept0 hS6.kept) i (by omega) (by first | omega | (dsimp only; omega))
   refine GoH.takeF 2 (.pointer (some p7)) (fun W_ => (Instr.indexAt 43 (v) (iN i)).run Try.prog W_ = .ok (.pointer (some p7)) W_) (some 15) (fun W_ => by kernel_rfl) (fun W_ hW_ => hq9 _ _) hS6 ?_
   refine GoH.takeV 3 (.pointer (some (Addr.add p7 0))) (.pointer (some (Addr.add p7 0))) (some 16) (fun W_ => by kernel_rfl) rfl hS6 ?_
   refine GoH.takeF 4 (sS ((List.getD Z i pz).pc.key)) (fun W_ => (Instr.loadAt 9 (.pointer (some (Addr.add p7 0)))).run Try.prog W_ = .ok (sS ((List.getD Z i pz).pc.key)) W_) (some 17) (fun W_ => by kernel_rfl) (fun W_ hW_ => c_load pE9 (hv.kept0 hW_.kept) (Cel.add (At.cel hp8) 0) (recs_at (i := 0) pzC_len pz (by first | omega | (dsimp only; omega)) rfl)) hS6 ?_
   refine GoH.takeV 6 (v) (v) (some 19) (fun W_ => by kernel_rfl) rfl hS6 ?_
   refine GoH.takeV 7 (iN i) (iN i) (some 20) (fun W_ => by kernel_rfl) rfl hS6 ?_
   obtain ⟨p10, hp11, hq12⟩ := rd_at (i := ((i : Nat) : Int)) sT43 (hv.kept0 hS6.kept) i (by omega) (by first | omega | (dsimp only; omega))
   refine GoH.takeF 8 (.pointer (some p10)) (fun W_ => (Instr.indexAt 43 (v) (iN i)).run Try.prog W_ = .ok (.pointer (some p10)) W_) (some 21) (fun W_ => by kernel_rfl) (fun W_ hW_ => hq12 _ _) hS6 ?_
   refine GoH.takeV 9 (.pointer (some (Addr.add p10 1))) (.pointer (some (Addr.add p10 1))) (some 22) (fun W_ => by kernel_rfl) rfl hS6 ?_
   refine GoH.takeF 10 (((List.getD Z i pz).nums)) (fun W_ => (Instr.loadAt 23 (.pointer (some (Addr.add p10 1)))).run Try.prog W_ = .ok (((List.getD Z i pz).nums)) W_) (some 23) (fun W_ => by kernel_rfl) (fun W_ hW_ => c_load pE23 (hv.kept0 hW_.kept) (Cel.add (At.cel hp11) 1) (recs_at (i := 1) pzC_len pz (by first | omega | (dsimp only; omega)) rfl)) hS6 ?_
   refine GoH.each [5, 13] (by kernel_rfl) (by kernel_rfl) ⟨?_, ?_, trivial⟩
   ·
    obtain ⟨v13, w14, hr15, hM16⟩ := m_lit sT23 hM5 (n := 0) (parts := #[]) (cs := []) (by decide) (by kernel_rfl) rfl
    have hS17 := hM16.sub (sD (sK sR))
    refine GoI.stepF 5 (v13) (w14) ((Instr.buildSlice 23 0 #[]).run Try.prog w3 = .ok v13 w14) (some 18) (by kernel_rfl) (hr15) (.inr hS17) ?_
    refine GoH.each [11, 13] (by kernel_rfl) (by kernel_rfl) ⟨?_, ?_, trivial⟩
    ·
     obtain ⟨v18, w19, hr20, hM21⟩ := m_append sT23 hM16 0 rfl (((hz _ (getD_mem (i := i) (d := pz) (by omega))).kept hM16.kept)).1 (recs_ones nmC_one ((List.getD Z i pz).pc.nums)) (by first | omega | (dsimp only; omega) | (have z := (hs _ (getD_mem (i := i) (d := pz) (by omega))).nums; (try dsimp only); omega) | (have z := small_at (hs _ (getD_mem (i := i) (d := pz) hi)) hX (i := k) (by omega); (try dsimp only); omega)) (by first | omega | (dsimp only; omega) | (have z := (hs _ (getD_mem (i := i) (d := pz) (by omega))).nums; (try dsimp only); omega) | (have z := small_at (hs _ (getD_mem (i := i) (d := pz) hi)) hX (i := k) (by omega); (try dsimp only); omega)) 23
     have hM22 : Mem [] w0 w19 (⟨60, 2, v18, (List.length ((List.getD Z i pz).pc.nums)), (recs nmC ((List.getD Z i pz).pc.nums))⟩ :: ⟨29, 3, vo, (List.length Q), (recs pzC Q)⟩ :: T) := hM21.cast (by simp [ivals, svals, bvals, nvals, u8s, Nat.add_assoc, recs, nmC])
     have hS23 := hM22.sub (sD (sK sR))
     refine GoI.stepF 11 (v18) (w19) ((Builtin.append_ #[23, 23] 23 #[v13, ((List.getD Z i pz).nums)]).run Try.prog w14 = .ok v18 w19) (some 24) (by kernel_rfl) (hr20) (.inr hS23) ?_
     refine GoH.each [12, 13] (by kernel_rfl) (by kernel_rfl) ⟨?_, ?_, trivial⟩
     ·
      have hS24 := hM22.sub (sD (sK sR))
      refine GoI.stepF 12 (.agg #[sS ((List.getD Z i pz).pc.key), v18, .slice none 0 0]) (w19) ((Instr.build 29 #[(0, sS ((List.getD Z i pz).pc.key)), (1, v18)]).run Try.prog w19 = .ok (.agg #[sS ((List.getD Z i pz).pc.key), v18, .slice none 0 0]) w19) (some 25) (by kernel_rfl) ((by obtain ⟨a0_, m0_, c0_, e0_⟩ : ∃ a m c, v18 = Value.slice a m c := rd_form (hM22.rd 0 rfl); rw [e0_]; kernel_rfl)) (.inr hS24) ?_
      obtain ⟨b25, w26, hr27, hM28⟩ := m_alloc oT29 hM22
      have hM29 : Mem [] w0 w26 (⟨29, 3, (obj b25), 1, [sS ([]), .slice none 0 0, .slice none 0 0]⟩ :: ⟨60, 2, v18, (List.length ((List.getD Z i pz).pc.nums)), (recs nmC ((List.getD Z i pz).pc.nums))⟩ :: ⟨29, 3, vo, (List.length Q), (recs pzC Q)⟩ :: T) := hM28
      have hS30 := hM29.sub (sD (sD (sK sR)))
      refine GoH.stepF 13 (pq b25) (w26) ((Instr.alloc 29 true (.tuple #[])).run Try.prog w19 = .ok (pq b25) w26) (some 5) (by kernel_rfl) (hr27) (.inr hS30) ?_
      obtain ⟨w31, hr32, hM33⟩ := c_stores (ys := [sS ((List.getD Z i pz).pc.key), v18, .slice none 0 0]) aE29 hM29 0 rfl (cel_obj b25 0) rfl (by decide) (by intro u hu; simp at hu; rcases hu with rfl | rfl | rfl <;> first | rfl | exact (rd_one (hM29.rd 1 rfl)))
      have hM34 : Mem [] w0 w31 (⟨29, 3, (obj b25), 1, [sS ((List.getD Z i pz).pc.key), v18, .slice none 0 0]⟩ :: ⟨60, 2, v18, (List.length ((List.getD Z i pz).pc.nums)), (recs nmC ((List.getD Z i pz).pc.nums))⟩ :: ⟨29, 3, vo, (List.length Q), (recs pzC Q)⟩ :: T) := hM33
      refine GoH.stepF 14 (undef) (w31) ((Instr.storeAt 29 (pq b25) (.agg #[sS ((List.getD Z i pz).pc.key), v18, .slice none 0 0])).run Try.prog w26 = .ok () w31 ∧ undef = undef) none (by kernel_rfl) (⟨hr32, rfl⟩) (.inl rfl) ?_
      refine GoH.done [0, 3, 4, 5] [(0, v), (3, vo), (4, iN i), (5, pq b25)] (by kernel_rfl) (by kernel_rfl) ?_
      refine GoS.run [0, 3, 4, 5, 6] [.n, .n, .n, .n, .n, .n, .n] _ [iC Try.f18 uU2, iL Try.f18 uU2, .inBlock 2, iC Try.f18 uU4, .inBlock 1, iC Try.f18 uU3, iL Try.f18 uU0, .inBlock 0, iC Try.f18 uU1] [(0, v), (3, vo), (4, iN i), (5, pq b25), (6, .int .i64 0)] w31 (by kernel_rfl) .nil ?_
      have hM85 := hM34.nilrow 68 2
      have hM86 : Mem [] w0 w31 (⟨29, 3, vo, (List.length Q), (recs pzC Q)⟩ :: ⟨68, 2, (.slice none 0 0), 0, []⟩ :: ⟨29, 3, (obj b25), 1, [sS ((List.getD Z i pz).pc.key), v18, .slice none 0 0]⟩ :: ⟨60, 2, v18, (List.length ((List.getD Z i pz).pc.nums)), (recs nmC ((List.getD Z i pz).pc.nums))⟩ :: T) := hM85.perm (pS (pS (pS pR)))
      have hM87 : Mem [] w0 w31 (⟨29, 3, (obj b25), 1, [sS ((List.getD Z i pz).pc.key), v18, .slice none 0 0]⟩ :: ⟨29, 3, vo, (List.length Q), (recs pzC Q)⟩ :: ⟨68, 2, (.slice none 0 0), 0, []⟩ :: ⟨60, 2, v18, (List.length ((List.getD Z i pz).pc.nums)), (recs nmC ((List.getD Z i pz).pc.nums))⟩ :: T) := hM86.perm (pS (pS pR))
      have hM88 : Mem [] w0 w31 (⟨60, 2, v18, (List.length ((List.getD Z i pz).pc.nums)), (recs nmC ((List.getD Z i pz).pc.nums))⟩ :: ⟨29, 3, (obj b25), 1, [sS ((List.getD Z i pz).pc.key), v18, .slice none 0 0]⟩ :: ⟨29, 3, vo, (List.length Q), (recs pzC Q)⟩ :: ⟨68, 2, (.slice none 0 0), 0, []⟩ :: T) := hM87.perm (pS (pS (pS pR)))
      have hM89 : Mem [] w0 w31 (⟨68, 2, (.slice none 0 0), 0, []⟩ :: ⟨60, 2, v18, (List.length ((List.getD Z i pz).pc.nums)), (recs nmC ((List.getD Z i pz).pc.nums))⟩ :: ⟨29, 3, (obj b25), 1, [sS ((List.getD Z i pz).pc.key), v18, .slice none 0 0]⟩ :: ⟨29, 3, vo, (List.length Q), (recs pzC Q)⟩ :: T) := hM88.perm (pS (pS (pS pR)))
      obtain ⟨_, X, hX, hx, hxt⟩ := hz _ (getD_mem (i := i) (d := pz) (by omega))
      exact rcopy_L2 v Z hv hz hs hlz i (by omega) X hX hx hxt v18 b25 Q hQ vo R hR (X.length + 1) (.slice none 0 0) [] T 0 w31 (fun vo Q T w q1 q2 q3 => ih vo Q T (i + 1) w (by omega) q1 q2 q3 (by omega)) (Nat.zero_le _) rfl hT (fun z hz => by cases hz) ((hM89.sub (sK (sK (sK (sK sR))))).cast (by first | rfl | simp [recs])) (by omega)
     ·
      obtain ⟨b35, w36, hr37, hM38⟩ := m_alloc oT29 hM22
      have hM39 : Mem [] w0 w36 (⟨29, 3, (obj b35), 1, [sS ([]), .slice none 0 0, .slice none 0 0]⟩ :: ⟨60, 2, v18, (List.length ((List.getD Z i pz).pc.nums)), (recs nmC ((List.getD Z i pz).pc.nums))⟩ :: ⟨29, 3, vo, (List.length Q), (recs pzC Q)⟩ :: T) := hM38
      have hS40 := hM39.sub (sD (sD (sK sR)))
      refine GoI.stepF 13 (pq b35) (w36) ((Instr.alloc 29 true (.tuple #[])).run Try.prog w19 = .ok (pq b35) w36) (some 5) (by kernel_rfl) (hr37) (.inr hS40) ?_
      have hS41 := hM39.sub (sD (sD (sK sR)))
      refine GoH.stepF 12 (.agg #[sS ((List.getD Z i pz).pc.key), v18, .slice none 0 0]) (w36) ((Instr.build 29 #[(0, sS ((List.getD Z i pz).pc.key)), (1, v18)]).run Try.prog w36 = .ok (.agg #[sS ((List.getD Z i pz).pc.key), v18, .slice none 0 0]) w36) (some 25) (by kernel_rfl) ((by obtain ⟨a0_, m0_, c0_, e0_⟩ : ∃ a m c, v18 = Value.slice a m c := rd_form (hM39.rd 1 rfl); rw [e0_]; kernel_rfl)) (.inr hS41) ?_
      obtain ⟨w42, hr43, hM44⟩ := c_stores (ys := [sS ((List.getD Z i pz).pc.key), v18, .slice none 0 0]) aE29 hM39 0 rfl (cel_obj b35 0) rfl (by decide) (by intro u hu; simp at hu; rcases hu with rfl | rfl | rfl <;> first | rfl | exact (rd_one (hM39.rd 1 rfl)))
      have hM45 : Mem [] w0 w42 (⟨29, 3, (obj b35), 1, [sS ((List.getD Z i pz).pc.key), v18, .slice none 0 0]⟩ :: ⟨60, 2, v18, (List.length ((List.getD Z i pz).pc.nums)), (recs nmC ((List.getD Z i pz).pc.nums))⟩ :: ⟨29, 3, vo, (List.length Q), (recs pzC Q)⟩ :: T) := hM44
      refine GoH.stepF 14 (undef) (w42) ((Instr.storeAt 29 (pq b35) (.agg #[sS ((List.getD Z i pz).pc.key), v18, .slice none 0 0])).run Try.prog w36 = .ok () w42 ∧ undef = undef) none (by kernel_rfl) (⟨hr43, rfl⟩) (.inl rfl) ?_
      refine GoH.done [0, 3, 4, 5] [(0, v), (3, vo), (4, iN i), (5, pq b35)] (by kernel_rfl) (by kernel_rfl) ?_
      refine GoS.run [0, 3, 4, 5, 6] [.n, .n, .n, .n, .n, .n, .n] _ [iC Try.f18 uU2, iL Try.f18 uU2, .inBlock 2, iC Try.f18 uU4, .inBlock 1, iC Try.f18 uU3, iL Try.f18 uU0, .inBlock 0, iC Try.f18 uU1] [(0, v), (3, vo), (4, iN i), (5, pq b35), (6, .int .i64 0)] w42 (by kernel_rfl) .nil ?_
      have hM90 := hM45.nilrow 68 2
      have hM91 : Mem [] w0 w42 (⟨29, 3, vo, (List.length Q), (recs pzC Q)⟩ :: ⟨68, 2, (.slice none 0 0), 0, []⟩ :: ⟨29, 3, (obj b35), 1, [sS ((List.getD Z i pz).pc.key), v18, .slice none 0 0]⟩ :: ⟨60, 2, v18, (List.length ((List.getD Z i pz).pc.nums)), (recs nmC ((List.getD Z i pz).pc.nums))⟩ :: T) := hM90.perm (pS (pS (pS pR)))
      have hM92 : Mem [] w0 w42 (⟨29, 3, (obj b35), 1, [sS ((List.getD Z i pz).pc.key), v18, .slice none 0 0]⟩ :: ⟨29, 3, vo, (List.length Q), (recs pzC Q)⟩ :: ⟨68, 2, (.slice none 0 0), 0, []⟩ :: ⟨60, 2, v18, (List.length ((List.getD Z i pz).pc.nums)), (recs nmC ((List.getD Z i pz).pc.nums))⟩ :: T) := hM91.perm (pS (pS pR))
      have hM93 : Mem [] w0 w42 (⟨60, 2, v18, (List.length ((List.getD Z i pz).pc.nums)), (recs nmC ((List.getD Z i pz).pc.nums))⟩ :: ⟨29, 3, (obj b35), 1, [sS ((List.getD Z i pz).pc.key), v18, .slice none 0 0]⟩ :: ⟨29, 3, vo, (List.length Q), (recs pzC Q)⟩ :: ⟨68, 2, (.slice none 0 0), 0, []⟩ :: T) := hM92.perm (pS (pS (pS pR)))
      have hM94 : Mem [] w0 w42 (⟨68, 2, (.slice none 0 0), 0, []⟩ :: ⟨60, 2, v18, (List.length ((List.getD Z i pz).pc.nums)), (recs nmC ((List.getD Z i pz).pc.nums))⟩ :: ⟨29, 3, (obj b35), 1, [sS ((List.getD Z i pz).pc.key), v18, .slice none 0 0]⟩ :: ⟨29, 3, vo, (List.length Q), (recs pzC Q)⟩ :: T) := hM93.perm (pS (pS (pS pR)))
      obtain ⟨_, X, hX, hx, hxt⟩ := hz _ (getD_mem (i := i) (d := pz) (by omega))
      exact rcopy_L2 v Z hv hz hs hlz i (by omega) X hX hx hxt v18 b35 Q hQ vo R hR (X.length + 1) (.slice none 0 0) [] T 0 w42 (fun vo Q T w q1 q2 q3 => ih vo Q T (i + 1) w (by omega) q1 q2 q3 (by omega)) (Nat.zero_le _) rfl hT (fun z hz => by cases hz) ((hM94.sub (sK (sK (sK (sK sR))))).cast (by first | rfl | simp [recs])) (by omega)
    ·
     obtain ⟨b46, w47, hr48, hM49⟩ := m_alloc oT29 hM16
     have hM50 : Mem [] w0 w47 (⟨29, 3, (obj b46), 1, [sS ([]), .slice none 0 0, .slice none 0 0]⟩ :: ⟨60, 2, v13, 0, []⟩ :: ⟨29, 3, vo, (List.length Q), (recs pzC Q)⟩ :: T) := hM49
     have hS51 := hM50.sub (sD (sD (sK sR)))
     refine GoI.stepF 13 (pq b46) (w47) ((Instr.alloc 29 true (.tuple #[])).run Try.prog w14 = .ok (pq b46) w47) (some 5) (by kernel_rfl) (hr48) (.inr hS51) ?_
     obtain ⟨v52, w53, hr54, hM55⟩ := m_append sT23 hM50 1 rfl (((hz _ (getD_mem (i := i) (d := pz) (by omega))).kept hM50.kept)).1 (recs_ones nmC_one ((List.getD Z i pz).pc.nums)) (by first | omega | (dsimp only; omega) | (have z := (hs _ (getD_mem (i := i) (d := pz) (by omega))).nums; (try dsimp only); omega) | (have z := small_at (hs _ (getD_mem (i := i) (d := pz) hi)) hX (i := k) (by omega); (try dsimp only); omega)) (by first | omega | (dsimp only; omega) | (have z := (hs _ (getD_mem (i := i) (d := pz) (by omega))).nums; (try dsimp only); omega) | (have z := small_at (hs _ (getD_mem (i := i) (d := pz) hi)) hX (i := k) (by omega); (try dsimp only); omega)) 23
     have hM56 : Mem [] w0 w53 (⟨29, 3, (obj b46), 1, [sS ([]), .slice none 0 0, .slice none 0 0]⟩ :: ⟨60, 2, v52, (List.length ((List.getD Z i pz).pc.nums)), (recs nmC ((List.getD Z i pz).pc.nums))⟩ :: ⟨29, 3, vo, (List.length Q), (recs pzC Q)⟩ :: T) := hM55.cast (by simp [ivals, svals, bvals, nvals, u8s, Nat.add_assoc, recs, nmC])
     have hS57 := hM56.sub (sD (sD (sK sR)))
     refine GoH.stepF 11 (v52) (w53) ((Builtin.append_ #[23, 23] 23 #[v13, ((List.getD Z i pz).nums)]).run Try.prog w47 = .ok v52 w53) (some 24) (by kernel_rfl) (hr54) (.inr hS57) ?_
     have hS58 := hM56.sub (sD (sD (sK sR)))
     refine GoH.stepF 12 (.agg #[sS ((List.getD Z i pz).pc.key), v52, .slice none 0 0]) (w53) ((Instr.build 29 #[(0, sS ((List.getD Z i pz).pc.key)), (1, v52)]).run Try.prog w53 = .ok (.agg #[sS ((List.getD Z i pz).pc.key), v52, .slice none 0 0]) w53) (some 25) (by kernel_rfl) ((by obtain ⟨a0_, m0_, c0_, e0_⟩ : ∃ a m c, v52 = Value.slice a m c := rd_form (hM56.rd 1 rfl); rw [e0_]; kernel_rfl)) (.inr hS58) ?_
     obtain ⟨w59, hr60, hM61⟩ := c_stores (ys := [sS ((List.getD Z i pz).pc.key), v52, .slice none 0 0]) aE29 hM56 0 rfl (cel_obj b46 0) rfl (by decide) (by intro u hu; simp at hu; rcases hu with rfl | rfl | rfl <;> first | rfl | exact (rd_one (hM56.rd 1 rfl)))
     have hM62 : Mem [] w0 w59 (⟨29, 3, (obj b46), 1, [sS ((List.getD Z i pz).pc.key), v52, .slice none 0 0]⟩ :: ⟨60, 2, v52, (List.length ((List.getD Z i pz).pc.nums)), (recs nmC ((List.getD Z i pz).pc.nums))⟩ :: ⟨29, 3, vo, (List.length Q), (recs pzC Q)⟩ :: T) := hM61
     refine GoH.stepF 14 (undef) (w59) ((Instr.storeAt 29 (pq b46) (.agg #[sS ((List.getD Z i pz).pc.key), v52, .slice none 0 0])).run Try.prog w53 = .ok () w59 ∧ undef = undef) none (by kernel_rfl) (⟨hr60, rfl⟩) (.inl rfl) ?_
     refine GoH.done [0, 3, 4, 5] [(0, v), (3, vo), (4, iN i), (5, pq b46)] (by kernel_rfl) (by kernel_rfl) ?_
     refine GoS.run [0, 3, 4, 5, 6] [.n, .n, .n, .n, .n, .n, .n] _ [iC Try.f18 uU2, iL Try.f18 uU2, .inBlock 2, iC Try.f18 uU4, .inBlock 1, iC Try.f18 uU3, iL Try.f18 uU0, .inBlock 0, iC Try.f18 uU1] [(0, v), (3, vo), (4, iN i), (5, pq b46), (6, .int .i64 0)] w59 (by kernel_rfl) .nil ?_
     have hM95 := hM62.nilrow 68 2
     have hM96 : Mem [] w0 w59 (⟨29, 3, vo, (List.length Q), (recs pzC Q)⟩ :: ⟨68, 2, (.slice none 0 0), 0, []⟩ :: ⟨29, 3, (obj b46), 1, [sS ((List.getD Z i pz).pc.key), v52, .slice none 0 0]⟩ :: ⟨60, 2, v52, (List.length ((List.getD Z i pz).pc.nums)), (recs nmC ((List.getD Z i pz).pc.nums))⟩ :: T) := hM95.perm (pS (pS (pS pR)))
     have hM97 : Mem [] w0 w59 (⟨29, 3, (obj b46), 1, [sS ((List.getD Z i pz).pc.key), v52, .slice none 0 0]⟩ :: ⟨29, 3, vo, (List.length Q), (recs pzC Q)⟩ :: ⟨68, 2, (.slice none 0 0), 0, []⟩ :: ⟨60, 2, v52, (List.length ((List.getD Z i pz).pc.nums)), (recs nmC ((List.getD Z i pz).pc.nums))⟩ :: T) := hM96.perm (pS (pS pR))
     have hM98 : Mem [] w0 w59 (⟨60, 2, v52, (List.length ((List.getD Z i pz).pc.nums)), (recs nmC ((List.getD Z i pz).pc.nums))⟩ :: ⟨29, 3, (obj b46), 1, [sS ((List.getD Z i pz).pc.key), v52, .slice none 0 0]⟩ :: ⟨29, 3, vo, (List.length Q), (recs pzC Q)⟩ :: ⟨68, 2, (.slice none 0 0), 0, []⟩ :: T) := hM97.perm (pS (pS (pS pR)))
     have hM99 : Mem [] w0 w59 (⟨68, 2, (.slice none 0 0), 0, []⟩ :: ⟨60, 2, v52, (List.length ((List.getD Z i pz).pc.nums)), (recs nmC ((List.getD Z i pz).pc.nums))⟩ :: ⟨29, 3, (obj b46), 1, [sS ((List.getD Z i pz).pc.key), v52, .slice none 0 0]⟩ :: ⟨29, 3, vo, (List.length Q), (recs pzC Q)⟩ :: T) := hM98.perm (pS (pS (pS pR)))
     obtain ⟨_, X, hX, hx, hxt⟩ := hz _ (getD_mem (i := i) (d := pz) (by omega))
     exact rcopy_L2 v Z hv hz hs hlz i (by omega) X hX hx hxt v52 b46 Q hQ vo R hR (X.length + 1) (.slice none 0 0) [] T 0 w59 (fun vo Q T w q1 q2 q3 => ih vo Q T (i + 1) w (by omega) q1 q2 q3 (by omega)) (Nat.zero_le _) rfl hT (fun z hz => by cases hz) ((hM99.sub (sK (sK (sK (sK sR))))).cast (by first | rfl | simp [recs])) (by omega)
   ·
    obtain ⟨b63, w64, hr65, hM66⟩ := m_alloc oT29 hM5
    have hM67 : Mem [] w0 w64 (⟨29, 3, (obj b63), 1, [sS ([]), .slice none 0 0, .slice none 0 0]⟩ :: ⟨29, 3, vo, (List.length Q), (recs pzC Q)⟩ :: T) := hM66
    have hS68 := hM67.sub (sD (sK sR))
    refine GoI.stepF 13 (pq b63) (w64) ((Instr.alloc 29 true (.tuple #[])).run Try.prog w3 = .ok (pq b63) w64) (some 5) (by kernel_rfl) (hr65) (.inr hS68) ?_
    obtain ⟨v69, w70, hr71, hM72⟩ := m_lit sT23 hM67 (n := 0) (parts := #[]) (cs := []) (by decide) (by kernel_rfl) rfl
    have hS73 := hM72.sub (sD (sD (sK sR)))
    refine GoH.stepF 5 (v69) (w70) ((Instr.buildSlice 23 0 #[]).run Try.prog w64 = .ok v69 w70) (some 18) (by kernel_rfl) (hr71) (.inr hS73) ?_
    obtain ⟨v74, w75, hr76, hM77⟩ := m_append sT23 hM72 0 rfl (((hz _ (getD_mem (i := i) (d := pz) (by omega))).kept hM72.kept)).1 (recs_ones nmC_one ((List.getD Z i pz).pc.nums)) (by first | omega | (dsimp only; omega) | (have z := (hs _ (getD_mem (i := i) (d := pz) (by omega))).nums; (try dsimp only); omega) | (have z := small_at (hs _ (getD_mem (i := i) (d := pz) hi)) hX (i := k) (by omega); (try dsimp only); omega)) (by first | omega | (dsimp only; omega) | (have z := (hs _ (getD_mem (i := i) (d := pz) (by omega))).nums; (try dsimp only); omega) | (have z := small_at (hs _ (getD_mem (i := i) (d := pz) hi)) hX (i := k) (by omega); (try dsimp only); omega)) 23
    have hM78 : Mem [] w0 w75 (⟨60, 2, v74, (List.length ((List.getD Z i pz).pc.nums)), (recs nmC ((List.getD Z i pz).pc.nums))⟩ :: ⟨29, 3, (obj b63), 1, [sS ([]), .slice none 0 0, .slice none 0 0]⟩ :: ⟨29, 3, vo, (List.length Q), (recs pzC Q)⟩ :: T) := hM77.cast (by simp [ivals, svals, bvals, nvals, u8s, Nat.add_assoc, recs, nmC])
    have hS79 := hM78.sub (sD (sD (sK sR)))
    refine GoH.stepF 11 (v74) (w75) ((Builtin.append_ #[23, 23] 23 #[v69, ((List.getD Z i pz).nums)]).run Try.prog w70 = .ok v74 w75) (some 24) (by kernel_rfl) (hr76) (.inr hS79) ?_
    have hS80 := hM78.sub (sD (sD (sK sR)))
    refine GoH.stepF 12 (.agg #[sS ((List.getD Z i pz).pc.key), v74, .slice none 0 0]) (w75) ((Instr.build 29 #[(0, sS ((List.getD Z i pz).pc.key)), (1, v74)]).run Try.prog w75 = .ok (.agg #[sS ((List.getD Z i pz).pc.key), v74, .slice none 0 0]) w75) (some 25) (by kernel_rfl) ((by obtain ⟨a0_, m0_, c0_, e0_⟩ : ∃ a m c, v74 = Value.slice a m c := rd_form (hM78.rd 0 rfl); rw [e0_]; kernel_rfl)) (.inr hS80) ?_
    obtain ⟨w81, hr82, hM83⟩ := c_stores (ys := [sS ((List.getD Z i pz).pc.key), v74, .slice none 0 0]) aE29 hM78 1 rfl (cel_obj b63 0) rfl (by decide) (by intro u hu; simp at hu; rcases hu with rfl | rfl | rfl <;> first | rfl | exact (rd_one (hM78.rd 0 rfl)))
    have hM84 : Mem [] w0 w81 (⟨60, 2, v74, (List.length ((List.getD Z i pz).pc.nums)), (recs nmC ((List.getD Z i pz).pc.nums))⟩ :: ⟨29, 3, (obj b63), 1, [sS ((List.getD Z i pz).pc.key), v74, .slice none 0 0]⟩ :: ⟨29, 3, vo, (List.length Q), (recs pzC Q)⟩ :: T) := hM83
    refine GoH.stepF 14 (undef) (w81) ((Instr.storeAt 29 (pq b63) (.agg #[sS ((List.getD Z i pz).pc.key), v74, .slice none 0 0])).run Try.prog w75 = .ok () w81 ∧ undef = undef) none (by kernel_rfl) (⟨hr82, rfl⟩) (.inl rfl) ?_
    refine GoH.done [0, 3, 4, 5] [(0, v), (3, vo), (4, iN i), (5, pq b63)] (by kernel_rfl) (by kernel_rfl) ?_
    refine GoS.run [0, 3, 4, 5, 6] [.n, .n, .n, .n, .n, .n, .n] _ [iC Try.f18 uU2, iL Try.f18 uU2, .inBlock 2, iC Try.f18 uU4, .inBlock 1, iC Try.f18 uU3, iL Try.f18 uU0, .inBlock 0, iC Try.f18 uU1] [(0, v), (3, vo), (4, iN i), (5, pq b63), (6, .int .i64 0)] w81 (by kernel_rfl) .nil ?_
    have hM100 := hM84.nilrow 68 2
    obtain ⟨_, X, hX, hx, hxt⟩ := hz _ (getD_mem (i := i) (d := pz) (by omega))
    exact rcopy_L2 v Z hv hz hs hlz i (by omega) X hX hx hxt v74 b63 Q hQ vo R hR (X.length + 1) (.slice none 0 0) [] T 0 w81 (fun vo Q T w q1 q2 q3 => ih vo Q T (i + 1) w (by omega) q1 q2 q3 (by omega)) (Nat.zero_le _) rfl hT (fun z hz => by cases hz) ((hM100.sub (sK (sK (sK (sK sR))))).cast (by first | rfl | simp [recs])) (by omega)
  ·
   have h2p : ¬ (((i : Nat) : Int) < (((List.length Z) : Nat) : Int)) := of_decide_eq_false h2
   refine GoS.run [2] [.n, .n, .n, .n, .n, .n] _ [iC Try.f18 [1,1,1,1]] [(2, vo)] w (by kernel_rfl) .nil ?_
   refine GoS.ret (fn := Try.f18) (v := vo) Try.func18 (by kernel_rfl) ?_
   rw [hR]
   exact ⟨_, Q, T, rfl, by rw [hQ, take_all' (by omega)], hT, hM.sub (sK sR)⟩

set_option maxHeartbeats 400000 in
theorem rcopy_c {w : World} (v : Value) (Z : List PZ) (hv : Rd w 3 v Z.length (recs pzC Z)) (hz : ∀ z ∈ Z, RdP w z.pc z.nums z.words) (hs : ∀ z ∈ Z, SmallP z.pc) (hlz : Z.length ≤ 2000000) :
  Calls Try.prog 18 #[v] w (fun e w' => ∃ (v' : Value) (Y : List PZ) (T : List Row), e = .returned v' ∧ Y.map PZ.pc = Z.map PZ.pc ∧ OwZ 60 68 79 T Y ∧ Mem [] w w' (⟨29, 3, v', (List.length Y), (recs pzC Y)⟩ :: T)) := by
 obtain ⟨R, hR⟩ : ∃ R : Ending → World → Prop, R = (fun e w' => ∃ (v' : Value) (Y : List PZ) (T : List Row), e = .returned v' ∧ Y.map PZ.pc = Z.map PZ.pc ∧ OwZ 60 68 79 T Y ∧ Mem [] w w' (⟨29, 3, v', (List.length Y), (recs pzC Y)⟩ :: T)) := ⟨_, rfl⟩
 rw [← hR]
 refine GoS.enter (n := 67) Try.func18 (by kernel_rfl) rfl [(0, v)] (by kernel_rfl) (by kernel_rfl) ?_
 have hM0 := Mem.start w
 refine GoS.run [0, 3, 4] [.n, .n, .n, .n, .n, .n, .n, .n, .n, .n, .n, .n, .n, .n, .n] _ [iC Try.f18 uU0, iL Try.f18 uU0, .inBlock 0, iC Try.f18 uU1] [(0, v), (3, .slice none 0 0), (4, .int .i64 0)] w (by kernel_rfl) .nil ?_
 have hM1 := hM0.nilrow 29 3
 exact rcopy_L1 v Z hv hz hs hlz R hR (Z.length + 1) (.slice none 0 0) [] [] 0 w (Nat.zero_le _) rfl (fun z hz => by cases hz) ((hM1.sub (sK sN)).cast (by first | rfl | simp [recs])) (by omega)



abbrev uV0 : List Nat := [1,0,0]
abbrev uV1 : List Nat := [1,0,0,1,1]
abbrev uV2 : List Nat := [1,0,0,1,0,0,1,1,0,0]
abbrev uV3 : List Nat := [1,0,0,1,0,0,1,1,0,0,1,0,0,1,0,0]
abbrev uV4 : List Nat := [1,0,0,1,0,0,0,1,0,0]
abbrev uV5 : List Nat := [1,0,0,1,0,0,1,1,0,0,1,1]
abbrev uV6 : List Nat := [1,0,0,1,0,0,1]
abbrev uV7 : List Nat := [1,0,0,1,0,0,1,1,0,0,1,0,0,1,0,0,1]
abbrev uV8 : List Nat := [1,0,0,1,0,0,1,1,0,0,1]
abbrev uV9 : List Nat := [1,0,0,1,0,0,0,1,0,0,1]
set_option maxHeartbeats 1000000 in
theorem spoil_L4 {S : List Nat} {w0 : World} (v : Value) (Z : List PZ) (i : Nat) (hi2 : i < Z.length) (Y : List WZ) (m : Nat) (hm2 : m < Y.length) (R : Ending → World → Prop) (hR : R = (fun e w' => e = .returned (.tuple #[]) ∧ Mem S w0 w' [])) : ∀ (N : Nat) (T : List Row) (j : Nat) (w : World) (out : ∀ (T : List Row) (w : World), SpZ 60 68 79 T Z → (⟨68, 2, (List.getD Z i pz).words, Y.length, recs wzC Y⟩ : Row) ∈ T → (∀ y ∈ Y, ∃ xs, (⟨79, 2, y.toks, y.wd.toks.length, xs⟩ : Row) ∈ T) → Mem S w0 w (⟨29, 3, v, (List.length Z), (recs pzC Z)⟩ :: T) → GoS Try.prog 21 R 66 [iC Try.f21 uV2, iL Try.f21 uV2, .inBlock 4, .inBlock 1, iC Try.f21 uV1, iL Try.f21 uV0, .inBlock 0] [(0, v), (2, iN i), (4, iN (m + 1))] w) (hj : j ≤ (List.getD Y m wz).wd.toks.length) (hsp : SpZ 60 68 79 T Z) (hY : (⟨68, 2, (List.getD Z i pz).words, Y.length, recs wzC Y⟩ : Row) ∈ T) (hYt : ∀ y ∈ Y, ∃ xs, (⟨79, 2, y.toks, y.wd.toks.length, xs⟩ : Row) ∈ T) (hM : Mem S w0 w (⟨29, 3, v, (List.length Z), (recs pzC Z)⟩ :: T)) (hN : (List.getD Y m wz).wd.toks.length - j < N), GoS Try.prog 21 R 66 [iC Try.f21 uV3, iL Try.f21 uV3, .inBlock 6, .inBlock 5, iC Try.f21 uV5, iL Try.f21 uV2, .inBlock 4, .inBlock 1, iC Try.f21 uV1, iL Try.f21 uV0, .inBlock 0] [(0, v), (2, iN i), (4, iN m), (5, iN j)] w := by
 intro N
 induction N with
 | zero => intro T j w out hj hsp hY hYt hM hN; exact absurd hN (Nat.not_lt_zero _)
 | succ N ih =>
  intro T j w out hj hsp hY hYt hM hN
  have hln := rd_len (hM.rd 0 rfl)
  simp only [maxLen] at hln
  have hln2 := rd_len (Mem_rdm hM (mS hY))
  simp only [maxLen] at hln2
  have hln3 := rd_len (sp_rd (hYt _ (getD_mem (i := m) (d := wz) hm2)) hM (fun r_ h_ => mS h_)).choose_spec
  simp only [maxLen] at hln3
  obtain ⟨p1, hp2, hq3⟩ := rd_at (i := ((i : Nat) : Int)) sT43 (hM.rd 0 rfl) i (by omega) (by first | omega | (dsimp only; omega))
  have o7 : (Instr.indexAt 43 (v) (iN i)).run Try.prog w = .ok (.pointer (some p1)) w := hq3 _ _
  have o8 : (Instr.loadAt 27 (.pointer (some (Addr.add p1 2)))).run Try.prog w = .ok (((List.getD Z i pz).words)) w := c_load pE27 (hM.rd 0 rfl) (Cel.add (At.cel hp2) 2) (recs_at (i := 2) pzC_len pz (by first | omega | (dsimp only; omega)) rfl)
  obtain ⟨p4, hp5, hq6⟩ := rd_at (i := ((m : Nat) : Int)) sT27 (Mem_rdm hM ((fun r_ h_ => mS (h_)) _ hY)) m (by omega) (by first | omega | (dsimp only; omega))
  have o9 : (Instr.indexAt 27 (((List.getD Z i pz).words)) (iN m)).run Try.prog w = .ok (.pointer (some p4)) w := hq6 _ _
  have o10 : (Instr.loadAt 64 (.pointer (some (Addr.add p4 1)))).run Try.prog w = .ok (((List.getD Y m wz).toks)) w := c_load pE64 (Mem_rdm hM ((fun r_ h_ => mS (h_)) _ hY)) (Cel.add (At.cel hp5) 1) (recs_at (i := 1) wzC_len wz (by first | omega | (dsimp only; omega)) rfl)
  have o11 : (Builtin.len_ #[64] 3 #[((List.getD Y m wz).toks)]).run Try.prog w = .ok (iN (List.length (List.getD Y m wz).wd.toks)) w := f_slen sT64 (sp_rd (hYt _ (getD_mem (i := m) (d := wz) hm2)) hM (fun r_ h_ => mS (h_))).choose_spec 3 _
  refine GoS.run [0, 2, 4, 5, 51] [.n, .n, .n, .n, .n, .n, .h (.pointer (some p1)), .n, .h (((List.getD Z i pz).words)), .n, .h (.pointer (some p4)), .n, .h (((List.getD Y m wz).toks)), .h (iN (List.length (List.getD Y m wz).wd.toks)), .n, .n] _ [iC Try.f21 [1,0,0,1,0,0,1,1,0,0,1,0,0,1,0,0,0,1], iC Try.f21 uV7, iL Try.f21 uV3, .inBlock 6, .inBlock 5, iC Try.f21 uV5, iL Try.f21 uV2, .inBlock 4, .inBlock 1, iC Try.f21 uV1, iL Try.f21 uV0, .inBlock 0] [(0, v), (2, iN i), (4, iN m), (5, iN j), (51, .bool (decide (((j : Nat) : Int) < (((List.length (List.getD Y m wz).wd.toks) : Nat) : Int))))] w (by kernel_rfl) (.cons o7 (.cons o8 (.cons o9 (.cons o10 (.cons o11 .nil))))) ?_
  refine GoS.cond (decide (((j : Nat) : Int) < (((List.length (List.getD Y m wz).wd.toks) : Nat) : Int))) [iC Try.f21 [1,0,0,1,0,0,1,1,0,0,1,0,0,1,0,0,0,1,0], iC Try.f21 uV7, iL Try.f21 uV3, .inBlock 6, .inBlock 5, iC Try.f21 uV5, iL Try.f21 uV2, .inBlock 4, .inBlock 1, iC Try.f21 uV1, iL Try.f21 uV0, .inBlock 0] [iC Try.f21 [1,0,0,1,0,0,1,1,0,0,1,0,0,1,0,0,0,1,1], iC Try.f21 uV7, iL Try.f21 uV3, .inBlock 6, .inBlock 5, iC Try.f21 uV5, iL Try.f21 uV2, .inBlock 4, .inBlock 1, iC Try.f21 uV1, iL Try.f21 uV0, .inBlock 0] (by kernel_rfl) (fun h12 => ?_) (fun h12 => ?_)
  ·
   have h12p : ((j : Nat) : Int) < (((List.length (List.getD Y m wz).wd.toks) : Nat) : Int) := of_decide_eq_true h12
   refine GoS.run [0, 2, 4, 5] [.n] _ [iC Try.f21 uV7, iL Try.f21 uV3, .inBlock 6, .inBlock 5, iC Try.f21 uV5, iL Try.f21 uV2, .inBlock 4, .inBlock 1, iC Try.f21 uV1, iL Try.f21 uV0, .inBlock 0] [(0, v), (2, iN i), (4, iN m), (5, iN j)] w (by kernel_rfl) .nil ?_
   obtain ⟨p14, hp15, hq16⟩ := rd_at (i := ((i : Nat) : Int)) sT43 (hM.rd 0 rfl) i (by omega) (by first | omega | (dsimp only; omega))
   have o29 : (Instr.indexAt 43 (v) (iN i)).run Try.prog w = .ok (.pointer (some p14)) w := hq16 _ _
   have o30 : (Instr.loadAt 27 (.pointer (some (Addr.add p14 2)))).run Try.prog w = .ok (((List.getD Z i pz).words)) w := c_load pE27 (hM.rd 0 rfl) (Cel.add (At.cel hp15) 2) (recs_at (i := 2) pzC_len pz (by first | omega | (dsimp only; omega)) rfl)
   obtain ⟨p17, hp18, hq19⟩ := rd_at (i := ((m : Nat) : Int)) sT27 (Mem_rdm hM ((fun r_ h_ => mS (h_)) _ hY)) m (by omega) (by first | omega | (dsimp only; omega))
   have o31 : (Instr.indexAt 27 (((List.getD Z i pz).words)) (iN m)).run Try.prog w = .ok (.pointer (some p17)) w := hq19 _ _
   have o32 : (Instr.loadAt 64 (.pointer (some (Addr.add p17 1)))).run Try.prog w = .ok (((List.getD Y m wz).toks)) w := c_load pE64 (Mem_rdm hM ((fun r_ h_ => mS (h_)) _ hY)) (Cel.add (At.cel hp18) 1) (recs_at (i := 1) wzC_len wz (by first | omega | (dsimp only; omega)) rfl)
   obtain ⟨p20, hp21, hq22⟩ := rd_at (i := ((j : Nat) : Int)) sT64 (sp_rd (hYt _ (getD_mem (i := m) (d := wz) hm2)) hM (fun r_ h_ => mS (h_))).choose_spec j (by omega) (by first | omega | (dsimp only; omega))
   have o33 : (Instr.indexAt 64 (((List.getD Y m wz).toks)) (iN j)).run Try.prog w = .ok (.pointer (some p20)) w := hq22 _ _
   obtain ⟨w23, T24, _, hr25, hq26, hM27⟩ := sp_store (ys := [sS ([115, 112, 111, 105, 108, 116] : List UInt8), .int .i64 0]) aE79 (R := [⟨29, 3, v, (List.length Z), (recs pzC Z)⟩]) hM ((hYt _ (getD_mem (i := m) (d := wz) hm2))) hp21 (by omega) rfl (by intro u hu; simp at hu; rcases hu with rfl | rfl <;> rfl)
   have hsp28 := hsp.repl hq26 (show (68 : Nat) ≠ 79 by decide)
   have o34 : (Instr.storeAt 79 (.pointer (some p20)) (.agg #[sS ([115, 112, 111, 105, 108, 116] : List UInt8), .int .i64 0])).run Try.prog w = .ok () w23 ∧ undef = undef := ⟨hr25, rfl⟩
   have o35 : (binOp .add 3 (iN j) (.int .i64 1)).run Try.prog w23 = .ok (iN (j + 1)) w23 := f_add (by rw [show ((j : Nat) : Int) + 1 = (((j + 1) : Nat) : Int) by omega]; exact IntWalk.i64_in _ (by omega))
   refine GoS.run [0, 2, 4, 5] [.n, .n, .n, .n, .n, .h (.pointer (some p14)), .n, .h (((List.getD Z i pz).words)), .n, .h (.pointer (some p17)), .n, .h (((List.getD Y m wz).toks)), .n, .n, .h (.pointer (some p20)), .u (undef) (w23), .n, .n, .n, .n, .h (iN (j + 1)), .n, .n, .n] _ [iC Try.f21 uV3, iL Try.f21 uV3, .inBlock 6, .inBlock 5, iC Try.f21 uV5, iL Try.f21 uV2, .inBlock 4, .inBlock 1, iC Try.f21 uV1, iL Try.f21 uV0, .inBlock 0] [(0, v), (2, iN i), (4, iN m), (5, iN (j + 1))] w23 (by kernel_rfl) (.cons o29 (.cons o30 (.cons o31 (.cons o32 (.cons o33 (.cons o34 (.cons o35 .nil))))))) ?_
   exact ih T24 (j + 1) _ out (by omega) hsp28 (hq26.other hY (show (68 : Nat) ≠ 79 by decide)) (fun y hy => hq26.shape (hYt y hy)) hM27 (by omega)
  ·
   have h12p : ¬ (((j : Nat) : Int) < (((List.length (List.getD Y m wz).wd.toks) : Nat) : Int)) := of_decide_eq_false h12
   have o13 : (binOp .add 3 (iN m) (.int .i64 1)).run Try.prog w = .ok (iN (m + 1)) w := f_add (by rw [show ((m : Nat) : Int) + 1 = (((m + 1) : Nat) : Int) by omega]; exact IntWalk.i64_in _ (by omega))
   refine GoS.run [0, 2, 4] [.n, .n, .n, .n, .h (iN (m + 1)), .n, .n, .n] _ [iC Try.f21 uV2, iL Try.f21 uV2, .inBlock 4, .inBlock 1, iC Try.f21 uV1, iL Try.f21 uV0, .inBlock 0] [(0, v), (2, iN i), (4, iN (m + 1))] w (by kernel_rfl) (.cons o13 .nil) ?_
   exact out T _ hsp hY hYt hM

set_option maxHeartbeats 1000000 in
theorem spoil_L3 {S : List Nat} {w0 : World} (v : Value) (Z : List PZ) (i : Nat) (hi2 : i < Z.length) (Y : List WZ) (R : Ending → World → Prop) (hR : R = (fun e w' => e = .returned (.tuple #[]) ∧ Mem S w0 w' [])) : ∀ (N : Nat) (T : List Row) (m : Nat) (w : World) (out : ∀ (T : List Row) (w : World), SpZ 60 68 79 T Z → Mem S w0 w (⟨29, 3, v, (List.length Z), (recs pzC Z)⟩ :: T) → GoS Try.prog 21 R 66 [iC Try.f21 uV0, iL Try.f21 uV0, .inBlock 0] [(0, v), (2, iN (i + 1))] w) (hm : m ≤ Y.length) (hsp : SpZ 60 68 79 T Z) (hY : (⟨68, 2, (List.getD Z i pz).words, Y.length, recs wzC Y⟩ : Row) ∈ T) (hYt : ∀ y ∈ Y, ∃ xs, (⟨79, 2, y.toks, y.wd.toks.length, xs⟩ : Row) ∈ T) (hM : Mem S w0 w (⟨29, 3, v, (List.length Z), (recs pzC Z)⟩ :: T)) (hN : Y.length - m < N), GoS Try.prog 21 R 66 [iC Try.f21 uV2, iL Try.f21 uV2, .inBlock 4, .inBlock 1, iC Try.f21 uV1, iL Try.f21 uV0, .inBlock 0] [(0, v), (2, iN i), (4, iN m)] w := by
 intro N
 induction N with
 | zero => intro T m w out hm hsp hY hYt hM hN; exact absurd hN (Nat.not_lt_zero _)
 | succ N ih =>
  intro T m w out hm hsp hY hYt hM hN
  have hln := rd_len (hM.rd 0 rfl)
  simp only [maxLen] at hln
  have hln2 := rd_len (Mem_rdm hM (mS hY))
  simp only [maxLen] at hln2
  obtain ⟨p1, hp2, hq3⟩ := rd_at (i := ((i : Nat) : Int)) sT43 (hM.rd 0 rfl) i (by omega) (by first | omega | (dsimp only; omega))
  have o4 : (Instr.indexAt 43 (v) (iN i)).run Try.prog w = .ok (.pointer (some p1)) w := hq3 _ _
  have o5 : (Instr.loadAt 27 (.pointer (some (Addr.add p1 2)))).run Try.prog w = .ok (((List.getD Z i pz).words)) w := c_load pE27 (hM.rd 0 rfl) (Cel.add (At.cel hp2) 2) (recs_at (i := 2) pzC_len pz (by first | omega | (dsimp only; omega)) rfl)
  have o6 : (Builtin.len_ #[27] 3 #[((List.getD Z i pz).words)]).run Try.prog w = .ok (iN (List.length Y)) w := f_slen sT27 (Mem_rdm hM ((fun r_ h_ => mS (h_)) _ hY)) 3 _
  refine GoS.run [0, 2, 4, 37] [.n, .n, .n, .n, .n, .n, .h (.pointer (some p1)), .n, .h (((List.getD Z i pz).words)), .h (iN (List.length Y)), .n, .n] _ [iC Try.f21 [1,0,0,1,0,0,1,1,0,0,0,1], iC Try.f21 uV8, iL Try.f21 uV2, .inBlock 4, .inBlock 1, iC Try.f21 uV1, iL Try.f21 uV0, .inBlock 0] [(0, v), (2, iN i), (4, iN m), (37, .bool (decide (((m : Nat) : Int) < (((List.length Y) : Nat) : Int))))] w (by kernel_rfl) (.cons o4 (.cons o5 (.cons o6 .nil))) ?_
  refine GoS.cond (decide (((m : Nat) : Int) < (((List.length Y) : Nat) : Int))) [iC Try.f21 [1,0,0,1,0,0,1,1,0,0,0,1,0], iC Try.f21 uV8, iL Try.f21 uV2, .inBlock 4, .inBlock 1, iC Try.f21 uV1, iL Try.f21 uV0, .inBlock 0] [iC Try.f21 [1,0,0,1,0,0,1,1,0,0,0,1,1], iC Try.f21 uV8, iL Try.f21 uV2, .inBlock 4, .inBlock 1, iC Try.f21 uV1, iL Try.f21 uV0, .inBlock 0] (by kernel_rfl) (fun h7 => ?_) (fun h7 => ?_)
  ·
   have h7p : ((m : Nat) : Int) < (((List.length Y) : Nat) : Int) := of_decide_eq_true h7
   refine GoS.run [0, 2, 4] [.n] _ [iC Try.f21 uV8, iL Try.f21 uV2, .inBlock 4, .inBlock 1, iC Try.f21 uV1, iL Try.f21 uV0, .inBlock 0] [(0, v), (2, iN i), (4, iN m)] w (by kernel_rfl) .nil ?_
   refine GoS.run [0, 2, 4, 5] [.n, .n, .n, .n, .n, .n, .n, .n] _ [iC Try.f21 uV3, iL Try.f21 uV3, .inBlock 6, .inBlock 5, iC Try.f21 uV5, iL Try.f21 uV2, .inBlock 4, .inBlock 1, iC Try.f21 uV1, iL Try.f21 uV0, .inBlock 0] [(0, v), (2, iN i), (4, iN m), (5, .int .i64 0)] w (by kernel_rfl) .nil ?_
   exact spoil_L4 v Z i hi2 Y m (by omega) R hR ((List.getD Y m wz).wd.toks.length + 1) T 0 w (fun T w q1 q2 q3 q4 => ih T (m + 1) w out (by omega) q1 q2 q3 q4 (by omega)) (Nat.zero_le _) hsp hY hYt hM (by omega)
  ·
   have h7p : ¬ (((m : Nat) : Int) < (((List.length Y) : Nat) : Int)) := of_decide_eq_false h7
   have o8 : (binOp .add 3 (iN i) (.int .i64 1)).run Try.prog w = .ok (iN (i + 1)) w := f_add (by rw [show ((i : Nat) : Int) + 1 = (((i + 1) : Nat) : Int) by omega]; exact IntWalk.i64_in _ (by omega))
   refine GoS.run [0, 2] [.n, .n, .n, .n, .h (iN (i + 1)), .n, .n, .n] _ [iC Try.f21 uV0, iL Try.f21 uV0, .inBlock 0] [(0, v), (2, iN (i + 1))] w (by kernel_rfl) (.cons o8 .nil) ?_
   exact out T _ hsp hM

set_option maxHeartbeats 1000000 in
theorem spoil_L2 {S : List Nat} {w0 : World} (v : Value) (Z : List PZ) (i : Nat) (hi2 : i < Z.length) (R : Ending → World → Prop) (hR : R = (fun e w' => e = .returned (.tuple #[]) ∧ Mem S w0 w' [])) : ∀ (N : Nat) (T : List Row) (k : Nat) (w : World) (out : ∀ (T : List Row) (w : World), SpZ 60 68 79 T Z → Mem S w0 w (⟨29, 3, v, (List.length Z), (recs pzC Z)⟩ :: T) → GoS Try.prog 21 R 66 [iC Try.f21 uV0, iL Try.f21 uV0, .inBlock 0] [(0, v), (2, iN (i + 1))] w) (hk : k ≤ (List.getD Z i pz).pc.nums.length) (hsp : SpZ 60 68 79 T Z) (hM : Mem S w0 w (⟨29, 3, v, (List.length Z), (recs pzC Z)⟩ :: T)) (hN : (List.getD Z i pz).pc.nums.length - k < N), GoS Try.prog 21 R 66 [iC Try.f21 uV4, iL Try.f21 uV4, .inBlock 2, iC Try.f21 uV6, .inBlock 1, iC Try.f21 uV1, iL Try.f21 uV0, .inBlock 0] [(0, v), (2, iN i), (3, iN k)] w := by
 intro N
 induction N with
 | zero => intro T k w out hk hsp hM hN; exact absurd hN (Nat.not_lt_zero _)
 | succ N ih =>
  intro T k w out hk hsp hM hN
  have hln := rd_len (hM.rd 0 rfl)
  simp only [maxLen] at hln
  have hln1 := rd_len (sp_rd (hsp _ (getD_mem (i := i) (d := pz) hi2)).1 hM (fun r_ h_ => mS h_)).choose_spec
  simp only [maxLen] at hln1
  obtain ⟨p1, hp2, hq3⟩ := rd_at (i := ((i : Nat) : Int)) sT43 (hM.rd 0 rfl) i (by omega) (by first | omega | (dsimp only; omega))
  have o4 : (Instr.indexAt 43 (v) (iN i)).run Try.prog w = .ok (.pointer (some p1)) w := hq3 _ _
  have o5 : (Instr.loadAt 23 (.pointer (some (Addr.add p1 1)))).run Try.prog w = .ok (((List.getD Z i pz).nums)) w := c_load pE23 (hM.rd 0 rfl) (Cel.add (At.cel hp2) 1) (recs_at (i := 1) pzC_len pz (by first | omega | (dsimp only; omega)) rfl)
  have o6 : (Builtin.len_ #[23] 3 #[((List.getD Z i pz).nums)]).run Try.prog w = .ok (iN (List.length (List.getD Z i pz).pc.nums)) w := f_slen sT23 (sp_rd (hsp _ (getD_mem (i := i) (d := pz) hi2)).1 hM (fun r_ h_ => mS (h_))).choose_spec 3 _
  refine GoS.run [0, 2, 3, 19] [.n, .n, .n, .n, .n, .n, .h (.pointer (some p1)), .n, .h (((List.getD Z i pz).nums)), .h (iN (List.length (List.getD Z i pz).pc.nums)), .n, .n] _ [iC Try.f21 [1,0,0,1,0,0,0,1,0,0,0,1], iC Try.f21 uV9, iL Try.f21 uV4, .inBlock 2, iC Try.f21 uV6, .inBlock 1, iC Try.f21 uV1, iL Try.f21 uV0, .inBlock 0] [(0, v), (2, iN i), (3, iN k), (19, .bool (decide (((k : Nat) : Int) < (((List.length (List.getD Z i pz).pc.nums) : Nat) : Int))))] w (by kernel_rfl) (.cons o4 (.cons o5 (.cons o6 .nil))) ?_
  refine GoS.cond (decide (((k : Nat) : Int) < (((List.length (List.getD Z i pz).pc.nums) : Nat) : Int))) [iC Try.f21 [1,0,0,1,0,0,0,1,0,0,0,1,0], iC Try.f21 uV9, iL Try.f21 uV4, .inBlock 2, iC Try.f21 uV6, .inBlock 1, iC Try.f21 uV1, iL Try.f21 uV0, .inBlock 0] [iC Try.f21 [1,0,0,1,0,0,0,1,0,0,0,1,1], iC Try.f21 uV9, iL Try.f21 uV4, .inBlock 2, iC Try.f21 uV6, .inBlock 1, iC Try.f21 uV1, iL Try.f21 uV0, .inBlock 0] (by kernel_rfl) (fun h7 => ?_) (fun h7 => ?_)
  ·
   have h7p : ((k : Nat) : Int) < (((List.length (List.getD Z i pz).pc.nums) : Nat) : Int) := of_decide_eq_true h7
   refine GoS.run [0, 2, 3] [.n] _ [iC Try.f21 uV9, iL Try.f21 uV4, .inBlock 2, iC Try.f21 uV6, .inBlock 1, iC Try.f21 uV1, iL Try.f21 uV0, .inBlock 0] [(0, v), (2, iN i), (3, iN k)] w (by kernel_rfl) .nil ?_
   obtain ⟨p8, hp9, hq10⟩ := rd_at (i := ((i : Nat) : Int)) sT43 (hM.rd 0 rfl) i (by omega) (by first | omega | (dsimp only; omega))
   have o20 : (Instr.indexAt 43 (v) (iN i)).run Try.prog w = .ok (.pointer (some p8)) w := hq10 _ _
   have o21 : (Instr.loadAt 23 (.pointer (some (Addr.add p8 1)))).run Try.prog w = .ok (((List.getD Z i pz).nums)) w := c_load pE23 (hM.rd 0 rfl) (Cel.add (At.cel hp9) 1) (recs_at (i := 1) pzC_len pz (by first | omega | (dsimp only; omega)) rfl)
   obtain ⟨p11, hp12, hq13⟩ := rd_at (i := ((k : Nat) : Int)) sT23 (sp_rd (hsp _ (getD_mem (i := i) (d := pz) hi2)).1 hM (fun r_ h_ => mS (h_))).choose_spec k (by omega) (by first | omega | (dsimp only; omega))
   have o22 : (Instr.indexAt 23 (((List.getD Z i pz).nums)) (iN k)).run Try.prog w = .ok (.pointer (some p11)) w := hq13 _ _
   obtain ⟨w14, T15, _, hr16, hq17, hM18⟩ := sp_store (ys := [sS ([115, 112, 111, 105, 108, 116] : List UInt8), .int .u64 0]) aE60 (R := [⟨29, 3, v, (List.length Z), (recs pzC Z)⟩]) hM ((hsp _ (getD_mem (i := i) (d := pz) hi2)).1) hp12 (by omega) rfl (by intro u hu; simp at hu; rcases hu with rfl | rfl <;> rfl)
   have hsp19 := hsp.repl hq17 (show (68 : Nat) ≠ 60 by decide)
   have o23 : (Instr.storeAt 60 (.pointer (some p11)) (.agg #[sS ([115, 112, 111, 105, 108, 116] : List UInt8), .int .u64 0])).run Try.prog w = .ok () w14 ∧ undef = undef := ⟨hr16, rfl⟩
   have o24 : (binOp .add 3 (iN k) (.int .i64 1)).run Try.prog w14 = .ok (iN (k + 1)) w14 := f_add (by rw [show ((k : Nat) : Int) + 1 = (((k + 1) : Nat) : Int) by omega]; exact IntWalk.i64_in _ (by omega))
   refine GoS.run [0, 2, 3] [.n, .n, .n, .n, .n, .h (.pointer (some p8)), .n, .h (((List.getD Z i pz).nums)), .n, .n, .h (.pointer (some p11)), .u (undef) (w14), .n, .n, .n, .n, .h (iN (k + 1)), .n, .n, .n] _ [iC Try.f21 uV4, iL Try.f21 uV4, .inBlock 2, iC Try.f21 uV6, .inBlock 1, iC Try.f21 uV1, iL Try.f21 uV0, .inBlock 0] [(0, v), (2, iN i), (3, iN (k + 1))] w14 (by kernel_rfl) (.cons o20 (.cons o21 (.cons o22 (.cons o23 (.cons o24 .nil))))) ?_
   exact ih T15 (k + 1) _ out (by omega) hsp19 hM18 (by omega)
  ·
   have h7p : ¬ (((k : Nat) : Int) < (((List.length (List.getD Z i pz).pc.nums) : Nat) : Int)) := of_decide_eq_false h7
   refine GoS.run [0, 2, 4] [.n, .n, .n, .n, .n, .n, .n] _ [iC Try.f21 uV2, iL Try.f21 uV2, .inBlock 4, .inBlock 1, iC Try.f21 uV1, iL Try.f21 uV0, .inBlock 0] [(0, v), (2, iN i), (4, .int .i64 0)] w (by kernel_rfl) .nil ?_
   obtain ⟨_, Y, _, hY, hYt⟩ := hsp _ (getD_mem (i := i) (d := pz) hi2)
   exact spoil_L3 v Z i hi2 Y R hR (Y.length + 1) T 0 w out (Nat.zero_le _) hsp hY hYt hM (by omega)

set_option maxHeartbeats 1000000 in
theorem spoil_L1 {S : List Nat} {w0 : World} (v : Value) (Z : List PZ)  (R : Ending → World → Prop) (hR : R = (fun e w' => e = .returned (.tuple #[]) ∧ Mem S w0 w' [])) : ∀ (N : Nat) (T : List Row) (i : Nat) (w : World) (hi : i ≤ Z.length) (hsp : SpZ 60 68 79 T Z) (hM : Mem S w0 w (⟨29, 3, v, (List.length Z), (recs pzC Z)⟩ :: T)) (hN : Z.length - i < N), GoS Try.prog 21 R 66 [iC Try.f21 uV0, iL Try.f21 uV0, .inBlock 0] [(0, v), (2, iN i)] w := by
 intro N
 induction N with
 | zero => intro T i w hi hsp hM hN; exact absurd hN (Nat.not_lt_zero _)
 | succ N ih =>
  intro T i w hi hsp hM hN
  have hln := rd_len (hM.rd 0 rfl)
  simp only [maxLen] at hln
  have o1 : (Builtin.len_ #[43] 3 #[v]).run Try.prog w = .ok (iN (List.length Z)) w := f_slen sT43 (hM.rd 0 rfl) 3 _
  refine GoS.run [0, 2, 9] [.n, .n, .n, .n, .n, .h (iN (List.length Z)), .n, .n] _ [iC Try.f21 [1,0,0,0,1], iC Try.f21 [1,0,0,1], iL Try.f21 uV0, .inBlock 0] [(0, v), (2, iN i), (9, .bool (decide (((i : Nat) : Int) < (((List.length Z) : Nat) : Int))))] w (by kernel_rfl) (.cons o1 .nil) ?_
  refine GoS.cond (decide (((i : Nat) : Int) < (((List.length Z) : Nat) : Int))) [iC Try.f21 [1,0,0,0,1,0], iC Try.f21 [1,0,0,1], iL Try.f21 uV0, .inBlock 0] [iC Try.f21 [1,0,0,0,1,1], iC Try.f21 [1,0,0,1], iL Try.f21 uV0, .inBlock 0] (by kernel_rfl) (fun h2 => ?_) (fun h2 => ?_)
  ·
   have h2p : ((i : Nat) : Int) < (((List.length Z) : Nat) : Int) := of_decide_eq_true h2
   refine GoS.run [0, 2] [.n] _ [iC Try.f21 [1,0,0,1], iL Try.f21 uV0, .inBlock 0] [(0, v), (2, iN i)] w (by kernel_rfl) .nil ?_
   refine GoS.run [0, 2, 3] [.n, .n, .n, .n, .n, .n, .n, .n, .n] _ [iC Try.f21 uV4, iL Try.f21 uV4, .inBlock 2, iC Try.f21 uV6, .inBlock 1, iC Try.f21 uV1, iL Try.f21 uV0, .inBlock 0] [(0, v), (2, iN i), (3, .int .i64 0)] w (by kernel_rfl) .nil ?_
   exact spoil_L2 v Z i (by omega) R hR ((List.getD Z i pz).pc.nums.length + 1) T 0 w (fun T w q1 q2 => ih T (i + 1) w (by omega) q1 q2 (by omega)) (Nat.zero_le _) hsp hM (by omega)
  ·
   have h2p : ¬ (((i : Nat) : Int) < (((List.length Z) : Nat) : Int)) := of_decide_eq_false h2
   refine GoS.run [] [.n] _ [] [] w (by kernel_rfl) .nil ?_
   refine GoS.fin (fn := Try.f21) (v := (.tuple #[])) Try.func21 (by kernel_rfl) ?_
   rw [hR]
   exact ⟨rfl, hM.sub sN⟩

set_option maxHeartbeats 400000 in
theorem spoil_c {S : List Nat} {w0 w : World} (v : Value) (Z : List PZ) (T : List Row) (hsp : SpZ 60 68 79 T Z) (hM : Mem S w0 w (⟨29, 3, v, (List.length Z), (recs pzC Z)⟩ :: T)) :
  Calls Try.prog 21 #[v] w (fun e w' => e = .returned (.tuple #[]) ∧ Mem S w0 w' []) := by
 obtain ⟨R, hR⟩ : ∃ R : Ending → World → Prop, R = (fun e w' => e = .returned (.tuple #[]) ∧ Mem S w0 w' []) := ⟨_, rfl⟩
 rw [← hR]
 refine GoS.enter (n := 66) Try.func21 (by kernel_rfl) rfl [(0, v)] (by kernel_rfl) (by kernel_rfl) ?_
 refine GoS.run [0, 2] [.n, .n, .n, .n, .n, .n] _ [iC Try.f21 uV0, iL Try.f21 uV0, .inBlock 0] [(0, v), (2, .int .i64 0)] w (by kernel_rfl) .nil ?_
 exact spoil_L1 v Z R hR (Z.length + 1) T 0 w (Nat.zero_le _) hsp hM (by omega)


end Go.Proofs.Ytcdcehjilneifaa
