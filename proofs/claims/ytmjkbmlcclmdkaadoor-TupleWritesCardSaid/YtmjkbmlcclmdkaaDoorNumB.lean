/-
  The walks of spread and put: the bytes of a number behind a row.
-/
import Derived.Test.YtmjkbmlcclmdkaaDoorNumA
import Derived.Test.YtmjkbmlcclmdkaaDoorLend
import Derived.Test.YtmjkbmlcclmdkaaDoorBig
namespace Go.Proofs.YtmjkbmlcclmdkaaDoor
open Go Go.Gw Go.NumP Go.CrcP Go.SealP Go.RowKit
set_option linter.unusedVariables false
set_option linter.unusedSimpArgs false

theorem sT45 : SliceT Tryd.prog 45 5 1 1 (.int .u8 0) := ⟨by kernel_rfl, ⟨_, rfl, by kernel_rfl, by kernel_rfl, by kernel_rfl⟩, rfl, by decide⟩

set_option maxHeartbeats 400000 in
theorem spread_L {S : List Nat} {w0 : World} (l : List Int) (x k : Nat) (f : Int) (hF : f = 0 ∨ f = 255) (hx : x < 18446744073709551616) (hk : k ≤ 8) (hr : l.length + 8 ≤ 200000000000000) (R : Ending → World → Prop) (hR : R = (fun e w' => ∃ v, e = .returned v ∧ Mem S w0 w' [⟨5, 1, v, (l ++ List.map (flipI f) (digs k x)).length, ivals .u8 (l ++ List.map (flipI f) (digs k x))⟩])) : ∀ (N : Nat) (j : Nat) (v : Value) (w : World) (hj : j ≤ k) (hM : Mem S w0 w [⟨5, 1, v, (List.length (l ++ List.map (flipI f) (digs j (x / 256 ^ (k - j))))), (ivals .u8 (l ++ List.map (flipI f) (digs j (x / 256 ^ (k - j)))))⟩]) (hN : k - j < N), GoS Tryd.prog 32 R 27 [.code (csub (cd Tryd.f32) [1,0,1,0,0]), .inLoop (csub (cd Tryd.f32) [1,0,1,0,0]), .inBlock 0, .code (csub (cd Tryd.f32) [1,1])] [(0, v), (1, .int .u64 ((x : Nat) : Int)), (3, .int .u8 f), (9, .int .i64 ((k : Int) - 1 - (j : Int)))] w := by
  intro N
  induction N with
  | zero => intro j v w hj hM hN; exact absurd hN (Nat.not_lt_zero _)
  | succ N ih =>
    intro j v w hj hM hN
    refine GoS.run [0, 1, 3, 9, 13] [.n, .n, .n, .n, .n, .n] _ [.code (csub (cd Tryd.f32) [1,0,1,0,0,0,1]), .code (csub (cd Tryd.f32) [1,0,1,0,0,1]), .inLoop (csub (cd Tryd.f32) [1,0,1,0,0]), .inBlock 0, .code (csub (cd Tryd.f32) [1,1])] [(0, v), (1, .int .u64 ((x : Nat) : Int)), (3, .int .u8 f), (9, .int .i64 ((k : Int) - 1 - (j : Int))), (13, .bool (decide (((k : Int) - 1 - (j : Int)) ≥ 0)))] w (by kernel_rfl) .nil ?_
    refine GoS.cond (decide (((k : Int) - 1 - (j : Int)) ≥ 0)) [.code (csub (cd Tryd.f32) [1,0,1,0,0,0,1,0]), .code (csub (cd Tryd.f32) [1,0,1,0,0,1]), .inLoop (csub (cd Tryd.f32) [1,0,1,0,0]), .inBlock 0, .code (csub (cd Tryd.f32) [1,1])] [.code (csub (cd Tryd.f32) [1,0,1,0,0,0,1,1]), .code (csub (cd Tryd.f32) [1,0,1,0,0,1]), .inLoop (csub (cd Tryd.f32) [1,0,1,0,0]), .inBlock 0, .code (csub (cd Tryd.f32) [1,1])] (by kernel_rfl) (fun h1 => ?_) (fun h1 => ?_)
    ·
      have h1p : ((k : Int) - 1 - (j : Int)) ≥ 0 := of_decide_eq_true h1
      refine GoS.run [0, 1, 3, 9] [.n] _ [.code (csub (cd Tryd.f32) [1,0,1,0,0,1]), .inLoop (csub (cd Tryd.f32) [1,0,1,0,0]), .inBlock 0, .code (csub (cd Tryd.f32) [1,1])] [(0, v), (1, .int .u64 ((x : Nat) : Int)), (3, .int .u8 f), (9, .int .i64 ((k : Int) - 1 - (j : Int)))] w (by kernel_rfl) .nil ?_
      have o11 : (binOp .mul 3 (.int .i64 8) (.int .i64 ((k : Int) - 1 - (j : Int)))).run Tryd.prog w = .ok (.int .i64 (8 * ((k : Int) - 1 - (j : Int)))) w := f_mul (IntWalk.i64_in _ (by omega))
      have o12 : (binOp .shr 62 (.int .u64 ((x : Nat) : Int)) (.int .i64 (8 * ((k : Int) - 1 - (j : Int))))).run Tryd.prog w = .ok (.int .u64 (((dg x (k - 1 - j)) : Nat) : Int)) w := f_shr (by omega) (shr_dg (n := k - 1 - j) (by omega) (by omega))
      have o13 : (convert 62 5 (.int .u64 (((dg x (k - 1 - j)) : Nat) : Int))).run Tryd.prog w = .ok (.int .u8 ((((dg x (k - 1 - j)) % 256) : Nat) : Int)) w := f_conv (u := .int .u64) (by kernel_rfl) (by kernel_rfl) (cut_u8 _)
      have o14 : (binOp .xor 5 (.int .u8 ((((dg x (k - 1 - j)) % 256) : Nat) : Int)) (.int .u8 f)).run Tryd.prog w = .ok (.int .u8 (flipI f ((((dg x (k - 1 - j)) % 256) : Nat) : Int))) w := f_xor (xor_flip hF (by omega))
      obtain ⟨v2, w3, hr4, hM5⟩ := m_lit sT45 hM (n := 1) (parts := #[(0, .int .u8 (flipI f ((((dg x (k - 1 - j)) % 256) : Nat) : Int)))]) (cs := [.int .u8 (flipI f ((((dg x (k - 1 - j)) % 256) : Nat) : Int))]) (by decide) (by kernel_rfl) rfl
      have o15 : (Instr.buildSlice 45 1 #[(0, .int .u8 (flipI f ((((dg x (k - 1 - j)) % 256) : Nat) : Int)))]).run Tryd.prog w = .ok v2 w3 := hr4
      obtain ⟨v6, w7, hr8, hM9⟩ := m_append_big sT45 hM5 1 rfl (hM5.rd 0 rfl) (by intro u hu; simp at hu; rcases hu with rfl <;> rfl) (by exact Nat.zero_lt_one) (by rw [List.length_append, List.length_map, digs_len]; (try dsimp only); omega) 45
      have hM10 : Mem S w0 w7 [⟨5, 1, v2, 1, [.int .u8 (flipI f ((((dg x (k - 1 - j)) % 256) : Nat) : Int))]⟩, ⟨5, 1, v6, (List.length ((l ++ List.map (flipI f) (digs j (x / 256 ^ (k - j)))) ++ ([(flipI f ((((dg x (k - 1 - j)) % 256) : Nat) : Int))] : List Int))), (ivals .u8 ((l ++ List.map (flipI f) (digs j (x / 256 ^ (k - j)))) ++ ([(flipI f ((((dg x (k - 1 - j)) % 256) : Nat) : Int))] : List Int)))⟩] := hM9.cast (by simp [ivals, svals, bvals, nvals, u8s, Nat.add_assoc])
      have o16 : (Builtin.append_ #[45, 45] 45 #[v, v2]).run Tryd.prog w3 = .ok v6 w7 := hr8
      have o17 : (binOp .sub 3 (.int .i64 ((k : Int) - 1 - (j : Int))) (.int .i64 1)).run Tryd.prog w7 = .ok (.int .i64 (((k : Int) - 1 - (j : Int)) - 1)) w7 := f_sub (IntWalk.i64_in _ (by omega))
      have hM18 : Mem S w0 w7 [⟨5, 1, v6, (List.length ((l ++ List.map (flipI f) (digs j (x / 256 ^ (k - j)))) ++ ([(flipI f ((((dg x (k - 1 - j)) % 256) : Nat) : Int))] : List Int))), (ivals .u8 ((l ++ List.map (flipI f) (digs j (x / 256 ^ (k - j)))) ++ ([(flipI f ((((dg x (k - 1 - j)) % 256) : Nat) : Int))] : List Int)))⟩] := hM10.sub (List.Sublist.cons _ (List.Sublist.cons_cons _ (List.Sublist.refl _)))
      refine GoS.run [0, 1, 3, 9] [.n, .n, .n, .n, .n, .n, .h (.int .i64 (8 * ((k : Int) - 1 - (j : Int)))), .h (.int .u64 (((dg x (k - 1 - j)) : Nat) : Int)), .h (.int .u8 ((((dg x (k - 1 - j)) % 256) : Nat) : Int)), .n, .h (.int .u8 (flipI f ((((dg x (k - 1 - j)) % 256) : Nat) : Int))), .u (v2) (w3), .u (v6) (w7), .n, .n, .n, .n, .n, .h (.int .i64 (((k : Int) - 1 - (j : Int)) - 1)), .n, .n, .n] _ [.code (csub (cd Tryd.f32) [1,0,1,0,0]), .inLoop (csub (cd Tryd.f32) [1,0,1,0,0]), .inBlock 0, .code (csub (cd Tryd.f32) [1,1])] [(0, v6), (1, .int .u64 ((x : Nat) : Int)), (3, .int .u8 f), (9, .int .i64 (((k : Int) - 1 - (j : Int)) - 1))] w7 (by kernel_rfl) (.cons o11 (.cons o12 (.cons o13 (.cons o14 (.cons o15 (.cons o16 (.cons o17 .nil))))))) ?_
      have e : ((l ++ List.map (flipI f) (digs j (x / 256 ^ (k - j)))) ++ ([(flipI f ((((dg x (k - 1 - j)) % 256) : Nat) : Int))] : List Int)) = l ++ List.map (flipI f) (digs (j + 1) (x / 256 ^ (k - (j + 1)))) := by
        rw [show k - (j + 1) = k - 1 - j by omega, digs, div_step x j k (by omega), List.map_append, ← List.append_assoc]; rfl
      rw [e] at hM18
      exact GoS.cast (by rw [show ((k : Int) - 1 - ((j + 1 : Nat) : Int)) = ((k : Int) - 1 - (j : Int)) - 1 by omega]) (ih (j + 1) _ _ (by omega) hM18 (by omega))
    ·
      have h1p : ¬ (((k : Int) - 1 - (j : Int)) ≥ 0) := of_decide_eq_false h1
      refine GoS.run [8] [.n, .n, .n, .n, .n, .n] _ [.code (csub (cd Tryd.f32) [1,1,1])] [(8, v)] w (by kernel_rfl) .nil ?_
      refine GoS.ret (fn := Tryd.f32) (v := v) Tryd.func32 (by kernel_rfl) ?_
      rw [hR]
      obtain rfl : j = k := by omega
      have e : x / 256 ^ (j - j) = x := by simp
      rw [e] at hM
      exact ⟨_, rfl, hM⟩

set_option maxHeartbeats 400000 in
theorem spread_c {S : List Nat} {w0 : World} (l : List Int) (x k : Nat) (f : Int) (hF : f = 0 ∨ f = 255) (hx : x < 18446744073709551616) (hk : k ≤ 8) (hr : l.length + 8 ≤ 200000000000000) (v : Value) (w : World) (hM : Mem S w0 w [⟨5, 1, v, (List.length l), (ivals .u8 l)⟩]) :
    Calls Tryd.prog 32 #[v, .int .u64 ((x : Nat) : Int), .int .i64 ((k : Nat) : Int), .int .u8 f] w (fun e w' => ∃ v, e = .returned v ∧ Mem S w0 w' [⟨5, 1, v, (l ++ List.map (flipI f) (digs k x)).length, ivals .u8 (l ++ List.map (flipI f) (digs k x))⟩]) := by
  obtain ⟨R, hR⟩ : ∃ R : Ending → World → Prop, R = (fun e w' => ∃ v, e = .returned v ∧ Mem S w0 w' [⟨5, 1, v, (l ++ List.map (flipI f) (digs k x)).length, ivals .u8 (l ++ List.map (flipI f) (digs k x))⟩]) := ⟨_, rfl⟩
  rw [← hR]
  refine GoS.enter (n := 27) Tryd.func32 (by kernel_rfl) rfl [(0, v), (1, .int .u64 ((x : Nat) : Int)), (2, .int .i64 ((k : Nat) : Int)), (3, .int .u8 f)] (by kernel_rfl) (by kernel_rfl) ?_
  have o1 : (binOp .sub 3 (.int .i64 ((k : Nat) : Int)) (.int .i64 1)).run Tryd.prog w = .ok (.int .i64 (((k : Nat) : Int) - 1)) w := f_sub (IntWalk.i64_in _ (by omega))
  refine GoS.run [0, 1, 3, 9] [.n, .n, .n, .n, .n, .n, .n, .n, .h (.int .i64 (((k : Nat) : Int) - 1)), .n, .n, .n, .n] _ [.code (csub (cd Tryd.f32) [1,0,1,0,0]), .inLoop (csub (cd Tryd.f32) [1,0,1,0,0]), .inBlock 0, .code (csub (cd Tryd.f32) [1,1])] [(0, v), (1, .int .u64 ((x : Nat) : Int)), (3, .int .u8 f), (9, .int .i64 (((k : Nat) : Int) - 1))] w (by kernel_rfl) (.cons o1 .nil) ?_
  exact GoS.cast (by rw [show ((k : Int) - 1 - ((0 : Nat) : Int)) = (k : Int) - 1 by omega]) (spread_L l x k f hF hx hk hr R hR (k + 1) 0 v w (by omega) (hM.cast (by simp [digs])) (by omega))

set_option maxHeartbeats 400000 in
theorem put_c {S : List Nat} {w0 : World} (l : List Int) (n : Int) (hn : -9223372036854775808 ≤ n ∧ n ≤ 9223372036854775807) (hr : l.length + 9 ≤ 200000000000000) (v : Value) (w : World) (hM : Mem S w0 w [⟨5, 1, v, (List.length l), (ivals .u8 l)⟩]) :
    Calls Tryd.prog 24 #[v, .int .i64 n] w (fun e w' => ∃ v, e = .returned v ∧ Mem S w0 w' [⟨5, 1, v, (l ++ numB n).length, ivals .u8 (l ++ numB n)⟩]) := by
  obtain ⟨R, hR⟩ : ∃ R : Ending → World → Prop, R = (fun e w' => ∃ v, e = .returned v ∧ Mem S w0 w' [⟨5, 1, v, (l ++ numB n).length, ivals .u8 (l ++ numB n)⟩]) := ⟨_, rfl⟩
  rw [← hR]
  refine GoS.enter (n := 49) Tryd.func24 (by kernel_rfl) rfl [(0, v), (1, .int .i64 n)] (by kernel_rfl) (by kernel_rfl) ?_
  refine GoS.run [0, 1, 9] [.n, .n, .n, .n, .n, .n, .n, .n, .n, .n, .n, .n] _ [.code (csub (cd Tryd.f24) [1,0,0,1]), .inBlock 0, .code (csub (cd Tryd.f24) [1,1])] [(0, v), (1, .int .i64 n), (9, .bool (decide (n > 111)))] w (by kernel_rfl) .nil ?_
  refine GoS.cond (decide (n > 111)) [.code (csub (cd Tryd.f24) [1,0,0,1,0]), .inBlock 0, .code (csub (cd Tryd.f24) [1,1])] [.code (csub (cd Tryd.f24) [1,0,0,1,1]), .inBlock 0, .code (csub (cd Tryd.f24) [1,1])] (by kernel_rfl) (fun h1 => ?_) (fun h1 => ?_)
  ·
    have h1p : n > 111 := of_decide_eq_true h1
    have o2 : (binOp .sub 3 (.int .i64 n) (.int .i64 112)).run Tryd.prog w = .ok (.int .i64 (n - 112)) w := f_sub (IntWalk.i64_in _ (by omega))
    have o3 : (convert 3 62 (.int .i64 (n - 112))).run Tryd.prog w = .ok (.int .u64 (((Int.toNat (n - 112)) : Nat) : Int)) w := f_conv (u := .int .i64) (by kernel_rfl) (by kernel_rfl) ((IntWalk.u64_in _ (by omega)).trans (by omega))
    refine GoS.run [0, 5, 15] [.n, .n, .n, .h (.int .i64 (n - 112)), .h (.int .u64 (((Int.toNat (n - 112)) : Nat) : Int)), .n, .n, .n, .n, .n] _ [.inRegion (cops (csub (cd Tryd.f24) [1,0,0,1,0,1,0])) [1,2], .code (csub (cd Tryd.f24) [1,0,0,1,0,1,1]), .inBlock 0, .code (csub (cd Tryd.f24) [1,1])] [(0, v), (5, .int .u64 (((Int.toNat (n - 112)) : Nat) : Int)), (15, .int .u64 (((Int.toNat (n - 112)) : Nat) : Int))] w (by kernel_rfl) (.cons o2 (.cons o3 .nil)) ?_
    have hsz := sz_bd (Int.toNat (n - 112))
    refine GoS.call [0, 5] 31 #[.int .u64 (((Int.toNat (n - 112)) : Nat) : Int)] (some 16) [.inRegion (cops (csub (cd Tryd.f24) [1,0,0,1,0,1,0])) [2], .code (csub (cd Tryd.f24) [1,0,0,1,0,1,1]), .inBlock 0, .code (csub (cd Tryd.f24) [1,1])] [(0, v), (5, .int .u64 (((Int.toNat (n - 112)) : Nat) : Int))] (by kernel_rfl) (size_c (Int.toNat (n - 112)) (by omega) w) ?_
    rintro _ _ ⟨rfl, rfl⟩
    refine ⟨_, rfl, ?_⟩
    have o13 : (binOp .add 3 (.int .i64 239) (.int .i64 (((sz (Int.toNat (n - 112))) : Nat) : Int))).run Tryd.prog w = .ok (.int .i64 ((((sz (Int.toNat (n - 112))) + 239) : Nat) : Int)) w := f_add (by rw [show 239 + (((sz (Int.toNat (n - 112))) : Nat) : Int) = ((((sz (Int.toNat (n - 112))) + 239) : Nat) : Int) by omega]; exact IntWalk.i64_in _ (by omega))
    have o14 : (convert 3 5 (.int .i64 ((((sz (Int.toNat (n - 112))) + 239) : Nat) : Int))).run Tryd.prog w = .ok (.int .u8 ((((sz (Int.toNat (n - 112))) + 239) : Nat) : Int)) w := f_conv (u := .int .i64) (by kernel_rfl) (by kernel_rfl) (IntWalk.u8_in _ (by omega))
    obtain ⟨v4, w5, hr6, hM7⟩ := m_lit sT45 hM (n := 1) (parts := #[(0, .int .u8 ((((sz (Int.toNat (n - 112))) + 239) : Nat) : Int))]) (cs := [.int .u8 ((((sz (Int.toNat (n - 112))) + 239) : Nat) : Int)]) (by decide) (by kernel_rfl) rfl
    have o15 : (Instr.buildSlice 45 1 #[(0, .int .u8 ((((sz (Int.toNat (n - 112))) + 239) : Nat) : Int))]).run Tryd.prog w = .ok v4 w5 := hr6
    obtain ⟨v8, w9, hr10, hM11⟩ := m_append_big sT45 hM7 1 rfl (hM7.rd 0 rfl) (by intro u hu; simp at hu; rcases hu with rfl <;> rfl) (by exact Nat.zero_lt_one) (by (try simp only [List.length_append, List.length_cons, List.length_nil]); (try dsimp only); omega) 45
    have hM12 : Mem S w0 w9 [⟨5, 1, v4, 1, [.int .u8 ((((sz (Int.toNat (n - 112))) + 239) : Nat) : Int)]⟩, ⟨5, 1, v8, (List.length (l ++ ([((((sz (Int.toNat (n - 112))) + 239) : Nat) : Int)] : List Int))), (ivals .u8 (l ++ ([((((sz (Int.toNat (n - 112))) + 239) : Nat) : Int)] : List Int)))⟩] := hM11.cast (by simp [ivals, svals, bvals, nvals, u8s, Nat.add_assoc])
    have o16 : (Builtin.append_ #[45, 45] 45 #[v, v4]).run Tryd.prog w5 = .ok v8 w9 := hr10
    have hM17 : Mem S w0 w9 [⟨5, 1, v8, (List.length (l ++ ([((((sz (Int.toNat (n - 112))) + 239) : Nat) : Int)] : List Int))), (ivals .u8 (l ++ ([((((sz (Int.toNat (n - 112))) + 239) : Nat) : Int)] : List Int)))⟩] := hM12.sub (List.Sublist.cons _ (List.Sublist.cons_cons _ (List.Sublist.refl _)))
    refine GoS.run [22, 23, 24] [.n, .n, .n, .n, .n, .n, .h (.int .i64 ((((sz (Int.toNat (n - 112))) + 239) : Nat) : Int)), .h (.int .u8 ((((sz (Int.toNat (n - 112))) + 239) : Nat) : Int)), .u (v4) (w5), .u (v8) (w9), .n, .n] _ [.inRegion (cops (csub (cd Tryd.f24) [1,0,0,1,0,1,1,0])) [8,9], .code (csub (cd Tryd.f24) [1,0,0,1,0,1,1,1]), .inBlock 0, .code (csub (cd Tryd.f24) [1,1])] [(22, v8), (23, .int .u64 (((Int.toNat (n - 112)) : Nat) : Int)), (24, .int .i64 (((sz (Int.toNat (n - 112))) : Nat) : Int))] w9 (by kernel_rfl) (.cons o13 (.cons o14 (.cons o15 (.cons o16 .nil)))) ?_
    refine GoS.call [] 32 #[v8, .int .u64 (((Int.toNat (n - 112)) : Nat) : Int), .int .i64 (((sz (Int.toNat (n - 112))) : Nat) : Int), .int .u8 0] (some 25) [.inRegion (cops (csub (cd Tryd.f24) [1,0,0,1,0,1,1,0])) [9], .code (csub (cd Tryd.f24) [1,0,0,1,0,1,1,1]), .inBlock 0, .code (csub (cd Tryd.f24) [1,1])] [] (by kernel_rfl) (spread_c (l ++ ([((((sz (Int.toNat (n - 112))) + 239) : Nat) : Int)] : List Int)) (Int.toNat (n - 112)) (sz (Int.toNat (n - 112))) 0 (by omega) (by omega) (by omega) (by (try simp only [List.length_append, List.length_cons, List.length_nil]); (try dsimp only); omega) v8 w9 (Mem.lend (R := [⟨5, 1, v8, (List.length (l ++ ([((((sz (Int.toNat (n - 112))) + 239) : Nat) : Int)] : List Int))), (ivals .u8 (l ++ ([((((sz (Int.toNat (n - 112))) + 239) : Nat) : Int)] : List Int)))⟩]) (L := []) hM17)) ?_
    rintro _ w18 ⟨v20, rfl, m19⟩
    refine ⟨_, rfl, ?_⟩
    have hM21 : Mem S w0 w18 [⟨5, 1, v20, (List.length ((l ++ ([((((sz (Int.toNat (n - 112))) + 239) : Nat) : Int)] : List Int)) ++ List.map (flipI 0) (digs (sz (Int.toNat (n - 112))) (Int.toNat (n - 112))))), (ivals .u8 ((l ++ ([((((sz (Int.toNat (n - 112))) + 239) : Nat) : Int)] : List Int)) ++ List.map (flipI 0) (digs (sz (Int.toNat (n - 112))) (Int.toNat (n - 112)))))⟩] := Mem.back (R := [⟨5, 1, v8, (List.length (l ++ ([((((sz (Int.toNat (n - 112))) + 239) : Nat) : Int)] : List Int))), (ivals .u8 (l ++ ([((((sz (Int.toNat (n - 112))) + 239) : Nat) : Int)] : List Int)))⟩]) (L := []) hM17 m19
    refine GoS.run [4] [.n, .n] _ [.code (csub (cd Tryd.f24) [1,0,0,1,0,1,1,1]), .inBlock 0, .code (csub (cd Tryd.f24) [1,1])] [(4, v20)] w18 (by kernel_rfl) .nil ?_
    refine GoS.ret (fn := Tryd.f24) (v := v20) Tryd.func24 (by kernel_rfl) ?_
    rw [hR]
    have e : ((l ++ ([((((sz (Int.toNat (n - 112))) + 239) : Nat) : Int)] : List Int)) ++ List.map (flipI 0) (digs (sz (Int.toNat (n - 112))) (Int.toNat (n - 112)))) = l ++ numB n := by rw [numB, if_pos (by omega)]; simp only [map_flip0, List.append_assoc, List.cons_append, List.nil_append]; congr 2; omega
    rw [e] at hM21
    exact ⟨_, rfl, hM21⟩
  ·
    have h1p : ¬ (n > 111) := of_decide_eq_false h1
    refine GoS.run [0, 1, 26] [.n, .n, .n, .n, .n, .n] _ [.code (csub (cd Tryd.f24) [1,0,0,1,1,1]), .inBlock 0, .code (csub (cd Tryd.f24) [1,1])] [(0, v), (1, .int .i64 n), (26, .bool (decide (n < (-112))))] w (by kernel_rfl) .nil ?_
    refine GoS.cond (decide (n < (-112))) [.code (csub (cd Tryd.f24) [1,0,0,1,1,1,0]), .inBlock 0, .code (csub (cd Tryd.f24) [1,1])] [.code (csub (cd Tryd.f24) [1,0,0,1,1,1,1]), .inBlock 0, .code (csub (cd Tryd.f24) [1,1])] (by kernel_rfl) (fun h22 => ?_) (fun h22 => ?_)
    ·
      have h22p : n < (-112) := of_decide_eq_true h22
      have o23 : (binOp .sub 3 (.int .i64 (-113)) (.int .i64 n)).run Tryd.prog w = .ok (.int .i64 ((-113) - n)) w := f_sub (IntWalk.i64_in _ (by omega))
      have o24 : (convert 3 62 (.int .i64 ((-113) - n))).run Tryd.prog w = .ok (.int .u64 (((Int.toNat ((-113) - n)) : Nat) : Int)) w := f_conv (u := .int .i64) (by kernel_rfl) (by kernel_rfl) ((IntWalk.u64_in _ (by omega)).trans (by omega))
      refine GoS.run [0, 7, 32] [.n, .n, .n, .h (.int .i64 ((-113) - n)), .h (.int .u64 (((Int.toNat ((-113) - n)) : Nat) : Int)), .n, .n, .n, .n, .n] _ [.inRegion (cops (csub (cd Tryd.f24) [1,0,0,1,1,1,0,1,0])) [1,2], .code (csub (cd Tryd.f24) [1,0,0,1,1,1,0,1,1]), .inBlock 0, .code (csub (cd Tryd.f24) [1,1])] [(0, v), (7, .int .u64 (((Int.toNat ((-113) - n)) : Nat) : Int)), (32, .int .u64 (((Int.toNat ((-113) - n)) : Nat) : Int))] w (by kernel_rfl) (.cons o23 (.cons o24 .nil)) ?_
      have hsz := sz_bd (Int.toNat ((-113) - n))
      refine GoS.call [0, 7] 31 #[.int .u64 (((Int.toNat ((-113) - n)) : Nat) : Int)] (some 33) [.inRegion (cops (csub (cd Tryd.f24) [1,0,0,1,1,1,0,1,0])) [2], .code (csub (cd Tryd.f24) [1,0,0,1,1,1,0,1,1]), .inBlock 0, .code (csub (cd Tryd.f24) [1,1])] [(0, v), (7, .int .u64 (((Int.toNat ((-113) - n)) : Nat) : Int))] (by kernel_rfl) (size_c (Int.toNat ((-113) - n)) (by omega) w) ?_
      rintro _ _ ⟨rfl, rfl⟩
      refine ⟨_, rfl, ?_⟩
      have o34 : (binOp .sub 3 (.int .i64 16) (.int .i64 (((sz (Int.toNat ((-113) - n))) : Nat) : Int))).run Tryd.prog w = .ok (.int .i64 (16 - (((sz (Int.toNat ((-113) - n))) : Nat) : Int))) w := f_sub (IntWalk.i64_in _ (by omega))
      have o35 : (convert 3 5 (.int .i64 (16 - (((sz (Int.toNat ((-113) - n))) : Nat) : Int)))).run Tryd.prog w = .ok (.int .u8 (((Int.toNat (16 - (((sz (Int.toNat ((-113) - n))) : Nat) : Int))) : Nat) : Int)) w := f_conv (u := .int .i64) (by kernel_rfl) (by kernel_rfl) ((IntWalk.u8_in _ (by omega)).trans (by omega))
      obtain ⟨v25, w26, hr27, hM28⟩ := m_lit sT45 hM (n := 1) (parts := #[(0, .int .u8 (((Int.toNat (16 - (((sz (Int.toNat ((-113) - n))) : Nat) : Int))) : Nat) : Int))]) (cs := [.int .u8 (((Int.toNat (16 - (((sz (Int.toNat ((-113) - n))) : Nat) : Int))) : Nat) : Int)]) (by decide) (by kernel_rfl) rfl
      have o36 : (Instr.buildSlice 45 1 #[(0, .int .u8 (((Int.toNat (16 - (((sz (Int.toNat ((-113) - n))) : Nat) : Int))) : Nat) : Int))]).run Tryd.prog w = .ok v25 w26 := hr27
      obtain ⟨v29, w30, hr31, hM32⟩ := m_append_big sT45 hM28 1 rfl (hM28.rd 0 rfl) (by intro u hu; simp at hu; rcases hu with rfl <;> rfl) (by exact Nat.zero_lt_one) (by (try simp only [List.length_append, List.length_cons, List.length_nil]); (try dsimp only); omega) 45
      have hM33 : Mem S w0 w30 [⟨5, 1, v25, 1, [.int .u8 (((Int.toNat (16 - (((sz (Int.toNat ((-113) - n))) : Nat) : Int))) : Nat) : Int)]⟩, ⟨5, 1, v29, (List.length (l ++ ([(((Int.toNat (16 - (((sz (Int.toNat ((-113) - n))) : Nat) : Int))) : Nat) : Int)] : List Int))), (ivals .u8 (l ++ ([(((Int.toNat (16 - (((sz (Int.toNat ((-113) - n))) : Nat) : Int))) : Nat) : Int)] : List Int)))⟩] := hM32.cast (by simp [ivals, svals, bvals, nvals, u8s, Nat.add_assoc])
      have o37 : (Builtin.append_ #[45, 45] 45 #[v, v25]).run Tryd.prog w26 = .ok v29 w30 := hr31
      have hM38 : Mem S w0 w30 [⟨5, 1, v29, (List.length (l ++ ([(((Int.toNat (16 - (((sz (Int.toNat ((-113) - n))) : Nat) : Int))) : Nat) : Int)] : List Int))), (ivals .u8 (l ++ ([(((Int.toNat (16 - (((sz (Int.toNat ((-113) - n))) : Nat) : Int))) : Nat) : Int)] : List Int)))⟩] := hM33.sub (List.Sublist.cons _ (List.Sublist.cons_cons _ (List.Sublist.refl _)))
      refine GoS.run [39, 40, 41] [.n, .n, .n, .n, .n, .n, .h (.int .i64 (16 - (((sz (Int.toNat ((-113) - n))) : Nat) : Int))), .h (.int .u8 (((Int.toNat (16 - (((sz (Int.toNat ((-113) - n))) : Nat) : Int))) : Nat) : Int)), .u (v25) (w26), .u (v29) (w30), .n, .n] _ [.inRegion (cops (csub (cd Tryd.f24) [1,0,0,1,1,1,0,1,1,0])) [8,9], .code (csub (cd Tryd.f24) [1,0,0,1,1,1,0,1,1,1]), .inBlock 0, .code (csub (cd Tryd.f24) [1,1])] [(39, v29), (40, .int .u64 (((Int.toNat ((-113) - n)) : Nat) : Int)), (41, .int .i64 (((sz (Int.toNat ((-113) - n))) : Nat) : Int))] w30 (by kernel_rfl) (.cons o34 (.cons o35 (.cons o36 (.cons o37 .nil)))) ?_
      refine GoS.call [] 32 #[v29, .int .u64 (((Int.toNat ((-113) - n)) : Nat) : Int), .int .i64 (((sz (Int.toNat ((-113) - n))) : Nat) : Int), .int .u8 255] (some 42) [.inRegion (cops (csub (cd Tryd.f24) [1,0,0,1,1,1,0,1,1,0])) [9], .code (csub (cd Tryd.f24) [1,0,0,1,1,1,0,1,1,1]), .inBlock 0, .code (csub (cd Tryd.f24) [1,1])] [] (by kernel_rfl) (spread_c (l ++ ([(((Int.toNat (16 - (((sz (Int.toNat ((-113) - n))) : Nat) : Int))) : Nat) : Int)] : List Int)) (Int.toNat ((-113) - n)) (sz (Int.toNat ((-113) - n))) 255 (by omega) (by omega) (by omega) (by (try simp only [List.length_append, List.length_cons, List.length_nil]); (try dsimp only); omega) v29 w30 (Mem.lend (R := [⟨5, 1, v29, (List.length (l ++ ([(((Int.toNat (16 - (((sz (Int.toNat ((-113) - n))) : Nat) : Int))) : Nat) : Int)] : List Int))), (ivals .u8 (l ++ ([(((Int.toNat (16 - (((sz (Int.toNat ((-113) - n))) : Nat) : Int))) : Nat) : Int)] : List Int)))⟩]) (L := []) hM38)) ?_
      rintro _ w39 ⟨v41, rfl, m40⟩
      refine ⟨_, rfl, ?_⟩
      have hM42 : Mem S w0 w39 [⟨5, 1, v41, (List.length ((l ++ ([(((Int.toNat (16 - (((sz (Int.toNat ((-113) - n))) : Nat) : Int))) : Nat) : Int)] : List Int)) ++ List.map (flipI 255) (digs (sz (Int.toNat ((-113) - n))) (Int.toNat ((-113) - n))))), (ivals .u8 ((l ++ ([(((Int.toNat (16 - (((sz (Int.toNat ((-113) - n))) : Nat) : Int))) : Nat) : Int)] : List Int)) ++ List.map (flipI 255) (digs (sz (Int.toNat ((-113) - n))) (Int.toNat ((-113) - n)))))⟩] := Mem.back (R := [⟨5, 1, v29, (List.length (l ++ ([(((Int.toNat (16 - (((sz (Int.toNat ((-113) - n))) : Nat) : Int))) : Nat) : Int)] : List Int))), (ivals .u8 (l ++ ([(((Int.toNat (16 - (((sz (Int.toNat ((-113) - n))) : Nat) : Int))) : Nat) : Int)] : List Int)))⟩]) (L := []) hM38 m40
      refine GoS.run [4] [.n, .n] _ [.code (csub (cd Tryd.f24) [1,0,0,1,1,1,0,1,1,1]), .inBlock 0, .code (csub (cd Tryd.f24) [1,1])] [(4, v41)] w39 (by kernel_rfl) .nil ?_
      refine GoS.ret (fn := Tryd.f24) (v := v41) Tryd.func24 (by kernel_rfl) ?_
      rw [hR]
      have e : ((l ++ ([(((Int.toNat (16 - (((sz (Int.toNat ((-113) - n))) : Nat) : Int))) : Nat) : Int)] : List Int)) ++ List.map (flipI 255) (digs (sz (Int.toNat ((-113) - n))) (Int.toNat ((-113) - n)))) = l ++ numB n := by rw [numB, if_neg (by omega), if_pos (by omega)]; simp only [List.append_assoc, List.cons_append, List.nil_append]; congr 2; omega
      rw [e] at hM42
      exact ⟨_, rfl, hM42⟩
    ·
      have h22p : ¬ (n < (-112)) := of_decide_eq_false h22
      refine GoS.run [0, 1] [.n] _ [.inBlock 0, .code (csub (cd Tryd.f24) [1,1])] [(0, v), (1, .int .i64 n)] w (by kernel_rfl) .nil ?_
      have o52 : (binOp .add 3 (.int .i64 128) (.int .i64 n)).run Tryd.prog w = .ok (.int .i64 (128 + n)) w := f_add (IntWalk.i64_in _ (by omega))
      have o53 : (convert 3 5 (.int .i64 (128 + n))).run Tryd.prog w = .ok (.int .u8 (((Int.toNat (128 + n)) : Nat) : Int)) w := f_conv (u := .int .i64) (by kernel_rfl) (by kernel_rfl) ((IntWalk.u8_in _ (by omega)).trans (by omega))
      obtain ⟨v43, w44, hr45, hM46⟩ := m_lit sT45 hM (n := 1) (parts := #[(0, .int .u8 (((Int.toNat (128 + n)) : Nat) : Int))]) (cs := [.int .u8 (((Int.toNat (128 + n)) : Nat) : Int)]) (by decide) (by kernel_rfl) rfl
      have o54 : (Instr.buildSlice 45 1 #[(0, .int .u8 (((Int.toNat (128 + n)) : Nat) : Int))]).run Tryd.prog w = .ok v43 w44 := hr45
      obtain ⟨v47, w48, hr49, hM50⟩ := m_append_big sT45 hM46 1 rfl (hM46.rd 0 rfl) (by intro u hu; simp at hu; rcases hu with rfl <;> rfl) (by exact Nat.zero_lt_one) (by (try simp only [List.length_append, List.length_cons, List.length_nil]); (try dsimp only); omega) 45
      have hM51 : Mem S w0 w48 [⟨5, 1, v43, 1, [.int .u8 (((Int.toNat (128 + n)) : Nat) : Int)]⟩, ⟨5, 1, v47, (List.length (l ++ ([(((Int.toNat (128 + n)) : Nat) : Int)] : List Int))), (ivals .u8 (l ++ ([(((Int.toNat (128 + n)) : Nat) : Int)] : List Int)))⟩] := hM50.cast (by simp [ivals, svals, bvals, nvals, u8s, Nat.add_assoc])
      have o55 : (Builtin.append_ #[45, 45] 45 #[v, v43]).run Tryd.prog w44 = .ok v47 w48 := hr49
      have hM56 : Mem S w0 w48 [⟨5, 1, v47, (List.length (l ++ ([(((Int.toNat (128 + n)) : Nat) : Int)] : List Int))), (ivals .u8 (l ++ ([(((Int.toNat (128 + n)) : Nat) : Int)] : List Int)))⟩] := hM51.sub (List.Sublist.cons _ (List.Sublist.cons_cons _ (List.Sublist.refl _)))
      refine GoS.run [4] [.n, .n, .n, .n, .n, .h (.int .i64 (128 + n)), .h (.int .u8 (((Int.toNat (128 + n)) : Nat) : Int)), .u (v43) (w44), .u (v47) (w48), .n, .n] _ [.code (csub (cd Tryd.f24) [1,1,1])] [(4, v47)] w48 (by kernel_rfl) (.cons o52 (.cons o53 (.cons o54 (.cons o55 .nil)))) ?_
      refine GoS.ret (fn := Tryd.f24) (v := v47) Tryd.func24 (by kernel_rfl) ?_
      rw [hR]
      have e : (l ++ ([(((Int.toNat (128 + n)) : Nat) : Int)] : List Int)) = l ++ numB n := by rw [numB, if_neg (by omega), if_neg (by omega)]; congr 2; omega
      rw [e] at hM56
      exact ⟨_, rfl, hM56⟩


end Go.Proofs.YtmjkbmlcclmdkaaDoor
