/-
  The walk of Pieces.
-/
import Derived.Test.YtcdcehjilneifaaPcJ
namespace Go.Proofs.Ytcdcehjilneifaa
open Go Go.Gw Go.UtfP Go.TokP Go.PcP Go.RowKit
set_option linter.unusedVariables false
set_option linter.unusedSimpArgs false
set_option maxRecDepth 20000


abbrev uK0 : List Nat := [1,1,0,1,0,0]
abbrev uK1 : List Nat := [1,1,0,1,0,0,1,1]
set_option maxHeartbeats 1000000 in
theorem pieces_L {w0 : World} (b : Nat) (v : Value) (Z : List PZ) (hb : Rd w0 1 (obj b) 1 [v]) (hv : Rd w0 3 v Z.length (recs pzC Z)) (hz : ∀ z ∈ Z, RdP w0 z.pc z.nums z.words) (hs : ∀ z ∈ Z, SmallP z.pc) (hlz : Z.length ≤ 2000000) (R : Ending → World → Prop) (hR : R = (fun e w' => ∃ (v' : Value) (Y : List PZ) (T : List Row), e = .returned v' ∧ Y.map PZ.pc = Z.map PZ.pc ∧ OwZ 60 68 79 T Y ∧ Mem [] w0 w' (⟨29, 3, v', (List.length Y), (recs pzC Y)⟩ :: T))) : ∀ (N : Nat) (v' : Value) (Y : List PZ) (T : List Row) (i : Nat) (w : World) (hi : i ≤ Z.length) (hY : Y.map PZ.pc = (Z.take i).map PZ.pc) (hT : OwZ 60 68 79 T Y) (hM : Mem [] w0 w (⟨29, 3, v', (List.length Y), (recs pzC Y)⟩ :: T)) (hN : Z.length - i < N), GoS Try.prog 22 R 23 [.code (csub (cd Try.f22) uK0), .inLoop (csub (cd Try.f22) uK0), .inBlock 0, .code (csub (cd Try.f22) [1,1,1])] [(0, pq b), (3, v'), (6, .int .i64 (((List.length Z) : Nat) : Int)), (7, .int .i64 ((i : Nat) : Int))] w := by
 intro N
 induction N with
 | zero => intro v' Y T i w hi hY hT hM hN; exact absurd hN (Nat.not_lt_zero _)
 | succ N ih =>
  intro v' Y T i w hi hY hT hM hN
  have hone : OneZ Z := fun z hq => ⟨(rdp_one (hz z hq)).1, (rdp_one (hz z hq)).2⟩
  have hYl : Y.length = i := by have z := congrArg List.length hY; simp only [List.length_map, List.length_take] at z; omega
  refine GoS.run [0, 3, 6, 7, 8] [.n, .n, .n, .n, .n] _ [.code (csub (cd Try.f22) [1,1,0,1,0,0,1,0]), .code (csub (cd Try.f22) uK1), .inLoop (csub (cd Try.f22) uK0), .inBlock 0, .code (csub (cd Try.f22) [1,1,1])] [(0, pq b), (3, v'), (6, .int .i64 (((List.length Z) : Nat) : Int)), (7, .int .i64 ((i : Nat) : Int)), (8, .bool (decide (((i : Nat) : Int) < (((List.length Z) : Nat) : Int))))] w (by kernel_rfl) .nil ?_
  refine GoS.cond (decide (((i : Nat) : Int) < (((List.length Z) : Nat) : Int))) [.code (csub (cd Try.f22) [1,1,0,1,0,0,1,0,0]), .code (csub (cd Try.f22) uK1), .inLoop (csub (cd Try.f22) uK0), .inBlock 0, .code (csub (cd Try.f22) [1,1,1])] [.code (csub (cd Try.f22) [1,1,0,1,0,0,1,0,1]), .code (csub (cd Try.f22) uK1), .inLoop (csub (cd Try.f22) uK0), .inBlock 0, .code (csub (cd Try.f22) [1,1,1])] (by kernel_rfl) (fun h1 => ?_) (fun h1 => ?_)
  ·
   have h1p : ((i : Nat) : Int) < (((List.length Z) : Nat) : Int) := of_decide_eq_true h1
   refine GoS.run [0, 3, 6, 7] [.n] _ [.code (csub (cd Try.f22) uK1), .inLoop (csub (cd Try.f22) uK0), .inBlock 0, .code (csub (cd Try.f22) [1,1,1])] [(0, pq b), (3, v'), (6, .int .i64 (((List.length Z) : Nat) : Int)), (7, .int .i64 ((i : Nat) : Int))] w (by kernel_rfl) .nil ?_
   have o5 : (Instr.loadAt 43 (pq b)).run Try.prog w = .ok (v) w := c_load pE43 (hb.kept0 hM.kept) (cel_obj b 0) rfl
   obtain ⟨p2, hp3, hq4⟩ := rd_at (i := ((i : Nat) : Int)) sT43 (hv.kept0 hM.kept) i (by omega) (by first | omega | (dsimp only; omega))
   have o6 : (Instr.indexAt 43 (v) (.int .i64 ((i : Nat) : Int))).run Try.prog w = .ok (.pointer (some p2)) w := hq4 _ _
   have o7 : (Instr.loadAt 29 (.pointer (some p2))).run Try.prog w = .ok (.agg #[.string (sb ((List.getD Z i pz).pc.key)), ((List.getD Z i pz).nums), ((List.getD Z i pz).words)]) w := r_loads (f := pzC) (l := Z) aE29 (hv.kept0 hM.kept) pzC_len hp3 (by first | omega | (dsimp only; omega)) pz
   refine GoS.run [0, 6, 7, 10, 17] [.n, .n, .n, .n, .n, .n, .n, .n, .n, .n, .n, .n, .h (v), .n, .h (.pointer (some p2)), .h (.agg #[.string (sb ((List.getD Z i pz).pc.key)), ((List.getD Z i pz).nums), ((List.getD Z i pz).words)])] _ [.inRegion (cops (csub (cd Try.f22) [1,1,0,1,0,0,1,1,0,0,1])) [8,9,10,11], .inBlock 1, .code (csub (cd Try.f22) [1,1,0,1,0,0,1,1,1]), .inLoop (csub (cd Try.f22) uK0), .inBlock 0, .code (csub (cd Try.f22) [1,1,1])] [(0, pq b), (6, .int .i64 (((List.length Z) : Nat) : Int)), (7, .int .i64 ((i : Nat) : Int)), (10, v'), (17, .agg #[.string (sb ((List.getD Z i pz).pc.key)), ((List.getD Z i pz).nums), ((List.getD Z i pz).words)])] w (by kernel_rfl) (.cons o5 (.cons o6 (.cons o7 .nil))) ?_
   refine GoS.call [0, 6, 7, 10] 41 #[.agg #[.string (sb ((List.getD Z i pz).pc.key)), ((List.getD Z i pz).nums), ((List.getD Z i pz).words)]] (some 18) [.inRegion (cops (csub (cd Try.f22) [1,1,0,1,0,0,1,1,0,0,1])) [9,10,11], .inBlock 1, .code (csub (cd Try.f22) [1,1,0,1,0,0,1,1,1]), .inLoop (csub (cd Try.f22) uK0), .inBlock 0, .code (csub (cd Try.f22) [1,1,1])] [(0, pq b), (6, .int .i64 (((List.length Z) : Nat) : Int)), (7, .int .i64 ((i : Nat) : Int)), (10, v')] (by kernel_rfl) (copied_c ((List.getD Z i pz).pc) ((List.getD Z i pz).nums) ((List.getD Z i pz).words) (hs _ (getD_mem (i := i) (d := pz) (by omega))) (((hz _ (getD_mem (i := i) (d := pz) (by omega))).kept hM.kept))) ?_
   rintro _ w8 ⟨v9, v10, T11, rfl, ho12, m13⟩
   refine ⟨_, rfl, ?_⟩
   have hM14 : Mem [] w0 w8 (⟨29, 3, v', (List.length Y), (recs pzC Y)⟩ :: (T ++ T11)) := joinT (R := [⟨29, 3, v', (List.length Y), (recs pzC Y)⟩]) (A := T) hM m13
   obtain ⟨v15, w16, hr17, hM18⟩ := m_lit sT43 hM14 (n := 1) (parts := #[(0, .agg #[.string (sb ((List.getD Z i pz).pc.key)), v9, v10])]) (cs := [.string (sb ((List.getD Z i pz).pc.key)), v9, v10]) (by decide) (by kernel_rfl) rfl
   obtain ⟨v19, w20, hr21, hM22⟩ := m_append sT43 hM18 1 rfl (hM18.rd 0 rfl) (by intro u hu; simp only [List.mem_cons, List.not_mem_nil, or_false] at hu; rcases hu with rfl | rfl | rfl; exact rfl; exact (rdp_one (ho12.rd hM18 (fun r_ h_ => mS (mS (List.mem_append_right _ (h_)))))).1.1; exact (rdp_one (ho12.rd hM18 (fun r_ h_ => mS (mS (List.mem_append_right _ (h_)))))).2.1) (by first | omega | (dsimp only; omega)) (by first | omega | (dsimp only; omega)) 43
   have hM23 : Mem [] w0 w20 (⟨29, 3, v15, 1, [.string (sb ((List.getD Z i pz).pc.key)), v9, v10]⟩ :: ⟨29, 3, v19, (List.length (Y ++ ([(PZ.mk ((List.getD Z i pz).pc) v9 v10)] : List PZ))), (recs pzC (Y ++ ([(PZ.mk ((List.getD Z i pz).pc) v9 v10)] : List PZ)))⟩ :: (T ++ T11)) := hM22.cast (by simp [ivals, svals, bvals, nvals, u8s, Nat.add_assoc, recs, pzC])
   have o24 : (binOp .add 3 (.int .i64 ((i : Nat) : Int)) (.int .i64 1)).run Try.prog w20 = .ok (.int .i64 (((i + 1) : Nat) : Int)) w20 := f_add (by rw [show ((i : Nat) : Int) + 1 = (((i + 1) : Nat) : Int) by omega]; exact IntWalk.i64_in _ (by omega))
   have hM25 := hM23.sub (sD (sK sR))
   refine GoS.run [0, 3, 6, 7] [.u (v15) (w16), .u (v19) (w20), .n, .n, .n, .n, .h (.int .i64 (((i + 1) : Nat) : Int)), .n, .n, .n] _ [.code (csub (cd Try.f22) uK0), .inLoop (csub (cd Try.f22) uK0), .inBlock 0, .code (csub (cd Try.f22) [1,1,1])] [(0, pq b), (3, v19), (6, .int .i64 (((List.length Z) : Nat) : Int)), (7, .int .i64 (((i + 1) : Nat) : Int))] w20 (by kernel_rfl) (.cons hr17 (.cons hr21 (.cons o24 .nil))) ?_
   exact ih _ (Y ++ ([(PZ.mk ((List.getD Z i pz).pc) v9 v10)] : List PZ)) (T ++ T11) (i + 1) _ (by omega) (pz_snoc hY (by omega)) (OwZ.snoc (hT.mono (fun r h => List.mem_append_left _ h)) (ho12.mono (fun r h => List.mem_append_right _ h))) (hM25.sub (sK sR)) (by omega)
  ·
   have h1p : ¬ (((i : Nat) : Int) < (((List.length Z) : Nat) : Int)) := of_decide_eq_false h1
   refine GoS.run [2] [.n, .n, .n, .n, .n, .n] _ [.code (csub (cd Try.f22) [1,1,1,1])] [(2, v')] w (by kernel_rfl) .nil ?_
   refine GoS.ret (fn := Try.f22) (v := (v')) Try.func22 (by kernel_rfl) ?_
   rw [hR]
   exact ⟨_, Y, T, rfl, by rw [hY, take_all' (by omega)], hT, hM.sub (sK sR)⟩

set_option maxHeartbeats 400000 in
theorem pieces_c {w : World} (b : Nat) (v : Value) (Z : List PZ) (hb : Rd w 1 (obj b) 1 [v]) (hv : Rd w 3 v Z.length (recs pzC Z)) (hz : ∀ z ∈ Z, RdP w z.pc z.nums z.words) (hs : ∀ z ∈ Z, SmallP z.pc) (hlz : Z.length ≤ 2000000) :
  Calls Try.prog 22 #[pq b] w (fun e w' => ∃ (v' : Value) (Y : List PZ) (T : List Row), e = .returned v' ∧ Y.map PZ.pc = Z.map PZ.pc ∧ OwZ 60 68 79 T Y ∧ Mem [] w w' (⟨29, 3, v', (List.length Y), (recs pzC Y)⟩ :: T)) := by
 have hone : OneZ Z := fun z hq => ⟨(rdp_one (hz z hq)).1, (rdp_one (hz z hq)).2⟩
 obtain ⟨R, hR⟩ : ∃ R : Ending → World → Prop, R = (fun e w' => ∃ (v' : Value) (Y : List PZ) (T : List Row), e = .returned v' ∧ Y.map PZ.pc = Z.map PZ.pc ∧ OwZ 60 68 79 T Y ∧ Mem [] w w' (⟨29, 3, v', (List.length Y), (recs pzC Y)⟩ :: T)) := ⟨_, rfl⟩
 rw [← hR]
 refine GoS.enter (n := 23) Try.func22 (by kernel_rfl) rfl [(0, pq b)] (by kernel_rfl) (by kernel_rfl) ?_
 have hM0 := Mem.start w
 refine GoS.run [0, 3, 5] [.n, .n, .n, .n, .n, .n, .n, .n, .n, .n, .n, .n] _ [.inRegion (cops (csub (cd Try.f22) [1,1,0,0])) [1,2], .code (csub (cd Try.f22) [1,1,0,1]), .code (csub (cd Try.f22) [1,1,1])] [(0, pq b), (3, .slice none 0 0), (5, pq b)] w (by kernel_rfl) .nil ?_
 refine GoS.call [0, 3] 23 #[pq b] (some 6) [.inRegion (cops (csub (cd Try.f22) [1,1,0,0])) [2], .code (csub (cd Try.f22) [1,1,0,1]), .code (csub (cd Try.f22) [1,1,1])] [(0, pq b), (3, .slice none 0 0)] (by kernel_rfl) (len_c b [] v Z (hb.kept0 hM0.kept) (hv.kept0 hM0.kept) hone) ?_
 rintro _ w1 ⟨rfl, m2⟩
 refine ⟨_, rfl, ?_⟩
 have hM3 : Mem [] w w1 [] := Mem.join (R := []) hM0 m2
 refine GoS.run [0, 3, 6, 7] [.n, .n, .n, .n] _ [.code (csub (cd Try.f22) uK0), .inLoop (csub (cd Try.f22) uK0), .inBlock 0, .code (csub (cd Try.f22) [1,1,1])] [(0, pq b), (3, .slice none 0 0), (6, .int .i64 (((List.length Z) : Nat) : Int)), (7, .int .i64 0)] w1 (by kernel_rfl) .nil ?_
 have hM4 := hM3.nilrow 29 3
 exact pieces_L b v Z hb hv hz hs hlz R hR (Z.length + 1) (.slice none 0 0) [] [] 0 w1 (Nat.zero_le _) rfl (fun z hz => by cases hz) ((hM4.sub (sK sN)).cast (by first | rfl | simp [recs])) (by omega)

set_option maxHeartbeats 400000 in
theorem pieces0_c {w : World} :
  Calls Try.prog 22 #[.pointer none] w (fun e w' => e = .returned (.slice none 0 0) ∧ Mem [] w w' []) := by
 obtain ⟨R, hR⟩ : ∃ R : Ending → World → Prop, R = (fun e w' => e = .returned (.slice none 0 0) ∧ Mem [] w w' []) := ⟨_, rfl⟩
 rw [← hR]
 refine GoS.enter (n := 23) Try.func22 (by kernel_rfl) rfl [(0, .pointer none)] (by kernel_rfl) (by kernel_rfl) ?_
 have hM0 := Mem.start w
 refine GoS.run [0, 3, 5] [.n, .n, .n, .n, .n, .n, .n, .n, .n, .n, .n, .n] _ [.inRegion (cops (csub (cd Try.f22) [1,1,0,0])) [1,2], .code (csub (cd Try.f22) [1,1,0,1]), .code (csub (cd Try.f22) [1,1,1])] [(0, .pointer none), (3, .slice none 0 0), (5, .pointer none)] w (by kernel_rfl) .nil ?_
 refine GoS.call [0, 3] 23 #[.pointer none] (some 6) [.inRegion (cops (csub (cd Try.f22) [1,1,0,0])) [2], .code (csub (cd Try.f22) [1,1,0,1]), .code (csub (cd Try.f22) [1,1,1])] [(0, .pointer none), (3, .slice none 0 0)] (by kernel_rfl) (len0_c (w := w)) ?_
 rintro _ w1 ⟨rfl, m2⟩
 refine ⟨_, rfl, ?_⟩
 have hM3 : Mem [] w w1 [] := Mem.join (R := []) hM0 m2
 refine GoS.run [2] [.n, .n, .n, .n, .n, .n, .n, .n, .n, .n, .n, .n, .n, .n, .n, .n] _ [.code (csub (cd Try.f22) [1,1,1,1])] [(2, .slice none 0 0)] w1 (by kernel_rfl) .nil ?_
 refine GoS.ret (fn := Try.f22) (v := (.slice none 0 0)) Try.func22 (by kernel_rfl) ?_
 rw [hR]
 exact ⟨rfl, hM3.sub sN⟩


end Go.Proofs.Ytcdcehjilneifaa
