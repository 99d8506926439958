/-
  The walk of BufferOrder.
-/
import Derived.Test.YtcdcehjilneifaaPcL
namespace Go.Proofs.Ytcdcehjilneifaa
open Go Go.Gw Go.UtfP Go.TokP Go.PcP Go.RowKit
set_option linter.unusedVariables false
set_option linter.unusedSimpArgs false
set_option maxRecDepth 20000

theorem oT25 : ObjT Try.prog 25 3 (.agg #[.string (sb ([])), .slice none 0 0, .slice none 0 0]) := ⟨⟨_, rfl, by kernel_rfl, by kernel_rfl⟩, rfl⟩
theorem aE25 : Agged Try.prog 25 3 := ⟨⟨_, Try.underlying25, .inl ⟨_, rfl⟩⟩, _, rfl, by kernel_rfl⟩

abbrev uOr0 : List Nat := [1,1,1,1,1,1,1,1,1,1,1,0,1,0,0]
abbrev uOr1 : List Nat := [1,1,1,1,1,1,1,1,1,1,1,1]
abbrev uOr2 : List Nat := [1,1,1,1,1,1,1,1,1,1,1,1,1]
abbrev uOr3 : List Nat := [1,1,1,1,1,1,1,1,1,1,1,1,0,1]
abbrev uOr4 : List Nat := [1,1,1,1,1,1,1,1,1,1,1,0,1,0,0,1,1]
abbrev uOr5 : List Nat := [1,1,1,1,1,1,1,1,1,1,1,1,0,0]
abbrev uOr6 : List Nat := [1,1,1,0,1,0,0]
abbrev uOr7 : List Nat := [1,1,0,1,0,0]
abbrev uOr8 : List Nat := [1,1,1,1,1,1,1,1,1,1,1,0,1,0,0,1,0,0,1]
abbrev uOr9 : List Nat := [1,1,1,1,1,1,1,1,1,1,1,0,1,0,0,1]
abbrev uOr10 : List Nat := [1,1,1,1,1,1,1,1,1,1,1,0,1,0,0,1,0,0,0]
abbrev uOr11 : List Nat := [1,1,1,1,1,1,1,1]
abbrev uOr12 : List Nat := [1,1,1,1,1,1,1,1,1,1,1,0,1,0,0,0,1]
abbrev uOr13 : List Nat := [1,1,1,1,1,1,1,1,1,1,1,1,1,0]
abbrev uOr14 : List Nat := [1,1,1,1,1,1,1,1,1,1,1,1,1,1]
abbrev uOr15 : List Nat := [1,1,1,0,1,0,0,1]
abbrev uOr16 : List Nat := [1,1,1,1,1,1,0,0]
abbrev uOr17 : List Nat := [1,1,1,1,1,1,0,1]
abbrev uOr18 : List Nat := [1,1,1,1,1,1,1,1,1,1,1,0,1,0,0,0,0]
set_option maxHeartbeats 4000000 in
theorem lorder_L3 {w0 : World} (d : Dc) (fv nv : Value) (ov : Value) (ol : List (List UInt8)) (hf : Rd w0 2 fv d.fields.length (recs fdC d.fields)) (hn : Rd w0 2 nv d.nums.length (recs nmC d.nums)) (ho : Rd w0 1 ov ol.length (svals ol)) (hs1 : d.fields.length ≤ 4398046510976) (hs2 : d.nums.length ≤ 5864062014634) (he : docE d = 0) (bd b8 b10 b : Nat) (n1 w1 n2 w2 : Value) (R : Ending → World → Prop) (hR : R = (fun e w' => e = .returned (.bool true) ∧ Below w0.heap.size w0 w')) : ∀ (N : Nat) (v : Value) (Z : List PZ) (T : List Row) (i n : Nat) (w : World) (hi : i ≤ 20) (hni : n ≤ i + 1) (hp1 : OwP 60 68 79 T (docP d) n1 w1) (hp2 : OwP 60 68 79 T (docP (turnD d)) n2 w2) (hB : OwZ 60 68 79 T Z) (hO : OrdI d.key (List.map PZ.pc Z) n) (hM : Mem [] w0 w (⟨82, 1, (obj b), 1, [v]⟩ :: ⟨29, 3, v, (List.length Z), (recs pzC Z)⟩ :: ⟨25, 3, (obj bd), 1, [sS (d.key), fv, nv]⟩ :: ⟨29, 3, (obj b8), 1, [sS ((docP d).key), n1, w1]⟩ :: ⟨29, 3, (obj b10), 1, [sS ((docP (turnD d)).key), n2, w2]⟩ :: T)) (hN : 20 - i < N), GoS Try.prog 5 R 153 [iC Try.f5 uOr0, iL Try.f5 uOr0, .inBlock 4, iC Try.f5 uOr1] [(1, ov), (2, pq bd), (8, pq b8), (10, pq b10), (12, pq b), (13, iN n), (14, iN i)] w := by
 intro N
 induction N with
 | zero => intro v Z T i n w hi hni hp1 hp2 hB hO hM hN; exact absurd hN (Nat.not_lt_zero _)
 | succ N ih =>
  intro v Z T i n w hi hni hp1 hp2 hB hO hM hN
  have hol := rd_len ho
  simp only [maxLen] at hol
  have hZn : List.length Z = n := by have z := hO.len; rwa [List.length_map] at z
  have o1 : (Builtin.len_ #[55] 3 #[ov]).run Try.prog w = .ok (iN (List.length ol)) w := f_slen sT55 (ho.kept0 hM.kept) 3 _
  refine GoS.run [1, 2, 8, 10, 12, 13, 14, 90] [.n, .n, .n, .n, .n, .h (iN (List.length ol)), .n, .n] _ [.inRegion (cops (csub (cd Try.f5) uOr18)) [5,6,7], iC Try.f5 uOr12, iC Try.f5 uOr9, iL Try.f5 uOr0, .inBlock 4, iC Try.f5 uOr1] [(1, ov), (2, pq bd), (8, pq b8), (10, pq b10), (12, pq b), (13, iN n), (14, iN i), (90, .bool (decide (((i : Nat) : Int) < (((List.length ol) : Nat) : Int))))] w (by kernel_rfl) (.cons o1 .nil) ?_
  refine GoS.fork 90 (decide (((i : Nat) : Int) < (((List.length ol) : Nat) : Int))) (by kernel_rfl) (fun h2 => ?_) (fun h2 => ?_)
  ·
   have h2p : ((i : Nat) : Int) < (((List.length ol) : Nat) : Int) := of_decide_eq_true h2
   refine GoS.run [1, 2, 8, 10, 12, 13, 14, 93] [.n, .n, .n] _ [.inRegion (cops (csub (cd Try.f5) uOr18)) [], iC Try.f5 uOr12, iC Try.f5 uOr9, iL Try.f5 uOr0, .inBlock 4, iC Try.f5 uOr1] [(1, ov), (2, pq bd), (8, pq b8), (10, pq b10), (12, pq b), (13, iN n), (14, iN i), (93, .bool (decide (((i : Nat) : Int) < 20)))] w (by kernel_rfl) .nil ?_
   refine GoS.run [1, 2, 8, 10, 12, 13, 14, 93] [.n] _ [iC Try.f5 uOr12, iC Try.f5 uOr9, iL Try.f5 uOr0, .inBlock 4, iC Try.f5 uOr1] [(1, ov), (2, pq bd), (8, pq b8), (10, pq b10), (12, pq b), (13, iN n), (14, iN i), (93, .bool (decide (((i : Nat) : Int) < 20)))] w (by kernel_rfl) .nil ?_
   refine GoS.cond (decide (((i : Nat) : Int) < 20)) [iC Try.f5 [1,1,1,1,1,1,1,1,1,1,1,0,1,0,0,0,1,0], iC Try.f5 uOr9, iL Try.f5 uOr0, .inBlock 4, iC Try.f5 uOr1] [iC Try.f5 [1,1,1,1,1,1,1,1,1,1,1,0,1,0,0,0,1,1], iC Try.f5 uOr9, iL Try.f5 uOr0, .inBlock 4, iC Try.f5 uOr1] (by kernel_rfl) (fun h3 => ?_) (fun h3 => ?_)
   ·
    have h3p : ((i : Nat) : Int) < 20 := of_decide_eq_true h3
    refine GoS.run [1, 2, 8, 10, 12, 13, 14] [.n] _ [iC Try.f5 uOr9, iL Try.f5 uOr0, .inBlock 4, iC Try.f5 uOr1] [(1, ov), (2, pq bd), (8, pq b8), (10, pq b10), (12, pq b), (13, iN n), (14, iN i)] w (by kernel_rfl) .nil ?_
    obtain ⟨p63, hp64, hq65⟩ := rd_at (i := ((i : Nat) : Int)) sT55 (ho.kept0 hM.kept) i (by omega) (by first | omega | (dsimp only; omega))
    have o66 : (Instr.indexAt 55 (ov) (iN i)).run Try.prog w = .ok (.pointer (some p63)) w := hq65 _ _
    have o67 : (Instr.loadAt 9 (.pointer (some p63))).run Try.prog w = .ok (sS (List.getD ol i [])) w := at_load pE9 (ho.kept0 hM.kept) hp64 (svals_at (by first | omega | (dsimp only; omega)))
    refine GoS.run [1, 2, 8, 10, 12, 13, 14, 96, 100] [.n, .n, .n, .n, .n, .n, .n, .h (.pointer (some p63)), .h (sS (List.getD ol i []))] _ [.inRegion (cops (csub (cd Try.f5) uOr10)) [5,6,7,8,9,10,11,12,13,14,15], iC Try.f5 uOr8, .inBlock 5, iC Try.f5 uOr4, iL Try.f5 uOr0, .inBlock 4, iC Try.f5 uOr1] [(1, ov), (2, pq bd), (8, pq b8), (10, pq b10), (12, pq b), (13, iN n), (14, iN i), (96, pq b), (100, sS (List.getD ol i []))] w (by kernel_rfl) (.cons o66 (.cons o67 .nil)) ?_
    refine GoS.call [1, 2, 8, 10, 12, 13, 14] 24 #[pq b, sS (List.getD ol i [])] (some 101) [.inRegion (cops (csub (cd Try.f5) uOr10)) [6,7,8,9,10,11,12,13,14,15], iC Try.f5 uOr8, .inBlock 5, iC Try.f5 uOr4, iL Try.f5 uOr0, .inBlock 4, iC Try.f5 uOr1] [(1, ov), (2, pq bd), (8, pq b8), (10, pq b10), (12, pq b), (13, iN n), (14, iN i)] (by kernel_rfl) (has_c b (List.getD ol i []) v Z (hM.rd 0 rfl) (hM.rd 1 rfl) (hB.one hM (fun r_ h_ => mS (mS (mS (mS (mS (h_)))))))) ?_
    rintro _ w68 ⟨rfl, m69⟩
    refine ⟨_, rfl, ?_⟩
    have hM70 : Mem [] w0 w68 (⟨82, 1, (obj b), 1, [v]⟩ :: ⟨29, 3, v, (List.length Z), (recs pzC Z)⟩ :: ⟨25, 3, (obj bd), 1, [sS (d.key), fv, nv]⟩ :: ⟨29, 3, (obj b8), 1, [sS ((docP d).key), n1, w1]⟩ :: ⟨29, 3, (obj b10), 1, [sS ((docP (turnD d)).key), n2, w2]⟩ :: T) := Mem.join (R := []) hM m69
    refine GoS.run [1, 2, 8, 10, 12, 13, 14, 103] [.n, .n] _ [.inRegion (cops (csub (cd Try.f5) uOr10)) [8,9,10,11,12,13,14,15], iC Try.f5 uOr8, .inBlock 5, iC Try.f5 uOr4, iL Try.f5 uOr0, .inBlock 4, iC Try.f5 uOr1] [(1, ov), (2, pq bd), (8, pq b8), (10, pq b10), (12, pq b), (13, iN n), (14, iN i), (103, .bool (!(hasK (List.map PZ.pc Z) (List.getD ol i []))))] w68 (by kernel_rfl) .nil ?_
    refine GoS.fork 103 (!(hasK (List.map PZ.pc Z) (List.getD ol i []))) (by kernel_rfl) (fun h71 => ?_) (fun h71 => ?_)
    ·
     obtain ⟨p72, hp73, hq74⟩ := rd_at (i := ((i : Nat) : Int)) sT55 (ho.kept0 hM70.kept) i (by omega) (by first | omega | (dsimp only; omega))
     have o75 : (Instr.indexAt 55 (ov) (iN i)).run Try.prog w68 = .ok (.pointer (some p72)) w68 := hq74 _ _
     have o76 : (Instr.loadAt 9 (.pointer (some p72))).run Try.prog w68 = .ok (sS (List.getD ol i [])) w68 := at_load pE9 (ho.kept0 hM70.kept) hp73 (svals_at (by first | omega | (dsimp only; omega)))
     refine GoS.run [1, 2, 8, 10, 12, 13, 14, 103, 104, 109] [.n, .n, .n, .h (.pointer (some p72)), .h (sS (List.getD ol i [])), .n] _ [.inRegion (cops (csub (cd Try.f5) uOr10)) [14,15], iC Try.f5 uOr8, .inBlock 5, iC Try.f5 uOr4, iL Try.f5 uOr0, .inBlock 4, iC Try.f5 uOr1] [(1, ov), (2, pq bd), (8, pq b8), (10, pq b10), (12, pq b), (13, iN n), (14, iN i), (103, .bool true), (104, pq b), (109, .agg #[sS (List.getD ol i []), .slice none 0 0, .slice none 0 0])] w68 (by kernel_rfl) (.cons o75 (.cons o76 .nil)) ?_
     have hM77 : Mem [] w0 w68 (⟨29, 3, v, (List.length Z), (recs pzC Z)⟩ :: ⟨82, 1, (obj b), 1, [v]⟩ :: ⟨25, 3, (obj bd), 1, [sS (d.key), fv, nv]⟩ :: ⟨29, 3, (obj b8), 1, [sS ((docP d).key), n1, w1]⟩ :: ⟨29, 3, (obj b10), 1, [sS ((docP (turnD d)).key), n2, w2]⟩ :: T) := hM70.perm (pS pR)
     have hM78 : Mem [] w0 w68 (⟨82, 1, (obj b), 1, [v]⟩ :: ⟨29, 3, v, (List.length Z), (recs pzC Z)⟩ :: ⟨25, 3, (obj bd), 1, [sS (d.key), fv, nv]⟩ :: ⟨29, 3, (obj b8), 1, [sS ((docP d).key), n1, w1]⟩ :: ⟨29, 3, (obj b10), 1, [sS ((docP (turnD d)).key), n2, w2]⟩ :: T) := hM77.perm (pS pR)
     have hM79 := (hM78.nilrow 68 2).nilrow 60 2
     have hM80 : Mem [] w0 w68 ((⟨82, 1, (obj b), 1, [v]⟩ :: ⟨29, 3, v, (List.length Z), (recs pzC Z)⟩ :: (⟨60, 2, .slice none 0 0, 0, []⟩ :: ⟨68, 2, .slice none 0 0, 0, []⟩ :: T)) ++ [⟨25, 3, (obj bd), 1, [sS (d.key), fv, nv]⟩, ⟨29, 3, (obj b8), 1, [sS ((docP d).key), n1, w1]⟩, ⟨29, 3, (obj b10), 1, [sS ((docP (turnD d)).key), n2, w2]⟩]) := swapN (R := [⟨25, 3, (obj bd), 1, [sS (d.key), fv, nv]⟩, ⟨29, 3, (obj b8), 1, [sS ((docP d).key), n1, w1]⟩, ⟨29, 3, (obj b10), 1, [sS ((docP (turnD d)).key), n2, w2]⟩]) (T := T) hM79
     refine GoS.call [1, 2, 8, 10, 12, 13, 14, 103] 19 #[pq b, .agg #[sS (List.getD ol i []), .slice none 0 0, .slice none 0 0]] (some 110) [.inRegion (cops (csub (cd Try.f5) uOr10)) [15], iC Try.f5 uOr8, .inBlock 5, iC Try.f5 uOr4, iL Try.f5 uOr0, .inBlock 4, iC Try.f5 uOr1] [(1, ov), (2, pq bd), (8, pq b8), (10, pq b10), (12, pq b), (13, iN n), (14, iN i), (103, .bool true)] (by kernel_rfl) (put_c b v Z (⟨60, 2, .slice none 0 0, 0, []⟩ :: ⟨68, 2, .slice none 0 0, 0, []⟩ :: T) (hB.mono (fun r_ h_ => mS (mS (h_)))) (by omega) (Pc.mk (List.getD ol i []) [] []) (.slice none 0 0) (.slice none 0 0) ⟨List.mem_cons_self .., [], rfl, mS (List.mem_cons_self ..), fun z hz => by cases hz⟩ ⟨Nat.zero_le _, Nat.zero_le _, fun x hx => by cases hx⟩ (Mem.lend (R := (⟨82, 1, (obj b), 1, [v]⟩ :: ⟨29, 3, v, (List.length Z), (recs pzC Z)⟩ :: (⟨60, 2, .slice none 0 0, 0, []⟩ :: ⟨68, 2, .slice none 0 0, 0, []⟩ :: T))) (L := [⟨25, 3, (obj bd), 1, [sS (d.key), fv, nv]⟩, ⟨29, 3, (obj b8), 1, [sS ((docP d).key), n1, w1]⟩, ⟨29, 3, (obj b10), 1, [sS ((docP (turnD d)).key), n2, w2]⟩]) hM80)) ?_
     rintro _ w81 ⟨v82, Z83, T84, rfl, hps85, hT86, hsub87, m88⟩
     refine ⟨_, rfl, ?_⟩
     have hM89 : Mem [] w0 w81 ((⟨82, 1, (obj b), 1, [v82]⟩ :: ⟨29, 3, v82, (List.length Z83), (recs pzC Z83)⟩ :: T84) ++ [⟨25, 3, (obj bd), 1, [sS (d.key), fv, nv]⟩, ⟨29, 3, (obj b8), 1, [sS ((docP d).key), n1, w1]⟩, ⟨29, 3, (obj b10), 1, [sS ((docP (turnD d)).key), n2, w2]⟩]) := Mem.back (R := (⟨82, 1, (obj b), 1, [v]⟩ :: ⟨29, 3, v, (List.length Z), (recs pzC Z)⟩ :: (⟨60, 2, .slice none 0 0, 0, []⟩ :: ⟨68, 2, .slice none 0 0, 0, []⟩ :: T))) (L := [⟨25, 3, (obj bd), 1, [sS (d.key), fv, nv]⟩, ⟨29, 3, (obj b8), 1, [sS ((docP d).key), n1, w1]⟩, ⟨29, 3, (obj b10), 1, [sS ((docP (turnD d)).key), n2, w2]⟩]) hM80 m88
     have hM90 : Mem [] w0 w81 (⟨82, 1, (obj b), 1, [v82]⟩ :: ⟨29, 3, v82, (List.length Z83), (recs pzC Z83)⟩ :: ⟨25, 3, (obj bd), 1, [sS (d.key), fv, nv]⟩ :: ⟨29, 3, (obj b8), 1, [sS ((docP d).key), n1, w1]⟩ :: ⟨29, 3, (obj b10), 1, [sS ((docP (turnD d)).key), n2, w2]⟩ :: T84) := swapT2 (R := [⟨25, 3, (obj bd), 1, [sS (d.key), fv, nv]⟩, ⟨29, 3, (obj b8), 1, [sS ((docP d).key), n1, w1]⟩, ⟨29, 3, (obj b10), 1, [sS ((docP (turnD d)).key), n2, w2]⟩]) (T := T84) hM89
     have hsub91 : ∀ r_ ∈ T, r_ ∈ T84 := fun r_ h_ => hsub87 r_ (mS (mS (h_)))
     refine GoS.run [1, 2, 8, 10, 12, 13, 14, 111] [.n] _ [.inRegion (cops (csub (cd Try.f5) uOr10)) [], iC Try.f5 uOr8, .inBlock 5, iC Try.f5 uOr4, iL Try.f5 uOr0, .inBlock 4, iC Try.f5 uOr1] [(1, ov), (2, pq bd), (8, pq b8), (10, pq b10), (12, pq b), (13, iN n), (14, iN i), (111, .bool (checkP (Pc.mk (List.getD ol i []) [] [])))] w81 (by kernel_rfl) .nil ?_
     refine GoS.run [1, 2, 8, 10, 12, 13, 14, 111] [.n] _ [iC Try.f5 uOr8, .inBlock 5, iC Try.f5 uOr4, iL Try.f5 uOr0, .inBlock 4, iC Try.f5 uOr1] [(1, ov), (2, pq bd), (8, pq b8), (10, pq b10), (12, pq b), (13, iN n), (14, iN i), (111, .bool (checkP (Pc.mk (List.getD ol i []) [] [])))] w81 (by kernel_rfl) .nil ?_
     refine GoS.cond (checkP (Pc.mk (List.getD ol i []) [] [])) [iC Try.f5 [1,1,1,1,1,1,1,1,1,1,1,0,1,0,0,1,0,0,1,0], .inBlock 5, iC Try.f5 uOr4, iL Try.f5 uOr0, .inBlock 4, iC Try.f5 uOr1] [iC Try.f5 [1,1,1,1,1,1,1,1,1,1,1,0,1,0,0,1,0,0,1,1], .inBlock 5, iC Try.f5 uOr4, iL Try.f5 uOr0, .inBlock 4, iC Try.f5 uOr1] (by kernel_rfl) (fun h92 => ?_) (fun h92 => ?_)
     ·
      have o93 : (binOp .add 3 (iN n) (.int .i64 1)).run Try.prog w81 = .ok (iN (n + 1)) w81 := f_add (by rw [show ((n : Nat) : Int) + 1 = (((n + 1) : Nat) : Int) by omega]; exact IntWalk.i64_in _ (by omega))
      refine GoS.run [1, 2, 8, 10, 12, 13, 14] [.n, .n, .h (iN (n + 1)), .n, .n] _ [.inBlock 5, iC Try.f5 uOr4, iL Try.f5 uOr0, .inBlock 4, iC Try.f5 uOr1] [(1, ov), (2, pq bd), (8, pq b8), (10, pq b10), (12, pq b), (13, iN (n + 1)), (14, iN i)] w81 (by kernel_rfl) (.cons o93 .nil) ?_
      have o94 : (binOp .add 3 (iN i) (.int .i64 1)).run Try.prog w81 = .ok (iN (i + 1)) w81 := f_add (by rw [show ((i : Nat) : Int) + 1 = (((i + 1) : Nat) : Int) by omega]; exact IntWalk.i64_in _ (by omega))
      refine GoS.run [1, 2, 8, 10, 12, 13, 14] [.n, .n, .n, .h (iN (i + 1)), .n, .n, .n] _ [iC Try.f5 uOr0, iL Try.f5 uOr0, .inBlock 4, iC Try.f5 uOr1] [(1, ov), (2, pq bd), (8, pq b8), (10, pq b10), (12, pq b), (13, iN (n + 1)), (14, iN (i + 1))] w81 (by kernel_rfl) (.cons o94 .nil) ?_
      have hM95 : Mem [] w0 w81 (⟨29, 3, v82, (List.length Z83), (recs pzC Z83)⟩ :: ⟨82, 1, (obj b), 1, [v82]⟩ :: ⟨25, 3, (obj bd), 1, [sS (d.key), fv, nv]⟩ :: ⟨29, 3, (obj b8), 1, [sS ((docP d).key), n1, w1]⟩ :: ⟨29, 3, (obj b10), 1, [sS ((docP (turnD d)).key), n2, w2]⟩ :: T84) := hM90.perm (pS pR)
      have hM96 : Mem [] w0 w81 (⟨82, 1, (obj b), 1, [v82]⟩ :: ⟨29, 3, v82, (List.length Z83), (recs pzC Z83)⟩ :: ⟨25, 3, (obj bd), 1, [sS (d.key), fv, nv]⟩ :: ⟨29, 3, (obj b8), 1, [sS ((docP d).key), n1, w1]⟩ :: ⟨29, 3, (obj b10), 1, [sS ((docP (turnD d)).key), n2, w2]⟩ :: T84) := hM95.perm (pS pR)
      exact ih v82 Z83 T84 (i + 1) (n + 1) _ (by omega) (by omega) (hp1.mono (fun r_ h_ => hsub91 r_ (h_))) (hp2.mono (fun r_ h_ => hsub91 r_ (h_))) hT86 (by rw [hps85]; exact ord_more hO (by simpa using h71) (by simpa using h92) ⟨Nat.zero_le _, Nat.zero_le _, fun x hx => by cases hx⟩) (hM96.sub (sK (sK (sK (sK (sK sR)))))) (by omega)
     ·
      refine GoS.run [1, 2, 8, 10, 12, 13, 14] [.n] _ [.inBlock 5, iC Try.f5 uOr4, iL Try.f5 uOr0, .inBlock 4, iC Try.f5 uOr1] [(1, ov), (2, pq bd), (8, pq b8), (10, pq b10), (12, pq b), (13, iN n), (14, iN i)] w81 (by kernel_rfl) .nil ?_
      have o97 : (binOp .add 3 (iN i) (.int .i64 1)).run Try.prog w81 = .ok (iN (i + 1)) w81 := f_add (by rw [show ((i : Nat) : Int) + 1 = (((i + 1) : Nat) : Int) by omega]; exact IntWalk.i64_in _ (by omega))
      refine GoS.run [1, 2, 8, 10, 12, 13, 14] [.n, .n, .n, .h (iN (i + 1)), .n, .n, .n] _ [iC Try.f5 uOr0, iL Try.f5 uOr0, .inBlock 4, iC Try.f5 uOr1] [(1, ov), (2, pq bd), (8, pq b8), (10, pq b10), (12, pq b), (13, iN n), (14, iN (i + 1))] w81 (by kernel_rfl) (.cons o97 .nil) ?_
      have hM98 : Mem [] w0 w81 (⟨29, 3, v82, (List.length Z83), (recs pzC Z83)⟩ :: ⟨82, 1, (obj b), 1, [v82]⟩ :: ⟨25, 3, (obj bd), 1, [sS (d.key), fv, nv]⟩ :: ⟨29, 3, (obj b8), 1, [sS ((docP d).key), n1, w1]⟩ :: ⟨29, 3, (obj b10), 1, [sS ((docP (turnD d)).key), n2, w2]⟩ :: T84) := hM90.perm (pS pR)
      have hM99 : Mem [] w0 w81 (⟨82, 1, (obj b), 1, [v82]⟩ :: ⟨29, 3, v82, (List.length Z83), (recs pzC Z83)⟩ :: ⟨25, 3, (obj bd), 1, [sS (d.key), fv, nv]⟩ :: ⟨29, 3, (obj b8), 1, [sS ((docP d).key), n1, w1]⟩ :: ⟨29, 3, (obj b10), 1, [sS ((docP (turnD d)).key), n2, w2]⟩ :: T84) := hM98.perm (pS pR)
      exact ih v82 Z83 T84 (i + 1) n _ (by omega) (by omega) (hp1.mono (fun r_ h_ => hsub91 r_ (h_))) (hp2.mono (fun r_ h_ => hsub91 r_ (h_))) hT86 (by rw [hps85]; exact ord_same hO (by simpa using h92)) (hM99.sub (sK (sK (sK (sK (sK sR)))))) (by omega)
    ·
     refine GoS.run [1, 2, 8, 10, 12, 13, 14, 111] [.n, .n, .n, .n, .n, .n, .n, .n] _ [.inRegion (cops (csub (cd Try.f5) uOr10)) [], iC Try.f5 uOr8, .inBlock 5, iC Try.f5 uOr4, iL Try.f5 uOr0, .inBlock 4, iC Try.f5 uOr1] [(1, ov), (2, pq bd), (8, pq b8), (10, pq b10), (12, pq b), (13, iN n), (14, iN i), (111, .bool false)] w68 (by kernel_rfl) .nil ?_
     have o100 : (binOp .add 3 (iN i) (.int .i64 1)).run Try.prog w68 = .ok (iN (i + 1)) w68 := f_add (by rw [show ((i : Nat) : Int) + 1 = (((i + 1) : Nat) : Int) by omega]; exact IntWalk.i64_in _ (by omega))
     refine GoS.run [1, 2, 8, 10, 12, 13, 14] [.n, .n, .n, .n, .n, .n, .h (iN (i + 1)), .n, .n, .n] _ [iC Try.f5 uOr0, iL Try.f5 uOr0, .inBlock 4, iC Try.f5 uOr1] [(1, ov), (2, pq bd), (8, pq b8), (10, pq b10), (12, pq b), (13, iN n), (14, iN (i + 1))] w68 (by kernel_rfl) (.cons o100 .nil) ?_
     have hM101 : Mem [] w0 w68 (⟨29, 3, v, (List.length Z), (recs pzC Z)⟩ :: ⟨82, 1, (obj b), 1, [v]⟩ :: ⟨25, 3, (obj bd), 1, [sS (d.key), fv, nv]⟩ :: ⟨29, 3, (obj b8), 1, [sS ((docP d).key), n1, w1]⟩ :: ⟨29, 3, (obj b10), 1, [sS ((docP (turnD d)).key), n2, w2]⟩ :: T) := hM70.perm (pS pR)
     have hM102 : Mem [] w0 w68 (⟨82, 1, (obj b), 1, [v]⟩ :: ⟨29, 3, v, (List.length Z), (recs pzC Z)⟩ :: ⟨25, 3, (obj bd), 1, [sS (d.key), fv, nv]⟩ :: ⟨29, 3, (obj b8), 1, [sS ((docP d).key), n1, w1]⟩ :: ⟨29, 3, (obj b10), 1, [sS ((docP (turnD d)).key), n2, w2]⟩ :: T) := hM101.perm (pS pR)
     exact ih v Z T (i + 1) n _ (by omega) (by omega) hp1 hp2 hB hO (hM102.sub (sK (sK (sK (sK (sK sR)))))) (by omega)
   ·
    have h3p : ¬ (((i : Nat) : Int) < 20) := of_decide_eq_false h3
    have o4 : (Instr.loadAt 29 (pq b10)).run Try.prog w = .ok (.agg #[sS ((docP (turnD d)).key), n2, w2]) w := c_loads (ys := [sS ((docP (turnD d)).key), n2, w2]) aE29 (hM.rd 4 rfl) (cel_obj b10 0) rfl (by intro j u hj; match j, hj with | 0, hj => exact hj | 1, hj => exact hj | 2, hj => exact hj | n + 3, hj => cases hj)
    have hM5 := hM.sub (sK (sK (sK (sK (sD sR)))))
    refine GoS.run [2, 8, 12, 13, 114, 115] [.n, .n, .n, .n, .n, .h (.agg #[sS ((docP (turnD d)).key), n2, w2])] _ [.inRegion (cops (csub (cd Try.f5) uOr5)) [2,3,4,5,6,7,8,9], iC Try.f5 uOr3, iC Try.f5 uOr2] [(2, pq bd), (8, pq b8), (12, pq b), (13, iN n), (114, pq b), (115, .agg #[sS ((docP (turnD d)).key), n2, w2])] w (by kernel_rfl) (.cons o4 .nil) ?_
    have hM6 : Mem [] w0 w (⟨29, 3, v, (List.length Z), (recs pzC Z)⟩ :: ⟨82, 1, (obj b), 1, [v]⟩ :: ⟨25, 3, (obj bd), 1, [sS (d.key), fv, nv]⟩ :: ⟨29, 3, (obj b8), 1, [sS ((docP d).key), n1, w1]⟩ :: T) := hM5.perm (pS pR)
    have hM7 : Mem [] w0 w (⟨82, 1, (obj b), 1, [v]⟩ :: ⟨29, 3, v, (List.length Z), (recs pzC Z)⟩ :: ⟨25, 3, (obj bd), 1, [sS (d.key), fv, nv]⟩ :: ⟨29, 3, (obj b8), 1, [sS ((docP d).key), n1, w1]⟩ :: T) := hM6.perm (pS pR)
    have hM8 : Mem [] w0 w ((⟨82, 1, (obj b), 1, [v]⟩ :: ⟨29, 3, v, (List.length Z), (recs pzC Z)⟩ :: T) ++ [⟨25, 3, (obj bd), 1, [sS (d.key), fv, nv]⟩, ⟨29, 3, (obj b8), 1, [sS ((docP d).key), n1, w1]⟩]) := swapT (R := [⟨25, 3, (obj bd), 1, [sS (d.key), fv, nv]⟩, ⟨29, 3, (obj b8), 1, [sS ((docP d).key), n1, w1]⟩]) (T := T) hM7
    refine GoS.call [2, 8, 12, 13] 19 #[pq b, .agg #[sS ((docP (turnD d)).key), n2, w2]] (some 116) [.inRegion (cops (csub (cd Try.f5) uOr5)) [3,4,5,6,7,8,9], iC Try.f5 uOr3, iC Try.f5 uOr2] [(2, pq bd), (8, pq b8), (12, pq b), (13, iN n)] (by kernel_rfl) (put_c b v Z T (hB.mono (fun r_ h_ => h_)) (by omega) (docP (turnD d)) n2 w2 (hp2.mono (fun r_ h_ => h_)) docP_small (Mem.lend (R := (⟨82, 1, (obj b), 1, [v]⟩ :: ⟨29, 3, v, (List.length Z), (recs pzC Z)⟩ :: T)) (L := [⟨25, 3, (obj bd), 1, [sS (d.key), fv, nv]⟩, ⟨29, 3, (obj b8), 1, [sS ((docP d).key), n1, w1]⟩]) hM8)) ?_
    rintro _ w9 ⟨v10, Z11, T12, rfl, hps13, hT14, hsub15, m16⟩
    refine ⟨_, rfl, ?_⟩
    have hM17 : Mem [] w0 w9 ((⟨82, 1, (obj b), 1, [v10]⟩ :: ⟨29, 3, v10, (List.length Z11), (recs pzC Z11)⟩ :: T12) ++ [⟨25, 3, (obj bd), 1, [sS (d.key), fv, nv]⟩, ⟨29, 3, (obj b8), 1, [sS ((docP d).key), n1, w1]⟩]) := Mem.back (R := (⟨82, 1, (obj b), 1, [v]⟩ :: ⟨29, 3, v, (List.length Z), (recs pzC Z)⟩ :: T)) (L := [⟨25, 3, (obj bd), 1, [sS (d.key), fv, nv]⟩, ⟨29, 3, (obj b8), 1, [sS ((docP d).key), n1, w1]⟩]) hM8 m16
    have hM18 : Mem [] w0 w9 (⟨82, 1, (obj b), 1, [v10]⟩ :: ⟨29, 3, v10, (List.length Z11), (recs pzC Z11)⟩ :: ⟨25, 3, (obj bd), 1, [sS (d.key), fv, nv]⟩ :: ⟨29, 3, (obj b8), 1, [sS ((docP d).key), n1, w1]⟩ :: T12) := swapT2 (R := [⟨25, 3, (obj bd), 1, [sS (d.key), fv, nv]⟩, ⟨29, 3, (obj b8), 1, [sS ((docP d).key), n1, w1]⟩]) (T := T12) hM17
    have hsub19 : ∀ r_ ∈ T, r_ ∈ T12 := fun r_ h_ => hsub15 r_ (h_)
    have hkq : (docP (turnD d)).key = d.key := by rw [turn_doc, doc_keyeq he]
    have hct : checkP (docP (turnD d)) = true := by rw [doc_check]; exact decide_eq_true (turn_zero.2 he)
    have hE : OrdE d.key (List.map PZ.pc Z11) n (docP (turnD d)) := by rw [hps13, ← hkq]; exact ord_end (by rw [hkq]; exact hO) hct docP_small
    have hlz : List.length Z11 = n := by have z := hE.len; rwa [List.length_map] at z
    refine GoS.run [2, 8, 12, 13, 118] [.n, .n] _ [.inRegion (cops (csub (cd Try.f5) uOr5)) [5,6,7,8,9], iC Try.f5 uOr3, iC Try.f5 uOr2] [(2, pq bd), (8, pq b8), (12, pq b), (13, iN n), (118, .bool (!(checkP (docP (turnD d)))))] w9 (by kernel_rfl) .nil ?_
    refine GoS.fork 118 (!(checkP (docP (turnD d)))) (by kernel_rfl) (fun h20 => ?_) (fun h20 => ?_)
    ·
     exact absurd h20 (by rw [hct]; simp)
    ·
     refine GoS.run [2, 8, 12, 13, 118, 119] [.n] _ [.inRegion (cops (csub (cd Try.f5) uOr5)) [6,7,8,9], iC Try.f5 uOr3, iC Try.f5 uOr2] [(2, pq bd), (8, pq b8), (12, pq b), (13, iN n), (118, .bool false), (119, pq b)] w9 (by kernel_rfl) .nil ?_
     refine GoS.call [2, 8, 12, 13, 118] 23 #[pq b] (some 120) [.inRegion (cops (csub (cd Try.f5) uOr5)) [7,8,9], iC Try.f5 uOr3, iC Try.f5 uOr2] [(2, pq bd), (8, pq b8), (12, pq b), (13, iN n), (118, .bool false)] (by kernel_rfl) (len_c b [] v10 Z11 (hM18.rd 0 rfl) (hM18.rd 1 rfl) (hT14.one hM18 (fun r_ h_ => mS (mS (mS (mS (h_))))))) ?_
     rintro _ w21 ⟨rfl, m22⟩
     refine ⟨_, rfl, ?_⟩
     have hM23 : Mem [] w0 w21 (⟨82, 1, (obj b), 1, [v10]⟩ :: ⟨29, 3, v10, (List.length Z11), (recs pzC Z11)⟩ :: ⟨25, 3, (obj bd), 1, [sS (d.key), fv, nv]⟩ :: ⟨29, 3, (obj b8), 1, [sS ((docP d).key), n1, w1]⟩ :: T12) := Mem.join (R := []) hM18 m22
     refine GoS.run [2, 8, 12, 13, 123] [.n, .n, .n] _ [.inRegion (cops (csub (cd Try.f5) uOr5)) [], iC Try.f5 uOr3, iC Try.f5 uOr2] [(2, pq bd), (8, pq b8), (12, pq b), (13, iN n), (123, .bool ((((List.length Z11) : Nat) : Int) != ((n : Nat) : Int)))] w21 (by kernel_rfl) .nil ?_
     refine GoS.run [2, 8, 12, 13, 123] [.n] _ [iC Try.f5 uOr3, iC Try.f5 uOr2] [(2, pq bd), (8, pq b8), (12, pq b), (13, iN n), (123, .bool ((((List.length Z11) : Nat) : Int) != ((n : Nat) : Int)))] w21 (by kernel_rfl) .nil ?_
     refine GoS.cond ((((List.length Z11) : Nat) : Int) != ((n : Nat) : Int)) [iC Try.f5 [1,1,1,1,1,1,1,1,1,1,1,1,0,1,0], iC Try.f5 uOr2] [iC Try.f5 [1,1,1,1,1,1,1,1,1,1,1,1,0,1,1], iC Try.f5 uOr2] (by kernel_rfl) (fun h24 => ?_) (fun h24 => ?_)
     ·
      exact absurd h24 (by rw [hlz]; simp)
     ·
      have h24p : (((List.length Z11) : Nat) : Int) = ((n : Nat) : Int) := p_eq h24
      refine GoS.run [2, 8, 12, 13] [.n] _ [iC Try.f5 uOr2] [(2, pq bd), (8, pq b8), (12, pq b), (13, iN n)] w21 (by kernel_rfl) .nil ?_
      refine GoS.run [2, 8, 12, 13, 124] [.n, .n, .n] _ [.inRegion (cops (csub (cd Try.f5) uOr13)) [1,2], iC Try.f5 uOr14] [(2, pq bd), (8, pq b8), (12, pq b), (13, iN n), (124, pq b)] w21 (by kernel_rfl) .nil ?_
      have hM25 : Mem [] w0 w21 (⟨29, 3, v10, (List.length Z11), (recs pzC Z11)⟩ :: ⟨82, 1, (obj b), 1, [v10]⟩ :: ⟨25, 3, (obj bd), 1, [sS (d.key), fv, nv]⟩ :: ⟨29, 3, (obj b8), 1, [sS ((docP d).key), n1, w1]⟩ :: T12) := hM23.perm (pS pR)
      have hM26 : Mem [] w0 w21 (⟨82, 1, (obj b), 1, [v10]⟩ :: ⟨29, 3, v10, (List.length Z11), (recs pzC Z11)⟩ :: ⟨25, 3, (obj bd), 1, [sS (d.key), fv, nv]⟩ :: ⟨29, 3, (obj b8), 1, [sS ((docP d).key), n1, w1]⟩ :: T12) := hM25.perm (pS pR)
      refine GoS.call [2, 8, 12, 13] 22 #[pq b] (some 125) [.inRegion (cops (csub (cd Try.f5) uOr13)) [2], iC Try.f5 uOr14] [(2, pq bd), (8, pq b8), (12, pq b), (13, iN n)] (by kernel_rfl) (pieces_c b v10 Z11 (hM26.rd 0 rfl) (hM26.rd 1 rfl) (fun z hz => (hT14 z hz).rd hM26 (fun r_ h_ => mS (mS (mS (mS (h_)))))) (fun z hz => hE.sm _ (List.mem_map_of_mem hz)) (by omega)) ?_
      rintro _ w27 ⟨v28, Y29, T30, rfl, hY31, hT32, m33⟩
      refine ⟨_, rfl, ?_⟩
      have hM34 : Mem [] w0 w27 (⟨29, 3, v28, (List.length Y29), (recs pzC Y29)⟩ :: ⟨82, 1, (obj b), 1, [v10]⟩ :: ⟨29, 3, v10, (List.length Z11), (recs pzC Z11)⟩ :: ⟨25, 3, (obj bd), 1, [sS (d.key), fv, nv]⟩ :: ⟨29, 3, (obj b8), 1, [sS ((docP d).key), n1, w1]⟩ :: (T12 ++ T30)) := joinC (R := [⟨82, 1, (obj b), 1, [v10]⟩, ⟨29, 3, v10, (List.length Z11), (recs pzC Z11)⟩, ⟨25, 3, (obj bd), 1, [sS (d.key), fv, nv]⟩, ⟨29, 3, (obj b8), 1, [sS ((docP d).key), n1, w1]⟩]) (A := T12) hM26 m33
      have hYl : List.length Y29 = n := by have z := congrArg List.length hY31; rw [List.length_map, List.length_map] at z; omega
      have hpos := hE.pos
      have honeY : OneZ Y29 := fun z hz => rdp_one ((hT32 z hz).rd hM34 (fun r_ h_ => mS (mS (mS (mS (mS (List.mem_append_right _ (h_))))))))
      have hlast : (List.getD Y29 (Int.toNat (((n : Nat) : Int) - 1)) pz).pc = docP d := by rw [show Int.toNat (((n : Nat) : Int) - 1) = n - 1 by omega, ← mapp_getD (by omega), hY31, hE.last, turn_doc]
      refine GoS.run [2, 8, 12, 13, 15] [.n, .n, .n] _ [iC Try.f5 [1,1,1,1,1,1,1,1,1,1,1,1,1,1,0], iC Try.f5 [1,1,1,1,1,1,1,1,1,1,1,1,1,1,1]] [(2, pq bd), (8, pq b8), (12, pq b), (13, iN n), (15, v28)] w27 (by kernel_rfl) .nil ?_
      obtain ⟨w35, hw36⟩ : ∃ w_, (w27).drewN 1 = w_ := ⟨_, rfl⟩
      refine GoS.held (fun W_ => Mem [] w0 W_ (⟨29, 3, v28, (List.length Y29), (recs pzC Y29)⟩ :: ⟨25, 3, (obj bd), 1, [sS (d.key), fv, nv]⟩ :: ⟨29, 3, (obj b8), 1, [sS ((docP d).key), n1, w1]⟩ :: (T12 ++ T30))) [] 27 (by kernel_rfl) (by kernel_rfl) 28 (by kernel_rfl) ?_
      rw [hw36]
      have hM37 : Mem [] w0 w35 (⟨29, 3, v28, (List.length Y29), (recs pzC Y29)⟩ :: ⟨82, 1, (obj b), 1, [v10]⟩ :: ⟨29, 3, v10, (List.length Z11), (recs pzC Z11)⟩ :: ⟨25, 3, (obj bd), 1, [sS (d.key), fv, nv]⟩ :: ⟨29, 3, (obj b8), 1, [sS ((docP d).key), n1, w1]⟩ :: (T12 ++ T30)) := hw36 ▸ hM34.ext (Kept.drewN _ _ 1)
      have hS38 := hM37.sub (sK (sD (sD (sK (sK sR)))))
      refine GoH.takeV 0 (v28) (v28) (some 126) (fun W_ => by kernel_rfl) rfl hS38 ?_
      refine GoH.takeV 1 (iN n) (iN n) (some 127) (fun W_ => by kernel_rfl) rfl hS38 ?_
      refine GoH.takeF 2 (.int .i64 (((n : Nat) : Int) - 1)) (fun W_ => (binOp .sub 3 (iN n) (.int .i64 1)).run Try.prog W_ = .ok (.int .i64 (((n : Nat) : Int) - 1)) W_) (some 128) (fun W_ => by kernel_rfl) (fun W_ hW_ => f_sub (IntWalk.i64_in _ (by omega))) hS38 ?_
      obtain ⟨p39, hp40, hq41⟩ := rd_at (i := (((n : Nat) : Int) - 1)) sT43 (hS38.rd 0 rfl) (Int.toNat (((n : Nat) : Int) - 1)) (by omega) (by first | omega | (dsimp only; omega))
      refine GoH.takeF 3 (.pointer (some p39)) (fun W_ => (Instr.indexAt 43 (v28) (.int .i64 (((n : Nat) : Int) - 1))).run Try.prog W_ = .ok (.pointer (some p39)) W_) (some 129) (fun W_ => by kernel_rfl) (fun W_ hW_ => hq41 _ _) hS38 ?_
      refine GoH.takeF 4 (.agg #[sS ((List.getD Y29 (Int.toNat (((n : Nat) : Int) - 1)) pz).pc.key), ((List.getD Y29 (Int.toNat (((n : Nat) : Int) - 1)) pz).nums), ((List.getD Y29 (Int.toNat (((n : Nat) : Int) - 1)) pz).words)]) (fun W_ => (Instr.loadAt 29 (.pointer (some p39))).run Try.prog W_ = .ok (.agg #[sS ((List.getD Y29 (Int.toNat (((n : Nat) : Int) - 1)) pz).pc.key), ((List.getD Y29 (Int.toNat (((n : Nat) : Int) - 1)) pz).nums), ((List.getD Y29 (Int.toNat (((n : Nat) : Int) - 1)) pz).words)]) W_) (some 130) (fun W_ => by kernel_rfl) (fun W_ hW_ => r_loads (f := pzC) (l := Y29) aE29 (hW_.rd 0 rfl) pzC_len hp40 (by first | omega | (dsimp only; omega)) pz) hS38 ?_
      refine GoH.takeF 5 (.agg #[sS ((docP d).key), n1, w1]) (fun W_ => (Instr.loadAt 29 (pq b8)).run Try.prog W_ = .ok (.agg #[sS ((docP d).key), n1, w1]) W_) (some 131) (fun W_ => by kernel_rfl) (fun W_ hW_ => c_loads (ys := [sS ((docP d).key), n1, w1]) aE29 (hW_.rd 2 rfl) (cel_obj b8 0) rfl (by intro j u hj; match j, hj with | 0, hj => exact hj | 1, hj => exact hj | 2, hj => exact hj | n + 3, hj => cases hj)) hS38 ?_
      refine GoH.callF 6 11 #[.agg #[sS ((List.getD Y29 (Int.toNat (((n : Nat) : Int) - 1)) pz).pc.key), ((List.getD Y29 (Int.toNat (((n : Nat) : Int) - 1)) pz).nums), ((List.getD Y29 (Int.toNat (((n : Nat) : Int) - 1)) pz).words)], .agg #[sS ((docP d).key), n1, w1]] (some 132) (by kernel_rfl) ((by have z := pone_c ((List.getD Y29 (Int.toNat (((n : Nat) : Int) - 1)) pz).pc) (docP d) ((List.getD Y29 (Int.toNat (((n : Nat) : Int) - 1)) pz).nums) ((List.getD Y29 (Int.toNat (((n : Nat) : Int) - 1)) pz).words) n1 w1 ((hT32 _ (getD_mem (i := (Int.toNat (((n : Nat) : Int) - 1))) (d := pz) (by omega))).rd hM37 (fun r_ h_ => mS (mS (mS (mS (mS (List.mem_append_right _ (h_)))))))) ((hp1.mono (fun r_ h_ => hsub19 r_ (h_))).rd hM37 (fun r_ h_ => mS (mS (mS (mS (mS (List.mem_append_left _ (h_)))))))); rw [decide_eq_true hlast] at z; exact z)) ?_
      rintro _ w42 ⟨rfl, m43⟩
      have hM44 : Mem [] w0 w42 (⟨29, 3, v28, (List.length Y29), (recs pzC Y29)⟩ :: ⟨82, 1, (obj b), 1, [v10]⟩ :: ⟨29, 3, v10, (List.length Z11), (recs pzC Z11)⟩ :: ⟨25, 3, (obj bd), 1, [sS (d.key), fv, nv]⟩ :: ⟨29, 3, (obj b8), 1, [sS ((docP d).key), n1, w1]⟩ :: (T12 ++ T30)) := Mem.join (R := []) hM37 m43
      have hS45 := hM44.sub (sK (sD (sD (sK (sK sR)))))
      refine ⟨.bool true, rfl, .inr hS45, ?_⟩
      refine GoH.takeV 7 (.bool true) (.bool true) (some 133) (fun W_ => by kernel_rfl) rfl hS45 ?_
      refine GoH.takeV 8 (pq b) (pq b) (some 134) (fun W_ => by kernel_rfl) rfl hS45 ?_
      refine GoH.takeV 9 (pq bd) (pq bd) (some 135) (fun W_ => by kernel_rfl) rfl hS45 ?_
      refine GoH.takeF 10 (sS (d.key)) (fun W_ => (Instr.loadAt 9 (pq bd)).run Try.prog W_ = .ok (sS (d.key)) W_) (some 136) (fun W_ => by kernel_rfl) (fun W_ hW_ => c_load pE9 (hW_.rd 1 rfl) (cel_obj bd 0) rfl) hS45 ?_
      have hM46 : Mem [] w0 w42 (⟨29, 3, v10, (List.length Z11), (recs pzC Z11)⟩ :: ⟨29, 3, v28, (List.length Y29), (recs pzC Y29)⟩ :: ⟨82, 1, (obj b), 1, [v10]⟩ :: ⟨25, 3, (obj bd), 1, [sS (d.key), fv, nv]⟩ :: ⟨29, 3, (obj b8), 1, [sS ((docP d).key), n1, w1]⟩ :: (T12 ++ T30)) := hM44.perm (pS (pS pR))
      have hM47 : Mem [] w0 w42 (⟨82, 1, (obj b), 1, [v10]⟩ :: ⟨29, 3, v10, (List.length Z11), (recs pzC Z11)⟩ :: ⟨29, 3, v28, (List.length Y29), (recs pzC Y29)⟩ :: ⟨25, 3, (obj bd), 1, [sS (d.key), fv, nv]⟩ :: ⟨29, 3, (obj b8), 1, [sS ((docP d).key), n1, w1]⟩ :: (T12 ++ T30)) := hM46.perm (pS (pS pR))
      refine GoH.callF 11 15 #[pq b, sS (d.key)] (some 137) (by kernel_rfl) (drop_c b (d.key) v10 Z11 (⟨29, 3, v28, (List.length Y29), (recs pzC Y29)⟩ :: ⟨25, 3, (obj bd), 1, [sS (d.key), fv, nv]⟩ :: ⟨29, 3, (obj b8), 1, [sS ((docP d).key), n1, w1]⟩ :: (T12 ++ T30)) (hT14.one hM47 (fun r_ h_ => mS (mS (mS (mS (mS (List.mem_append_left _ (h_)))))))) hM47) ?_
      rintro _ w48 ⟨v49, rfl, hM50⟩
      have hS51 := hM50.sub (sD (sD (sK (sK (sK sR)))))
      refine ⟨.bool (hasK (List.map PZ.pc Z11) (d.key)), rfl, .inr hS51, ?_⟩
      refine GoH.takeV 12 (.bool (hasK (List.map PZ.pc Z11) (d.key))) (.bool (hasK (List.map PZ.pc Z11) (d.key))) (some 138) (fun W_ => by kernel_rfl) rfl hS51 ?_
      rcases Bool.eq_false_or_eq_true (hasK (List.map PZ.pc Z11) (d.key)) with h52 | h52
      ·
       refine GoH.takeV 13 (.bool (hasK (List.map PZ.pc Z11) (d.key))) (.bool true) (some 139) (fun W_ => by kernel_rfl) (congrArg Value.bool h52) hS51 ?_
       refine GoH.takeV 14 (pq b) (pq b) (some 140) (fun W_ => by kernel_rfl) rfl hS51 ?_
       refine GoH.takeV 15 (pq bd) (pq bd) (some 141) (fun W_ => by kernel_rfl) rfl hS51 ?_
       refine GoH.takeF 16 (sS (d.key)) (fun W_ => (Instr.loadAt 9 (pq bd)).run Try.prog W_ = .ok (sS (d.key)) W_) (some 142) (fun W_ => by kernel_rfl) (fun W_ hW_ => c_load pE9 (hW_.rd 1 rfl) (cel_obj bd 0) rfl) hS51 ?_
       refine GoH.callF 17 15 #[pq b, sS (d.key)] (some 143) (by kernel_rfl) (drop_c b (d.key) v49 (dropZ (d.key) Z11) (⟨29, 3, v28, (List.length Y29), (recs pzC Y29)⟩ :: ⟨25, 3, (obj bd), 1, [sS (d.key), fv, nv]⟩ :: ⟨29, 3, (obj b8), 1, [sS ((docP d).key), n1, w1]⟩ :: (T12 ++ T30)) ((OwZ.drop hT14).one hM50 (fun r_ h_ => mS (mS (mS (mS (mS (List.mem_append_left _ (h_)))))))) hM50) ?_
       rintro _ w53 ⟨v54, rfl, hM55⟩
       have hS56 := hM55.sub (sD (sD (sK (sK (sK sR)))))
       refine ⟨.bool (hasK (List.map PZ.pc (dropZ (d.key) Z11)) (d.key)), rfl, .inr hS56, ?_⟩
       refine GoH.takeV 18 (.bool (!(hasK (List.map PZ.pc (dropZ (d.key) Z11)) (d.key)))) (.bool (!(hasK (List.map PZ.pc (dropZ (d.key) Z11)) (d.key)))) (some 144) (fun W_ => by kernel_rfl) rfl hS56 ?_
       refine GoH.takeV 19 (.bool (!(hasK (List.map PZ.pc (dropZ (d.key) Z11)) (d.key)))) (.bool (!(hasK (List.map PZ.pc (dropZ (d.key) Z11)) (d.key)))) (some 145) (fun W_ => by kernel_rfl) rfl hS56 ?_
       rcases Bool.eq_false_or_eq_true (!(hasK (List.map PZ.pc (dropZ (d.key) Z11)) (d.key))) with h57 | h57
       ·
        refine GoH.takeV 20 (.bool (!(hasK (List.map PZ.pc (dropZ (d.key) Z11)) (d.key)))) (.bool true) (some 146) (fun W_ => by kernel_rfl) (congrArg Value.bool h57) hS56 ?_
        refine GoH.takeV 21 (pq b) (pq b) (some 147) (fun W_ => by kernel_rfl) rfl hS56 ?_
        refine GoH.takeV 23 (iN n) (iN n) (some 149) (fun W_ => by kernel_rfl) rfl hS56 ?_
        refine GoH.takeF 24 (.int .i64 (((n : Nat) : Int) - 1)) (fun W_ => (binOp .sub 3 (iN n) (.int .i64 1)).run Try.prog W_ = .ok (.int .i64 (((n : Nat) : Int) - 1)) W_) (some 150) (fun W_ => by kernel_rfl) (fun W_ hW_ => f_sub (IntWalk.i64_in _ (by omega))) hS56 ?_
        refine GoH.callF 22 23 #[pq b] (some 148) (by kernel_rfl) (len_c b [] v54 (dropZ (d.key) (dropZ (d.key) Z11)) (hM55.rd 0 rfl) (hM55.rd 1 rfl) ((OwZ.drop (OwZ.drop hT14)).one hM55 (fun r_ h_ => mS (mS (mS (mS (mS (List.mem_append_left _ (h_))))))))) ?_
        rintro _ w58 ⟨rfl, m59⟩
        have hM60 : Mem [] w0 w58 (⟨82, 1, (obj b), 1, [v54]⟩ :: ⟨29, 3, v54, (List.length (dropZ (d.key) (dropZ (d.key) Z11))), (recs pzC (dropZ (d.key) (dropZ (d.key) Z11)))⟩ :: ⟨29, 3, v28, (List.length Y29), (recs pzC Y29)⟩ :: ⟨25, 3, (obj bd), 1, [sS (d.key), fv, nv]⟩ :: ⟨29, 3, (obj b8), 1, [sS ((docP d).key), n1, w1]⟩ :: (T12 ++ T30)) := Mem.join (R := []) hM55 m59
        have hS61 := hM60.sub (sD (sD (sK (sK (sK sR)))))
        refine ⟨iN (List.length (dropZ (d.key) (dropZ (d.key) Z11))), rfl, .inr hS61, ?_⟩
        refine GoH.takeV 25 (.bool ((((List.length (dropZ (d.key) (dropZ (d.key) Z11))) : Nat) : Int) == (((n : Nat) : Int) - 1))) (.bool ((((List.length (dropZ (d.key) (dropZ (d.key) Z11))) : Nat) : Int) == (((n : Nat) : Int) - 1))) (some 151) (fun W_ => by kernel_rfl) rfl hS61 ?_
        refine GoH.takeV 26 (.bool ((((List.length (dropZ (d.key) (dropZ (d.key) Z11))) : Nat) : Int) == (((n : Nat) : Int) - 1))) (.bool ((((List.length (dropZ (d.key) (dropZ (d.key) Z11))) : Nat) : Int) == (((n : Nat) : Int) - 1))) (some 152) (fun W_ => by kernel_rfl) rfl hS61 ?_
        refine GoH.takeV 27 (.bool ((((List.length (dropZ (d.key) (dropZ (d.key) Z11))) : Nat) : Int) == (((n : Nat) : Int) - 1))) (.bool ((((List.length (dropZ (d.key) (dropZ (d.key) Z11))) : Nat) : Int) == (((n : Nat) : Int) - 1))) (some 4) (fun W_ => by kernel_rfl) rfl hS61 ?_
        refine GoH.done [4] [(4, .bool ((((List.length (dropZ (d.key) (dropZ (d.key) Z11))) : Nat) : Int) == (((n : Nat) : Int) - 1)))] (by kernel_rfl) (by kernel_rfl) ?_
        have hM62 := hM60.sub (sD (sD (sD (sD (sD sR)))))
        refine GoS.ret (fn := Try.f5) (v := (.bool ((((List.length (dropZ (d.key) (dropZ (d.key) Z11))) : Nat) : Int) == (((n : Nat) : Int) - 1)))) Try.func5 (by kernel_rfl) ?_
        rw [hR]
        have hq := ord_left hE
        rw [← dropZ_pc, ← dropZ_pc, List.length_map] at hq
        exact ⟨ret_bool (by rw [beq_iff_eq]; omega), (hM62.sub sN).below⟩
       ·
        exact absurd h57 (by rw [dropZ_pc, ord_gone hE]; simp)
      ·
       exact absurd h52 (by rw [ord_has hE]; simp)
  ·
   have h2p : ¬ (((i : Nat) : Int) < (((List.length ol) : Nat) : Int)) := of_decide_eq_false h2
   refine GoS.run [1, 2, 8, 10, 12, 13, 14, 93] [.n, .n, .n] _ [.inRegion (cops (csub (cd Try.f5) uOr18)) [], iC Try.f5 uOr12, iC Try.f5 uOr9, iL Try.f5 uOr0, .inBlock 4, iC Try.f5 uOr1] [(1, ov), (2, pq bd), (8, pq b8), (10, pq b10), (12, pq b), (13, iN n), (14, iN i), (93, .bool false)] w (by kernel_rfl) .nil ?_
   have o103 : (Instr.loadAt 29 (pq b10)).run Try.prog w = .ok (.agg #[sS ((docP (turnD d)).key), n2, w2]) w := c_loads (ys := [sS ((docP (turnD d)).key), n2, w2]) aE29 (hM.rd 4 rfl) (cel_obj b10 0) rfl (by intro j u hj; match j, hj with | 0, hj => exact hj | 1, hj => exact hj | 2, hj => exact hj | n + 3, hj => cases hj)
   have hM104 := hM.sub (sK (sK (sK (sK (sD sR)))))
   refine GoS.run [2, 8, 12, 13, 114, 115] [.n, .n, .n, .n, .n, .n, .n, .h (.agg #[sS ((docP (turnD d)).key), n2, w2])] _ [.inRegion (cops (csub (cd Try.f5) uOr5)) [2,3,4,5,6,7,8,9], iC Try.f5 uOr3, iC Try.f5 uOr2] [(2, pq bd), (8, pq b8), (12, pq b), (13, iN n), (114, pq b), (115, .agg #[sS ((docP (turnD d)).key), n2, w2])] w (by kernel_rfl) (.cons o103 .nil) ?_
   have hM105 : Mem [] w0 w (⟨29, 3, v, (List.length Z), (recs pzC Z)⟩ :: ⟨82, 1, (obj b), 1, [v]⟩ :: ⟨25, 3, (obj bd), 1, [sS (d.key), fv, nv]⟩ :: ⟨29, 3, (obj b8), 1, [sS ((docP d).key), n1, w1]⟩ :: T) := hM104.perm (pS pR)
   have hM106 : Mem [] w0 w (⟨82, 1, (obj b), 1, [v]⟩ :: ⟨29, 3, v, (List.length Z), (recs pzC Z)⟩ :: ⟨25, 3, (obj bd), 1, [sS (d.key), fv, nv]⟩ :: ⟨29, 3, (obj b8), 1, [sS ((docP d).key), n1, w1]⟩ :: T) := hM105.perm (pS pR)
   have hM107 : Mem [] w0 w ((⟨82, 1, (obj b), 1, [v]⟩ :: ⟨29, 3, v, (List.length Z), (recs pzC Z)⟩ :: T) ++ [⟨25, 3, (obj bd), 1, [sS (d.key), fv, nv]⟩, ⟨29, 3, (obj b8), 1, [sS ((docP d).key), n1, w1]⟩]) := swapT (R := [⟨25, 3, (obj bd), 1, [sS (d.key), fv, nv]⟩, ⟨29, 3, (obj b8), 1, [sS ((docP d).key), n1, w1]⟩]) (T := T) hM106
   refine GoS.call [2, 8, 12, 13] 19 #[pq b, .agg #[sS ((docP (turnD d)).key), n2, w2]] (some 116) [.inRegion (cops (csub (cd Try.f5) uOr5)) [3,4,5,6,7,8,9], iC Try.f5 uOr3, iC Try.f5 uOr2] [(2, pq bd), (8, pq b8), (12, pq b), (13, iN n)] (by kernel_rfl) (put_c b v Z T (hB.mono (fun r_ h_ => h_)) (by omega) (docP (turnD d)) n2 w2 (hp2.mono (fun r_ h_ => h_)) docP_small (Mem.lend (R := (⟨82, 1, (obj b), 1, [v]⟩ :: ⟨29, 3, v, (List.length Z), (recs pzC Z)⟩ :: T)) (L := [⟨25, 3, (obj bd), 1, [sS (d.key), fv, nv]⟩, ⟨29, 3, (obj b8), 1, [sS ((docP d).key), n1, w1]⟩]) hM107)) ?_
   rintro _ w108 ⟨v109, Z110, T111, rfl, hps112, hT113, hsub114, m115⟩
   refine ⟨_, rfl, ?_⟩
   have hM116 : Mem [] w0 w108 ((⟨82, 1, (obj b), 1, [v109]⟩ :: ⟨29, 3, v109, (List.length Z110), (recs pzC Z110)⟩ :: T111) ++ [⟨25, 3, (obj bd), 1, [sS (d.key), fv, nv]⟩, ⟨29, 3, (obj b8), 1, [sS ((docP d).key), n1, w1]⟩]) := Mem.back (R := (⟨82, 1, (obj b), 1, [v]⟩ :: ⟨29, 3, v, (List.length Z), (recs pzC Z)⟩ :: T)) (L := [⟨25, 3, (obj bd), 1, [sS (d.key), fv, nv]⟩, ⟨29, 3, (obj b8), 1, [sS ((docP d).key), n1, w1]⟩]) hM107 m115
   have hM117 : Mem [] w0 w108 (⟨82, 1, (obj b), 1, [v109]⟩ :: ⟨29, 3, v109, (List.length Z110), (recs pzC Z110)⟩ :: ⟨25, 3, (obj bd), 1, [sS (d.key), fv, nv]⟩ :: ⟨29, 3, (obj b8), 1, [sS ((docP d).key), n1, w1]⟩ :: T111) := swapT2 (R := [⟨25, 3, (obj bd), 1, [sS (d.key), fv, nv]⟩, ⟨29, 3, (obj b8), 1, [sS ((docP d).key), n1, w1]⟩]) (T := T111) hM116
   have hsub118 : ∀ r_ ∈ T, r_ ∈ T111 := fun r_ h_ => hsub114 r_ (h_)
   have hkq : (docP (turnD d)).key = d.key := by rw [turn_doc, doc_keyeq he]
   have hct : checkP (docP (turnD d)) = true := by rw [doc_check]; exact decide_eq_true (turn_zero.2 he)
   have hE : OrdE d.key (List.map PZ.pc Z110) n (docP (turnD d)) := by rw [hps112, ← hkq]; exact ord_end (by rw [hkq]; exact hO) hct docP_small
   have hlz : List.length Z110 = n := by have z := hE.len; rwa [List.length_map] at z
   refine GoS.run [2, 8, 12, 13, 118] [.n, .n] _ [.inRegion (cops (csub (cd Try.f5) uOr5)) [5,6,7,8,9], iC Try.f5 uOr3, iC Try.f5 uOr2] [(2, pq bd), (8, pq b8), (12, pq b), (13, iN n), (118, .bool (!(checkP (docP (turnD d)))))] w108 (by kernel_rfl) .nil ?_
   refine GoS.fork 118 (!(checkP (docP (turnD d)))) (by kernel_rfl) (fun h119 => ?_) (fun h119 => ?_)
   ·
    exact absurd h119 (by rw [hct]; simp)
   ·
    refine GoS.run [2, 8, 12, 13, 118, 119] [.n] _ [.inRegion (cops (csub (cd Try.f5) uOr5)) [6,7,8,9], iC Try.f5 uOr3, iC Try.f5 uOr2] [(2, pq bd), (8, pq b8), (12, pq b), (13, iN n), (118, .bool false), (119, pq b)] w108 (by kernel_rfl) .nil ?_
    refine GoS.call [2, 8, 12, 13, 118] 23 #[pq b] (some 120) [.inRegion (cops (csub (cd Try.f5) uOr5)) [7,8,9], iC Try.f5 uOr3, iC Try.f5 uOr2] [(2, pq bd), (8, pq b8), (12, pq b), (13, iN n), (118, .bool false)] (by kernel_rfl) (len_c b [] v109 Z110 (hM117.rd 0 rfl) (hM117.rd 1 rfl) (hT113.one hM117 (fun r_ h_ => mS (mS (mS (mS (h_))))))) ?_
    rintro _ w120 ⟨rfl, m121⟩
    refine ⟨_, rfl, ?_⟩
    have hM122 : Mem [] w0 w120 (⟨82, 1, (obj b), 1, [v109]⟩ :: ⟨29, 3, v109, (List.length Z110), (recs pzC Z110)⟩ :: ⟨25, 3, (obj bd), 1, [sS (d.key), fv, nv]⟩ :: ⟨29, 3, (obj b8), 1, [sS ((docP d).key), n1, w1]⟩ :: T111) := Mem.join (R := []) hM117 m121
    refine GoS.run [2, 8, 12, 13, 123] [.n, .n, .n] _ [.inRegion (cops (csub (cd Try.f5) uOr5)) [], iC Try.f5 uOr3, iC Try.f5 uOr2] [(2, pq bd), (8, pq b8), (12, pq b), (13, iN n), (123, .bool ((((List.length Z110) : Nat) : Int) != ((n : Nat) : Int)))] w120 (by kernel_rfl) .nil ?_
    refine GoS.run [2, 8, 12, 13, 123] [.n] _ [iC Try.f5 uOr3, iC Try.f5 uOr2] [(2, pq bd), (8, pq b8), (12, pq b), (13, iN n), (123, .bool ((((List.length Z110) : Nat) : Int) != ((n : Nat) : Int)))] w120 (by kernel_rfl) .nil ?_
    refine GoS.cond ((((List.length Z110) : Nat) : Int) != ((n : Nat) : Int)) [iC Try.f5 [1,1,1,1,1,1,1,1,1,1,1,1,0,1,0], iC Try.f5 uOr2] [iC Try.f5 [1,1,1,1,1,1,1,1,1,1,1,1,0,1,1], iC Try.f5 uOr2] (by kernel_rfl) (fun h123 => ?_) (fun h123 => ?_)
    ·
     exact absurd h123 (by rw [hlz]; simp)
    ·
     have h123p : (((List.length Z110) : Nat) : Int) = ((n : Nat) : Int) := p_eq h123
     refine GoS.run [2, 8, 12, 13] [.n] _ [iC Try.f5 uOr2] [(2, pq bd), (8, pq b8), (12, pq b), (13, iN n)] w120 (by kernel_rfl) .nil ?_
     refine GoS.run [2, 8, 12, 13, 124] [.n, .n, .n] _ [.inRegion (cops (csub (cd Try.f5) uOr13)) [1,2], iC Try.f5 uOr14] [(2, pq bd), (8, pq b8), (12, pq b), (13, iN n), (124, pq b)] w120 (by kernel_rfl) .nil ?_
     have hM124 : Mem [] w0 w120 (⟨29, 3, v109, (List.length Z110), (recs pzC Z110)⟩ :: ⟨82, 1, (obj b), 1, [v109]⟩ :: ⟨25, 3, (obj bd), 1, [sS (d.key), fv, nv]⟩ :: ⟨29, 3, (obj b8), 1, [sS ((docP d).key), n1, w1]⟩ :: T111) := hM122.perm (pS pR)
     have hM125 : Mem [] w0 w120 (⟨82, 1, (obj b), 1, [v109]⟩ :: ⟨29, 3, v109, (List.length Z110), (recs pzC Z110)⟩ :: ⟨25, 3, (obj bd), 1, [sS (d.key), fv, nv]⟩ :: ⟨29, 3, (obj b8), 1, [sS ((docP d).key), n1, w1]⟩ :: T111) := hM124.perm (pS pR)
     refine GoS.call [2, 8, 12, 13] 22 #[pq b] (some 125) [.inRegion (cops (csub (cd Try.f5) uOr13)) [2], iC Try.f5 uOr14] [(2, pq bd), (8, pq b8), (12, pq b), (13, iN n)] (by kernel_rfl) (pieces_c b v109 Z110 (hM125.rd 0 rfl) (hM125.rd 1 rfl) (fun z hz => (hT113 z hz).rd hM125 (fun r_ h_ => mS (mS (mS (mS (h_)))))) (fun z hz => hE.sm _ (List.mem_map_of_mem hz)) (by omega)) ?_
     rintro _ w126 ⟨v127, Y128, T129, rfl, hY130, hT131, m132⟩
     refine ⟨_, rfl, ?_⟩
     have hM133 : Mem [] w0 w126 (⟨29, 3, v127, (List.length Y128), (recs pzC Y128)⟩ :: ⟨82, 1, (obj b), 1, [v109]⟩ :: ⟨29, 3, v109, (List.length Z110), (recs pzC Z110)⟩ :: ⟨25, 3, (obj bd), 1, [sS (d.key), fv, nv]⟩ :: ⟨29, 3, (obj b8), 1, [sS ((docP d).key), n1, w1]⟩ :: (T111 ++ T129)) := joinC (R := [⟨82, 1, (obj b), 1, [v109]⟩, ⟨29, 3, v109, (List.length Z110), (recs pzC Z110)⟩, ⟨25, 3, (obj bd), 1, [sS (d.key), fv, nv]⟩, ⟨29, 3, (obj b8), 1, [sS ((docP d).key), n1, w1]⟩]) (A := T111) hM125 m132
     have hYl : List.length Y128 = n := by have z := congrArg List.length hY130; rw [List.length_map, List.length_map] at z; omega
     have hpos := hE.pos
     have honeY : OneZ Y128 := fun z hz => rdp_one ((hT131 z hz).rd hM133 (fun r_ h_ => mS (mS (mS (mS (mS (List.mem_append_right _ (h_))))))))
     have hlast : (List.getD Y128 (Int.toNat (((n : Nat) : Int) - 1)) pz).pc = docP d := by rw [show Int.toNat (((n : Nat) : Int) - 1) = n - 1 by omega, ← mapp_getD (by omega), hY130, hE.last, turn_doc]
     refine GoS.run [2, 8, 12, 13, 15] [.n, .n, .n] _ [iC Try.f5 [1,1,1,1,1,1,1,1,1,1,1,1,1,1,0], iC Try.f5 [1,1,1,1,1,1,1,1,1,1,1,1,1,1,1]] [(2, pq bd), (8, pq b8), (12, pq b), (13, iN n), (15, v127)] w126 (by kernel_rfl) .nil ?_
     obtain ⟨w134, hw135⟩ : ∃ w_, (w126).drewN 1 = w_ := ⟨_, rfl⟩
     refine GoS.held (fun W_ => Mem [] w0 W_ (⟨29, 3, v127, (List.length Y128), (recs pzC Y128)⟩ :: ⟨25, 3, (obj bd), 1, [sS (d.key), fv, nv]⟩ :: ⟨29, 3, (obj b8), 1, [sS ((docP d).key), n1, w1]⟩ :: (T111 ++ T129))) [] 27 (by kernel_rfl) (by kernel_rfl) 28 (by kernel_rfl) ?_
     rw [hw135]
     have hM136 : Mem [] w0 w134 (⟨29, 3, v127, (List.length Y128), (recs pzC Y128)⟩ :: ⟨82, 1, (obj b), 1, [v109]⟩ :: ⟨29, 3, v109, (List.length Z110), (recs pzC Z110)⟩ :: ⟨25, 3, (obj bd), 1, [sS (d.key), fv, nv]⟩ :: ⟨29, 3, (obj b8), 1, [sS ((docP d).key), n1, w1]⟩ :: (T111 ++ T129)) := hw135 ▸ hM133.ext (Kept.drewN _ _ 1)
     have hS137 := hM136.sub (sK (sD (sD (sK (sK sR)))))
     refine GoH.takeV 0 (v127) (v127) (some 126) (fun W_ => by kernel_rfl) rfl hS137 ?_
     refine GoH.takeV 1 (iN n) (iN n) (some 127) (fun W_ => by kernel_rfl) rfl hS137 ?_
     refine GoH.takeF 2 (.int .i64 (((n : Nat) : Int) - 1)) (fun W_ => (binOp .sub 3 (iN n) (.int .i64 1)).run Try.prog W_ = .ok (.int .i64 (((n : Nat) : Int) - 1)) W_) (some 128) (fun W_ => by kernel_rfl) (fun W_ hW_ => f_sub (IntWalk.i64_in _ (by omega))) hS137 ?_
     obtain ⟨p138, hp139, hq140⟩ := rd_at (i := (((n : Nat) : Int) - 1)) sT43 (hS137.rd 0 rfl) (Int.toNat (((n : Nat) : Int) - 1)) (by omega) (by first | omega | (dsimp only; omega))
     refine GoH.takeF 3 (.pointer (some p138)) (fun W_ => (Instr.indexAt 43 (v127) (.int .i64 (((n : Nat) : Int) - 1))).run Try.prog W_ = .ok (.pointer (some p138)) W_) (some 129) (fun W_ => by kernel_rfl) (fun W_ hW_ => hq140 _ _) hS137 ?_
     refine GoH.takeF 4 (.agg #[sS ((List.getD Y128 (Int.toNat (((n : Nat) : Int) - 1)) pz).pc.key), ((List.getD Y128 (Int.toNat (((n : Nat) : Int) - 1)) pz).nums), ((List.getD Y128 (Int.toNat (((n : Nat) : Int) - 1)) pz).words)]) (fun W_ => (Instr.loadAt 29 (.pointer (some p138))).run Try.prog W_ = .ok (.agg #[sS ((List.getD Y128 (Int.toNat (((n : Nat) : Int) - 1)) pz).pc.key), ((List.getD Y128 (Int.toNat (((n : Nat) : Int) - 1)) pz).nums), ((List.getD Y128 (Int.toNat (((n : Nat) : Int) - 1)) pz).words)]) W_) (some 130) (fun W_ => by kernel_rfl) (fun W_ hW_ => r_loads (f := pzC) (l := Y128) aE29 (hW_.rd 0 rfl) pzC_len hp139 (by first | omega | (dsimp only; omega)) pz) hS137 ?_
     refine GoH.takeF 5 (.agg #[sS ((docP d).key), n1, w1]) (fun W_ => (Instr.loadAt 29 (pq b8)).run Try.prog W_ = .ok (.agg #[sS ((docP d).key), n1, w1]) W_) (some 131) (fun W_ => by kernel_rfl) (fun W_ hW_ => c_loads (ys := [sS ((docP d).key), n1, w1]) aE29 (hW_.rd 2 rfl) (cel_obj b8 0) rfl (by intro j u hj; match j, hj with | 0, hj => exact hj | 1, hj => exact hj | 2, hj => exact hj | n + 3, hj => cases hj)) hS137 ?_
     refine GoH.callF 6 11 #[.agg #[sS ((List.getD Y128 (Int.toNat (((n : Nat) : Int) - 1)) pz).pc.key), ((List.getD Y128 (Int.toNat (((n : Nat) : Int) - 1)) pz).nums), ((List.getD Y128 (Int.toNat (((n : Nat) : Int) - 1)) pz).words)], .agg #[sS ((docP d).key), n1, w1]] (some 132) (by kernel_rfl) ((by have z := pone_c ((List.getD Y128 (Int.toNat (((n : Nat) : Int) - 1)) pz).pc) (docP d) ((List.getD Y128 (Int.toNat (((n : Nat) : Int) - 1)) pz).nums) ((List.getD Y128 (Int.toNat (((n : Nat) : Int) - 1)) pz).words) n1 w1 ((hT131 _ (getD_mem (i := (Int.toNat (((n : Nat) : Int) - 1))) (d := pz) (by omega))).rd hM136 (fun r_ h_ => mS (mS (mS (mS (mS (List.mem_append_right _ (h_)))))))) ((hp1.mono (fun r_ h_ => hsub118 r_ (h_))).rd hM136 (fun r_ h_ => mS (mS (mS (mS (mS (List.mem_append_left _ (h_)))))))); rw [decide_eq_true hlast] at z; exact z)) ?_
     rintro _ w141 ⟨rfl, m142⟩
     have hM143 : Mem [] w0 w141 (⟨29, 3, v127, (List.length Y128), (recs pzC Y128)⟩ :: ⟨82, 1, (obj b), 1, [v109]⟩ :: ⟨29, 3, v109, (List.length Z110), (recs pzC Z110)⟩ :: ⟨25, 3, (obj bd), 1, [sS (d.key), fv, nv]⟩ :: ⟨29, 3, (obj b8), 1, [sS ((docP d).key), n1, w1]⟩ :: (T111 ++ T129)) := Mem.join (R := []) hM136 m142
     have hS144 := hM143.sub (sK (sD (sD (sK (sK sR)))))
     refine ⟨.bool true, rfl, .inr hS144, ?_⟩
     refine GoH.takeV 7 (.bool true) (.bool true) (some 133) (fun W_ => by kernel_rfl) rfl hS144 ?_
     refine GoH.takeV 8 (pq b) (pq b) (some 134) (fun W_ => by kernel_rfl) rfl hS144 ?_
     refine GoH.takeV 9 (pq bd) (pq bd) (some 135) (fun W_ => by kernel_rfl) rfl hS144 ?_
     refine GoH.takeF 10 (sS (d.key)) (fun W_ => (Instr.loadAt 9 (pq bd)).run Try.prog W_ = .ok (sS (d.key)) W_) (some 136) (fun W_ => by kernel_rfl) (fun W_ hW_ => c_load pE9 (hW_.rd 1 rfl) (cel_obj bd 0) rfl) hS144 ?_
     have hM145 : Mem [] w0 w141 (⟨29, 3, v109, (List.length Z110), (recs pzC Z110)⟩ :: ⟨29, 3, v127, (List.length Y128), (recs pzC Y128)⟩ :: ⟨82, 1, (obj b), 1, [v109]⟩ :: ⟨25, 3, (obj bd), 1, [sS (d.key), fv, nv]⟩ :: ⟨29, 3, (obj b8), 1, [sS ((docP d).key), n1, w1]⟩ :: (T111 ++ T129)) := hM143.perm (pS (pS pR))
     have hM146 : Mem [] w0 w141 (⟨82, 1, (obj b), 1, [v109]⟩ :: ⟨29, 3, v109, (List.length Z110), (recs pzC Z110)⟩ :: ⟨29, 3, v127, (List.length Y128), (recs pzC Y128)⟩ :: ⟨25, 3, (obj bd), 1, [sS (d.key), fv, nv]⟩ :: ⟨29, 3, (obj b8), 1, [sS ((docP d).key), n1, w1]⟩ :: (T111 ++ T129)) := hM145.perm (pS (pS pR))
     refine GoH.callF 11 15 #[pq b, sS (d.key)] (some 137) (by kernel_rfl) (drop_c b (d.key) v109 Z110 (⟨29, 3, v127, (List.length Y128), (recs pzC Y128)⟩ :: ⟨25, 3, (obj bd), 1, [sS (d.key), fv, nv]⟩ :: ⟨29, 3, (obj b8), 1, [sS ((docP d).key), n1, w1]⟩ :: (T111 ++ T129)) (hT113.one hM146 (fun r_ h_ => mS (mS (mS (mS (mS (List.mem_append_left _ (h_)))))))) hM146) ?_
     rintro _ w147 ⟨v148, rfl, hM149⟩
     have hS150 := hM149.sub (sD (sD (sK (sK (sK sR)))))
     refine ⟨.bool (hasK (List.map PZ.pc Z110) (d.key)), rfl, .inr hS150, ?_⟩
     refine GoH.takeV 12 (.bool (hasK (List.map PZ.pc Z110) (d.key))) (.bool (hasK (List.map PZ.pc Z110) (d.key))) (some 138) (fun W_ => by kernel_rfl) rfl hS150 ?_
     rcases Bool.eq_false_or_eq_true (hasK (List.map PZ.pc Z110) (d.key)) with h151 | h151
     ·
      refine GoH.takeV 13 (.bool (hasK (List.map PZ.pc Z110) (d.key))) (.bool true) (some 139) (fun W_ => by kernel_rfl) (congrArg Value.bool h151) hS150 ?_
      refine GoH.takeV 14 (pq b) (pq b) (some 140) (fun W_ => by kernel_rfl) rfl hS150 ?_
      refine GoH.takeV 15 (pq bd) (pq bd) (some 141) (fun W_ => by kernel_rfl) rfl hS150 ?_
      refine GoH.takeF 16 (sS (d.key)) (fun W_ => (Instr.loadAt 9 (pq bd)).run Try.prog W_ = .ok (sS (d.key)) W_) (some 142) (fun W_ => by kernel_rfl) (fun W_ hW_ => c_load pE9 (hW_.rd 1 rfl) (cel_obj bd 0) rfl) hS150 ?_
      refine GoH.callF 17 15 #[pq b, sS (d.key)] (some 143) (by kernel_rfl) (drop_c b (d.key) v148 (dropZ (d.key) Z110) (⟨29, 3, v127, (List.length Y128), (recs pzC Y128)⟩ :: ⟨25, 3, (obj bd), 1, [sS (d.key), fv, nv]⟩ :: ⟨29, 3, (obj b8), 1, [sS ((docP d).key), n1, w1]⟩ :: (T111 ++ T129)) ((OwZ.drop hT113).one hM149 (fun r_ h_ => mS (mS (mS (mS (mS (List.mem_append_left _ (h_)))))))) hM149) ?_
      rintro _ w152 ⟨v153, rfl, hM154⟩
      have hS155 := hM154.sub (sD (sD (sK (sK (sK sR)))))
      refine ⟨.bool (hasK (List.map PZ.pc (dropZ (d.key) Z110)) (d.key)), rfl, .inr hS155, ?_⟩
      refine GoH.takeV 18 (.bool (!(hasK (List.map PZ.pc (dropZ (d.key) Z110)) (d.key)))) (.bool (!(hasK (List.map PZ.pc (dropZ (d.key) Z110)) (d.key)))) (some 144) (fun W_ => by kernel_rfl) rfl hS155 ?_
      refine GoH.takeV 19 (.bool (!(hasK (List.map PZ.pc (dropZ (d.key) Z110)) (d.key)))) (.bool (!(hasK (List.map PZ.pc (dropZ (d.key) Z110)) (d.key)))) (some 145) (fun W_ => by kernel_rfl) rfl hS155 ?_
      rcases Bool.eq_false_or_eq_true (!(hasK (List.map PZ.pc (dropZ (d.key) Z110)) (d.key))) with h156 | h156
      ·
       refine GoH.takeV 20 (.bool (!(hasK (List.map PZ.pc (dropZ (d.key) Z110)) (d.key)))) (.bool true) (some 146) (fun W_ => by kernel_rfl) (congrArg Value.bool h156) hS155 ?_
       refine GoH.takeV 21 (pq b) (pq b) (some 147) (fun W_ => by kernel_rfl) rfl hS155 ?_
       refine GoH.takeV 23 (iN n) (iN n) (some 149) (fun W_ => by kernel_rfl) rfl hS155 ?_
       refine GoH.takeF 24 (.int .i64 (((n : Nat) : Int) - 1)) (fun W_ => (binOp .sub 3 (iN n) (.int .i64 1)).run Try.prog W_ = .ok (.int .i64 (((n : Nat) : Int) - 1)) W_) (some 150) (fun W_ => by kernel_rfl) (fun W_ hW_ => f_sub (IntWalk.i64_in _ (by omega))) hS155 ?_
       refine GoH.callF 22 23 #[pq b] (some 148) (by kernel_rfl) (len_c b [] v153 (dropZ (d.key) (dropZ (d.key) Z110)) (hM154.rd 0 rfl) (hM154.rd 1 rfl) ((OwZ.drop (OwZ.drop hT113)).one hM154 (fun r_ h_ => mS (mS (mS (mS (mS (List.mem_append_left _ (h_))))))))) ?_
       rintro _ w157 ⟨rfl, m158⟩
       have hM159 : Mem [] w0 w157 (⟨82, 1, (obj b), 1, [v153]⟩ :: ⟨29, 3, v153, (List.length (dropZ (d.key) (dropZ (d.key) Z110))), (recs pzC (dropZ (d.key) (dropZ (d.key) Z110)))⟩ :: ⟨29, 3, v127, (List.length Y128), (recs pzC Y128)⟩ :: ⟨25, 3, (obj bd), 1, [sS (d.key), fv, nv]⟩ :: ⟨29, 3, (obj b8), 1, [sS ((docP d).key), n1, w1]⟩ :: (T111 ++ T129)) := Mem.join (R := []) hM154 m158
       have hS160 := hM159.sub (sD (sD (sK (sK (sK sR)))))
       refine ⟨iN (List.length (dropZ (d.key) (dropZ (d.key) Z110))), rfl, .inr hS160, ?_⟩
       refine GoH.takeV 25 (.bool ((((List.length (dropZ (d.key) (dropZ (d.key) Z110))) : Nat) : Int) == (((n : Nat) : Int) - 1))) (.bool ((((List.length (dropZ (d.key) (dropZ (d.key) Z110))) : Nat) : Int) == (((n : Nat) : Int) - 1))) (some 151) (fun W_ => by kernel_rfl) rfl hS160 ?_
       refine GoH.takeV 26 (.bool ((((List.length (dropZ (d.key) (dropZ (d.key) Z110))) : Nat) : Int) == (((n : Nat) : Int) - 1))) (.bool ((((List.length (dropZ (d.key) (dropZ (d.key) Z110))) : Nat) : Int) == (((n : Nat) : Int) - 1))) (some 152) (fun W_ => by kernel_rfl) rfl hS160 ?_
       refine GoH.takeV 27 (.bool ((((List.length (dropZ (d.key) (dropZ (d.key) Z110))) : Nat) : Int) == (((n : Nat) : Int) - 1))) (.bool ((((List.length (dropZ (d.key) (dropZ (d.key) Z110))) : Nat) : Int) == (((n : Nat) : Int) - 1))) (some 4) (fun W_ => by kernel_rfl) rfl hS160 ?_
       refine GoH.done [4] [(4, .bool ((((List.length (dropZ (d.key) (dropZ (d.key) Z110))) : Nat) : Int) == (((n : Nat) : Int) - 1)))] (by kernel_rfl) (by kernel_rfl) ?_
       have hM161 := hM159.sub (sD (sD (sD (sD (sD sR)))))
       refine GoS.ret (fn := Try.f5) (v := (.bool ((((List.length (dropZ (d.key) (dropZ (d.key) Z110))) : Nat) : Int) == (((n : Nat) : Int) - 1)))) Try.func5 (by kernel_rfl) ?_
       rw [hR]
       have hq := ord_left hE
       rw [← dropZ_pc, ← dropZ_pc, List.length_map] at hq
       exact ⟨ret_bool (by rw [beq_iff_eq]; omega), (hM161.sub sN).below⟩
      ·
       exact absurd h156 (by rw [dropZ_pc, ord_gone hE]; simp)
     ·
      exact absurd h151 (by rw [ord_has hE]; simp)

set_option maxHeartbeats 2000000 in
theorem lorder_L2 {w0 : World} (d : Dc) (fv nv : Value) (ov : Value) (ol : List (List UInt8)) (hf : Rd w0 2 fv d.fields.length (recs fdC d.fields)) (hn : Rd w0 2 nv d.nums.length (recs nmC d.nums)) (ho : Rd w0 1 ov ol.length (svals ol)) (hs1 : d.fields.length ≤ 4398046510976) (hs2 : d.nums.length ≤ 5864062014634) (bd bt : Nat) (vf : Value) (R : Ending → World → Prop) (hR : R = (fun e w' => e = .returned (.bool true) ∧ Below w0.heap.size w0 w')) : ∀ (N : Nat) (vn : Value) (k : Nat) (w : World) (hk : k ≤ d.nums.length) (hM : Mem [] w0 w [⟨60, 2, vn, (List.length (List.take (List.length d.nums - k) (List.reverse d.nums))), (recs nmC (List.take (List.length d.nums - k) (List.reverse d.nums)))⟩, ⟨57, 2, vf, (List.length (List.reverse d.fields)), (recs fdC (List.reverse d.fields))⟩, ⟨25, 3, (obj bd), 1, [sS (d.key), fv, nv]⟩, ⟨25, 3, (obj bt), 1, [sS (d.key), vf, vn]⟩]) (hN : k < N), GoS Try.prog 5 R 153 [iC Try.f5 uOr6, iL Try.f5 uOr6, .inBlock 2, iC Try.f5 [1,1,1,1]] [(1, ov), (2, pq bd), (5, pq bt), (7, .int .i64 (((k : Nat) : Int) - 1))] w := by
 intro N
 induction N with
 | zero => intro vn k w hk hM hN; exact absurd hN (Nat.not_lt_zero _)
 | succ N ih =>
  intro vn k w hk hM hN
  have hol := rd_len ho
  simp only [maxLen] at hol
  refine GoS.run [1, 2, 5, 7, 42] [.n, .n, .n, .n, .n, .n] _ [iC Try.f5 [1,1,1,0,1,0,0,0,1], iC Try.f5 uOr15, iL Try.f5 uOr6, .inBlock 2, iC Try.f5 [1,1,1,1]] [(1, ov), (2, pq bd), (5, pq bt), (7, .int .i64 (((k : Nat) : Int) - 1)), (42, .bool (decide ((((k : Nat) : Int) - 1) ≥ 0)))] w (by kernel_rfl) .nil ?_
  refine GoS.cond (decide ((((k : Nat) : Int) - 1) ≥ 0)) [iC Try.f5 [1,1,1,0,1,0,0,0,1,0], iC Try.f5 uOr15, iL Try.f5 uOr6, .inBlock 2, iC Try.f5 [1,1,1,1]] [iC Try.f5 [1,1,1,0,1,0,0,0,1,1], iC Try.f5 uOr15, iL Try.f5 uOr6, .inBlock 2, iC Try.f5 [1,1,1,1]] (by kernel_rfl) (fun h1 => ?_) (fun h1 => ?_)
  ·
   have h1p : (((k : Nat) : Int) - 1) ≥ 0 := of_decide_eq_true h1
   refine GoS.run [1, 2, 5, 7] [.n] _ [iC Try.f5 uOr15, iL Try.f5 uOr6, .inBlock 2, iC Try.f5 [1,1,1,1]] [(1, ov), (2, pq bd), (5, pq bt), (7, .int .i64 (((k : Nat) : Int) - 1))] w (by kernel_rfl) .nil ?_
   refine GoS.run [1, 2, 5, 7] [.n, .n] _ [iC Try.f5 [1,1,1,0,1,0,0,1,0,0], .inBlock 3, iC Try.f5 [1,1,1,0,1,0,0,1,1], iL Try.f5 uOr6, .inBlock 2, iC Try.f5 [1,1,1,1]] [(1, ov), (2, pq bd), (5, pq bt), (7, .int .i64 (((k : Nat) : Int) - 1))] w (by kernel_rfl) .nil ?_
   obtain ⟨w79, hw80⟩ : ∃ w_, (w).drewN 1 = w_ := ⟨_, rfl⟩
   refine GoS.held (fun W_ => Mem [] w0 W_ [⟨57, 2, vf, (List.length (List.reverse d.fields)), (recs fdC (List.reverse d.fields))⟩, ⟨25, 3, (obj bd), 1, [sS (d.key), fv, nv]⟩, ⟨25, 3, (obj bt), 1, [sS (d.key), vf, vn]⟩]) [10] 9 (by kernel_rfl) (by kernel_rfl) 11 (by kernel_rfl) ?_
   rw [hw80]
   have hM81 : Mem [] w0 w79 [⟨60, 2, vn, (List.length (List.take (List.length d.nums - k) (List.reverse d.nums))), (recs nmC (List.take (List.length d.nums - k) (List.reverse d.nums)))⟩, ⟨57, 2, vf, (List.length (List.reverse d.fields)), (recs fdC (List.reverse d.fields))⟩, ⟨25, 3, (obj bd), 1, [sS (d.key), fv, nv]⟩, ⟨25, 3, (obj bt), 1, [sS (d.key), vf, vn]⟩] := hw80 ▸ hM.ext (Kept.drewN _ _ 1)
   have hS82 := hM81.sub (sD (sK (sK (sK sR))))
   refine GoH.takeV 0 (.pointer (some (⟨bt, 2, none⟩))) (.pointer (some (⟨bt, 2, none⟩))) (some 45) (fun W_ => by kernel_rfl) rfl hS82 ?_
   refine GoH.takeF 1 (vn) (fun W_ => (Instr.loadAt 23 (.pointer (some (⟨bt, 2, none⟩)))).run Try.prog W_ = .ok (vn) W_) (some 46) (fun W_ => by kernel_rfl) (fun W_ hW_ => c_load pE23 (hW_.rd 2 rfl) (cel_obj bt 2) rfl) hS82 ?_
   refine GoH.takeV 2 (.pointer (some (⟨bd, 2, none⟩))) (.pointer (some (⟨bd, 2, none⟩))) (some 47) (fun W_ => by kernel_rfl) rfl hS82 ?_
   refine GoH.takeF 3 (nv) (fun W_ => (Instr.loadAt 23 (.pointer (some (⟨bd, 2, none⟩)))).run Try.prog W_ = .ok (nv) W_) (some 48) (fun W_ => by kernel_rfl) (fun W_ hW_ => c_load pE23 (hW_.rd 1 rfl) (cel_obj bd 2) rfl) hS82 ?_
   refine GoH.takeV 4 (.int .i64 (((k : Nat) : Int) - 1)) (.int .i64 (((k : Nat) : Int) - 1)) (some 49) (fun W_ => by kernel_rfl) rfl hS82 ?_
   obtain ⟨p83, hp84, hq85⟩ := rd_at (i := (((k : Nat) : Int) - 1)) sT23 (hn.kept0 hS82.kept) (Int.toNat (((k : Nat) : Int) - 1)) (by omega) (by first | omega | (dsimp only; omega))
   refine GoH.takeF 5 (.pointer (some p83)) (fun W_ => (Instr.indexAt 23 (nv) (.int .i64 (((k : Nat) : Int) - 1))).run Try.prog W_ = .ok (.pointer (some p83)) W_) (some 50) (fun W_ => by kernel_rfl) (fun W_ hW_ => hq85 _ _) hS82 ?_
   refine GoH.takeF 6 (.agg #[sS ((List.getD (d.nums) (Int.toNat (((k : Nat) : Int) - 1)) nz).name), .int .u64 ((List.getD (d.nums) (Int.toNat (((k : Nat) : Int) - 1)) nz).bits)]) (fun W_ => (Instr.loadAt 60 (.pointer (some p83))).run Try.prog W_ = .ok (.agg #[sS ((List.getD (d.nums) (Int.toNat (((k : Nat) : Int) - 1)) nz).name), .int .u64 ((List.getD (d.nums) (Int.toNat (((k : Nat) : Int) - 1)) nz).bits)]) W_) (some 51) (fun W_ => by kernel_rfl) (fun W_ hW_ => r_loads (f := nmC) (l := (d.nums)) aE60 (hn.kept0 hW_.kept) nmC_len hp84 (by first | omega | (dsimp only; omega)) nz) hS82 ?_
   obtain ⟨v86, w87, hr88, hM89⟩ := m_lit sT23 hM81 (n := 1) (parts := #[(0, .agg #[sS ((List.getD (d.nums) (Int.toNat (((k : Nat) : Int) - 1)) nz).name), .int .u64 ((List.getD (d.nums) (Int.toNat (((k : Nat) : Int) - 1)) nz).bits)])]) (cs := [sS ((List.getD (d.nums) (Int.toNat (((k : Nat) : Int) - 1)) nz).name), .int .u64 ((List.getD (d.nums) (Int.toNat (((k : Nat) : Int) - 1)) nz).bits)]) (by decide) (by kernel_rfl) rfl
   have hS90 := hM89.sub (sD (sD (sK (sK (sK sR)))))
   refine GoH.stepF 7 (v86) (w87) ((Instr.buildSlice 23 1 #[(0, .agg #[sS ((List.getD (d.nums) (Int.toNat (((k : Nat) : Int) - 1)) nz).name), .int .u64 ((List.getD (d.nums) (Int.toNat (((k : Nat) : Int) - 1)) nz).bits)])]).run Try.prog w79 = .ok v86 w87) (some 52) (by kernel_rfl) (hr88) (.inr hS90) ?_
   obtain ⟨v91, w92, hr93, hM94⟩ := m_append sT23 hM89 1 rfl (hM89.rd 0 rfl) (by intro u hu; simp at hu; rcases hu with rfl | rfl <;> rfl) (by first | omega | ((try dsimp only); simp only [List.length_take, List.length_reverse]; omega)) (by first | omega | ((try dsimp only); simp only [List.length_take, List.length_reverse]; omega)) 23
   have hM95 : Mem [] w0 w92 [⟨60, 2, v86, 1, [sS ((List.getD (d.nums) (Int.toNat (((k : Nat) : Int) - 1)) nz).name), .int .u64 ((List.getD (d.nums) (Int.toNat (((k : Nat) : Int) - 1)) nz).bits)]⟩, ⟨60, 2, v91, (List.length ((List.take (List.length d.nums - k) (List.reverse d.nums)) ++ ([(Nm.mk ((List.getD (d.nums) (Int.toNat (((k : Nat) : Int) - 1)) nz).name) ((List.getD (d.nums) (Int.toNat (((k : Nat) : Int) - 1)) nz).bits))] : List Nm))), (recs nmC ((List.take (List.length d.nums - k) (List.reverse d.nums)) ++ ([(Nm.mk ((List.getD (d.nums) (Int.toNat (((k : Nat) : Int) - 1)) nz).name) ((List.getD (d.nums) (Int.toNat (((k : Nat) : Int) - 1)) nz).bits))] : List Nm)))⟩, ⟨57, 2, vf, (List.length (List.reverse d.fields)), (recs fdC (List.reverse d.fields))⟩, ⟨25, 3, (obj bd), 1, [sS (d.key), fv, nv]⟩, ⟨25, 3, (obj bt), 1, [sS (d.key), vf, vn]⟩] := hM94.cast (by first | (simp [ivals, svals, bvals, nvals, u8s, Nat.add_assoc, recs, nmC]; done) | (simp [ivals, svals, bvals, nvals, u8s, Nat.add_assoc, recs, nmC]; omega))
   have hS96 := hM95.sub (sD (sD (sK (sK (sK sR)))))
   refine GoH.stepF 8 (v91) (w92) ((Builtin.append_ #[23, 23] 23 #[vn, v86]).run Try.prog w87 = .ok v91 w92) (some 53) (by kernel_rfl) (hr93) (.inr hS96) ?_
   refine GoH.takeV 9 (.pointer (some (⟨bt, 2, none⟩))) (.pointer (some (⟨bt, 2, none⟩))) (some 54) (fun W_ => by kernel_rfl) rfl hS96 ?_
   obtain ⟨w97, hr98, hM99⟩ := c_store (u := v91) (by kernel_rfl) hM95 4 rfl (cel_obj bt 2) (by decide) (rd_one (hM95.rd 1 rfl)) (rd_cells (hM95.rd 1 rfl))
   have hM100 : Mem [] w0 w97 [⟨60, 2, v86, 1, [sS ((List.getD (d.nums) (Int.toNat (((k : Nat) : Int) - 1)) nz).name), .int .u64 ((List.getD (d.nums) (Int.toNat (((k : Nat) : Int) - 1)) nz).bits)]⟩, ⟨60, 2, v91, (List.length ((List.take (List.length d.nums - k) (List.reverse d.nums)) ++ ([(Nm.mk ((List.getD (d.nums) (Int.toNat (((k : Nat) : Int) - 1)) nz).name) ((List.getD (d.nums) (Int.toNat (((k : Nat) : Int) - 1)) nz).bits))] : List Nm))), (recs nmC ((List.take (List.length d.nums - k) (List.reverse d.nums)) ++ ([(Nm.mk ((List.getD (d.nums) (Int.toNat (((k : Nat) : Int) - 1)) nz).name) ((List.getD (d.nums) (Int.toNat (((k : Nat) : Int) - 1)) nz).bits))] : List Nm)))⟩, ⟨57, 2, vf, (List.length (List.reverse d.fields)), (recs fdC (List.reverse d.fields))⟩, ⟨25, 3, (obj bd), 1, [sS (d.key), fv, nv]⟩, ⟨25, 3, (obj bt), 1, [sS (d.key), vf, v91]⟩] := hM99
   refine GoH.stepF 10 (undef) (w97) ((Instr.storeAt 23 (.pointer (some (⟨bt, 2, none⟩))) (v91)).run Try.prog w92 = .ok () w97 ∧ undef = undef) none (by kernel_rfl) (⟨hr98, rfl⟩) (.inl rfl) ?_
   refine GoH.done [1, 2, 5, 7] [(1, ov), (2, pq bd), (5, pq bt), (7, .int .i64 (((k : Nat) : Int) - 1))] (by kernel_rfl) (by kernel_rfl) ?_
   have hM101 := hM100.sub (sD (sK (sK (sK (sK sR)))))
   have o102 : (binOp .sub 3 (.int .i64 (((k : Nat) : Int) - 1)) (.int .i64 1)).run Try.prog w97 = .ok (.int .i64 ((((k : Nat) : Int) - 1) - 1)) w97 := f_sub (IntWalk.i64_in _ (by omega))
   refine GoS.run [1, 2, 5, 7] [.n, .n, .n, .h (.int .i64 ((((k : Nat) : Int) - 1) - 1)), .n, .n, .n] _ [iC Try.f5 uOr6, iL Try.f5 uOr6, .inBlock 2, iC Try.f5 [1,1,1,1]] [(1, ov), (2, pq bd), (5, pq bt), (7, .int .i64 ((((k : Nat) : Int) - 1) - 1))] w97 (by kernel_rfl) (.cons o102 .nil) ?_
   have hkk : Int.toNat (((k : Nat) : Int) - 1) = k - 1 := by omega
   exact GoS.cast (by rw [show (((k : Nat) : Int) - 1) - 1 = (((k - 1 : Nat) : Nat) : Int) - 1 by omega]) (ih v91 (k - 1) _ (by omega) ((hM101.sub (sK (sK (sK (sK sN))))).cast (by rw [hkk, rev_snoc nz (k := k) (m := k - 1) (by omega) (by omega)])) (by omega))
  ·
   have h1p : ¬ ((((k : Nat) : Int) - 1) ≥ 0) := of_decide_eq_false h1
   have o2 : (Instr.loadAt 25 (pq bd)).run Try.prog w = .ok (.agg #[sS (d.key), fv, nv]) w := c_loads (ys := [sS (d.key), fv, nv]) aE25 (hM.rd 2 rfl) (cel_obj bd 0) rfl (by intro j u hj; match j, hj with | 0, hj => exact hj | 1, hj => exact hj | 2, hj => exact hj | n + 3, hj => cases hj)
   refine GoS.run [1, 2, 5, 56] [.n, .n, .n, .h (.agg #[sS (d.key), fv, nv])] _ [.inRegion (cops (csub (cd Try.f5) [1,1,1,1,0])) [1,2,3,4,5,6,7], iC Try.f5 [1,1,1,1,1]] [(1, ov), (2, pq bd), (5, pq bt), (56, .agg #[sS (d.key), fv, nv])] w (by kernel_rfl) (.cons o2 .nil) ?_
   refine GoS.call [1, 2, 5] 8 #[.agg #[sS (d.key), fv, nv]] (some 57) [.inRegion (cops (csub (cd Try.f5) [1,1,1,1,0])) [2,3,4,5,6,7], iC Try.f5 [1,1,1,1,1]] [(1, ov), (2, pq bd), (5, pq bt)] (by kernel_rfl) (piece_c d fv nv (hf.kept0 hM.kept) (hn.kept0 hM.kept)) ?_
   rintro _ w3 ⟨v4, v5, T6, rfl, ho7, m8⟩
   refine ⟨_, rfl, ?_⟩
   have hM9 : Mem [] w0 w3 (⟨60, 2, vn, (List.length (List.take (List.length d.nums - k) (List.reverse d.nums))), (recs nmC (List.take (List.length d.nums - k) (List.reverse d.nums)))⟩ :: ⟨57, 2, vf, (List.length (List.reverse d.fields)), (recs fdC (List.reverse d.fields))⟩ :: ⟨25, 3, (obj bd), 1, [sS (d.key), fv, nv]⟩ :: ⟨25, 3, (obj bt), 1, [sS (d.key), vf, vn]⟩ :: T6) := joinT0 (R := [⟨60, 2, vn, (List.length (List.take (List.length d.nums - k) (List.reverse d.nums))), (recs nmC (List.take (List.length d.nums - k) (List.reverse d.nums)))⟩, ⟨57, 2, vf, (List.length (List.reverse d.fields)), (recs fdC (List.reverse d.fields))⟩, ⟨25, 3, (obj bd), 1, [sS (d.key), fv, nv]⟩, ⟨25, 3, (obj bt), 1, [sS (d.key), vf, vn]⟩]) hM m8
   obtain ⟨b10, w11, hr12, hM13⟩ := m_alloc oT29 hM9
   have hM14 : Mem [] w0 w11 (⟨29, 3, (obj b10), 1, [sS ([]), .slice none 0 0, .slice none 0 0]⟩ :: ⟨60, 2, vn, (List.length (List.take (List.length d.nums - k) (List.reverse d.nums))), (recs nmC (List.take (List.length d.nums - k) (List.reverse d.nums)))⟩ :: ⟨57, 2, vf, (List.length (List.reverse d.fields)), (recs fdC (List.reverse d.fields))⟩ :: ⟨25, 3, (obj bd), 1, [sS (d.key), fv, nv]⟩ :: ⟨25, 3, (obj bt), 1, [sS (d.key), vf, vn]⟩ :: T6) := hM13
   obtain ⟨w15, hr16, hM17⟩ := c_stores (ys := [sS ((docP d).key), v4, v5]) aE29 hM14 0 rfl (cel_obj b10 0) rfl (by decide) (by intro u hu; simp at hu; rcases hu with rfl | rfl | rfl <;> first | rfl | exact (rdp_one (ho7.rd hM14 (fun r_ h_ => mS (mS (mS (mS (mS (h_)))))))).1.1 | exact (rdp_one (ho7.rd hM14 (fun r_ h_ => mS (mS (mS (mS (mS (h_)))))))).2.1)
   have hM18 : Mem [] w0 w15 (⟨29, 3, (obj b10), 1, [sS ((docP d).key), v4, v5]⟩ :: ⟨60, 2, vn, (List.length (List.take (List.length d.nums - k) (List.reverse d.nums))), (recs nmC (List.take (List.length d.nums - k) (List.reverse d.nums)))⟩ :: ⟨57, 2, vf, (List.length (List.reverse d.fields)), (recs fdC (List.reverse d.fields))⟩ :: ⟨25, 3, (obj bd), 1, [sS (d.key), fv, nv]⟩ :: ⟨25, 3, (obj bt), 1, [sS (d.key), vf, vn]⟩ :: T6) := hM17
   have o19 : (Instr.storeAt 29 (pq b10) (.agg #[sS ((docP d).key), v4, v5])).run Try.prog w11 = .ok () w15 ∧ undef = undef := ⟨hr16, rfl⟩
   have o20 : (Instr.loadAt 25 (pq bt)).run Try.prog w15 = .ok (.agg #[sS (d.key), vf, vn]) w15 := c_loads (ys := [sS (d.key), vf, vn]) aE25 (hM18.rd 4 rfl) (cel_obj bt 0) rfl (by intro j u hj; match j, hj with | 0, hj => exact hj | 1, hj => exact hj | 2, hj => exact hj | n + 3, hj => cases hj)
   have hM21 := hM18.sub (sK (sK (sK (sK (sD sR)))))
   refine GoS.run [1, 2, 8, 9, 61] [.n, .n, .n, .u (pq b10) (w11), .u (undef) (w15), .n, .n, .n, .n, .h (.agg #[sS (d.key), vf, vn])] _ [.inRegion (cops (csub (cd Try.f5) [1,1,1,1,1,0])) [1,2,3,4,5,6,7], iC Try.f5 [1,1,1,1,1,1]] [(1, ov), (2, pq bd), (8, pq b10), (9, .int .i64 (docE d)), (61, .agg #[sS (d.key), vf, vn])] w15 (by kernel_rfl) (.cons hr12 (.cons o19 (.cons o20 .nil))) ?_
   refine GoS.call [1, 2, 8, 9] 8 #[.agg #[sS (d.key), vf, vn]] (some 62) [.inRegion (cops (csub (cd Try.f5) [1,1,1,1,1,0])) [2,3,4,5,6,7], iC Try.f5 [1,1,1,1,1,1]] [(1, ov), (2, pq bd), (8, pq b10), (9, .int .i64 (docE d))] (by kernel_rfl) (piece_c (turnD d) vf vn (hM21.rd 2 rfl) (by have e9 : List.take (d.nums.length - k) d.nums.reverse = d.nums.reverse := List.take_of_length_le (by rw [List.length_reverse]; omega); have z := (hM21.rd 1 rfl); rw [e9] at z; exact z)) ?_
   rintro _ w22 ⟨v23, v24, T25, rfl, ho26, m27⟩
   refine ⟨_, rfl, ?_⟩
   have hM28 : Mem [] w0 w22 (⟨29, 3, (obj b10), 1, [sS ((docP d).key), v4, v5]⟩ :: ⟨60, 2, vn, (List.length (List.take (List.length d.nums - k) (List.reverse d.nums))), (recs nmC (List.take (List.length d.nums - k) (List.reverse d.nums)))⟩ :: ⟨57, 2, vf, (List.length (List.reverse d.fields)), (recs fdC (List.reverse d.fields))⟩ :: ⟨25, 3, (obj bd), 1, [sS (d.key), fv, nv]⟩ :: (T6 ++ T25)) := joinT (R := [⟨29, 3, (obj b10), 1, [sS ((docP d).key), v4, v5]⟩, ⟨60, 2, vn, (List.length (List.take (List.length d.nums - k) (List.reverse d.nums))), (recs nmC (List.take (List.length d.nums - k) (List.reverse d.nums)))⟩, ⟨57, 2, vf, (List.length (List.reverse d.fields)), (recs fdC (List.reverse d.fields))⟩, ⟨25, 3, (obj bd), 1, [sS (d.key), fv, nv]⟩]) (A := T6) hM21 m27
   obtain ⟨b29, w30, hr31, hM32⟩ := m_alloc oT29 hM28
   have hM33 : Mem [] w0 w30 (⟨29, 3, (obj b29), 1, [sS ([]), .slice none 0 0, .slice none 0 0]⟩ :: ⟨29, 3, (obj b10), 1, [sS ((docP d).key), v4, v5]⟩ :: ⟨60, 2, vn, (List.length (List.take (List.length d.nums - k) (List.reverse d.nums))), (recs nmC (List.take (List.length d.nums - k) (List.reverse d.nums)))⟩ :: ⟨57, 2, vf, (List.length (List.reverse d.fields)), (recs fdC (List.reverse d.fields))⟩ :: ⟨25, 3, (obj bd), 1, [sS (d.key), fv, nv]⟩ :: (T6 ++ T25)) := hM32
   obtain ⟨w34, hr35, hM36⟩ := c_stores (ys := [sS ((docP (turnD d)).key), v23, v24]) aE29 hM33 0 rfl (cel_obj b29 0) rfl (by decide) (by intro u hu; simp at hu; rcases hu with rfl | rfl | rfl <;> first | rfl | exact (rdp_one (ho26.rd hM33 (fun r_ h_ => mS (mS (mS (mS (mS (List.mem_append_right _ (h_))))))))).1.1 | exact (rdp_one (ho26.rd hM33 (fun r_ h_ => mS (mS (mS (mS (mS (List.mem_append_right _ (h_))))))))).2.1)
   have hM37 : Mem [] w0 w34 (⟨29, 3, (obj b29), 1, [sS ((docP (turnD d)).key), v23, v24]⟩ :: ⟨29, 3, (obj b10), 1, [sS ((docP d).key), v4, v5]⟩ :: ⟨60, 2, vn, (List.length (List.take (List.length d.nums - k) (List.reverse d.nums))), (recs nmC (List.take (List.length d.nums - k) (List.reverse d.nums)))⟩ :: ⟨57, 2, vf, (List.length (List.reverse d.fields)), (recs fdC (List.reverse d.fields))⟩ :: ⟨25, 3, (obj bd), 1, [sS (d.key), fv, nv]⟩ :: (T6 ++ T25)) := hM36
   have o38 : (Instr.storeAt 29 (pq b29) (.agg #[sS ((docP (turnD d)).key), v23, v24])).run Try.prog w30 = .ok () w34 ∧ undef = undef := ⟨hr35, rfl⟩
   have hM39 := hM37.sub (sK (sK (sD (sD (sK sR)))))
   refine GoS.run [1, 2, 8, 9, 10, 11] [.n, .n, .n, .u (pq b29) (w30), .u (undef) (w34), .n, .n, .n, .n, .n] _ [.inRegion (cops (csub (cd Try.f5) uOr16)) [0,1,2,3,4,5,6,7,8,9,10,11,12,13,14], iC Try.f5 uOr17, iC Try.f5 [1,1,1,1,1,1,1]] [(1, ov), (2, pq bd), (8, pq b10), (9, .int .i64 (docE d)), (10, pq b29), (11, .int .i64 (docE (turnD d)))] w34 (by kernel_rfl) (.cons hr31 (.cons o38 .nil)) ?_
   refine GoS.call [1, 2, 8, 9, 10, 11] 10 #[] (some 65) [.inRegion (cops (csub (cd Try.f5) uOr16)) [1,2,3,4,5,6,7,8,9,10,11,12,13,14], iC Try.f5 uOr17, iC Try.f5 [1,1,1,1,1,1,1]] [(1, ov), (2, pq bd), (8, pq b10), (9, .int .i64 (docE d)), (10, pq b29), (11, .int .i64 (docE (turnD d)))] (by kernel_rfl) (awake_c w34) ?_
   rintro _ w40 ⟨rfl, m41⟩
   refine ⟨_, rfl, ?_⟩
   have hM42 : Mem [] w0 w40 (⟨29, 3, (obj b29), 1, [sS ((docP (turnD d)).key), v23, v24]⟩ :: ⟨29, 3, (obj b10), 1, [sS ((docP d).key), v4, v5]⟩ :: ⟨25, 3, (obj bd), 1, [sS (d.key), fv, nv]⟩ :: (T6 ++ T25)) := Mem.join (R := []) hM39 m41
   have o43 : Try.prog.underlying 4 = some .bool ∧ w40 = w40 ∧ Value.bool false = .bool (!(((docE d) == 0) == ((docE (turnD d)) == 0))) := ⟨by kernel_rfl, rfl, congrArg Value.bool (Eq.symm ((by rw [turn_beq, beq_self_eq_true]; rfl)))⟩
   have o44 : (Instr.loadAt 29 (pq b10)).run Try.prog w40 = .ok (.agg #[sS ((docP d).key), v4, v5]) w40 := c_loads (ys := [sS ((docP d).key), v4, v5]) aE29 (hM42.rd 1 rfl) (cel_obj b10 0) rfl (by intro j u hj; match j, hj with | 0, hj => exact hj | 1, hj => exact hj | 2, hj => exact hj | n + 3, hj => cases hj)
   have o45 : (Instr.loadAt 29 (pq b29)).run Try.prog w40 = .ok (.agg #[sS ((docP (turnD d)).key), v23, v24]) w40 := c_loads (ys := [sS ((docP (turnD d)).key), v23, v24]) aE29 (hM42.rd 0 rfl) (cel_obj b29 0) rfl (by intro j u hj; match j, hj with | 0, hj => exact hj | 1, hj => exact hj | 2, hj => exact hj | n + 3, hj => cases hj)
   refine GoS.run [1, 2, 8, 9, 10, 74, 75, 76] [.n, .n, .n, .n, .n, .n, .h (.bool false), .n, .n, .h (.agg #[sS ((docP d).key), v4, v5]), .h (.agg #[sS ((docP (turnD d)).key), v23, v24])] _ [.inRegion (cops (csub (cd Try.f5) uOr16)) [12,13,14], iC Try.f5 uOr17, iC Try.f5 [1,1,1,1,1,1,1]] [(1, ov), (2, pq bd), (8, pq b10), (9, .int .i64 (docE d)), (10, pq b29), (74, .bool false), (75, .agg #[sS ((docP d).key), v4, v5]), (76, .agg #[sS ((docP (turnD d)).key), v23, v24])] w40 (by kernel_rfl) (.cons o43 (.cons o44 (.cons o45 .nil))) ?_
   refine GoS.call [1, 2, 8, 9, 10, 74] 11 #[.agg #[sS ((docP d).key), v4, v5], .agg #[sS ((docP (turnD d)).key), v23, v24]] (some 77) [.inRegion (cops (csub (cd Try.f5) uOr16)) [13,14], iC Try.f5 uOr17, iC Try.f5 [1,1,1,1,1,1,1]] [(1, ov), (2, pq bd), (8, pq b10), (9, .int .i64 (docE d)), (10, pq b29), (74, .bool false)] (by kernel_rfl) ((by have z := pone_c (docP d) (docP (turnD d)) v4 v5 v23 v24 (ho7.rd hM42 (fun r_ h_ => mS (mS (mS (List.mem_append_left _ (h_)))))) (ho26.rd hM42 (fun r_ h_ => mS (mS (mS (List.mem_append_right _ (h_)))))); rw [decide_eq_true turn_doc.symm] at z; exact z)) ?_
   rintro _ w46 ⟨rfl, m47⟩
   refine ⟨_, rfl, ?_⟩
   have hM48 : Mem [] w0 w46 (⟨29, 3, (obj b29), 1, [sS ((docP (turnD d)).key), v23, v24]⟩ :: ⟨29, 3, (obj b10), 1, [sS ((docP d).key), v4, v5]⟩ :: ⟨25, 3, (obj bd), 1, [sS (d.key), fv, nv]⟩ :: (T6 ++ T25)) := Mem.join (R := []) hM42 m47
   refine GoS.run [1, 2, 8, 10, 81] [.n, .n, .n, .n, .n, .n, .n, .n, .n, .n, .n] _ [iC Try.f5 [1,1,1,1,1,1,1,0,1], iC Try.f5 uOr11] [(1, ov), (2, pq bd), (8, pq b10), (10, pq b29), (81, .bool ((docE d) != 0))] w46 (by kernel_rfl) .nil ?_
   refine GoS.cond ((docE d) != 0) [iC Try.f5 [1,1,1,1,1,1,1,0,1,0], iC Try.f5 uOr11] [iC Try.f5 [1,1,1,1,1,1,1,0,1,1], iC Try.f5 uOr11] (by kernel_rfl) (fun h49 => ?_) (fun h49 => ?_)
   ·
    have h49p : ¬ ((docE d) = 0) := bne_iff_ne.1 h49
    have hM50 := hM48.sub (sD (sD (sD sR)))
    refine GoS.run [4] [.n, .n, .n, .n] _ [iC Try.f5 [1,1,1,1,1,1,1,0,1,0,1], iC Try.f5 uOr11] [(4, .bool true)] w46 (by kernel_rfl) .nil ?_
    refine GoS.ret (fn := Try.f5) (v := (.bool true)) Try.func5 (by kernel_rfl) ?_
    rw [hR]
    exact ⟨rfl, (hM50.sub sN).below⟩
   ·
    have h49p : (docE d) = 0 := p_eq h49
    refine GoS.run [1, 2, 8, 10] [.n] _ [iC Try.f5 uOr11] [(1, ov), (2, pq bd), (8, pq b10), (10, pq b29)] w46 (by kernel_rfl) .nil ?_
    refine GoS.run [1, 2, 8, 10] [.n, .n] _ [.inRegion (cops (csub (cd Try.f5) [1,1,1,1,1,1,1,1,0])) [0,1], iC Try.f5 [1,1,1,1,1,1,1,1,1]] [(1, ov), (2, pq bd), (8, pq b10), (10, pq b29)] w46 (by kernel_rfl) .nil ?_
    refine GoS.call [1, 2, 8, 10] 14 #[] (some 82) [.inRegion (cops (csub (cd Try.f5) [1,1,1,1,1,1,1,1,0])) [1], iC Try.f5 [1,1,1,1,1,1,1,1,1]] [(1, ov), (2, pq bd), (8, pq b10), (10, pq b29)] (by kernel_rfl) (new_c w46) ?_
    rintro _ w51 ⟨b52, rfl, m53⟩
    refine ⟨_, rfl, ?_⟩
    have hM54 : Mem [] w0 w51 (⟨82, 1, (obj b52), 1, [.slice none 0 0]⟩ :: ⟨29, 3, (obj b29), 1, [sS ((docP (turnD d)).key), v23, v24]⟩ :: ⟨29, 3, (obj b10), 1, [sS ((docP d).key), v4, v5]⟩ :: ⟨25, 3, (obj bd), 1, [sS (d.key), fv, nv]⟩ :: (T6 ++ T25)) := Mem.join hM48 m53
    have o55 : (Instr.loadAt 29 (pq b10)).run Try.prog w51 = .ok (.agg #[sS ((docP d).key), v4, v5]) w51 := c_loads (ys := [sS ((docP d).key), v4, v5]) aE29 (hM54.rd 2 rfl) (cel_obj b10 0) rfl (by intro j u hj; match j, hj with | 0, hj => exact hj | 1, hj => exact hj | 2, hj => exact hj | n + 3, hj => cases hj)
    refine GoS.run [1, 2, 8, 10, 12, 83, 84] [.n, .n, .n, .n, .n, .h (.agg #[sS ((docP d).key), v4, v5])] _ [.inRegion (cops (csub (cd Try.f5) [1,1,1,1,1,1,1,1,1,0])) [2], iC Try.f5 [1,1,1,1,1,1,1,1,1,1]] [(1, ov), (2, pq bd), (8, pq b10), (10, pq b29), (12, pq b52), (83, pq b52), (84, .agg #[sS ((docP d).key), v4, v5])] w51 (by kernel_rfl) (.cons o55 .nil) ?_
    have hM56 := hM54.nilrow 29 3
    have hM58 : Mem [] w0 w51 (⟨29, 3, (.slice none 0 0), (List.length ([] : List PZ)), (recs pzC ([] : List PZ))⟩ :: ⟨82, 1, (obj b52), 1, [.slice none 0 0]⟩ :: ⟨29, 3, (obj b29), 1, [sS ((docP (turnD d)).key), v23, v24]⟩ :: ⟨29, 3, (obj b10), 1, [sS ((docP d).key), v4, v5]⟩ :: ⟨25, 3, (obj bd), 1, [sS (d.key), fv, nv]⟩ :: (T6 ++ T25)) := hM56
    have hM59 : Mem [] w0 w51 (⟨82, 1, (obj b52), 1, [.slice none 0 0]⟩ :: ⟨29, 3, (.slice none 0 0), (List.length ([] : List PZ)), (recs pzC ([] : List PZ))⟩ :: ⟨29, 3, (obj b29), 1, [sS ((docP (turnD d)).key), v23, v24]⟩ :: ⟨29, 3, (obj b10), 1, [sS ((docP d).key), v4, v5]⟩ :: ⟨25, 3, (obj bd), 1, [sS (d.key), fv, nv]⟩ :: (T6 ++ T25)) := hM58.perm (pS pR)
    have hM60 : Mem [] w0 w51 ((⟨82, 1, (obj b52), 1, [.slice none 0 0]⟩ :: ⟨29, 3, (.slice none 0 0), (List.length ([] : List PZ)), (recs pzC ([] : List PZ))⟩ :: (T6 ++ T25)) ++ [⟨29, 3, (obj b29), 1, [sS ((docP (turnD d)).key), v23, v24]⟩, ⟨29, 3, (obj b10), 1, [sS ((docP d).key), v4, v5]⟩, ⟨25, 3, (obj bd), 1, [sS (d.key), fv, nv]⟩]) := swapT (R := [⟨29, 3, (obj b29), 1, [sS ((docP (turnD d)).key), v23, v24]⟩, ⟨29, 3, (obj b10), 1, [sS ((docP d).key), v4, v5]⟩, ⟨25, 3, (obj bd), 1, [sS (d.key), fv, nv]⟩]) (T := (T6 ++ T25)) hM59
    refine GoS.call [1, 2, 8, 10, 12] 19 #[pq b52, .agg #[sS ((docP d).key), v4, v5]] (some 85) [.inRegion (cops (csub (cd Try.f5) [1,1,1,1,1,1,1,1,1,0])) [], iC Try.f5 [1,1,1,1,1,1,1,1,1,1]] [(1, ov), (2, pq bd), (8, pq b10), (10, pq b29), (12, pq b52)] (by kernel_rfl) (put_c b52 (.slice none 0 0) ([] : List PZ) (T6 ++ T25) (OwZ.nil) (Nat.zero_le _) (docP d) v4 v5 (ho7.mono (fun r_ h_ => List.mem_append_left _ (h_))) docP_small (Mem.lend (R := (⟨82, 1, (obj b52), 1, [.slice none 0 0]⟩ :: ⟨29, 3, (.slice none 0 0), (List.length ([] : List PZ)), (recs pzC ([] : List PZ))⟩ :: (T6 ++ T25))) (L := [⟨29, 3, (obj b29), 1, [sS ((docP (turnD d)).key), v23, v24]⟩, ⟨29, 3, (obj b10), 1, [sS ((docP d).key), v4, v5]⟩, ⟨25, 3, (obj bd), 1, [sS (d.key), fv, nv]⟩]) hM60)) ?_
    rintro _ w61 ⟨v62, Z63, T64, rfl, hps65, hT66, hsub67, m68⟩
    refine ⟨_, rfl, ?_⟩
    have hM69 : Mem [] w0 w61 ((⟨82, 1, (obj b52), 1, [v62]⟩ :: ⟨29, 3, v62, (List.length Z63), (recs pzC Z63)⟩ :: T64) ++ [⟨29, 3, (obj b29), 1, [sS ((docP (turnD d)).key), v23, v24]⟩, ⟨29, 3, (obj b10), 1, [sS ((docP d).key), v4, v5]⟩, ⟨25, 3, (obj bd), 1, [sS (d.key), fv, nv]⟩]) := Mem.back (R := (⟨82, 1, (obj b52), 1, [.slice none 0 0]⟩ :: ⟨29, 3, (.slice none 0 0), (List.length ([] : List PZ)), (recs pzC ([] : List PZ))⟩ :: (T6 ++ T25))) (L := [⟨29, 3, (obj b29), 1, [sS ((docP (turnD d)).key), v23, v24]⟩, ⟨29, 3, (obj b10), 1, [sS ((docP d).key), v4, v5]⟩, ⟨25, 3, (obj bd), 1, [sS (d.key), fv, nv]⟩]) hM60 m68
    have hM70 : Mem [] w0 w61 (⟨82, 1, (obj b52), 1, [v62]⟩ :: ⟨29, 3, v62, (List.length Z63), (recs pzC Z63)⟩ :: ⟨29, 3, (obj b29), 1, [sS ((docP (turnD d)).key), v23, v24]⟩ :: ⟨29, 3, (obj b10), 1, [sS ((docP d).key), v4, v5]⟩ :: ⟨25, 3, (obj bd), 1, [sS (d.key), fv, nv]⟩ :: T64) := swapT2 (R := [⟨29, 3, (obj b29), 1, [sS ((docP (turnD d)).key), v23, v24]⟩, ⟨29, 3, (obj b10), 1, [sS ((docP d).key), v4, v5]⟩, ⟨25, 3, (obj bd), 1, [sS (d.key), fv, nv]⟩]) (T := T64) hM69
    have hsub71 : ∀ r_ ∈ (T6 ++ T25), r_ ∈ T64 := fun r_ h_ => hsub67 r_ (h_)
    refine GoS.run [1, 2, 8, 10, 12, 13, 14] [.n, .n, .n, .n, .n, .n, .n, .n, .n, .n, .n, .n] _ [iC Try.f5 uOr0, iL Try.f5 uOr0, .inBlock 4, iC Try.f5 uOr1] [(1, ov), (2, pq bd), (8, pq b10), (10, pq b29), (12, pq b52), (13, .int .i64 1), (14, .int .i64 0)] w61 (by kernel_rfl) .nil ?_
    have hM72 : Mem [] w0 w61 (⟨29, 3, v62, (List.length Z63), (recs pzC Z63)⟩ :: ⟨82, 1, (obj b52), 1, [v62]⟩ :: ⟨29, 3, (obj b29), 1, [sS ((docP (turnD d)).key), v23, v24]⟩ :: ⟨29, 3, (obj b10), 1, [sS ((docP d).key), v4, v5]⟩ :: ⟨25, 3, (obj bd), 1, [sS (d.key), fv, nv]⟩ :: T64) := hM70.perm (pS pR)
    have hM73 : Mem [] w0 w61 (⟨82, 1, (obj b52), 1, [v62]⟩ :: ⟨29, 3, v62, (List.length Z63), (recs pzC Z63)⟩ :: ⟨29, 3, (obj b29), 1, [sS ((docP (turnD d)).key), v23, v24]⟩ :: ⟨29, 3, (obj b10), 1, [sS ((docP d).key), v4, v5]⟩ :: ⟨25, 3, (obj bd), 1, [sS (d.key), fv, nv]⟩ :: T64) := hM72.perm (pS pR)
    have hM74 : Mem [] w0 w61 (⟨29, 3, (obj b29), 1, [sS ((docP (turnD d)).key), v23, v24]⟩ :: ⟨82, 1, (obj b52), 1, [v62]⟩ :: ⟨29, 3, v62, (List.length Z63), (recs pzC Z63)⟩ :: ⟨29, 3, (obj b10), 1, [sS ((docP d).key), v4, v5]⟩ :: ⟨25, 3, (obj bd), 1, [sS (d.key), fv, nv]⟩ :: T64) := hM73.perm (pS (pS pR))
    have hM75 : Mem [] w0 w61 (⟨29, 3, (obj b10), 1, [sS ((docP d).key), v4, v5]⟩ :: ⟨29, 3, (obj b29), 1, [sS ((docP (turnD d)).key), v23, v24]⟩ :: ⟨82, 1, (obj b52), 1, [v62]⟩ :: ⟨29, 3, v62, (List.length Z63), (recs pzC Z63)⟩ :: ⟨25, 3, (obj bd), 1, [sS (d.key), fv, nv]⟩ :: T64) := hM74.perm (pS (pS (pS pR)))
    have hM76 : Mem [] w0 w61 (⟨25, 3, (obj bd), 1, [sS (d.key), fv, nv]⟩ :: ⟨29, 3, (obj b10), 1, [sS ((docP d).key), v4, v5]⟩ :: ⟨29, 3, (obj b29), 1, [sS ((docP (turnD d)).key), v23, v24]⟩ :: ⟨82, 1, (obj b52), 1, [v62]⟩ :: ⟨29, 3, v62, (List.length Z63), (recs pzC Z63)⟩ :: T64) := hM75.perm (pS (pS (pS (pS pR))))
    have hM77 : Mem [] w0 w61 (⟨29, 3, v62, (List.length Z63), (recs pzC Z63)⟩ :: ⟨25, 3, (obj bd), 1, [sS (d.key), fv, nv]⟩ :: ⟨29, 3, (obj b10), 1, [sS ((docP d).key), v4, v5]⟩ :: ⟨29, 3, (obj b29), 1, [sS ((docP (turnD d)).key), v23, v24]⟩ :: ⟨82, 1, (obj b52), 1, [v62]⟩ :: T64) := hM76.perm (pS (pS (pS (pS pR))))
    have hM78 : Mem [] w0 w61 (⟨82, 1, (obj b52), 1, [v62]⟩ :: ⟨29, 3, v62, (List.length Z63), (recs pzC Z63)⟩ :: ⟨25, 3, (obj bd), 1, [sS (d.key), fv, nv]⟩ :: ⟨29, 3, (obj b10), 1, [sS ((docP d).key), v4, v5]⟩ :: ⟨29, 3, (obj b29), 1, [sS ((docP (turnD d)).key), v23, v24]⟩ :: T64) := hM77.perm (pS (pS (pS (pS pR))))
    have he : docE d = 0 := h49p
    have hc : checkP (docP d) = true := by rw [doc_check]; exact decide_eq_true he
    have hO : OrdI d.key (List.map PZ.pc Z63) 1 := by rw [hps65, ← doc_keyeq he]; exact ord_first hc docP_small
    exact lorder_L3 d fv nv ov ol hf hn ho hs1 hs2 he bd b10 b29 b52 v4 v5 v23 v24 R hR 21 v62 Z63 T64 0 1 w61 (by omega) (by omega) (ho7.mono (fun r_ h_ => hsub71 r_ (List.mem_append_left _ (h_)))) (ho26.mono (fun r_ h_ => hsub71 r_ (List.mem_append_right _ (h_)))) hT66 hO (hM78.sub (sK (sK (sK (sK (sK sR)))))) (by omega)

set_option maxHeartbeats 1000000 in
theorem lorder_L1 {w0 : World} (d : Dc) (fv nv : Value) (ov : Value) (ol : List (List UInt8)) (hf : Rd w0 2 fv d.fields.length (recs fdC d.fields)) (hn : Rd w0 2 nv d.nums.length (recs nmC d.nums)) (ho : Rd w0 1 ov ol.length (svals ol)) (hs1 : d.fields.length ≤ 4398046510976) (hs2 : d.nums.length ≤ 5864062014634) (bd bt : Nat) (R : Ending → World → Prop) (hR : R = (fun e w' => e = .returned (.bool true) ∧ Below w0.heap.size w0 w')) : ∀ (N : Nat) (vf : Value) (k : Nat) (w : World) (hk : k ≤ d.fields.length) (hM : Mem [] w0 w [⟨57, 2, vf, (List.length (List.take (List.length d.fields - k) (List.reverse d.fields))), (recs fdC (List.take (List.length d.fields - k) (List.reverse d.fields)))⟩, ⟨25, 3, (obj bd), 1, [sS (d.key), fv, nv]⟩, ⟨25, 3, (obj bt), 1, [sS (d.key), vf, .slice none 0 0]⟩]) (hN : k < N), GoS Try.prog 5 R 153 [iC Try.f5 uOr7, iL Try.f5 uOr7, .inBlock 0, iC Try.f5 [1,1,1]] [(1, ov), (2, pq bd), (5, pq bt), (6, .int .i64 (((k : Nat) : Int) - 1))] w := by
 intro N
 induction N with
 | zero => intro vf k w hk hM hN; exact absurd hN (Nat.not_lt_zero _)
 | succ N ih =>
  intro vf k w hk hM hN
  have hol := rd_len ho
  simp only [maxLen] at hol
  refine GoS.run [1, 2, 5, 6, 24] [.n, .n, .n, .n, .n, .n] _ [iC Try.f5 [1,1,0,1,0,0,0,1], iC Try.f5 [1,1,0,1,0,0,1], iL Try.f5 uOr7, .inBlock 0, iC Try.f5 [1,1,1]] [(1, ov), (2, pq bd), (5, pq bt), (6, .int .i64 (((k : Nat) : Int) - 1)), (24, .bool (decide ((((k : Nat) : Int) - 1) ≥ 0)))] w (by kernel_rfl) .nil ?_
  refine GoS.cond (decide ((((k : Nat) : Int) - 1) ≥ 0)) [iC Try.f5 [1,1,0,1,0,0,0,1,0], iC Try.f5 [1,1,0,1,0,0,1], iL Try.f5 uOr7, .inBlock 0, iC Try.f5 [1,1,1]] [iC Try.f5 [1,1,0,1,0,0,0,1,1], iC Try.f5 [1,1,0,1,0,0,1], iL Try.f5 uOr7, .inBlock 0, iC Try.f5 [1,1,1]] (by kernel_rfl) (fun h1 => ?_) (fun h1 => ?_)
  ·
   have h1p : (((k : Nat) : Int) - 1) ≥ 0 := of_decide_eq_true h1
   refine GoS.run [1, 2, 5, 6] [.n] _ [iC Try.f5 [1,1,0,1,0,0,1], iL Try.f5 uOr7, .inBlock 0, iC Try.f5 [1,1,1]] [(1, ov), (2, pq bd), (5, pq bt), (6, .int .i64 (((k : Nat) : Int) - 1))] w (by kernel_rfl) .nil ?_
   refine GoS.run [1, 2, 5, 6] [.n, .n] _ [iC Try.f5 [1,1,0,1,0,0,1,0,0], .inBlock 1, iC Try.f5 [1,1,0,1,0,0,1,1], iL Try.f5 uOr7, .inBlock 0, iC Try.f5 [1,1,1]] [(1, ov), (2, pq bd), (5, pq bt), (6, .int .i64 (((k : Nat) : Int) - 1))] w (by kernel_rfl) .nil ?_
   obtain ⟨w6, hw7⟩ : ∃ w_, (w).drewN 1 = w_ := ⟨_, rfl⟩
   refine GoS.held (fun W_ => Mem [] w0 W_ [⟨25, 3, (obj bd), 1, [sS (d.key), fv, nv]⟩, ⟨25, 3, (obj bt), 1, [sS (d.key), vf, .slice none 0 0]⟩]) [10] 5 (by kernel_rfl) (by kernel_rfl) 11 (by kernel_rfl) ?_
   rw [hw7]
   have hM8 : Mem [] w0 w6 [⟨57, 2, vf, (List.length (List.take (List.length d.fields - k) (List.reverse d.fields))), (recs fdC (List.take (List.length d.fields - k) (List.reverse d.fields)))⟩, ⟨25, 3, (obj bd), 1, [sS (d.key), fv, nv]⟩, ⟨25, 3, (obj bt), 1, [sS (d.key), vf, .slice none 0 0]⟩] := hw7 ▸ hM.ext (Kept.drewN _ _ 1)
   have hS9 := hM8.sub (sD (sK (sK sR)))
   refine GoH.takeV 0 (.pointer (some (⟨bt, 1, none⟩))) (.pointer (some (⟨bt, 1, none⟩))) (some 27) (fun W_ => by kernel_rfl) rfl hS9 ?_
   refine GoH.takeF 1 (vf) (fun W_ => (Instr.loadAt 22 (.pointer (some (⟨bt, 1, none⟩)))).run Try.prog W_ = .ok (vf) W_) (some 28) (fun W_ => by kernel_rfl) (fun W_ hW_ => c_load pE22 (hW_.rd 1 rfl) (cel_obj bt 1) rfl) hS9 ?_
   refine GoH.takeV 2 (.pointer (some (⟨bd, 1, none⟩))) (.pointer (some (⟨bd, 1, none⟩))) (some 29) (fun W_ => by kernel_rfl) rfl hS9 ?_
   refine GoH.takeF 3 (fv) (fun W_ => (Instr.loadAt 22 (.pointer (some (⟨bd, 1, none⟩)))).run Try.prog W_ = .ok (fv) W_) (some 30) (fun W_ => by kernel_rfl) (fun W_ hW_ => c_load pE22 (hW_.rd 0 rfl) (cel_obj bd 1) rfl) hS9 ?_
   refine GoH.takeV 4 (.int .i64 (((k : Nat) : Int) - 1)) (.int .i64 (((k : Nat) : Int) - 1)) (some 31) (fun W_ => by kernel_rfl) rfl hS9 ?_
   obtain ⟨p10, hp11, hq12⟩ := rd_at (i := (((k : Nat) : Int) - 1)) sT22 (hf.kept0 hS9.kept) (Int.toNat (((k : Nat) : Int) - 1)) (by omega) (by first | omega | (dsimp only; omega))
   refine GoH.takeF 5 (.pointer (some p10)) (fun W_ => (Instr.indexAt 22 (fv) (.int .i64 (((k : Nat) : Int) - 1))).run Try.prog W_ = .ok (.pointer (some p10)) W_) (some 32) (fun W_ => by kernel_rfl) (fun W_ hW_ => hq12 _ _) hS9 ?_
   refine GoH.takeF 6 (.agg #[sS ((List.getD (d.fields) (Int.toNat (((k : Nat) : Int) - 1)) fz).name), sS ((List.getD (d.fields) (Int.toNat (((k : Nat) : Int) - 1)) fz).text)]) (fun W_ => (Instr.loadAt 57 (.pointer (some p10))).run Try.prog W_ = .ok (.agg #[sS ((List.getD (d.fields) (Int.toNat (((k : Nat) : Int) - 1)) fz).name), sS ((List.getD (d.fields) (Int.toNat (((k : Nat) : Int) - 1)) fz).text)]) W_) (some 33) (fun W_ => by kernel_rfl) (fun W_ hW_ => r_loads (f := fdC) (l := (d.fields)) aE57 (hf.kept0 hW_.kept) fdC_len hp11 (by first | omega | (dsimp only; omega)) fz) hS9 ?_
   obtain ⟨v13, w14, hr15, hM16⟩ := m_lit sT22 hM8 (n := 1) (parts := #[(0, .agg #[sS ((List.getD (d.fields) (Int.toNat (((k : Nat) : Int) - 1)) fz).name), sS ((List.getD (d.fields) (Int.toNat (((k : Nat) : Int) - 1)) fz).text)])]) (cs := [sS ((List.getD (d.fields) (Int.toNat (((k : Nat) : Int) - 1)) fz).name), sS ((List.getD (d.fields) (Int.toNat (((k : Nat) : Int) - 1)) fz).text)]) (by decide) (by kernel_rfl) rfl
   have hS17 := hM16.sub (sD (sD (sK (sK sR))))
   refine GoH.stepF 7 (v13) (w14) ((Instr.buildSlice 22 1 #[(0, .agg #[sS ((List.getD (d.fields) (Int.toNat (((k : Nat) : Int) - 1)) fz).name), sS ((List.getD (d.fields) (Int.toNat (((k : Nat) : Int) - 1)) fz).text)])]).run Try.prog w6 = .ok v13 w14) (some 34) (by kernel_rfl) (hr15) (.inr hS17) ?_
   obtain ⟨v18, w19, hr20, hM21⟩ := m_append sT22 hM16 1 rfl (hM16.rd 0 rfl) (by intro u hu; simp at hu; rcases hu with rfl | rfl <;> rfl) (by first | omega | ((try dsimp only); simp only [List.length_take, List.length_reverse]; omega)) (by first | omega | ((try dsimp only); simp only [List.length_take, List.length_reverse]; omega)) 22
   have hM22 : Mem [] w0 w19 [⟨57, 2, v13, 1, [sS ((List.getD (d.fields) (Int.toNat (((k : Nat) : Int) - 1)) fz).name), sS ((List.getD (d.fields) (Int.toNat (((k : Nat) : Int) - 1)) fz).text)]⟩, ⟨57, 2, v18, (List.length ((List.take (List.length d.fields - k) (List.reverse d.fields)) ++ ([(PcP.Fd.mk ((List.getD (d.fields) (Int.toNat (((k : Nat) : Int) - 1)) fz).name) ((List.getD (d.fields) (Int.toNat (((k : Nat) : Int) - 1)) fz).text))] : List PcP.Fd))), (recs fdC ((List.take (List.length d.fields - k) (List.reverse d.fields)) ++ ([(PcP.Fd.mk ((List.getD (d.fields) (Int.toNat (((k : Nat) : Int) - 1)) fz).name) ((List.getD (d.fields) (Int.toNat (((k : Nat) : Int) - 1)) fz).text))] : List PcP.Fd)))⟩, ⟨25, 3, (obj bd), 1, [sS (d.key), fv, nv]⟩, ⟨25, 3, (obj bt), 1, [sS (d.key), vf, .slice none 0 0]⟩] := hM21.cast (by first | (simp [ivals, svals, bvals, nvals, u8s, Nat.add_assoc, recs, fdC]; done) | (simp [ivals, svals, bvals, nvals, u8s, Nat.add_assoc, recs, fdC]; omega))
   have hS23 := hM22.sub (sD (sD (sK (sK sR))))
   refine GoH.stepF 8 (v18) (w19) ((Builtin.append_ #[22, 22] 22 #[vf, v13]).run Try.prog w14 = .ok v18 w19) (some 35) (by kernel_rfl) (hr20) (.inr hS23) ?_
   refine GoH.takeV 9 (.pointer (some (⟨bt, 1, none⟩))) (.pointer (some (⟨bt, 1, none⟩))) (some 36) (fun W_ => by kernel_rfl) rfl hS23 ?_
   obtain ⟨w24, hr25, hM26⟩ := c_store (u := v18) (by kernel_rfl) hM22 3 rfl (cel_obj bt 1) (by decide) (rd_one (hM22.rd 1 rfl)) (rd_cells (hM22.rd 1 rfl))
   have hM27 : Mem [] w0 w24 [⟨57, 2, v13, 1, [sS ((List.getD (d.fields) (Int.toNat (((k : Nat) : Int) - 1)) fz).name), sS ((List.getD (d.fields) (Int.toNat (((k : Nat) : Int) - 1)) fz).text)]⟩, ⟨57, 2, v18, (List.length ((List.take (List.length d.fields - k) (List.reverse d.fields)) ++ ([(PcP.Fd.mk ((List.getD (d.fields) (Int.toNat (((k : Nat) : Int) - 1)) fz).name) ((List.getD (d.fields) (Int.toNat (((k : Nat) : Int) - 1)) fz).text))] : List PcP.Fd))), (recs fdC ((List.take (List.length d.fields - k) (List.reverse d.fields)) ++ ([(PcP.Fd.mk ((List.getD (d.fields) (Int.toNat (((k : Nat) : Int) - 1)) fz).name) ((List.getD (d.fields) (Int.toNat (((k : Nat) : Int) - 1)) fz).text))] : List PcP.Fd)))⟩, ⟨25, 3, (obj bd), 1, [sS (d.key), fv, nv]⟩, ⟨25, 3, (obj bt), 1, [sS (d.key), v18, .slice none 0 0]⟩] := hM26
   refine GoH.stepF 10 (undef) (w24) ((Instr.storeAt 22 (.pointer (some (⟨bt, 1, none⟩))) (v18)).run Try.prog w19 = .ok () w24 ∧ undef = undef) none (by kernel_rfl) (⟨hr25, rfl⟩) (.inl rfl) ?_
   refine GoH.done [1, 2, 5, 6] [(1, ov), (2, pq bd), (5, pq bt), (6, .int .i64 (((k : Nat) : Int) - 1))] (by kernel_rfl) (by kernel_rfl) ?_
   have hM28 := hM27.sub (sD (sK (sK (sK sR))))
   have o29 : (binOp .sub 3 (.int .i64 (((k : Nat) : Int) - 1)) (.int .i64 1)).run Try.prog w24 = .ok (.int .i64 ((((k : Nat) : Int) - 1) - 1)) w24 := f_sub (IntWalk.i64_in _ (by omega))
   refine GoS.run [1, 2, 5, 6] [.n, .n, .n, .h (.int .i64 ((((k : Nat) : Int) - 1) - 1)), .n, .n, .n] _ [iC Try.f5 uOr7, iL Try.f5 uOr7, .inBlock 0, iC Try.f5 [1,1,1]] [(1, ov), (2, pq bd), (5, pq bt), (6, .int .i64 ((((k : Nat) : Int) - 1) - 1))] w24 (by kernel_rfl) (.cons o29 .nil) ?_
   have hkk : Int.toNat (((k : Nat) : Int) - 1) = k - 1 := by omega
   exact GoS.cast (by rw [show (((k : Nat) : Int) - 1) - 1 = (((k - 1 : Nat) : Nat) : Int) - 1 by omega]) (ih v18 (k - 1) _ (by omega) ((hM28.sub (sK (sK (sK sN)))).cast (by rw [hkk, rev_snoc fz (k := k) (m := k - 1) (by omega) (by omega)])) (by omega))
  ·
   have h1p : ¬ ((((k : Nat) : Int) - 1) ≥ 0) := of_decide_eq_false h1
   have o2 : (Instr.loadAt 23 (.pointer (some (⟨bd, 2, none⟩)))).run Try.prog w = .ok (nv) w := c_load pE23 (hM.rd 1 rfl) (cel_obj bd 2) rfl
   have o3 : (Builtin.len_ #[23] 3 #[nv]).run Try.prog w = .ok (iN (List.length (d.nums))) w := f_slen sT23 (hn.kept0 hM.kept) 3 _
   have o4 : (binOp .sub 3 (iN (List.length (d.nums))) (.int .i64 1)).run Try.prog w = .ok (.int .i64 ((((List.length (d.nums)) : Nat) : Int) - 1)) w := f_sub (IntWalk.i64_in _ (by omega))
   refine GoS.run [1, 2, 5, 7] [.n, .n, .n, .n, .n, .h (nv), .h (iN (List.length (d.nums))), .h (.int .i64 ((((List.length (d.nums)) : Nat) : Int) - 1)), .n, .n, .n, .n] _ [iC Try.f5 uOr6, iL Try.f5 uOr6, .inBlock 2, iC Try.f5 [1,1,1,1]] [(1, ov), (2, pq bd), (5, pq bt), (7, .int .i64 ((((List.length (d.nums)) : Nat) : Int) - 1))] w (by kernel_rfl) (.cons o2 (.cons o3 (.cons o4 .nil))) ?_
   have hM5 := hM.nilrow 60 2
   have hk0 : k = 0 := by omega
   exact lorder_L2 d fv nv ov ol hf hn ho hs1 hs2 bd bt vf R hR (d.nums.length + 1) (.slice none 0 0) d.nums.length w (Nat.le_refl _) ((hM5.sub (sK (sK (sK (sK sN))))).cast (by rw [Nat.sub_self, hk0, Nat.sub_zero, List.take_of_length_le (by rw [List.length_reverse]; exact Nat.le_refl _)]; rfl)) (by omega)

set_option maxHeartbeats 400000 in
theorem lorder_c {w : World} (d : Dc) (fv nv : Value) (ov : Value) (ol : List (List UInt8)) (hf : Rd w 2 fv d.fields.length (recs fdC d.fields)) (hn : Rd w 2 nv d.nums.length (recs nmC d.nums)) (ho : Rd w 1 ov ol.length (svals ol)) (hs1 : d.fields.length ≤ 4398046510976) (hs2 : d.nums.length ≤ 5864062014634) :
  Calls Try.prog 5 #[.agg #[sS (d.key), fv, nv], ov] w (fun e w' => e = .returned (.bool true) ∧ Below w.heap.size w w') := by
 obtain ⟨R, hR⟩ : ∃ R : Ending → World → Prop, R = (fun e w' => e = .returned (.bool true) ∧ Below w.heap.size w w') := ⟨_, rfl⟩
 rw [← hR]
 refine GoS.enter (n := 153) Try.func5 (by kernel_rfl) rfl [(0, .agg #[sS (d.key), fv, nv]), (1, ov)] (by kernel_rfl) (by kernel_rfl) ?_
 have hM0 := Mem.start w
 obtain ⟨b1, w2, hr3, hM4⟩ := m_box (T := 25) (k := 3) (u := .agg #[sS (d.key), fv, nv]) rfl rfl hM0
 have hM5 : Mem [] w w2 [⟨25, 3, (obj b1), 1, [sS (d.key), fv, nv]⟩] := hM4
 have o15 : (Instr.box 25 (.agg #[sS (d.key), fv, nv])).run Try.prog w = .ok (pq b1) w2 := hr3
 have o16 : (Instr.loadAt 9 (pq b1)).run Try.prog w2 = .ok (sS (d.key)) w2 := c_load pE9 (hM5.rd 0 rfl) (cel_obj b1 0) rfl
 obtain ⟨b6, w7, hr8, hM9⟩ := m_alloc oT25 hM5
 have hM10 : Mem [] w w7 [⟨25, 3, (obj b6), 1, [sS ([]), .slice none 0 0, .slice none 0 0]⟩, ⟨25, 3, (obj b1), 1, [sS (d.key), fv, nv]⟩] := hM9
 obtain ⟨w11, hr12, hM13⟩ := c_stores (ys := [sS (d.key), .slice none 0 0, .slice none 0 0]) aE25 hM10 0 rfl (cel_obj b6 0) rfl (by decide) (by intro u hu; simp at hu; rcases hu with rfl | rfl | rfl <;> first | rfl)
 have hM14 : Mem [] w w11 [⟨25, 3, (obj b6), 1, [sS (d.key), .slice none 0 0, .slice none 0 0]⟩, ⟨25, 3, (obj b1), 1, [sS (d.key), fv, nv]⟩] := hM13
 have o17 : (Instr.storeAt 25 (pq b6) (.agg #[sS (d.key), .slice none 0 0, .slice none 0 0])).run Try.prog w7 = .ok () w11 ∧ undef = undef := ⟨hr12, rfl⟩
 have o18 : (Instr.loadAt 22 (.pointer (some (⟨b1, 1, none⟩)))).run Try.prog w11 = .ok (fv) w11 := c_load pE22 (hM14.rd 1 rfl) (cel_obj b1 1) rfl
 have o19 : (Builtin.len_ #[22] 3 #[fv]).run Try.prog w11 = .ok (iN (List.length (d.fields))) w11 := f_slen sT22 (hf.kept0 hM14.kept) 3 _
 have o20 : (binOp .sub 3 (iN (List.length (d.fields))) (.int .i64 1)).run Try.prog w11 = .ok (.int .i64 ((((List.length (d.fields)) : Nat) : Int) - 1)) w11 := f_sub (IntWalk.i64_in _ (by omega))
 refine GoS.run [1, 2, 5, 6] [.n, .n, .u (pq b1) (w2), .n, .n, .n, .n, .n, .h (sS (d.key)), .n, .u (pq b6) (w7), .u (undef) (w11), .n, .n, .n, .n, .n, .h (fv), .h (iN (List.length (d.fields))), .h (.int .i64 ((((List.length (d.fields)) : Nat) : Int) - 1)), .n, .n, .n, .n] _ [iC Try.f5 uOr7, iL Try.f5 uOr7, .inBlock 0, iC Try.f5 [1,1,1]] [(1, ov), (2, pq b1), (5, pq b6), (6, .int .i64 ((((List.length (d.fields)) : Nat) : Int) - 1))] w11 (by kernel_rfl) (.cons o15 (.cons o16 (.cons hr8 (.cons o17 (.cons o18 (.cons o19 (.cons o20 .nil))))))) ?_
 have hM21 := hM14.nilrow 57 2
 have hM22 : Mem [] w w11 [⟨25, 3, (obj b6), 1, [sS (d.key), .slice none 0 0, .slice none 0 0]⟩, ⟨57, 2, (.slice none 0 0), 0, []⟩, ⟨25, 3, (obj b1), 1, [sS (d.key), fv, nv]⟩] := hM21.perm (pS pR)
 have hM23 : Mem [] w w11 [⟨25, 3, (obj b1), 1, [sS (d.key), fv, nv]⟩, ⟨25, 3, (obj b6), 1, [sS (d.key), .slice none 0 0, .slice none 0 0]⟩, ⟨57, 2, (.slice none 0 0), 0, []⟩] := hM22.perm (pS (pS pR))
 have hM24 : Mem [] w w11 [⟨57, 2, (.slice none 0 0), 0, []⟩, ⟨25, 3, (obj b1), 1, [sS (d.key), fv, nv]⟩, ⟨25, 3, (obj b6), 1, [sS (d.key), .slice none 0 0, .slice none 0 0]⟩] := hM23.perm (pS (pS pR))
 exact lorder_L1 d fv nv ov ol hf hn ho hs1 hs2 b1 b6 R hR (d.fields.length + 1) (.slice none 0 0) d.fields.length w11 (Nat.le_refl _) ((hM24.sub (sK (sK (sK sN)))).cast (by rw [Nat.sub_self]; rfl)) (by omega)


end Go.Proofs.Ytcdcehjilneifaa
