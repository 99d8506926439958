/-
  The walks of awake, LiveNil and LiveReads: true for every input.
-/
import Derived.Test.YtiifhlhmkpcaeaaLiveF
import Derived.Test.YtiifhlhmkpcaeaaLiveL
namespace Go.Proofs.Ytiifhlhmkpcaeaa
open Go Go.Gw Go.NumP Go.LiveP Go.RowKit
set_option linter.unusedVariables false
set_option linter.unusedSimpArgs false


set_option maxHeartbeats 400000 in
theorem awake_c (w : World) :
    Calls Try.prog 7 #[] w (fun e w' => e = .returned (.bool true) ∧ Mem [] w w' []) := by
  obtain ⟨R, hR⟩ : ∃ R : Ending → World → Prop, R = (fun e w' => e = .returned (.bool true) ∧ Mem [] w w' []) := ⟨_, rfl⟩
  rw [← hR]
  refine GoS.enter (n := 49) Try.func7 (by kernel_rfl) rfl [] (by kernel_rfl) (by kernel_rfl) ?_
  have hM0 := Mem.start w
  refine GoS.run [] [.n, .n, .n, .n, .n, .n] _ [.inRegion (cops (csub (cd Try.f7) [1,0])) [0,1,2,3,4,5], .code (csub (cd Try.f7) [1,1])] [] w (by kernel_rfl) .nil ?_
  refine GoS.call [] 8 #[.int .i64 10] (some 6) [.inRegion (cops (csub (cd Try.f7) [1,0])) [1,2,3,4,5], .code (csub (cd Try.f7) [1,1])] [] (by kernel_rfl) (lnew_c 10 w) ?_
  rintro _ w1 (⟨hn6, _, _⟩ | ⟨hn6, b4, v5, rfl, m2⟩)
  ·
    exact absurd (by decide) hn6
  ·
    refine ⟨_, rfl, ?_⟩
    have hM3 := Mem.join hM0 m2
    have hn6k := newE_ok hn6
    refine GoS.run [1, 15, 16] [.n, .n, .n, .n, .n, .n, .n, .n, .n, .n, .n, .n, .n, .n, .n, .n, .n] _ [.inRegion (cops (csub (cd Try.f7) [1,1,0,0])) [8,9,10,11,12,13,14], .code (csub (cd Try.f7) [1,1,0,1]), .code (csub (cd Try.f7) [1,1,1])] [(1, .pointer (some (⟨b4, 0, none⟩))), (15, .bool false), (16, .pointer (some (⟨b4, 0, none⟩)))] w1 (by kernel_rfl) .nil ?_
    have hM7 : Mem [] w w1 [⟨4, 1, v5, (List.length (List.replicate (Int.toNat 10) false)), (bvals (List.replicate (Int.toNat 10) false))⟩, ⟨49, 2, (obj b4), 1, [v5, .int .i64 (((lft (List.replicate (Int.toNat 10) false)) : Nat) : Int)]⟩] := hM3.perm ((List.Perm.cons _ (List.Perm.refl _)).trans (List.Perm.swap _ _ _))
    have hM8 : Mem [] w w1 [⟨49, 2, (obj b4), 1, [v5, .int .i64 (((lft (List.replicate (Int.toNat 10) false)) : Nat) : Int)]⟩, ⟨4, 1, v5, (List.length (List.replicate (Int.toNat 10) false)), (bvals (List.replicate (Int.toNat 10) false))⟩] := hM7.perm ((List.Perm.cons _ (List.Perm.refl _)).trans (List.Perm.swap _ _ _))
    refine GoS.call [1, 15] 12 #[.pointer (some (⟨b4, 0, none⟩)), .int .i64 9] (some 17) [.inRegion (cops (csub (cd Try.f7) [1,1,0,0])) [9,10,11,12,13,14], .code (csub (cd Try.f7) [1,1,0,1]), .code (csub (cd Try.f7) [1,1,1])] [(1, .pointer (some (⟨b4, 0, none⟩))), (15, .bool false)] (by kernel_rfl) (kill_c b4 v5 (List.replicate (Int.toNat 10) false) (by decide) 9 w1 (Mem.lend (R := [⟨49, 2, (obj b4), 1, [v5, .int .i64 (((lft (List.replicate (Int.toNat 10) false)) : Nat) : Int)]⟩, ⟨4, 1, v5, (List.length (List.replicate (Int.toNat 10) false)), (bvals (List.replicate (Int.toNat 10) false))⟩]) (L := []) hM8)) ?_
    rintro _ w9 ⟨rfl, m10⟩
    refine ⟨_, rfl, ?_⟩
    have hM11 : Mem [] w w9 [⟨49, 2, (obj b4), 1, [v5, .int .i64 (((lft (killG (List.replicate (Int.toNat 10) false) 9)) : Nat) : Int)]⟩, ⟨4, 1, v5, (List.length (killG (List.replicate (Int.toNat 10) false) 9)), (bvals (killG (List.replicate (Int.toNat 10) false) 9))⟩] := Mem.back (R := [⟨49, 2, (obj b4), 1, [v5, .int .i64 (((lft (List.replicate (Int.toNat 10) false)) : Nat) : Int)]⟩, ⟨4, 1, v5, (List.length (List.replicate (Int.toNat 10) false)), (bvals (List.replicate (Int.toNat 10) false))⟩]) (L := []) hM8 m10
    refine GoS.run [1, 20] [.n, .n, .n] _ [.inRegion (cops (csub (cd Try.f7) [1,1,0,0])) [12,13,14], .code (csub (cd Try.f7) [1,1,0,1]), .code (csub (cd Try.f7) [1,1,1])] [(1, .pointer (some (⟨b4, 0, none⟩))), (20, .bool (!(lvB (List.replicate (Int.toNat 10) false) 9)))] w9 (by kernel_rfl) .nil ?_
    refine GoS.fork 20 (!(lvB (List.replicate (Int.toNat 10) false) 9)) (by kernel_rfl) (fun h12 => ?_) (fun h12 => ?_)
    ·
      exact absurd h12 (by decide +kernel)
    ·
      have h12p : (0 : Int) ≤ 9 ∧ (9 : Int) < ((List.length (List.replicate (Int.toNat 10) false) : Nat) : Int) := ⟨(lvB_yes (p_nt h12)).1, (lvB_yes (p_nt h12)).2.1⟩
      have h12p1 : 1 ≤ lft (List.replicate (Int.toNat 10) false) := lft_pos (p_nt h12)
      refine GoS.run [1, 20, 21] [.n] _ [.inRegion (cops (csub (cd Try.f7) [1,1,0,0])) [13,14], .code (csub (cd Try.f7) [1,1,0,1]), .code (csub (cd Try.f7) [1,1,1])] [(1, .pointer (some (⟨b4, 0, none⟩))), (20, .bool false), (21, .pointer (some (⟨b4, 0, none⟩)))] w9 (by kernel_rfl) .nil ?_
      have hM13 : Mem [] w w9 [⟨4, 1, v5, (List.length (killG (List.replicate (Int.toNat 10) false) 9)), (bvals (killG (List.replicate (Int.toNat 10) false) 9))⟩, ⟨49, 2, (obj b4), 1, [v5, .int .i64 (((lft (killG (List.replicate (Int.toNat 10) false) 9)) : Nat) : Int)]⟩] := hM11.perm ((List.Perm.cons _ (List.Perm.refl _)).trans (List.Perm.swap _ _ _))
      have hM14 : Mem [] w w9 [⟨49, 2, (obj b4), 1, [v5, .int .i64 (((lft (killG (List.replicate (Int.toNat 10) false) 9)) : Nat) : Int)]⟩, ⟨4, 1, v5, (List.length (killG (List.replicate (Int.toNat 10) false) 9)), (bvals (killG (List.replicate (Int.toNat 10) false) 9))⟩] := hM13.perm ((List.Perm.cons _ (List.Perm.refl _)).trans (List.Perm.swap _ _ _))
      refine GoS.call [1, 20] 12 #[.pointer (some (⟨b4, 0, none⟩)), .int .i64 9] (some 22) [.inRegion (cops (csub (cd Try.f7) [1,1,0,0])) [14], .code (csub (cd Try.f7) [1,1,0,1]), .code (csub (cd Try.f7) [1,1,1])] [(1, .pointer (some (⟨b4, 0, none⟩))), (20, .bool false)] (by kernel_rfl) (kill_c b4 v5 (killG (List.replicate (Int.toNat 10) false) 9) (by decide) 9 w9 (Mem.lend (R := [⟨49, 2, (obj b4), 1, [v5, .int .i64 (((lft (killG (List.replicate (Int.toNat 10) false) 9)) : Nat) : Int)]⟩, ⟨4, 1, v5, (List.length (killG (List.replicate (Int.toNat 10) false) 9)), (bvals (killG (List.replicate (Int.toNat 10) false) 9))⟩]) (L := []) hM14)) ?_
      rintro _ w15 ⟨rfl, m16⟩
      refine ⟨_, rfl, ?_⟩
      have hM17 : Mem [] w w15 [⟨49, 2, (obj b4), 1, [v5, .int .i64 (((lft (killG (killG (List.replicate (Int.toNat 10) false) 9) 9)) : Nat) : Int)]⟩, ⟨4, 1, v5, (List.length (killG (killG (List.replicate (Int.toNat 10) false) 9) 9)), (bvals (killG (killG (List.replicate (Int.toNat 10) false) 9) 9))⟩] := Mem.back (R := [⟨49, 2, (obj b4), 1, [v5, .int .i64 (((lft (killG (List.replicate (Int.toNat 10) false) 9)) : Nat) : Int)]⟩, ⟨4, 1, v5, (List.length (killG (List.replicate (Int.toNat 10) false) 9)), (bvals (killG (List.replicate (Int.toNat 10) false) 9))⟩]) (L := []) hM14 m16
      refine GoS.run [1, 23] [.n] _ [.inRegion (cops (csub (cd Try.f7) [1,1,0,0])) [], .code (csub (cd Try.f7) [1,1,0,1]), .code (csub (cd Try.f7) [1,1,1])] [(1, .pointer (some (⟨b4, 0, none⟩))), (23, .bool (lvB (killG (List.replicate (Int.toNat 10) false) 9) 9))] w15 (by kernel_rfl) .nil ?_
      refine GoS.run [1, 23] [.n] _ [.code (csub (cd Try.f7) [1,1,0,1]), .code (csub (cd Try.f7) [1,1,1])] [(1, .pointer (some (⟨b4, 0, none⟩))), (23, .bool (lvB (killG (List.replicate (Int.toNat 10) false) 9) 9))] w15 (by kernel_rfl) .nil ?_
      refine GoS.cond (lvB (killG (List.replicate (Int.toNat 10) false) 9) 9) [.code (csub (cd Try.f7) [1,1,0,1,0]), .code (csub (cd Try.f7) [1,1,1])] [.code (csub (cd Try.f7) [1,1,0,1,1]), .code (csub (cd Try.f7) [1,1,1])] (by kernel_rfl) (fun h18 => ?_) (fun h18 => ?_)
      ·
        exact absurd h18 (by decide +kernel)
      ·
        refine GoS.run [1] [.n] _ [.code (csub (cd Try.f7) [1,1,1])] [(1, .pointer (some (⟨b4, 0, none⟩)))] w15 (by kernel_rfl) .nil ?_
        refine GoS.run [1, 25] [.n, .n, .n] _ [.inRegion (cops (csub (cd Try.f7) [1,1,1,0])) [1,2,3,4,5,6], .code (csub (cd Try.f7) [1,1,1,1])] [(1, .pointer (some (⟨b4, 0, none⟩))), (25, .pointer (some (⟨b4, 0, none⟩)))] w15 (by kernel_rfl) .nil ?_
        refine GoS.call [1] 14 #[.pointer (some (⟨b4, 0, none⟩))] (some 26) [.inRegion (cops (csub (cd Try.f7) [1,1,1,0])) [2,3,4,5,6], .code (csub (cd Try.f7) [1,1,1,1])] [(1, .pointer (some (⟨b4, 0, none⟩)))] (by kernel_rfl) (count_c b4 v5 (killG (killG (List.replicate (Int.toNat 10) false) 9) 9) (.int .i64 (((lft (killG (killG (List.replicate (Int.toNat 10) false) 9) 9)) : Nat) : Int)) w15 (hM17.rd 0 rfl) (hM17.rd 1 rfl)) ?_
        rintro _ w19 ⟨rfl, hd20⟩
        refine ⟨_, rfl, ?_⟩
        have hM21 := hM17.dr hd20
        refine GoS.run [1, 4, 31] [.n, .n, .n, .n, .n, .n, .n, .n, .n, .n, .n] _ [.inRegion (cops (csub (cd Try.f7) [1,1,1,1,0])) [3,4,5,6,7,8,9,10,11,12,13,14,15,16,17,18,19,20], .code (csub (cd Try.f7) [1,1,1,1,1])] [(1, .pointer (some (⟨b4, 0, none⟩))), (4, .int .i64 (((lft (killG (killG (List.replicate (Int.toNat 10) false) 9) 9)) : Nat) : Int)), (31, .bool ((((List.length (killG (killG (List.replicate (Int.toNat 10) false) 9) 9)) : Nat) : Int) == 10))] w19 (by kernel_rfl) .nil ?_
        refine GoS.fork 31 ((((List.length (killG (killG (List.replicate (Int.toNat 10) false) 9) 9)) : Nat) : Int) == 10) (by kernel_rfl) (fun h22 => ?_) (fun h22 => ?_)
        ·
          have h22p : (((List.length (killG (killG (List.replicate (Int.toNat 10) false) 9) 9)) : Nat) : Int) = 10 := eq_of_beq h22
          refine GoS.run [1, 35] [.n, .n, .n, .n] _ [.inRegion (cops (csub (cd Try.f7) [1,1,1,1,0])) [7,8,9,10,11,12,13,14,15,16,17,18,19,20], .code (csub (cd Try.f7) [1,1,1,1,1])] [(1, .pointer (some (⟨b4, 0, none⟩))), (35, .bool ((((lft (killG (killG (List.replicate (Int.toNat 10) false) 9) 9)) : Nat) : Int) == 9))] w19 (by kernel_rfl) .nil ?_
          refine GoS.fork 35 ((((lft (killG (killG (List.replicate (Int.toNat 10) false) 9) 9)) : Nat) : Int) == 9) (by kernel_rfl) (fun h23 => ?_) (fun h23 => ?_)
          ·
            have h23p : (((lft (killG (killG (List.replicate (Int.toNat 10) false) 9) 9)) : Nat) : Int) = 9 := eq_of_beq h23
            refine GoS.run [1, 35, 36] [.n] _ [.inRegion (cops (csub (cd Try.f7) [1,1,1,1,0])) [8,9,10,11,12,13,14,15,16,17,18,19,20], .code (csub (cd Try.f7) [1,1,1,1,1])] [(1, .pointer (some (⟨b4, 0, none⟩))), (35, .bool true), (36, .pointer (some (⟨b4, 0, none⟩)))] w19 (by kernel_rfl) .nil ?_
            refine GoS.call [1, 35] 15 #[.pointer (some (⟨b4, 0, none⟩)), .int .i64 0] (some 37) [.inRegion (cops (csub (cd Try.f7) [1,1,1,1,0])) [9,10,11,12,13,14,15,16,17,18,19,20], .code (csub (cd Try.f7) [1,1,1,1,1])] [(1, .pointer (some (⟨b4, 0, none⟩))), (35, .bool true)] (by kernel_rfl) (live_c b4 v5 (killG (killG (List.replicate (Int.toNat 10) false) 9) 9) (.int .i64 (((lft (killG (killG (List.replicate (Int.toNat 10) false) 9) 9)) : Nat) : Int)) 0 w19 (hM21.rd 0 rfl) (hM21.rd 1 rfl)) ?_
            rintro _ _ ⟨rfl, rfl⟩
            refine ⟨_, rfl, ?_⟩
            refine GoS.run [1, 39] [.n, .n] _ [.inRegion (cops (csub (cd Try.f7) [1,1,1,1,0])) [11,12,13,14,15,16,17,18,19,20], .code (csub (cd Try.f7) [1,1,1,1,1])] [(1, .pointer (some (⟨b4, 0, none⟩))), (39, .bool (lvB (killG (killG (List.replicate (Int.toNat 10) false) 9) 9) 0))] w19 (by kernel_rfl) .nil ?_
            refine GoS.fork 39 (lvB (killG (killG (List.replicate (Int.toNat 10) false) 9) 9) 0) (by kernel_rfl) (fun h24 => ?_) (fun h24 => ?_)
            ·
              have h24p : (0 : Int) ≤ 0 ∧ (0 : Int) < ((List.length (killG (killG (List.replicate (Int.toNat 10) false) 9) 9) : Nat) : Int) := ⟨(lvB_yes h24).1, (lvB_yes h24).2.1⟩
              have h24p1 : 1 ≤ lft (killG (killG (List.replicate (Int.toNat 10) false) 9) 9) := lft_pos h24
              refine GoS.run [1, 39, 40] [.n] _ [.inRegion (cops (csub (cd Try.f7) [1,1,1,1,0])) [12,13,14,15,16,17,18,19,20], .code (csub (cd Try.f7) [1,1,1,1,1])] [(1, .pointer (some (⟨b4, 0, none⟩))), (39, .bool true), (40, .pointer (some (⟨b4, 0, none⟩)))] w19 (by kernel_rfl) .nil ?_
              refine GoS.call [1, 39] 15 #[.pointer (some (⟨b4, 0, none⟩)), .int .i64 9] (some 41) [.inRegion (cops (csub (cd Try.f7) [1,1,1,1,0])) [13,14,15,16,17,18,19,20], .code (csub (cd Try.f7) [1,1,1,1,1])] [(1, .pointer (some (⟨b4, 0, none⟩))), (39, .bool true)] (by kernel_rfl) (live_c b4 v5 (killG (killG (List.replicate (Int.toNat 10) false) 9) 9) (.int .i64 (((lft (killG (killG (List.replicate (Int.toNat 10) false) 9) 9)) : Nat) : Int)) 9 w19 (hM21.rd 0 rfl) (hM21.rd 1 rfl)) ?_
              rintro _ _ ⟨rfl, rfl⟩
              refine ⟨_, rfl, ?_⟩
              refine GoS.run [1, 44] [.n, .n, .n] _ [.inRegion (cops (csub (cd Try.f7) [1,1,1,1,0])) [16,17,18,19,20], .code (csub (cd Try.f7) [1,1,1,1,1])] [(1, .pointer (some (⟨b4, 0, none⟩))), (44, .bool (!(lvB (killG (killG (List.replicate (Int.toNat 10) false) 9) 9) 9)))] w19 (by kernel_rfl) .nil ?_
              refine GoS.fork 44 (!(lvB (killG (killG (List.replicate (Int.toNat 10) false) 9) 9) 9)) (by kernel_rfl) (fun h25 => ?_) (fun h25 => ?_)
              ·
                refine GoS.run [44, 45] [.n] _ [.inRegion (cops (csub (cd Try.f7) [1,1,1,1,0])) [17,18,19,20], .code (csub (cd Try.f7) [1,1,1,1,1])] [(44, .bool true), (45, .pointer (some (⟨b4, 0, none⟩)))] w19 (by kernel_rfl) .nil ?_
                refine GoS.call [44] 17 #[.pointer (some (⟨b4, 0, none⟩))] (some 46) [.inRegion (cops (csub (cd Try.f7) [1,1,1,1,0])) [18,19,20], .code (csub (cd Try.f7) [1,1,1,1,1])] [(44, .bool true)] (by kernel_rfl) (pack_c b4 v5 (killG (killG (List.replicate (Int.toNat 10) false) 9) 9) (by decide) w19 (hM21.rd 0 rfl) (hM21.rd 1 rfl)) ?_
                rintro _ w26 ⟨rfl, m27⟩
                refine ⟨_, rfl, ?_⟩
                have hM28 := Mem.join hM21 m27
                have o29 : (binOp .eql 9 (.string (sb (packG (killG (killG (List.replicate (Int.toNat 10) false) 9) 9)))) (.string (sb ([138, 0, 2] : List UInt8)))).run Try.prog w26 = .ok (.bool (decide ((packG (killG (killG (List.replicate (Int.toNat 10) false) 9) 9)) = ([138, 0, 2] : List UInt8)))) w26 := f_streq
                have hM30 : Mem [] w w26 [] := hM28.sub (List.Sublist.cons _ (List.Sublist.cons _ (List.Sublist.refl _)))
                refine GoS.run [0] [.h (.bool (decide ((packG (killG (killG (List.replicate (Int.toNat 10) false) 9) 9)) = ([138, 0, 2] : List UInt8)))), .n, .n] _ [.inRegion (cops (csub (cd Try.f7) [1,1,1,1,0])) [], .code (csub (cd Try.f7) [1,1,1,1,1])] [(0, .bool (decide ((packG (killG (killG (List.replicate (Int.toNat 10) false) 9) 9)) = ([138, 0, 2] : List UInt8))))] w26 (by kernel_rfl) (.cons o29 .nil) ?_
                refine GoS.run [0] [.n] _ [.code (csub (cd Try.f7) [1,1,1,1,1])] [(0, .bool (decide ((packG (killG (killG (List.replicate (Int.toNat 10) false) 9) 9)) = ([138, 0, 2] : List UInt8))))] w26 (by kernel_rfl) .nil ?_
                refine GoS.ret (fn := Try.f7) (v := (.bool (decide ((packG (killG (killG (List.replicate (Int.toNat 10) false) 9) 9)) = ([138, 0, 2] : List UInt8))))) Try.func7 (by kernel_rfl) ?_
                rw [hR]
                exact ⟨ret_bool (by decide +kernel), hM30⟩
              ·
                exact absurd h25 (by decide +kernel)
            ·
              exact absurd h24 (by decide +kernel)
          ·
            exact absurd h23 (by decide +kernel)
        ·
          exact absurd h22 (by decide +kernel)

set_option maxHeartbeats 400000 in
theorem lnil_c (n : Int) (w : World) :
    Calls Try.prog 4 #[.int .i64 n] w (fun e w' => e = .returned (.bool true) ∧ Below w.heap.size w w') := by
  obtain ⟨R, hR⟩ : ∃ R : Ending → World → Prop, R = (fun e w' => e = .returned (.bool true) ∧ Below w.heap.size w w') := ⟨_, rfl⟩
  rw [← hR]
  refine GoS.enter (n := 42) Try.func4 (by kernel_rfl) rfl [(0, .int .i64 n)] (by kernel_rfl) (by kernel_rfl) ?_
  have hM0 := Mem.start w
  refine GoS.run [0, 3, 7] [.n, .n, .n, .n, .n, .n, .n, .n, .n, .n, .n] _ [.inRegion (cops (csub (cd Try.f4) [1,1,0])) [1,2,3,4,5,6], .code (csub (cd Try.f4) [1,1,1])] [(0, .int .i64 n), (3, .pointer none), (7, .pointer none)] w (by kernel_rfl) .nil ?_
  refine GoS.call [0, 3] 14 #[.pointer none] (some 8) [.inRegion (cops (csub (cd Try.f4) [1,1,0])) [2,3,4,5,6], .code (csub (cd Try.f4) [1,1,1])] [(0, .int .i64 n), (3, .pointer none)] (by kernel_rfl) (count_n w) ?_
  rintro _ _ ⟨rfl, rfl⟩
  refine ⟨_, rfl, ?_⟩
  refine GoS.run [0, 3, 4, 5] [.n, .n, .n, .n, .n, .n, .n, .n] _ [.inRegion (cops (csub (cd Try.f4) [1,1,1,0])) [0,1,2,3,4,5,6,7,8,9,10,11,12,13,14,15,16,17,18,19,20,21,22,23,24,25,26,27,28,29,30,31], .code (csub (cd Try.f4) [1,1,1,1])] [(0, .int .i64 n), (3, .pointer none), (4, .int .i64 0), (5, .int .i64 0)] w (by kernel_rfl) .nil ?_
  refine GoS.call [0, 3, 4, 5] 7 #[] (some 11) [.inRegion (cops (csub (cd Try.f4) [1,1,1,0])) [1,2,3,4,5,6,7,8,9,10,11,12,13,14,15,16,17,18,19,20,21,22,23,24,25,26,27,28,29,30,31], .code (csub (cd Try.f4) [1,1,1,1])] [(0, .int .i64 n), (3, .pointer none), (4, .int .i64 0), (5, .int .i64 0)] (by kernel_rfl) (awake_c w) ?_
  rintro _ w1 ⟨rfl, m2⟩
  refine ⟨_, rfl, ?_⟩
  have hM3 := Mem.join hM0 m2
  refine GoS.run [0, 3, 4, 5, 12, 13, 14] [.n, .n, .n] _ [.inRegion (cops (csub (cd Try.f4) [1,1,1,0])) [4,5,6,7,8,9,10,11,12,13,14,15,16,17,18,19,20,21,22,23,24,25,26,27,28,29,30,31], .code (csub (cd Try.f4) [1,1,1,1])] [(0, .int .i64 n), (3, .pointer none), (4, .int .i64 0), (5, .int .i64 0), (12, .bool true), (13, .pointer none), (14, .int .i64 n)] w1 (by kernel_rfl) .nil ?_
  refine GoS.call [0, 3, 4, 5, 12] 12 #[.pointer none, .int .i64 n] (some 15) [.inRegion (cops (csub (cd Try.f4) [1,1,1,0])) [5,6,7,8,9,10,11,12,13,14,15,16,17,18,19,20,21,22,23,24,25,26,27,28,29,30,31], .code (csub (cd Try.f4) [1,1,1,1])] [(0, .int .i64 n), (3, .pointer none), (4, .int .i64 0), (5, .int .i64 0), (12, .bool true)] (by kernel_rfl) (kill_n n w1) ?_
  rintro _ _ ⟨rfl, rfl⟩
  refine ⟨_, rfl, ?_⟩
  refine GoS.run [3, 4, 5, 18, 19, 20] [.n, .n, .n, .n, .n] _ [.inRegion (cops (csub (cd Try.f4) [1,1,1,0])) [10,11,12,13,14,15,16,17,18,19,20,21,22,23,24,25,26,27,28,29,30,31], .code (csub (cd Try.f4) [1,1,1,1])] [(3, .pointer none), (4, .int .i64 0), (5, .int .i64 0), (18, .bool true), (19, .pointer none), (20, .int .i64 n)] w1 (by kernel_rfl) .nil ?_
  refine GoS.call [3, 4, 5, 18] 15 #[.pointer none, .int .i64 n] (some 21) [.inRegion (cops (csub (cd Try.f4) [1,1,1,0])) [11,12,13,14,15,16,17,18,19,20,21,22,23,24,25,26,27,28,29,30,31], .code (csub (cd Try.f4) [1,1,1,1])] [(3, .pointer none), (4, .int .i64 0), (5, .int .i64 0), (18, .bool true)] (by kernel_rfl) (live_n n w1) ?_
  rintro _ _ ⟨rfl, rfl⟩
  refine ⟨_, rfl, ?_⟩
  have o4 : (IntKind.i64 = IntKind.i64) ∧ w1 = w1 ∧ Value.bool true = .bool (0 == 0) := ⟨rfl, rfl, congrArg Value.bool (Eq.symm (beq_self_eq_true _))⟩
  have o5 : (IntKind.i64 = IntKind.i64) ∧ w1 = w1 ∧ Value.bool true = .bool (0 == 0) := ⟨rfl, rfl, congrArg Value.bool (Eq.symm (beq_self_eq_true _))⟩
  refine GoS.run [3, 32, 33] [.n, .n, .n, .n, .h (.bool true), .n, .n, .n, .h (.bool true), .n, .n, .n] _ [.inRegion (cops (csub (cd Try.f4) [1,1,1,0])) [23,24,25,26,27,28,29,30,31], .code (csub (cd Try.f4) [1,1,1,1])] [(3, .pointer none), (32, .bool true), (33, .pointer none)] w1 (by kernel_rfl) (.cons o4 (.cons o5 .nil)) ?_
  refine GoS.call [3, 32] 10 #[.pointer none] (some 34) [.inRegion (cops (csub (cd Try.f4) [1,1,1,0])) [24,25,26,27,28,29,30,31], .code (csub (cd Try.f4) [1,1,1,1])] [(3, .pointer none), (32, .bool true)] (by kernel_rfl) (copy_n w1) ?_
  rintro _ _ ⟨rfl, rfl⟩
  refine ⟨_, rfl, ?_⟩
  refine GoS.run [37, 38] [.n, .n, .n, .n] _ [.inRegion (cops (csub (cd Try.f4) [1,1,1,0])) [28,29,30,31], .code (csub (cd Try.f4) [1,1,1,1])] [(37, .bool true), (38, .pointer none)] w1 (by kernel_rfl) .nil ?_
  refine GoS.call [37] 17 #[.pointer none] (some 39) [.inRegion (cops (csub (cd Try.f4) [1,1,1,0])) [29,30,31], .code (csub (cd Try.f4) [1,1,1,1])] [(37, .bool true)] (by kernel_rfl) (pack_n w1) ?_
  rintro _ _ ⟨rfl, rfl⟩
  refine ⟨_, rfl, ?_⟩
  have o6 : (binOp .eql 9 (.string (sb ([]))) (.string (sb ([])))).run Try.prog w1 = .ok (.bool true) w1 := f_streq_yes (rfl)
  refine GoS.run [2] [.h (.bool true), .n, .n, .n] _ [.code (csub (cd Try.f4) [1,1,1,1])] [(2, .bool true)] w1 (by kernel_rfl) (.cons o6 .nil) ?_
  refine GoS.ret (fn := Try.f4) (v := (.bool true)) Try.func4 (by kernel_rfl) ?_
  rw [hR]
  exact ⟨rfl, hM3.below⟩

set_option maxHeartbeats 400000 in
theorem lreads_c (s : List UInt8) (w : World) :
    Calls Try.prog 5 #[.string (sb s)] w (fun e w' => e = .returned (.bool true) ∧ Below w.heap.size w w') := by
  obtain ⟨R, hR⟩ : ∃ R : Ending → World → Prop, R = (fun e w' => e = .returned (.bool true) ∧ Below w.heap.size w w') := ⟨_, rfl⟩
  rw [← hR]
  refine GoS.enter (n := 46) Try.func5 (by kernel_rfl) rfl [(0, .string (sb s))] (by kernel_rfl) (by kernel_rfl) ?_
  have hM0 := Mem.start w
  refine GoS.run [0, 8] [.n, .n, .n, .n, .n, .n, .n] _ [.inRegion (cops (csub (cd Try.f5) [1,0])) [1,2,3,4,5,6], .code (csub (cd Try.f5) [1,1])] [(0, .string (sb s)), (8, .string (sb s))] w (by kernel_rfl) .nil ?_
  refine GoS.call [0] 19 #[.string (sb s)] (some 9) [.inRegion (cops (csub (cd Try.f5) [1,0])) [2,3,4,5,6], .code (csub (cd Try.f5) [1,1])] [(0, .string (sb s))] (by kernel_rfl) (lread_c s w) ?_
  rintro _ w1 (⟨hn6, rfl, m2⟩ | ⟨hn6, b4, v5, rfl, m2⟩)
  ·
    refine ⟨_, rfl, ?_⟩
    have hM3 := Mem.join hM0 m2
    refine GoS.run [0, 3, 4, 13] [.n, .n, .n, .n, .n, .n, .n, .n, .n] _ [.inRegion (cops (csub (cd Try.f5) [1,1,0])) [1,2,3,4,5,6], .code (csub (cd Try.f5) [1,1,1])] [(0, .string (sb s)), (3, .pointer none), (4, .int .i64 (readE s)), (13, .string (sb s))] w1 (by kernel_rfl) .nil ?_
    refine GoS.call [0, 3, 4] 20 #[.string (sb s)] (some 14) [.inRegion (cops (csub (cd Try.f5) [1,1,0])) [2,3,4,5,6], .code (csub (cd Try.f5) [1,1,1])] [(0, .string (sb s)), (3, .pointer none), (4, .int .i64 (readE s))] (by kernel_rfl) (rread_c s w1) ?_
    rintro _ w7 (⟨hn12, rfl, m8⟩ | ⟨hn12, _⟩)
    ·
      refine ⟨_, rfl, ?_⟩
      have hM9 := Mem.join hM3 m8
      refine GoS.run [0, 3, 4, 5, 6] [.n, .n, .n, .n, .n, .n, .n, .n, .n] _ [.inRegion (cops (csub (cd Try.f5) [1,1,1,0,0])) [0,1,2,3,4,5,6,7,8,9,10,11,12,13], .code (csub (cd Try.f5) [1,1,1,0,1]), .code (csub (cd Try.f5) [1,1,1,1])] [(0, .string (sb s)), (3, .pointer none), (4, .int .i64 (readE s)), (5, .pointer none), (6, .int .i64 (readE s))] w7 (by kernel_rfl) .nil ?_
      refine GoS.call [0, 3, 4, 5, 6] 7 #[] (some 17) [.inRegion (cops (csub (cd Try.f5) [1,1,1,0,0])) [1,2,3,4,5,6,7,8,9,10,11,12,13], .code (csub (cd Try.f5) [1,1,1,0,1]), .code (csub (cd Try.f5) [1,1,1,1])] [(0, .string (sb s)), (3, .pointer none), (4, .int .i64 (readE s)), (5, .pointer none), (6, .int .i64 (readE s))] (by kernel_rfl) (awake_c w7) ?_
      rintro _ w13 ⟨rfl, m14⟩
      refine ⟨_, rfl, ?_⟩
      have hM15 := Mem.join hM9 m14
      have o16 : (IntKind.i64 = IntKind.i64) ∧ w13 = w13 ∧ Value.bool false = .bool ((readE s) != (readE s)) := ⟨rfl, rfl, congrArg Value.bool (Eq.symm (bne_self_eq_false _))⟩
      have o17 : Try.prog.underlying 4 = some .bool ∧ w13 = w13 ∧ Value.bool false = .bool (!(true == true)) := ⟨by kernel_rfl, rfl, congrArg Value.bool (Eq.symm (bne_self_eq_false _))⟩
      refine GoS.run [2] [.n, .n, .n, .n, .h (.bool false), .n, .n, .n, .n, .n, .n, .h (.bool false), .n, .n, .n, .n, .n, .n, .n, .n, .n, .n, .n, .n, .n, .n, .n, .n, .n, .n, .n, .n, .n, .n, .n] _ [.code (csub (cd Try.f5) [1,1,1,1,1])] [(2, .bool true)] w13 (by kernel_rfl) (.cons o16 (.cons o17 .nil)) ?_
      refine GoS.ret (fn := Try.f5) (v := (.bool true)) Try.func5 (by kernel_rfl) ?_
      rw [hR]
      exact ⟨rfl, hM15.below⟩
    ·
      exact absurd hn12 ((by assumption))
  ·
    refine ⟨_, rfl, ?_⟩
    have hM3 := Mem.join hM0 m2
    refine GoS.run [0, 3, 4, 13] [.n, .n, .n, .n, .n, .n, .n, .n, .n] _ [.inRegion (cops (csub (cd Try.f5) [1,1,0])) [1,2,3,4,5,6], .code (csub (cd Try.f5) [1,1,1])] [(0, .string (sb s)), (3, .pointer (some (⟨b4, 0, none⟩))), (4, .int .i64 0), (13, .string (sb s))] w1 (by kernel_rfl) .nil ?_
    refine GoS.call [0, 3, 4] 20 #[.string (sb s)] (some 14) [.inRegion (cops (csub (cd Try.f5) [1,1,0])) [2,3,4,5,6], .code (csub (cd Try.f5) [1,1,1])] [(0, .string (sb s)), (3, .pointer (some (⟨b4, 0, none⟩))), (4, .int .i64 0)] (by kernel_rfl) (rread_c s w1) ?_
    rintro _ w18 (⟨hn23, _, _⟩ | ⟨hn23, b21, v22, rfl, m19⟩)
    ·
      exact absurd ((by assumption)) hn23
    ·
      refine ⟨_, rfl, ?_⟩
      have hM20 := Mem.join hM3 m19
      refine GoS.run [0, 3, 4, 5, 6] [.n, .n, .n, .n, .n, .n, .n, .n, .n] _ [.inRegion (cops (csub (cd Try.f5) [1,1,1,0,0])) [0,1,2,3,4,5,6,7,8,9,10,11,12,13], .code (csub (cd Try.f5) [1,1,1,0,1]), .code (csub (cd Try.f5) [1,1,1,1])] [(0, .string (sb s)), (3, .pointer (some (⟨b4, 0, none⟩))), (4, .int .i64 0), (5, .pointer (some (⟨b21, 0, none⟩))), (6, .int .i64 0)] w18 (by kernel_rfl) .nil ?_
      refine GoS.call [0, 3, 4, 5, 6] 7 #[] (some 17) [.inRegion (cops (csub (cd Try.f5) [1,1,1,0,0])) [1,2,3,4,5,6,7,8,9,10,11,12,13], .code (csub (cd Try.f5) [1,1,1,0,1]), .code (csub (cd Try.f5) [1,1,1,1])] [(0, .string (sb s)), (3, .pointer (some (⟨b4, 0, none⟩))), (4, .int .i64 0), (5, .pointer (some (⟨b21, 0, none⟩))), (6, .int .i64 0)] (by kernel_rfl) (awake_c w18) ?_
      rintro _ w24 ⟨rfl, m25⟩
      refine ⟨_, rfl, ?_⟩
      have hM26 := Mem.join hM20 m25
      have o27 : (IntKind.i64 = IntKind.i64) ∧ w24 = w24 ∧ Value.bool false = .bool (0 != 0) := ⟨rfl, rfl, congrArg Value.bool (Eq.symm (bne_self_eq_false _))⟩
      have o28 : Try.prog.underlying 4 = some .bool ∧ w24 = w24 ∧ Value.bool false = .bool (!(false == false)) := ⟨by kernel_rfl, rfl, congrArg Value.bool (Eq.symm (bne_self_eq_false _))⟩
      refine GoS.run [0, 3, 5, 33, 34] [.n, .n, .n, .n, .h (.bool false), .n, .n, .n, .n, .n, .n, .h (.bool false), .n, .n, .n, .n, .n, .n, .n, .n, .n, .n] _ [.inRegion (cops (csub (cd Try.f5) [1,1,1,1,0])) [4,5,6,7,8,9,10,11,12,13,14,15], .code (csub (cd Try.f5) [1,1,1,1,1])] [(0, .string (sb s)), (3, .pointer (some (⟨b4, 0, none⟩))), (5, .pointer (some (⟨b21, 0, none⟩))), (33, .bool false), (34, .pointer (some (⟨b4, 0, none⟩)))] w24 (by kernel_rfl) (.cons o27 (.cons o28 .nil)) ?_
      refine GoS.call [0, 3, 5, 33] 17 #[.pointer (some (⟨b4, 0, none⟩))] (some 35) [.inRegion (cops (csub (cd Try.f5) [1,1,1,1,0])) [5,6,7,8,9,10,11,12,13,14,15], .code (csub (cd Try.f5) [1,1,1,1,1])] [(0, .string (sb s)), (3, .pointer (some (⟨b4, 0, none⟩))), (5, .pointer (some (⟨b21, 0, none⟩))), (33, .bool false)] (by kernel_rfl) (pack_c b4 v5 (readG s) (by exact readG_len (by assumption)) w24 (hM26.rd 2 rfl) (hM26.rd 3 rfl)) ?_
      rintro _ w29 ⟨rfl, m30⟩
      refine ⟨_, rfl, ?_⟩
      have hM31 := Mem.join hM26 m30
      refine GoS.run [0, 3, 33, 35, 36] [.n] _ [.inRegion (cops (csub (cd Try.f5) [1,1,1,1,0])) [6,7,8,9,10,11,12,13,14,15], .code (csub (cd Try.f5) [1,1,1,1,1])] [(0, .string (sb s)), (3, .pointer (some (⟨b4, 0, none⟩))), (33, .bool false), (35, .string (sb (packG (readG s)))), (36, .pointer (some (⟨b21, 0, none⟩)))] w29 (by kernel_rfl) .nil ?_
      refine GoS.call [0, 3, 33, 35] 18 #[.pointer (some (⟨b21, 0, none⟩))] (some 37) [.inRegion (cops (csub (cd Try.f5) [1,1,1,1,0])) [7,8,9,10,11,12,13,14,15], .code (csub (cd Try.f5) [1,1,1,1,1])] [(0, .string (sb s)), (3, .pointer (some (⟨b4, 0, none⟩))), (33, .bool false), (35, .string (sb (packG (readG s))))] (by kernel_rfl) (rpack_c b21 v22 ((cntP s).1) (readQ s) (by exact readN (by assumption)) (by exact readQ_wise (by assumption)) w29 (hM31.rd 0 rfl) (hM31.rd 1 rfl)) ?_
      rintro _ w32 ⟨rfl, m33⟩
      refine ⟨_, rfl, ?_⟩
      have hM34 := Mem.join hM31 m33
      have o35 : (binOp .eql 9 (.string (sb (packG (readG s)))) (.string (sb (packR ((cntP s).1) (readQ s))))).run Try.prog w32 = .ok (.bool true) w32 := f_streq_yes (pack_same (by assumption))
      have hM36 : Mem [] w w32 [⟨49, 2, (obj b4), 1, [v5, .int .i64 (((lft (readG s)) : Nat) : Int)]⟩, ⟨4, 1, v5, (List.length (readG s)), (bvals (readG s))⟩] := hM34.sub (List.Sublist.cons _ (List.Sublist.cons _ (List.Sublist.cons_cons _ (List.Sublist.cons_cons _ (List.Sublist.refl _)))))
      refine GoS.run [0, 33, 39, 40] [.h (.bool true), .n, .n] _ [.inRegion (cops (csub (cd Try.f5) [1,1,1,1,0])) [10,11,12,13,14,15], .code (csub (cd Try.f5) [1,1,1,1,1])] [(0, .string (sb s)), (33, .bool false), (39, .bool true), (40, .pointer (some (⟨b4, 0, none⟩)))] w32 (by kernel_rfl) (.cons o35 .nil) ?_
      refine GoS.call [0, 33, 39] 17 #[.pointer (some (⟨b4, 0, none⟩))] (some 41) [.inRegion (cops (csub (cd Try.f5) [1,1,1,1,0])) [11,12,13,14,15], .code (csub (cd Try.f5) [1,1,1,1,1])] [(0, .string (sb s)), (33, .bool false), (39, .bool true)] (by kernel_rfl) (pack_c b4 v5 (readG s) (by exact readG_len (by assumption)) w32 (hM36.rd 0 rfl) (hM36.rd 1 rfl)) ?_
      rintro _ w37 ⟨rfl, m38⟩
      refine ⟨_, rfl, ?_⟩
      have hM39 := Mem.join hM36 m38
      have o40 : (binOp .eql 9 (.string (sb (packG (readG s)))) (.string (sb s))).run Try.prog w37 = .ok (.bool true) w37 := f_streq_yes (pack_read (by assumption))
      have hM41 : Mem [] w w37 [] := hM39.sub (List.Sublist.cons _ (List.Sublist.cons _ (List.Sublist.refl _)))
      refine GoS.run [2] [.n, .h (.bool true), .n, .n, .n, .n] _ [.code (csub (cd Try.f5) [1,1,1,1,1])] [(2, .bool true)] w37 (by kernel_rfl) (.cons o40 .nil) ?_
      refine GoS.ret (fn := Try.f5) (v := (.bool true)) Try.func5 (by kernel_rfl) ?_
      rw [hR]
      exact ⟨rfl, hM41.below⟩


end Go.Proofs.Ytiifhlhmkpcaeaa
