/-
  The walk of RealTotal: it answers true for all arguments below 2^64.
-/
import Derived.Test.YthioghimgiknkaaRealW
import Derived.Test.YthioghimgiknkaaRealA
namespace Go.Proofs.Ythioghimgiknkaa
open Go Go.Gw Go.RealP

set_option maxHeartbeats 400000 in
theorem total_c (a b c : Nat) (ha : a < 18446744073709551616) (hb : b < 18446744073709551616) (hc : c < 18446744073709551616) (w : World) :
    Calls Try.prog 5 #[.int .u64 ((a : Nat) : Int), .int .u64 ((b : Nat) : Int), .int .u64 ((c : Nat) : Int)] w (fun e w' => e = .returned (.bool true) ∧ w = w') := by
  obtain ⟨R, hR⟩ : ∃ R : Ending → World → Prop, R = (fun e w' => e = .returned (.bool true) ∧ w = w') := ⟨_, rfl⟩
  rw [← hR]
  refine GoS.enter (n := 70) Try.func5 (by kernel_rfl) rfl [(0, .int .u64 ((a : Nat) : Int)), (1, .int .u64 ((b : Nat) : Int)), (2, .int .u64 ((c : Nat) : Int))] (by kernel_rfl) (by kernel_rfl) ?_
  refine GoS.run [0, 1, 2, 7, 8] [.n, .n, .n, .n, .n, .n, .n, .n, .n, .n, .n, .n, .n, .n, .n, .n] _ [.inRegion (cops (csub (cd Try.f5) [1,1,0,0])) [0,1,2,3,4,5,6,7,8,9,10,11,12,13,14,15,16,17,18,19,20,21,22,23,24,25,26,27], .code (csub (cd Try.f5) [1,1,0,1]), .code (csub (cd Try.f5) [1,1,1])] [(0, .int .u64 ((a : Nat) : Int)), (1, .int .u64 ((b : Nat) : Int)), (2, .int .u64 ((c : Nat) : Int)), (7, .float .f64 a), (8, .float .f64 b)] w (by kernel_rfl) .nil ?_
  refine GoS.call [0, 1, 2, 7, 8] 8 #[] (some 13) [.inRegion (cops (csub (cd Try.f5) [1,1,0,0])) [1,2,3,4,5,6,7,8,9,10,11,12,13,14,15,16,17,18,19,20,21,22,23,24,25,26,27], .code (csub (cd Try.f5) [1,1,0,1]), .code (csub (cd Try.f5) [1,1,1])] [(0, .int .u64 ((a : Nat) : Int)), (1, .int .u64 ((b : Nat) : Int)), (2, .int .u64 ((c : Nat) : Int)), (7, .float .f64 a), (8, .float .f64 b)] (by kernel_rfl) (awake_c w) ?_
  rintro _ _ ⟨rfl, rfl⟩
  refine ⟨_, rfl, ?_⟩
  refine GoS.run [0, 1, 2, 7, 8, 15, 16, 17] [.n, .n, .n, .n] _ [.inRegion (cops (csub (cd Try.f5) [1,1,0,0])) [5,6,7,8,9,10,11,12,13,14,15,16,17,18,19,20,21,22,23,24,25,26,27], .code (csub (cd Try.f5) [1,1,0,1]), .code (csub (cd Try.f5) [1,1,1])] [(0, .int .u64 ((a : Nat) : Int)), (1, .int .u64 ((b : Nat) : Int)), (2, .int .u64 ((c : Nat) : Int)), (7, .float .f64 a), (8, .float .f64 b), (15, .bool false), (16, .int .u64 ((a : Nat) : Int)), (17, .int .u64 ((b : Nat) : Int))] w (by kernel_rfl) .nil ?_
  refine GoS.call [0, 1, 2, 7, 8, 15] 9 #[.int .u64 ((a : Nat) : Int), .int .u64 ((b : Nat) : Int)] (some 18) [.inRegion (cops (csub (cd Try.f5) [1,1,0,0])) [6,7,8,9,10,11,12,13,14,15,16,17,18,19,20,21,22,23,24,25,26,27], .code (csub (cd Try.f5) [1,1,0,1]), .code (csub (cd Try.f5) [1,1,1])] [(0, .int .u64 ((a : Nat) : Int)), (1, .int .u64 ((b : Nat) : Int)), (2, .int .u64 ((c : Nat) : Int)), (7, .float .f64 a), (8, .float .f64 b), (15, .bool false)] (by kernel_rfl) (less_c a b (by omega) (by omega) w) ?_
  rintro _ _ ⟨rfl, rfl⟩
  refine ⟨_, rfl, ?_⟩
  refine GoS.run [0, 1, 2, 7, 8, 15, 19] [.n] _ [.inRegion (cops (csub (cd Try.f5) [1,1,0,0])) [7,8,9,10,11,12,13,14,15,16,17,18,19,20,21,22,23,24,25,26,27], .code (csub (cd Try.f5) [1,1,0,1]), .code (csub (cd Try.f5) [1,1,1])] [(0, .int .u64 ((a : Nat) : Int)), (1, .int .u64 ((b : Nat) : Int)), (2, .int .u64 ((c : Nat) : Int)), (7, .float .f64 a), (8, .float .f64 b), (15, .bool false), (19, .bool (lessB a b))] w (by kernel_rfl) .nil ?_
  have J6 : GoS Try.prog 5 R 70 [.inRegion (cops (csub (cd Try.f5) [1,1,0,0])) [], .code (csub (cd Try.f5) [1,1,0,1]), .code (csub (cd Try.f5) [1,1,1])] [(0, .int .u64 ((a : Nat) : Int)), (1, .int .u64 ((b : Nat) : Int)), (7, .float .f64 a), (8, .float .f64 b), (40, .bool ((lessB a b) && ((lessB b a) || ((lessB b c) && (!(lessB a c))))))] w := by
    refine GoS.run [0, 1, 7, 8, 40] [.n] _ [.code (csub (cd Try.f5) [1,1,0,1]), .code (csub (cd Try.f5) [1,1,1])] [(0, .int .u64 ((a : Nat) : Int)), (1, .int .u64 ((b : Nat) : Int)), (7, .float .f64 a), (8, .float .f64 b), (40, .bool ((lessB a b) && ((lessB b a) || ((lessB b c) && (!(lessB a c))))))] w (by kernel_rfl) .nil ?_
    refine GoS.cond ((lessB a b) && ((lessB b a) || ((lessB b c) && (!(lessB a c))))) (by kernel_rfl) (fun h7 => ?_) (fun h7 => ?_)
    ·
      have h7p : ((lessB b a) = true) ∨ (((lessB b c) && (!(lessB a c))) = true) := or_yes (and_right h7)
      refine GoS.run [6] [.n, .n, .n, .n] _ [.code (csub (cd Try.f5) [1,1,0,1,0,1]), .code (csub (cd Try.f5) [1,1,1])] [(6, .bool false)] w (by kernel_rfl) .nil ?_
      refine GoS.ret (fn := Try.f5) (v := (.bool false)) Try.func5 (by kernel_rfl) ?_
      rw [hR]
      exact ⟨ret_bool (total_1 ha hb hc h7), rfl⟩
    ·
      have h7p : ((lessB a b) = false) ∨ (((lessB b a) || ((lessB b c) && (!(lessB a c)))) = false) := and_no h7
      refine GoS.run [0, 1, 7, 8] [.n] _ [.code (csub (cd Try.f5) [1,1,1])] [(0, .int .u64 ((a : Nat) : Int)), (1, .int .u64 ((b : Nat) : Int)), (7, .float .f64 a), (8, .float .f64 b)] w (by kernel_rfl) .nil ?_
      refine GoS.run [0, 1, 7, 8, 43] [.n, .n, .n, .n, .n, .n, .n] _ [.code (csub (cd Try.f5) [1,1,1,0,1]), .code (csub (cd Try.f5) [1,1,1,1])] [(0, .int .u64 ((a : Nat) : Int)), (1, .int .u64 ((b : Nat) : Int)), (7, .float .f64 a), (8, .float .f64 b), (43, .bool ((Ieee.Format.order (FloatKind.format .f64) a a) != some .eq))] w (by kernel_rfl) .nil ?_
      refine GoS.cond ((Ieee.Format.order (FloatKind.format .f64) a a) != some .eq) (by kernel_rfl) (fun h8 => ?_) (fun h8 => ?_)
      ·
        refine GoS.run [0, 1, 8, 44, 45] [.n, .n, .n, .n] _ [.inRegion (cops (csub (cd Try.f5) [1,1,1,0,1,0,0])) [2,3,4,5,6,7,8,9,10,11,12,13,14], .code (csub (cd Try.f5) [1,1,1,0,1,0,1]), .code (csub (cd Try.f5) [1,1,1,1])] [(0, .int .u64 ((a : Nat) : Int)), (1, .int .u64 ((b : Nat) : Int)), (8, .float .f64 b), (44, .int .u64 ((a : Nat) : Int)), (45, .int .u64 ((b : Nat) : Int))] w (by kernel_rfl) .nil ?_
        refine GoS.call [0, 1, 8] 9 #[.int .u64 ((a : Nat) : Int), .int .u64 ((b : Nat) : Int)] (some 46) [.inRegion (cops (csub (cd Try.f5) [1,1,1,0,1,0,0])) [3,4,5,6,7,8,9,10,11,12,13,14], .code (csub (cd Try.f5) [1,1,1,0,1,0,1]), .code (csub (cd Try.f5) [1,1,1,1])] [(0, .int .u64 ((a : Nat) : Int)), (1, .int .u64 ((b : Nat) : Int)), (8, .float .f64 b)] (by kernel_rfl) (less_c a b (by omega) (by omega) w) ?_
        rintro _ _ ⟨rfl, rfl⟩
        refine ⟨_, rfl, ?_⟩
        refine GoS.run [0, 1, 8, 48] [.n, .n] _ [.inRegion (cops (csub (cd Try.f5) [1,1,1,0,1,0,0])) [5,6,7,8,9,10,11,12,13,14], .code (csub (cd Try.f5) [1,1,1,0,1,0,1]), .code (csub (cd Try.f5) [1,1,1,1])] [(0, .int .u64 ((a : Nat) : Int)), (1, .int .u64 ((b : Nat) : Int)), (8, .float .f64 b), (48, .bool (!(lessB a b)))] w (by kernel_rfl) .nil ?_
        have J11 : GoS Try.prog 5 R 70 [.inRegion (cops (csub (cd Try.f5) [1,1,1,0,1,0,0])) [], .code (csub (cd Try.f5) [1,1,1,0,1,0,1]), .code (csub (cd Try.f5) [1,1,1,1])] [(6, .bool ((!(lessB a b)) && (((Ieee.Format.order (FloatKind.format .f64) b b) != some .eq) || (lessB b a))))] w := by
          refine GoS.run [6] [.n] _ [.code (csub (cd Try.f5) [1,1,1,0,1,0,1]), .code (csub (cd Try.f5) [1,1,1,1])] [(6, .bool ((!(lessB a b)) && (((Ieee.Format.order (FloatKind.format .f64) b b) != some .eq) || (lessB b a))))] w (by kernel_rfl) .nil ?_
          refine GoS.ret (fn := Try.f5) (v := (.bool ((!(lessB a b)) && (((Ieee.Format.order (FloatKind.format .f64) b b) != some .eq) || (lessB b a))))) Try.func5 (by kernel_rfl) ?_
          rw [hR]
          exact ⟨ret_bool (total_2 ha hb hc h7 h8), rfl⟩
        refine GoS.fork 48 (!(lessB a b)) (by kernel_rfl) (fun h9 => ?_) (fun h9 => ?_)
        ·
          refine GoS.run [0, 1, 48, 52] [.n, .n, .n, .n] _ [.inRegion (cops (csub (cd Try.f5) [1,1,1,0,1,0,0])) [9,10,11,12,13,14], .code (csub (cd Try.f5) [1,1,1,0,1,0,1]), .code (csub (cd Try.f5) [1,1,1,1])] [(0, .int .u64 ((a : Nat) : Int)), (1, .int .u64 ((b : Nat) : Int)), (48, .bool true), (52, .bool ((Ieee.Format.order (FloatKind.format .f64) b b) != some .eq))] w (by kernel_rfl) .nil ?_
          refine GoS.fork 52 ((Ieee.Format.order (FloatKind.format .f64) b b) != some .eq) (by kernel_rfl) (fun h10 => ?_) (fun h10 => ?_)
          ·
            refine GoS.run [6] [.n, .n, .n, .n, .n, .n] _ [.inRegion (cops (csub (cd Try.f5) [1,1,1,0,1,0,0])) [], .code (csub (cd Try.f5) [1,1,1,0,1,0,1]), .code (csub (cd Try.f5) [1,1,1,1])] [(6, .bool true)] w (by kernel_rfl) .nil ?_
            exact GoS.cast (by simp [h9, h10]) J11
          ·
            refine GoS.run [48, 52, 53, 54] [.n, .n] _ [.inRegion (cops (csub (cd Try.f5) [1,1,1,0,1,0,0])) [11,12,13,14], .code (csub (cd Try.f5) [1,1,1,0,1,0,1]), .code (csub (cd Try.f5) [1,1,1,1])] [(48, .bool true), (52, .bool false), (53, .int .u64 ((b : Nat) : Int)), (54, .int .u64 ((a : Nat) : Int))] w (by kernel_rfl) .nil ?_
            refine GoS.call [48, 52] 9 #[.int .u64 ((b : Nat) : Int), .int .u64 ((a : Nat) : Int)] (some 55) [.inRegion (cops (csub (cd Try.f5) [1,1,1,0,1,0,0])) [12,13,14], .code (csub (cd Try.f5) [1,1,1,0,1,0,1]), .code (csub (cd Try.f5) [1,1,1,1])] [(48, .bool true), (52, .bool false)] (by kernel_rfl) (less_c b a (by omega) (by omega) w) ?_
            rintro _ _ ⟨rfl, rfl⟩
            refine ⟨_, rfl, ?_⟩
            refine GoS.run [6] [.n, .n, .n] _ [.inRegion (cops (csub (cd Try.f5) [1,1,1,0,1,0,0])) [], .code (csub (cd Try.f5) [1,1,1,0,1,0,1]), .code (csub (cd Try.f5) [1,1,1,1])] [(6, .bool (lessB b a))] w (by kernel_rfl) .nil ?_
            exact GoS.cast (by simp [h9, h10]) J11
        ·
          refine GoS.run [6] [.n, .n, .n, .n, .n, .n, .n, .n, .n, .n] _ [.inRegion (cops (csub (cd Try.f5) [1,1,1,0,1,0,0])) [], .code (csub (cd Try.f5) [1,1,1,0,1,0,1]), .code (csub (cd Try.f5) [1,1,1,1])] [(6, .bool false)] w (by kernel_rfl) .nil ?_
          exact GoS.cast (by simp [h9]) J11
      ·
        refine GoS.run [0, 1, 7, 8] [.n] _ [.code (csub (cd Try.f5) [1,1,1,1])] [(0, .int .u64 ((a : Nat) : Int)), (1, .int .u64 ((b : Nat) : Int)), (7, .float .f64 a), (8, .float .f64 b)] w (by kernel_rfl) .nil ?_
        refine GoS.run [0, 1, 7, 8, 61] [.n, .n, .n, .n, .n, .n] _ [.inRegion (cops (csub (cd Try.f5) [1,1,1,1,0])) [4,5,6,7,8,9,10,11,12], .code (csub (cd Try.f5) [1,1,1,1,1])] [(0, .int .u64 ((a : Nat) : Int)), (1, .int .u64 ((b : Nat) : Int)), (7, .float .f64 a), (8, .float .f64 b), (61, .bool ((Ieee.Format.order (FloatKind.format .f64) b b) != some .eq))] w (by kernel_rfl) .nil ?_
        have J13 : GoS Try.prog 5 R 70 [.inRegion (cops (csub (cd Try.f5) [1,1,1,1,0])) [], .code (csub (cd Try.f5) [1,1,1,1,1])] [(6, .bool (((Ieee.Format.order (FloatKind.format .f64) b b) != some .eq) || ((lessB a b) == ((Ieee.Format.order (FloatKind.format .f64) a b) == some .lt))))] w := by
          refine GoS.run [6] [.n] _ [.code (csub (cd Try.f5) [1,1,1,1,1])] [(6, .bool (((Ieee.Format.order (FloatKind.format .f64) b b) != some .eq) || ((lessB a b) == ((Ieee.Format.order (FloatKind.format .f64) a b) == some .lt))))] w (by kernel_rfl) .nil ?_
          refine GoS.ret (fn := Try.f5) (v := (.bool (((Ieee.Format.order (FloatKind.format .f64) b b) != some .eq) || ((lessB a b) == ((Ieee.Format.order (FloatKind.format .f64) a b) == some .lt))))) Try.func5 (by kernel_rfl) ?_
          rw [hR]
          exact ⟨ret_bool (total_3 ha hb hc h7 h8), rfl⟩
        refine GoS.fork 61 ((Ieee.Format.order (FloatKind.format .f64) b b) != some .eq) (by kernel_rfl) (fun h12 => ?_) (fun h12 => ?_)
        ·
          refine GoS.run [6] [.n, .n, .n, .n, .n, .n, .n, .n, .n] _ [.inRegion (cops (csub (cd Try.f5) [1,1,1,1,0])) [], .code (csub (cd Try.f5) [1,1,1,1,1])] [(6, .bool true)] w (by kernel_rfl) .nil ?_
          exact GoS.cast (by simp [h12]) J13
        ·
          refine GoS.run [7, 8, 61, 62, 63] [.n, .n] _ [.inRegion (cops (csub (cd Try.f5) [1,1,1,1,0])) [6,7,8,9,10,11,12], .code (csub (cd Try.f5) [1,1,1,1,1])] [(7, .float .f64 a), (8, .float .f64 b), (61, .bool false), (62, .int .u64 ((a : Nat) : Int)), (63, .int .u64 ((b : Nat) : Int))] w (by kernel_rfl) .nil ?_
          refine GoS.call [7, 8, 61] 9 #[.int .u64 ((a : Nat) : Int), .int .u64 ((b : Nat) : Int)] (some 64) [.inRegion (cops (csub (cd Try.f5) [1,1,1,1,0])) [7,8,9,10,11,12], .code (csub (cd Try.f5) [1,1,1,1,1])] [(7, .float .f64 a), (8, .float .f64 b), (61, .bool false)] (by kernel_rfl) (less_c a b (by omega) (by omega) w) ?_
          rintro _ _ ⟨rfl, rfl⟩
          refine ⟨_, rfl, ?_⟩
          refine GoS.run [6] [.n, .n, .n, .n, .n, .n] _ [.inRegion (cops (csub (cd Try.f5) [1,1,1,1,0])) [], .code (csub (cd Try.f5) [1,1,1,1,1])] [(6, .bool ((lessB a b) == ((Ieee.Format.order (FloatKind.format .f64) a b) == some .lt)))] w (by kernel_rfl) .nil ?_
          exact GoS.cast (by simp [h12]) J13
  refine GoS.fork 19 (lessB a b) (by kernel_rfl) (fun h1 => ?_) (fun h1 => ?_)
  ·
    refine GoS.run [0, 1, 2, 7, 8, 15, 19, 20, 21] [.n, .n] _ [.inRegion (cops (csub (cd Try.f5) [1,1,0,0])) [9,10,11,12,13,14,15,16,17,18,19,20,21,22,23,24,25,26,27], .code (csub (cd Try.f5) [1,1,0,1]), .code (csub (cd Try.f5) [1,1,1])] [(0, .int .u64 ((a : Nat) : Int)), (1, .int .u64 ((b : Nat) : Int)), (2, .int .u64 ((c : Nat) : Int)), (7, .float .f64 a), (8, .float .f64 b), (15, .bool false), (19, .bool true), (20, .int .u64 ((b : Nat) : Int)), (21, .int .u64 ((a : Nat) : Int))] w (by kernel_rfl) .nil ?_
    refine GoS.call [0, 1, 2, 7, 8, 15, 19] 9 #[.int .u64 ((b : Nat) : Int), .int .u64 ((a : Nat) : Int)] (some 22) [.inRegion (cops (csub (cd Try.f5) [1,1,0,0])) [10,11,12,13,14,15,16,17,18,19,20,21,22,23,24,25,26,27], .code (csub (cd Try.f5) [1,1,0,1]), .code (csub (cd Try.f5) [1,1,1])] [(0, .int .u64 ((a : Nat) : Int)), (1, .int .u64 ((b : Nat) : Int)), (2, .int .u64 ((c : Nat) : Int)), (7, .float .f64 a), (8, .float .f64 b), (15, .bool false), (19, .bool true)] (by kernel_rfl) (less_c b a (by omega) (by omega) w) ?_
    rintro _ _ ⟨rfl, rfl⟩
    refine ⟨_, rfl, ?_⟩
    refine GoS.run [0, 1, 2, 7, 8, 25] [.n, .n, .n] _ [.inRegion (cops (csub (cd Try.f5) [1,1,0,0])) [13,14,15,16,17,18,19,20,21,22,23,24,25,26,27], .code (csub (cd Try.f5) [1,1,0,1]), .code (csub (cd Try.f5) [1,1,1])] [(0, .int .u64 ((a : Nat) : Int)), (1, .int .u64 ((b : Nat) : Int)), (2, .int .u64 ((c : Nat) : Int)), (7, .float .f64 a), (8, .float .f64 b), (25, .bool (lessB b a))] w (by kernel_rfl) .nil ?_
    refine GoS.fork 25 (lessB b a) (by kernel_rfl) (fun h2 => ?_) (fun h2 => ?_)
    ·
      refine GoS.run [0, 1, 7, 8, 40] [.n, .n, .n, .n, .n, .n, .n, .n, .n, .n, .n, .n, .n, .n, .n] _ [.inRegion (cops (csub (cd Try.f5) [1,1,0,0])) [], .code (csub (cd Try.f5) [1,1,0,1]), .code (csub (cd Try.f5) [1,1,1])] [(0, .int .u64 ((a : Nat) : Int)), (1, .int .u64 ((b : Nat) : Int)), (7, .float .f64 a), (8, .float .f64 b), (40, .bool true)] w (by kernel_rfl) .nil ?_
      exact GoS.cast (by simp [h1, h2]) J6
    ·
      refine GoS.run [0, 1, 2, 7, 8, 25, 26, 27] [.n, .n] _ [.inRegion (cops (csub (cd Try.f5) [1,1,0,0])) [15,16,17,18,19,20,21,22,23,24,25,26,27], .code (csub (cd Try.f5) [1,1,0,1]), .code (csub (cd Try.f5) [1,1,1])] [(0, .int .u64 ((a : Nat) : Int)), (1, .int .u64 ((b : Nat) : Int)), (2, .int .u64 ((c : Nat) : Int)), (7, .float .f64 a), (8, .float .f64 b), (25, .bool false), (26, .int .u64 ((a : Nat) : Int)), (27, .int .u64 ((b : Nat) : Int))] w (by kernel_rfl) .nil ?_
      refine GoS.call [0, 1, 2, 7, 8, 25] 9 #[.int .u64 ((a : Nat) : Int), .int .u64 ((b : Nat) : Int)] (some 28) [.inRegion (cops (csub (cd Try.f5) [1,1,0,0])) [16,17,18,19,20,21,22,23,24,25,26,27], .code (csub (cd Try.f5) [1,1,0,1]), .code (csub (cd Try.f5) [1,1,1])] [(0, .int .u64 ((a : Nat) : Int)), (1, .int .u64 ((b : Nat) : Int)), (2, .int .u64 ((c : Nat) : Int)), (7, .float .f64 a), (8, .float .f64 b), (25, .bool false)] (by kernel_rfl) (less_c a b (by omega) (by omega) w) ?_
      rintro _ _ ⟨rfl, rfl⟩
      refine ⟨_, rfl, ?_⟩
      refine GoS.run [0, 1, 2, 7, 8, 25, 29] [.n] _ [.inRegion (cops (csub (cd Try.f5) [1,1,0,0])) [17,18,19,20,21,22,23,24,25,26,27], .code (csub (cd Try.f5) [1,1,0,1]), .code (csub (cd Try.f5) [1,1,1])] [(0, .int .u64 ((a : Nat) : Int)), (1, .int .u64 ((b : Nat) : Int)), (2, .int .u64 ((c : Nat) : Int)), (7, .float .f64 a), (8, .float .f64 b), (25, .bool false), (29, .bool (lessB a b))] w (by kernel_rfl) .nil ?_
      refine GoS.fork 29 (lessB a b) (by kernel_rfl) (fun h3 => ?_) (fun h3 => ?_)
      ·
        refine GoS.run [0, 1, 2, 7, 8, 25, 29, 30, 31] [.n, .n] _ [.inRegion (cops (csub (cd Try.f5) [1,1,0,0])) [19,20,21,22,23,24,25,26,27], .code (csub (cd Try.f5) [1,1,0,1]), .code (csub (cd Try.f5) [1,1,1])] [(0, .int .u64 ((a : Nat) : Int)), (1, .int .u64 ((b : Nat) : Int)), (2, .int .u64 ((c : Nat) : Int)), (7, .float .f64 a), (8, .float .f64 b), (25, .bool false), (29, .bool true), (30, .int .u64 ((b : Nat) : Int)), (31, .int .u64 ((c : Nat) : Int))] w (by kernel_rfl) .nil ?_
        refine GoS.call [0, 1, 2, 7, 8, 25, 29] 9 #[.int .u64 ((b : Nat) : Int), .int .u64 ((c : Nat) : Int)] (some 32) [.inRegion (cops (csub (cd Try.f5) [1,1,0,0])) [20,21,22,23,24,25,26,27], .code (csub (cd Try.f5) [1,1,0,1]), .code (csub (cd Try.f5) [1,1,1])] [(0, .int .u64 ((a : Nat) : Int)), (1, .int .u64 ((b : Nat) : Int)), (2, .int .u64 ((c : Nat) : Int)), (7, .float .f64 a), (8, .float .f64 b), (25, .bool false), (29, .bool true)] (by kernel_rfl) (less_c b c (by omega) (by omega) w) ?_
        rintro _ _ ⟨rfl, rfl⟩
        refine ⟨_, rfl, ?_⟩
        refine GoS.run [0, 1, 2, 7, 8, 25, 34] [.n, .n] _ [.inRegion (cops (csub (cd Try.f5) [1,1,0,0])) [22,23,24,25,26,27], .code (csub (cd Try.f5) [1,1,0,1]), .code (csub (cd Try.f5) [1,1,1])] [(0, .int .u64 ((a : Nat) : Int)), (1, .int .u64 ((b : Nat) : Int)), (2, .int .u64 ((c : Nat) : Int)), (7, .float .f64 a), (8, .float .f64 b), (25, .bool false), (34, .bool (lessB b c))] w (by kernel_rfl) .nil ?_
        refine GoS.fork 34 (lessB b c) (by kernel_rfl) (fun h4 => ?_) (fun h4 => ?_)
        ·
          refine GoS.run [0, 1, 7, 8, 25, 34, 35, 36] [.n, .n] _ [.inRegion (cops (csub (cd Try.f5) [1,1,0,0])) [24,25,26,27], .code (csub (cd Try.f5) [1,1,0,1]), .code (csub (cd Try.f5) [1,1,1])] [(0, .int .u64 ((a : Nat) : Int)), (1, .int .u64 ((b : Nat) : Int)), (7, .float .f64 a), (8, .float .f64 b), (25, .bool false), (34, .bool true), (35, .int .u64 ((a : Nat) : Int)), (36, .int .u64 ((c : Nat) : Int))] w (by kernel_rfl) .nil ?_
          refine GoS.call [0, 1, 7, 8, 25, 34] 9 #[.int .u64 ((a : Nat) : Int), .int .u64 ((c : Nat) : Int)] (some 37) [.inRegion (cops (csub (cd Try.f5) [1,1,0,0])) [25,26,27], .code (csub (cd Try.f5) [1,1,0,1]), .code (csub (cd Try.f5) [1,1,1])] [(0, .int .u64 ((a : Nat) : Int)), (1, .int .u64 ((b : Nat) : Int)), (7, .float .f64 a), (8, .float .f64 b), (25, .bool false), (34, .bool true)] (by kernel_rfl) (less_c a c (by omega) (by omega) w) ?_
          rintro _ _ ⟨rfl, rfl⟩
          refine ⟨_, rfl, ?_⟩
          refine GoS.run [0, 1, 7, 8, 40] [.n, .n, .n] _ [.inRegion (cops (csub (cd Try.f5) [1,1,0,0])) [], .code (csub (cd Try.f5) [1,1,0,1]), .code (csub (cd Try.f5) [1,1,1])] [(0, .int .u64 ((a : Nat) : Int)), (1, .int .u64 ((b : Nat) : Int)), (7, .float .f64 a), (8, .float .f64 b), (40, .bool (!(lessB a c)))] w (by kernel_rfl) .nil ?_
          exact GoS.cast (by simp [h1, h2, h3, h4]) J6
        ·
          refine GoS.run [0, 1, 7, 8, 40] [.n, .n, .n, .n, .n, .n] _ [.inRegion (cops (csub (cd Try.f5) [1,1,0,0])) [], .code (csub (cd Try.f5) [1,1,0,1]), .code (csub (cd Try.f5) [1,1,1])] [(0, .int .u64 ((a : Nat) : Int)), (1, .int .u64 ((b : Nat) : Int)), (7, .float .f64 a), (8, .float .f64 b), (40, .bool false)] w (by kernel_rfl) .nil ?_
          exact GoS.cast (by simp [h1, h2, h3, h4]) J6
      ·
        rw [h1] at h3; cases h3
  ·
    refine GoS.run [0, 1, 2, 7, 8, 25, 26, 27] [.n, .n, .n, .n, .n, .n, .n, .n] _ [.inRegion (cops (csub (cd Try.f5) [1,1,0,0])) [15,16,17,18,19,20,21,22,23,24,25,26,27], .code (csub (cd Try.f5) [1,1,0,1]), .code (csub (cd Try.f5) [1,1,1])] [(0, .int .u64 ((a : Nat) : Int)), (1, .int .u64 ((b : Nat) : Int)), (2, .int .u64 ((c : Nat) : Int)), (7, .float .f64 a), (8, .float .f64 b), (25, .bool false), (26, .int .u64 ((a : Nat) : Int)), (27, .int .u64 ((b : Nat) : Int))] w (by kernel_rfl) .nil ?_
    refine GoS.call [0, 1, 2, 7, 8, 25] 9 #[.int .u64 ((a : Nat) : Int), .int .u64 ((b : Nat) : Int)] (some 28) [.inRegion (cops (csub (cd Try.f5) [1,1,0,0])) [16,17,18,19,20,21,22,23,24,25,26,27], .code (csub (cd Try.f5) [1,1,0,1]), .code (csub (cd Try.f5) [1,1,1])] [(0, .int .u64 ((a : Nat) : Int)), (1, .int .u64 ((b : Nat) : Int)), (2, .int .u64 ((c : Nat) : Int)), (7, .float .f64 a), (8, .float .f64 b), (25, .bool false)] (by kernel_rfl) (less_c a b (by omega) (by omega) w) ?_
    rintro _ _ ⟨rfl, rfl⟩
    refine ⟨_, rfl, ?_⟩
    refine GoS.run [0, 1, 2, 7, 8, 25, 29] [.n] _ [.inRegion (cops (csub (cd Try.f5) [1,1,0,0])) [17,18,19,20,21,22,23,24,25,26,27], .code (csub (cd Try.f5) [1,1,0,1]), .code (csub (cd Try.f5) [1,1,1])] [(0, .int .u64 ((a : Nat) : Int)), (1, .int .u64 ((b : Nat) : Int)), (2, .int .u64 ((c : Nat) : Int)), (7, .float .f64 a), (8, .float .f64 b), (25, .bool false), (29, .bool (lessB a b))] w (by kernel_rfl) .nil ?_
    refine GoS.fork 29 (lessB a b) (by kernel_rfl) (fun h5 => ?_) (fun h5 => ?_)
    ·
      rw [h1] at h5; cases h5
    ·
      refine GoS.run [0, 1, 7, 8, 40] [.n, .n, .n, .n, .n, .n, .n, .n, .n, .n, .n] _ [.inRegion (cops (csub (cd Try.f5) [1,1,0,0])) [], .code (csub (cd Try.f5) [1,1,0,1]), .code (csub (cd Try.f5) [1,1,1])] [(0, .int .u64 ((a : Nat) : Int)), (1, .int .u64 ((b : Nat) : Int)), (7, .float .f64 a), (8, .float .f64 b), (40, .bool false)] w (by kernel_rfl) .nil ?_
      exact GoS.cast (by simp [h1, h5]) J6


end Go.Proofs.Ythioghimgiknkaa
