/-
  The walk of RealOrders: it answers true for all arguments below 2^64.
-/
import Derived.Test.YthioghimgiknkaaRealW
import Derived.Test.YthioghimgiknkaaRealA
namespace Go.Proofs.Ythioghimgiknkaa
open Go Go.Gw Go.RealP

set_option maxHeartbeats 400000 in
theorem orders_c (a b c : Nat) (ha : a < 18446744073709551616) (hb : b < 18446744073709551616) (hc : c < 18446744073709551616) (w : World) :
    Calls Try.prog 3 #[.int .u64 ((a : Nat) : Int), .int .u64 ((b : Nat) : Int), .int .u64 ((c : Nat) : Int)] w (fun e w' => e = .returned (.bool true) ∧ w = w') := by
  obtain ⟨R, hR⟩ : ∃ R : Ending → World → Prop, R = (fun e w' => e = .returned (.bool true) ∧ w = w') := ⟨_, rfl⟩
  rw [← hR]
  refine GoS.enter (n := 57) Try.func3 (by kernel_rfl) rfl [(0, .int .u64 ((a : Nat) : Int)), (1, .int .u64 ((b : Nat) : Int)), (2, .int .u64 ((c : Nat) : Int))] (by kernel_rfl) (by kernel_rfl) ?_
  refine GoS.run [0, 1, 2] [.n, .n, .n, .n, .n, .n] _ [.inRegion (cops (csub (cd Try.f3) [1,0])) [0,1,2,3,4,5,6,7,8,9,10,11,12,13,14,15,16,17,18,19,20,21,22,23,24,25,26,27,28,29,30,31,32,33,34,35,36,37,38,39,40,41,42,43,44,45,46,47,48,49,50], .code (csub (cd Try.f3) [1,1])] [(0, .int .u64 ((a : Nat) : Int)), (1, .int .u64 ((b : Nat) : Int)), (2, .int .u64 ((c : Nat) : Int))] w (by kernel_rfl) .nil ?_
  refine GoS.call [0, 1, 2] 8 #[] (some 7) [.inRegion (cops (csub (cd Try.f3) [1,0])) [1,2,3,4,5,6,7,8,9,10,11,12,13,14,15,16,17,18,19,20,21,22,23,24,25,26,27,28,29,30,31,32,33,34,35,36,37,38,39,40,41,42,43,44,45,46,47,48,49,50], .code (csub (cd Try.f3) [1,1])] [(0, .int .u64 ((a : Nat) : Int)), (1, .int .u64 ((b : Nat) : Int)), (2, .int .u64 ((c : Nat) : Int))] (by kernel_rfl) (awake_c w) ?_
  rintro _ _ ⟨rfl, rfl⟩
  refine ⟨_, rfl, ?_⟩
  refine GoS.run [0, 1, 2, 8, 9, 10] [.n, .n, .n] _ [.inRegion (cops (csub (cd Try.f3) [1,0])) [4,5,6,7,8,9,10,11,12,13,14,15,16,17,18,19,20,21,22,23,24,25,26,27,28,29,30,31,32,33,34,35,36,37,38,39,40,41,42,43,44,45,46,47,48,49,50], .code (csub (cd Try.f3) [1,1])] [(0, .int .u64 ((a : Nat) : Int)), (1, .int .u64 ((b : Nat) : Int)), (2, .int .u64 ((c : Nat) : Int)), (8, .bool true), (9, .int .u64 ((a : Nat) : Int)), (10, .int .u64 ((b : Nat) : Int))] w (by kernel_rfl) .nil ?_
  refine GoS.call [0, 1, 2, 8] 9 #[.int .u64 ((a : Nat) : Int), .int .u64 ((b : Nat) : Int)] (some 11) [.inRegion (cops (csub (cd Try.f3) [1,0])) [5,6,7,8,9,10,11,12,13,14,15,16,17,18,19,20,21,22,23,24,25,26,27,28,29,30,31,32,33,34,35,36,37,38,39,40,41,42,43,44,45,46,47,48,49,50], .code (csub (cd Try.f3) [1,1])] [(0, .int .u64 ((a : Nat) : Int)), (1, .int .u64 ((b : Nat) : Int)), (2, .int .u64 ((c : Nat) : Int)), (8, .bool true)] (by kernel_rfl) (less_c a b (by omega) (by omega) w) ?_
  rintro _ _ ⟨rfl, rfl⟩
  refine ⟨_, rfl, ?_⟩
  refine GoS.run [0, 1, 2, 8, 11, 12, 13] [.n, .n] _ [.inRegion (cops (csub (cd Try.f3) [1,0])) [7,8,9,10,11,12,13,14,15,16,17,18,19,20,21,22,23,24,25,26,27,28,29,30,31,32,33,34,35,36,37,38,39,40,41,42,43,44,45,46,47,48,49,50], .code (csub (cd Try.f3) [1,1])] [(0, .int .u64 ((a : Nat) : Int)), (1, .int .u64 ((b : Nat) : Int)), (2, .int .u64 ((c : Nat) : Int)), (8, .bool true), (11, .bool (lessB a b)), (12, .int .u64 ((a : Nat) : Int)), (13, .int .u64 ((b : Nat) : Int))] w (by kernel_rfl) .nil ?_
  refine GoS.call [0, 1, 2, 8, 11] 10 #[.int .u64 ((a : Nat) : Int), .int .u64 ((b : Nat) : Int)] (some 14) [.inRegion (cops (csub (cd Try.f3) [1,0])) [8,9,10,11,12,13,14,15,16,17,18,19,20,21,22,23,24,25,26,27,28,29,30,31,32,33,34,35,36,37,38,39,40,41,42,43,44,45,46,47,48,49,50], .code (csub (cd Try.f3) [1,1])] [(0, .int .u64 ((a : Nat) : Int)), (1, .int .u64 ((b : Nat) : Int)), (2, .int .u64 ((c : Nat) : Int)), (8, .bool true), (11, .bool (lessB a b))] (by kernel_rfl) (rless_c a b (by omega) (by omega) w) ?_
  rintro _ _ ⟨rfl, rfl⟩
  refine ⟨_, rfl, ?_⟩
  have o1 : Try.prog.underlying 4 = some .bool ∧ w = w ∧ Value.bool true = .bool ((lessB a b) == (lessB a b)) := ⟨by kernel_rfl, rfl, congrArg Value.bool (Eq.symm (beq_self_eq_true _))⟩
  refine GoS.run [0, 1, 2, 17, 18, 19, 20] [.h (.bool true), .n, .n, .n, .n, .n] _ [.inRegion (cops (csub (cd Try.f3) [1,0])) [14,15,16,17,18,19,20,21,22,23,24,25,26,27,28,29,30,31,32,33,34,35,36,37,38,39,40,41,42,43,44,45,46,47,48,49,50], .code (csub (cd Try.f3) [1,1])] [(0, .int .u64 ((a : Nat) : Int)), (1, .int .u64 ((b : Nat) : Int)), (2, .int .u64 ((c : Nat) : Int)), (17, .bool true), (18, .int .u64 ((a : Nat) : Int)), (19, .int .u64 ((b : Nat) : Int)), (20, .int .u64 ((c : Nat) : Int))] w (by kernel_rfl) (.cons o1 .nil) ?_
  refine GoS.call [0, 1, 2, 17] 11 #[.int .u64 ((a : Nat) : Int), .int .u64 ((b : Nat) : Int), .int .u64 ((c : Nat) : Int)] (some 21) [.inRegion (cops (csub (cd Try.f3) [1,0])) [15,16,17,18,19,20,21,22,23,24,25,26,27,28,29,30,31,32,33,34,35,36,37,38,39,40,41,42,43,44,45,46,47,48,49,50], .code (csub (cd Try.f3) [1,1])] [(0, .int .u64 ((a : Nat) : Int)), (1, .int .u64 ((b : Nat) : Int)), (2, .int .u64 ((c : Nat) : Int)), (17, .bool true)] (by kernel_rfl) (within_c a b c (by omega) (by omega) (by omega) w) ?_
  rintro _ _ ⟨rfl, rfl⟩
  refine ⟨_, rfl, ?_⟩
  refine GoS.run [0, 1, 17, 21, 22, 23, 24] [.n, .n, .n] _ [.inRegion (cops (csub (cd Try.f3) [1,0])) [18,19,20,21,22,23,24,25,26,27,28,29,30,31,32,33,34,35,36,37,38,39,40,41,42,43,44,45,46,47,48,49,50], .code (csub (cd Try.f3) [1,1])] [(0, .int .u64 ((a : Nat) : Int)), (1, .int .u64 ((b : Nat) : Int)), (17, .bool true), (21, .bool (withinB a b c)), (22, .int .u64 ((a : Nat) : Int)), (23, .int .u64 ((b : Nat) : Int)), (24, .int .u64 ((c : Nat) : Int))] w (by kernel_rfl) .nil ?_
  refine GoS.call [0, 1, 17, 21] 12 #[.int .u64 ((a : Nat) : Int), .int .u64 ((b : Nat) : Int), .int .u64 ((c : Nat) : Int)] (some 25) [.inRegion (cops (csub (cd Try.f3) [1,0])) [19,20,21,22,23,24,25,26,27,28,29,30,31,32,33,34,35,36,37,38,39,40,41,42,43,44,45,46,47,48,49,50], .code (csub (cd Try.f3) [1,1])] [(0, .int .u64 ((a : Nat) : Int)), (1, .int .u64 ((b : Nat) : Int)), (17, .bool true), (21, .bool (withinB a b c))] (by kernel_rfl) (rwithin_c a b c (by omega) (by omega) (by omega) w) ?_
  rintro _ _ ⟨rfl, rfl⟩
  refine ⟨_, rfl, ?_⟩
  have o2 : Try.prog.underlying 4 = some .bool ∧ w = w ∧ Value.bool true = .bool ((withinB a b c) == (withinB a b c)) := ⟨by kernel_rfl, rfl, congrArg Value.bool (Eq.symm (beq_self_eq_true _))⟩
  refine GoS.run [0, 1, 28, 29] [.h (.bool true), .n, .n, .n] _ [.inRegion (cops (csub (cd Try.f3) [1,0])) [23,24,25,26,27,28,29,30,31,32,33,34,35,36,37,38,39,40,41,42,43,44,45,46,47,48,49,50], .code (csub (cd Try.f3) [1,1])] [(0, .int .u64 ((a : Nat) : Int)), (1, .int .u64 ((b : Nat) : Int)), (28, .bool true), (29, .int .u64 ((a : Nat) : Int))] w (by kernel_rfl) (.cons o2 .nil) ?_
  refine GoS.call [0, 1, 28] 13 #[.int .u64 ((a : Nat) : Int)] (some 30) [.inRegion (cops (csub (cd Try.f3) [1,0])) [24,25,26,27,28,29,30,31,32,33,34,35,36,37,38,39,40,41,42,43,44,45,46,47,48,49,50], .code (csub (cd Try.f3) [1,1])] [(0, .int .u64 ((a : Nat) : Int)), (1, .int .u64 ((b : Nat) : Int)), (28, .bool true)] (by kernel_rfl) (key_c a (by omega) w) ?_
  rintro _ _ ⟨rfl, rfl⟩
  refine ⟨_, rfl, ?_⟩
  refine GoS.run [0, 1, 28, 30, 31] [.n] _ [.inRegion (cops (csub (cd Try.f3) [1,0])) [25,26,27,28,29,30,31,32,33,34,35,36,37,38,39,40,41,42,43,44,45,46,47,48,49,50], .code (csub (cd Try.f3) [1,1])] [(0, .int .u64 ((a : Nat) : Int)), (1, .int .u64 ((b : Nat) : Int)), (28, .bool true), (30, .int .u64 (((keyN a) : Nat) : Int)), (31, .int .u64 ((b : Nat) : Int))] w (by kernel_rfl) .nil ?_
  refine GoS.call [0, 1, 28, 30] 13 #[.int .u64 ((b : Nat) : Int)] (some 32) [.inRegion (cops (csub (cd Try.f3) [1,0])) [26,27,28,29,30,31,32,33,34,35,36,37,38,39,40,41,42,43,44,45,46,47,48,49,50], .code (csub (cd Try.f3) [1,1])] [(0, .int .u64 ((a : Nat) : Int)), (1, .int .u64 ((b : Nat) : Int)), (28, .bool true), (30, .int .u64 (((keyN a) : Nat) : Int))] (by kernel_rfl) (key_c b (by omega) w) ?_
  rintro _ _ ⟨rfl, rfl⟩
  refine ⟨_, rfl, ?_⟩
  refine GoS.run [0, 1, 28, 33, 34, 35] [.n, .n, .n] _ [.inRegion (cops (csub (cd Try.f3) [1,0])) [29,30,31,32,33,34,35,36,37,38,39,40,41,42,43,44,45,46,47,48,49,50], .code (csub (cd Try.f3) [1,1])] [(0, .int .u64 ((a : Nat) : Int)), (1, .int .u64 ((b : Nat) : Int)), (28, .bool true), (33, .bool (decide ((((keyN a) : Nat) : Int) < (((keyN b) : Nat) : Int)))), (34, .int .u64 ((a : Nat) : Int)), (35, .int .u64 ((b : Nat) : Int))] w (by kernel_rfl) .nil ?_
  refine GoS.call [0, 1, 28, 33] 10 #[.int .u64 ((a : Nat) : Int), .int .u64 ((b : Nat) : Int)] (some 36) [.inRegion (cops (csub (cd Try.f3) [1,0])) [30,31,32,33,34,35,36,37,38,39,40,41,42,43,44,45,46,47,48,49,50], .code (csub (cd Try.f3) [1,1])] [(0, .int .u64 ((a : Nat) : Int)), (1, .int .u64 ((b : Nat) : Int)), (28, .bool true), (33, .bool (decide ((((keyN a) : Nat) : Int) < (((keyN b) : Nat) : Int))))] (by kernel_rfl) (rless_c a b (by omega) (by omega) w) ?_
  rintro _ _ ⟨rfl, rfl⟩
  refine ⟨_, rfl, ?_⟩
  have o3 : Try.prog.underlying 4 = some .bool ∧ w = w ∧ Value.bool true = .bool ((decide ((((keyN a) : Nat) : Int) < (((keyN b) : Nat) : Int))) == (lessB a b)) := ⟨by kernel_rfl, rfl, congrArg Value.bool (Eq.symm (orders_4 a b))⟩
  refine GoS.run [0, 1, 39, 40] [.h (.bool true), .n, .n, .n] _ [.inRegion (cops (csub (cd Try.f3) [1,0])) [34,35,36,37,38,39,40,41,42,43,44,45,46,47,48,49,50], .code (csub (cd Try.f3) [1,1])] [(0, .int .u64 ((a : Nat) : Int)), (1, .int .u64 ((b : Nat) : Int)), (39, .bool true), (40, .int .u64 ((a : Nat) : Int))] w (by kernel_rfl) (.cons o3 .nil) ?_
  refine GoS.call [0, 1, 39] 13 #[.int .u64 ((a : Nat) : Int)] (some 41) [.inRegion (cops (csub (cd Try.f3) [1,0])) [35,36,37,38,39,40,41,42,43,44,45,46,47,48,49,50], .code (csub (cd Try.f3) [1,1])] [(0, .int .u64 ((a : Nat) : Int)), (1, .int .u64 ((b : Nat) : Int)), (39, .bool true)] (by kernel_rfl) (key_c a (by omega) w) ?_
  rintro _ _ ⟨rfl, rfl⟩
  refine ⟨_, rfl, ?_⟩
  refine GoS.run [0, 1, 39, 41, 42] [.n] _ [.inRegion (cops (csub (cd Try.f3) [1,0])) [36,37,38,39,40,41,42,43,44,45,46,47,48,49,50], .code (csub (cd Try.f3) [1,1])] [(0, .int .u64 ((a : Nat) : Int)), (1, .int .u64 ((b : Nat) : Int)), (39, .bool true), (41, .int .u64 (((keyN a) : Nat) : Int)), (42, .int .u64 ((b : Nat) : Int))] w (by kernel_rfl) .nil ?_
  refine GoS.call [0, 1, 39, 41] 13 #[.int .u64 ((b : Nat) : Int)] (some 43) [.inRegion (cops (csub (cd Try.f3) [1,0])) [37,38,39,40,41,42,43,44,45,46,47,48,49,50], .code (csub (cd Try.f3) [1,1])] [(0, .int .u64 ((a : Nat) : Int)), (1, .int .u64 ((b : Nat) : Int)), (39, .bool true), (41, .int .u64 (((keyN a) : Nat) : Int))] (by kernel_rfl) (key_c b (by omega) w) ?_
  rintro _ _ ⟨rfl, rfl⟩
  refine ⟨_, rfl, ?_⟩
  refine GoS.run [0, 1, 39, 44, 45, 46] [.n, .n, .n] _ [.inRegion (cops (csub (cd Try.f3) [1,0])) [40,41,42,43,44,45,46,47,48,49,50], .code (csub (cd Try.f3) [1,1])] [(0, .int .u64 ((a : Nat) : Int)), (1, .int .u64 ((b : Nat) : Int)), (39, .bool true), (44, .bool ((((keyN a) : Nat) : Int) == (((keyN b) : Nat) : Int))), (45, .int .u64 ((a : Nat) : Int)), (46, .int .u64 ((b : Nat) : Int))] w (by kernel_rfl) .nil ?_
  refine GoS.call [0, 1, 39, 44] 10 #[.int .u64 ((a : Nat) : Int), .int .u64 ((b : Nat) : Int)] (some 47) [.inRegion (cops (csub (cd Try.f3) [1,0])) [41,42,43,44,45,46,47,48,49,50], .code (csub (cd Try.f3) [1,1])] [(0, .int .u64 ((a : Nat) : Int)), (1, .int .u64 ((b : Nat) : Int)), (39, .bool true), (44, .bool ((((keyN a) : Nat) : Int) == (((keyN b) : Nat) : Int)))] (by kernel_rfl) (rless_c a b (by omega) (by omega) w) ?_
  rintro _ _ ⟨rfl, rfl⟩
  refine ⟨_, rfl, ?_⟩
  refine GoS.run [0, 1, 39, 44, 49] [.n, .n] _ [.inRegion (cops (csub (cd Try.f3) [1,0])) [43,44,45,46,47,48,49,50], .code (csub (cd Try.f3) [1,1])] [(0, .int .u64 ((a : Nat) : Int)), (1, .int .u64 ((b : Nat) : Int)), (39, .bool true), (44, .bool ((((keyN a) : Nat) : Int) == (((keyN b) : Nat) : Int))), (49, .bool (!(lessB a b)))] w (by kernel_rfl) .nil ?_
  have J7 : GoS Try.prog 3 R 57 [.inRegion (cops (csub (cd Try.f3) [1,0])) [], .code (csub (cd Try.f3) [1,1])] [(6, .bool true)] w := by
    refine GoS.run [6] [.n] _ [.code (csub (cd Try.f3) [1,1])] [(6, .bool true)] w (by kernel_rfl) .nil ?_
    refine GoS.ret (fn := Try.f3) (v := (.bool true)) Try.func3 (by kernel_rfl) ?_
    rw [hR]
    exact ⟨rfl, rfl⟩
  refine GoS.fork 49 (!(lessB a b)) (by kernel_rfl) (fun h4 => ?_) (fun h4 => ?_)
  ·
    refine GoS.run [39, 44, 49, 50, 51] [.n, .n] _ [.inRegion (cops (csub (cd Try.f3) [1,0])) [45,46,47,48,49,50], .code (csub (cd Try.f3) [1,1])] [(39, .bool true), (44, .bool ((((keyN a) : Nat) : Int) == (((keyN b) : Nat) : Int))), (49, .bool true), (50, .int .u64 ((b : Nat) : Int)), (51, .int .u64 ((a : Nat) : Int))] w (by kernel_rfl) .nil ?_
    refine GoS.call [39, 44, 49] 10 #[.int .u64 ((b : Nat) : Int), .int .u64 ((a : Nat) : Int)] (some 52) [.inRegion (cops (csub (cd Try.f3) [1,0])) [46,47,48,49,50], .code (csub (cd Try.f3) [1,1])] [(39, .bool true), (44, .bool ((((keyN a) : Nat) : Int) == (((keyN b) : Nat) : Int))), (49, .bool true)] (by kernel_rfl) (rless_c b a (by omega) (by omega) w) ?_
    rintro _ _ ⟨rfl, rfl⟩
    refine ⟨_, rfl, ?_⟩
    have o5 : Try.prog.underlying 4 = some .bool ∧ w = w ∧ Value.bool true = .bool (((((keyN a) : Nat) : Int) == (((keyN b) : Nat) : Int)) == (!(lessB b a))) := ⟨by kernel_rfl, rfl, congrArg Value.bool (Eq.symm (orders_5 a b h4))⟩
    refine GoS.run [6] [.n, .n, .h (.bool true), .n, .n] _ [.inRegion (cops (csub (cd Try.f3) [1,0])) [], .code (csub (cd Try.f3) [1,1])] [(6, .bool true)] w (by kernel_rfl) (.cons o5 .nil) ?_
    exact J7
  ·
    have o6 : Try.prog.underlying 4 = some .bool ∧ w = w ∧ Value.bool true = .bool (((((keyN a) : Nat) : Int) == (((keyN b) : Nat) : Int)) == false) := ⟨by kernel_rfl, rfl, congrArg Value.bool (Eq.symm (orders_6 a b h4))⟩
    refine GoS.run [6] [.n, .n, .n, .n, .n, .h (.bool true), .n, .n] _ [.inRegion (cops (csub (cd Try.f3) [1,0])) [], .code (csub (cd Try.f3) [1,1])] [(6, .bool true)] w (by kernel_rfl) (.cons o6 .nil) ?_
    exact J7


end Go.Proofs.Ythioghimgiknkaa
