/-
  Joined texts. No condition beyond those that each theorem names. What they say:
  The walk of Parse, of the program.
  What the walks lean on of the package variables: they are laid, and stay. No condition.
  From what the row says is laid to what the walks lean on. No condition.
  Slices of structs of a number and a slice of numbers. No condition beyond those that each theorem names.
  Queries as trees: how they lie in memory, how great they are, which may be. No condition beyond those that each theorem names.
  The laws of queries, over trees. No condition beyond those that each theorem names.
  The walks of Size, and of the reference: Parts, Deep.
  The walks of few, Few and flat.
  The walks of Same, of both.
  The walks of Name and Letters, of both.
  The walk of words.
  The walk of right.
  The walks of letters and nothing.
-/
import Derived.Test.YthpodbngljfdmaaGreatDoorChecked
import Derived.Test.YthpodbngljfdmaaGreatDoorRows
import Derived.PinnedBridge
import Derived.Lib.LaidU8
import Derived.Lib.LaidTab
import Derived.Stop.LaidErr
import Derived.MakeChecks
import Derived.LaidLaws
import Derived.Test.YthpodbngljfdmaaGreatDoorJc1
namespace Go.Proofs.YthpodbngljfdmaaGreatDoor
open Go Go.Gw Go.RealP Go.RealQ Go.RowKit
set_option linter.unusedVariables false
set_option linter.unusedSimpArgs false
set_option maxRecDepth 20000

abbrev uRealX0 : List Nat := [1,1,1,1,1,0,1,0,0]
set_option maxHeartbeats 400000 in
theorem csign_c (n : Nat) (hn : n < 9223372036854775808) (w : World) :
  Calls Tryz.prog 148 #[.float .f64 n, .float .f64 13830554455654793216] w (fun e w' => e = .returned (.float .f64 (n + 9223372036854775808)) ∧ w = w') := by
 refine xe 13 Tryz.func148 (fun R hR => ?_)
 exact xr 16 (v := .float .f64 (Int.toNat (IntKind.wrap .u64 ((BitVec.ofInt (IntKind.bits .u64) (IntKind.wrap .u64 ((BitVec.ofInt (IntKind.bits .u64) ((n : Nat) : Int) &&& ~~~BitVec.ofInt (IntKind.bits .u64) 9223372036854775808).toNat : Int)) ||| BitVec.ofInt (IntKind.bits .u64) (IntKind.wrap .u64 ((BitVec.ofInt (IntKind.bits .u64) 13830554455654793216 &&& BitVec.ofInt (IntKind.bits .u64) 9223372036854775808).toNat : Int))).toNat : Int)))) Tryz.func148 hR ⟨by rw [csign_eq hn], rfl⟩

set_option maxHeartbeats 400000 in
theorem pinf_c (w : World) :
  Calls Tryz.prog 147 #[.int .i64 1] w (fun e w' => e = .returned (.float .f64 9218868437227405312) ∧ w = w') := by
 refine xe 8 Tryz.func147 (fun R hR => ?_)
 exact xr 24 Tryz.func147 hR ⟨rfl, rfl⟩

set_option maxHeartbeats 400000 in
theorem ninf_c (w : World) :
  Calls Tryz.prog 147 #[.int .i64 (-1)] w (fun e w' => e = .returned (.float .f64 18442240474082181120) ∧ w = w') := by
 refine xe 8 Tryz.func147 (fun R hR => ?_)
 exact xr 24 Tryz.func147 hR ⟨rfl, rfl⟩

set_option maxHeartbeats 400000 in
theorem parse_Mn (s : List UInt8) (hs : s.length ≤ 9223372036854775807) (w : World) (X : Option (Nat × Nat)) (R : Ending → World → Prop) (hR : R = (fun e w' => e = .returned (.tuple #[.int .u64 ((valP X true : Nat) : Int), .int .i64 (errP X)]) ∧ w = w')) : ∀ (N : Nat) (n d k : Nat) (hF : scan true n d (s.drop k) = X) (hk : k ≤ s.length) (hd : d ≤ 3) (hn : n < 10 ^ (12 + d)) (hN : s.length - k < N), GoS Tryz.prog 131 R 97 [iC Tryz.f131 uRealX0, iL Tryz.f131 uRealX0, .inBlock 1, iC Tryz.f131 [1,1,1,1,1,1]] [(0, sS s), (4, .bool true), (5, iN n), (6, iN d), (7, .float .f64 (near (10 ^ d))), (8, .bool true), (34, iN s.length), (35, iN k)] w := by
 intro N
 induction N with
 | zero => intro n d k hF hk hd hn hN; exact absurd hN (Nat.not_lt_zero _)
 | succ N ih =>
  intro n d k hF hk hd hn hN
  have hb := bl_bd s k
  have hn2 : n < 10 ^ 15 := dec_bd hn (by omega)
  have e15 : (10 : Nat) ^ 15 = 1000000000000000 := by decide
  have hsb := sc_bd hd
  have hrl := ratN_lt (a := n) (b := 10 ^ d) (by omega) hsb.1 hsb.2
  refine xs ?_
  refine xc 5 (((k : Nat) : Int) < ((s.length : Nat) : Int)) (fun h1p => ?_) (fun h1p => ?_)
  ·
   have hb4 := bl_bd s k
   refine xi 12 s ((k : Nat) : Int) k ?_
   refine xfc 8 44 ((bl s k) = 46) (fun h6p => ?_) (fun h6p => ?_)
   ·
    refine xfc 15 55 ((bl s k) ≥ 48) (fun h7p => ?_) (fun h7p => ?_)
    ·
     refine xfc 4 59 ((bl s k) ≤ 57) (fun h8p => ?_) (fun h8p => ?_)
     ·
      refine xfc 6 65 (((d : Nat) : Int) < 3) (fun h9p => ?_) (fun h9p => ?_)
      ·
       refine xt 14 10 ((n : Nat) : Int) (((10 * n) : Nat) : Int) ?_
       refine xsub 1 .u8 (bl s k) 48 ((bl s k) - 48) (IntWalk.u8_in _ (by omega)) ?_
       refine xcv 0 .u8 .i64 ((bl s k) - 48) ((bl s k) - 48) (IntWalk.i64_in _ (by omega)) ?_
       refine xa 0 (((10 * n) : Nat) : Int) ((bl s k) - 48) ((((10 * n) : Nat) : Int) + ((bl s k) - 48)) ?_
       refine xa 5 ((d : Nat) : Int) 1 (((d + 1) : Nat) : Int) ?_
       refine xv 9 (show (binOp .mul 199 (.float .f64 (near (10 ^ d))) (.float .f64 4621819117588971520)).run Tryz.prog w = .ok (.float .f64 (near (10 ^ (d + 1)))) w from f_fmul (sc_up ⟨d, by omega⟩)) ?_
       refine xa 5 ((k : Nat) : Int) 1 (((k + 1) : Nat) : Int) ?_
       exact xl 3 (l := [(0, sS s), (4, .bool true), (5, .int .i64 ((((10 * n) : Nat) : Int) + ((bl s k) - 48))), (6, iN (d + 1)), (7, .float .f64 (near (10 ^ (d + 1)))), (8, .bool true), (34, iN s.length), (35, iN (k + 1))]) (GoS.cast (by rw [show ((((10 * n) : Nat) : Int) + ((bl s k) - 48)) = ((10 * n + ((bl s k).toNat - 48) : Nat) : Int) by omega]; first | done | rfl) (ih (10 * n + ((bl s k).toNat - 48)) (d + 1) (k + 1) ((scan_digit (n := n) (d := d) (k := k) (by omega) (by omega) (by omega) (by unfold most; simp only [cond_true, cond_false]; omega)).symm.trans hF) (by omega) (by omega) (by rw [show 12 + (d + 1) = (12 + d) + 1 by omega]; exact dec_up hn (by omega)) (by omega)))
      ·
       refine xr0 16 (v := .tuple #[.int .u64 0, .int .i64 3]) Tryz.func131 ?_
       rw [hR]
       rw [scan_none (by omega) (by intro z; simp at z) (by unfold most; simp only [cond_true, cond_false]; omega)] at hF
       subst hF
       exact ⟨rfl, rfl⟩
     ·
      refine xr0 22 (v := .tuple #[.int .u64 0, .int .i64 3]) Tryz.func131 ?_
      rw [hR]
      rw [scan_none (by omega) (by intro z; simp at z) (by unfold most; simp only [cond_true, cond_false]; omega)] at hF
      subst hF
      exact ⟨rfl, rfl⟩
    ·
     refine xr0 26 (v := .tuple #[.int .u64 0, .int .i64 3]) Tryz.func131 ?_
     rw [hR]
     rw [scan_none (by omega) (by intro z; simp at z) (by unfold most; simp only [cond_true, cond_false]; omega)] at hF
     subst hF
     exact ⟨rfl, rfl⟩
   ·
    refine xfc 15 55 ((bl s k) ≥ 48) (fun h17p => ?_) (fun h17p => ?_)
    ·
     refine xfc 4 59 ((bl s k) ≤ 57) (fun h18p => ?_) (fun h18p => ?_)
     ·
      refine xfc 6 65 (((d : Nat) : Int) < 3) (fun h19p => ?_) (fun h19p => ?_)
      ·
       refine xt 14 10 ((n : Nat) : Int) (((10 * n) : Nat) : Int) ?_
       refine xsub 1 .u8 (bl s k) 48 ((bl s k) - 48) (IntWalk.u8_in _ (by omega)) ?_
       refine xcv 0 .u8 .i64 ((bl s k) - 48) ((bl s k) - 48) (IntWalk.i64_in _ (by omega)) ?_
       refine xa 0 (((10 * n) : Nat) : Int) ((bl s k) - 48) ((((10 * n) : Nat) : Int) + ((bl s k) - 48)) ?_
       refine xa 5 ((d : Nat) : Int) 1 (((d + 1) : Nat) : Int) ?_
       refine xv 9 (show (binOp .mul 199 (.float .f64 (near (10 ^ d))) (.float .f64 4621819117588971520)).run Tryz.prog w = .ok (.float .f64 (near (10 ^ (d + 1)))) w from f_fmul (sc_up ⟨d, by omega⟩)) ?_
       refine xa 5 ((k : Nat) : Int) 1 (((k + 1) : Nat) : Int) ?_
       exact xl 3 (l := [(0, sS s), (4, .bool true), (5, .int .i64 ((((10 * n) : Nat) : Int) + ((bl s k) - 48))), (6, iN (d + 1)), (7, .float .f64 (near (10 ^ (d + 1)))), (8, .bool true), (34, iN s.length), (35, iN (k + 1))]) (GoS.cast (by rw [show ((((10 * n) : Nat) : Int) + ((bl s k) - 48)) = ((10 * n + ((bl s k).toNat - 48) : Nat) : Int) by omega]; first | done | rfl) (ih (10 * n + ((bl s k).toNat - 48)) (d + 1) (k + 1) ((scan_digit (n := n) (d := d) (k := k) (by omega) (by omega) (by omega) (by unfold most; simp only [cond_true, cond_false]; omega)).symm.trans hF) (by omega) (by omega) (by rw [show 12 + (d + 1) = (12 + d) + 1 by omega]; exact dec_up hn (by omega)) (by omega)))
      ·
       refine xr0 16 (v := .tuple #[.int .u64 0, .int .i64 3]) Tryz.func131 ?_
       rw [hR]
       rw [scan_none (by omega) (by intro z; simp at z) (by unfold most; simp only [cond_true, cond_false]; omega)] at hF
       subst hF
       exact ⟨rfl, rfl⟩
     ·
      refine xr0 22 (v := .tuple #[.int .u64 0, .int .i64 3]) Tryz.func131 ?_
      rw [hR]
      rw [scan_none (by omega) (by intro z; simp at z) (by unfold most; simp only [cond_true, cond_false]; omega)] at hF
      subst hF
      exact ⟨rfl, rfl⟩
    ·
     refine xr0 26 (v := .tuple #[.int .u64 0, .int .i64 3]) Tryz.func131 ?_
     rw [hR]
     rw [scan_none (by omega) (by intro z; simp at z) (by unfold most; simp only [cond_true, cond_false]; omega)] at hF
     subst hF
     exact ⟨rfl, rfl⟩
  ·
   refine xc 7 (((d : Nat) : Int) = 0) (fun h2p => ?_) (fun h2p => ?_)
   ·
    refine xr0 5 (v := .tuple #[.int .u64 0, .int .i64 3]) Tryz.func131 ?_
    rw [hR]
    rw [scan_end (by omega), if_pos (by omega)] at hF
    subst hF
    exact ⟨rfl, rfl⟩
   ·
    refine xv 6 (show (binOp .quo 199 (.float .f64 (FloatKind.nearest .f64 ((n : Nat) : Int))) (.float .f64 (near (10 ^ d)))).run Tryz.prog w = .ok (.float .f64 (ratN n (10 ^ d))) w from f_fquo (ratN_some (a := n) (b := (10 ^ d)) (by omega) (by first | decide | omega) (by first | decide | omega))) ?_
    refine xka 10 (csign_c (ratN n (10 ^ d)) (by omega) w) ?_
    refine xr0 9 (v := .tuple #[.int .u64 ((((ratN n (10 ^ d)) + 9223372036854775808) : Nat) : Int), .int .i64 0]) Tryz.func131 ?_
    rw [hR]
    rw [scan_end (by omega), if_neg (by omega)] at hF
    subst hF
    exact ⟨by simp only [valP, errP, cond_true, cond_false], rfl⟩

set_option maxHeartbeats 400000 in
theorem parse_Ln (s : List UInt8) (hs : s.length ≤ 9223372036854775807) (w : World) (X : Option (Nat × Nat)) (R : Ending → World → Prop) (hR : R = (fun e w' => e = .returned (.tuple #[.int .u64 ((valP X true : Nat) : Int), .int .i64 (errP X)]) ∧ w = w')) : ∀ (N : Nat) (n d k : Nat) (hF : scan false n d (s.drop k) = X) (hk : k ≤ s.length) (hd : d ≤ 12) (hn : n < 10 ^ d) (hN : s.length - k < N), GoS Tryz.prog 131 R 97 [iC Tryz.f131 uRealX0, iL Tryz.f131 uRealX0, .inBlock 1, iC Tryz.f131 [1,1,1,1,1,1]] [(0, sS s), (4, .bool true), (5, iN n), (6, iN d), (7, .float .f64 4607182418800017408), (8, .bool false), (34, iN s.length), (35, iN k)] w := by
 intro N
 induction N with
 | zero => intro n d k hF hk hd hn hN; exact absurd hN (Nat.not_lt_zero _)
 | succ N ih =>
  intro n d k hF hk hd hn hN
  have hb := bl_bd s k
  have hn2 : n < 10 ^ 15 := dec_bd hn (by omega)
  have e15 : (10 : Nat) ^ 15 = 1000000000000000 := by decide
  have hrl := ratN_lt (a := n) (b := 10 ^ 0) (by omega) (by decide) (by decide)
  refine xs ?_
  refine xc 5 (((k : Nat) : Int) < ((s.length : Nat) : Int)) (fun h1p => ?_) (fun h1p => ?_)
  ·
   have hb4 := bl_bd s k
   refine xi 12 s ((k : Nat) : Int) k ?_
   refine xfc 8 44 ((bl s k) = 46) (fun h6p => ?_) (fun h6p => ?_)
   ·
    refine xc 9 (((d : Nat) : Int) > 0) (fun h7p => ?_) (fun h7p => ?_)
    ·
     refine xa 10 ((k : Nat) : Int) 1 (((k + 1) : Nat) : Int) ?_
     exact xl 3 (l := [(0, sS s), (4, .bool true), (5, iN n), (6, .int .i64 0), (7, .float .f64 4607182418800017408), (8, .bool true), (34, iN s.length), (35, iN (k + 1))]) (GoS.cast (by rw [sc0]; rfl) (parse_Mn s hs w X R hR (s.length + 1) n 0 (k + 1) ((scan_point (n := n) (d := d) (k := k) (by omega) (by omega) (by omega)).symm.trans hF) (by omega) (by omega) (dec_bd hn (by omega)) (by omega)))
    ·
     refine xfc 5 55 ((bl s k) ≥ 48) (fun h8p => ?_) (fun h8p => ?_)
     ·
      refine xfc 4 59 ((bl s k) ≤ 57) (fun h9p => ?_) (fun h9p => ?_)
      ·
       refine xc 16 (((d : Nat) : Int) < 12) (fun h10p => ?_) (fun h10p => ?_)
       ·
        refine xt 3 10 ((n : Nat) : Int) (((10 * n) : Nat) : Int) ?_
        refine xsub 1 .u8 (bl s k) 48 ((bl s k) - 48) (IntWalk.u8_in _ (by omega)) ?_
        refine xcv 0 .u8 .i64 ((bl s k) - 48) ((bl s k) - 48) (IntWalk.i64_in _ (by omega)) ?_
        refine xa 0 (((10 * n) : Nat) : Int) ((bl s k) - 48) ((((10 * n) : Nat) : Int) + ((bl s k) - 48)) ?_
        refine xa 5 ((d : Nat) : Int) 1 (((d + 1) : Nat) : Int) ?_
        refine xa 11 ((k : Nat) : Int) 1 (((k + 1) : Nat) : Int) ?_
        exact xl 3 (l := [(0, sS s), (4, .bool true), (5, .int .i64 ((((10 * n) : Nat) : Int) + ((bl s k) - 48))), (6, iN (d + 1)), (7, .float .f64 4607182418800017408), (8, .bool false), (34, iN s.length), (35, iN (k + 1))]) (GoS.cast (by rw [show ((((10 * n) : Nat) : Int) + ((bl s k) - 48)) = ((10 * n + ((bl s k).toNat - 48) : Nat) : Int) by omega]; first | done | rfl) (ih (10 * n + ((bl s k).toNat - 48)) (d + 1) (k + 1) ((scan_digit (n := n) (d := d) (k := k) (by omega) (by omega) (by omega) (by unfold most; simp only [cond_true, cond_false]; omega)).symm.trans hF) (by omega) (by omega) (dec_up hn (by omega)) (by omega)))
       ·
        refine xr0 5 (v := .tuple #[.int .u64 0, .int .i64 3]) Tryz.func131 ?_
        rw [hR]
        rw [scan_none (by omega) (by intro z; omega) (by unfold most; simp only [cond_true, cond_false]; omega)] at hF
        subst hF
        exact ⟨rfl, rfl⟩
      ·
       refine xr0 22 (v := .tuple #[.int .u64 0, .int .i64 3]) Tryz.func131 ?_
       rw [hR]
       rw [scan_none (by omega) (by intro z; omega) (by unfold most; simp only [cond_true, cond_false]; omega)] at hF
       subst hF
       exact ⟨rfl, rfl⟩
     ·
      refine xr0 26 (v := .tuple #[.int .u64 0, .int .i64 3]) Tryz.func131 ?_
      rw [hR]
      rw [scan_none (by omega) (by intro z; omega) (by unfold most; simp only [cond_true, cond_false]; omega)] at hF
      subst hF
      exact ⟨rfl, rfl⟩
   ·
    refine xfc 15 55 ((bl s k) ≥ 48) (fun h18p => ?_) (fun h18p => ?_)
    ·
     refine xfc 4 59 ((bl s k) ≤ 57) (fun h19p => ?_) (fun h19p => ?_)
     ·
      refine xc 16 (((d : Nat) : Int) < 12) (fun h20p => ?_) (fun h20p => ?_)
      ·
       refine xt 3 10 ((n : Nat) : Int) (((10 * n) : Nat) : Int) ?_
       refine xsub 1 .u8 (bl s k) 48 ((bl s k) - 48) (IntWalk.u8_in _ (by omega)) ?_
       refine xcv 0 .u8 .i64 ((bl s k) - 48) ((bl s k) - 48) (IntWalk.i64_in _ (by omega)) ?_
       refine xa 0 (((10 * n) : Nat) : Int) ((bl s k) - 48) ((((10 * n) : Nat) : Int) + ((bl s k) - 48)) ?_
       refine xa 5 ((d : Nat) : Int) 1 (((d + 1) : Nat) : Int) ?_
       refine xa 11 ((k : Nat) : Int) 1 (((k + 1) : Nat) : Int) ?_
       exact xl 3 (l := [(0, sS s), (4, .bool true), (5, .int .i64 ((((10 * n) : Nat) : Int) + ((bl s k) - 48))), (6, iN (d + 1)), (7, .float .f64 4607182418800017408), (8, .bool false), (34, iN s.length), (35, iN (k + 1))]) (GoS.cast (by rw [show ((((10 * n) : Nat) : Int) + ((bl s k) - 48)) = ((10 * n + ((bl s k).toNat - 48) : Nat) : Int) by omega]; first | done | rfl) (ih (10 * n + ((bl s k).toNat - 48)) (d + 1) (k + 1) ((scan_digit (n := n) (d := d) (k := k) (by omega) (by omega) (by omega) (by unfold most; simp only [cond_true, cond_false]; omega)).symm.trans hF) (by omega) (by omega) (dec_up hn (by omega)) (by omega)))
      ·
       refine xr0 5 (v := .tuple #[.int .u64 0, .int .i64 3]) Tryz.func131 ?_
       rw [hR]
       rw [scan_none (by omega) (by intro z; omega) (by unfold most; simp only [cond_true, cond_false]; omega)] at hF
       subst hF
       exact ⟨rfl, rfl⟩
     ·
      refine xr0 22 (v := .tuple #[.int .u64 0, .int .i64 3]) Tryz.func131 ?_
      rw [hR]
      rw [scan_none (by omega) (by intro z; omega) (by unfold most; simp only [cond_true, cond_false]; omega)] at hF
      subst hF
      exact ⟨rfl, rfl⟩
    ·
     refine xr0 26 (v := .tuple #[.int .u64 0, .int .i64 3]) Tryz.func131 ?_
     rw [hR]
     rw [scan_none (by omega) (by intro z; omega) (by unfold most; simp only [cond_true, cond_false]; omega)] at hF
     subst hF
     exact ⟨rfl, rfl⟩
  ·
   refine xc 7 (((d : Nat) : Int) = 0) (fun h2p => ?_) (fun h2p => ?_)
   ·
    refine xr0 5 (v := .tuple #[.int .u64 0, .int .i64 3]) Tryz.func131 ?_
    rw [hR]
    rw [scan_end (by omega), if_pos (by omega)] at hF
    subst hF
    exact ⟨rfl, rfl⟩
   ·
    refine xv 6 (show (binOp .quo 199 (.float .f64 (FloatKind.nearest .f64 ((n : Nat) : Int))) (.float .f64 4607182418800017408)).run Tryz.prog w = .ok (.float .f64 (ratN n (10 ^ 0))) w from f_fquo (sc0 ▸ ratN_some (a := n) (b := (10 ^ 0)) (by omega) (by first | decide | omega) (by first | decide | omega))) ?_
    refine xka 10 (csign_c (ratN n (10 ^ 0)) (by omega) w) ?_
    refine xr0 9 (v := .tuple #[.int .u64 ((((ratN n (10 ^ 0)) + 9223372036854775808) : Nat) : Int), .int .i64 0]) Tryz.func131 ?_
    rw [hR]
    rw [scan_end (by omega), if_neg (by omega)] at hF
    subst hF
    exact ⟨by simp only [valP, errP, cond_true, cond_false], rfl⟩

set_option maxHeartbeats 400000 in
theorem parse_Mp (s : List UInt8) (hs : s.length ≤ 9223372036854775807) (w : World) (X : Option (Nat × Nat)) (R : Ending → World → Prop) (hR : R = (fun e w' => e = .returned (.tuple #[.int .u64 ((valP X false : Nat) : Int), .int .i64 (errP X)]) ∧ w = w')) : ∀ (N : Nat) (n d k : Nat) (hF : scan true n d (s.drop k) = X) (hk : k ≤ s.length) (hd : d ≤ 3) (hn : n < 10 ^ (12 + d)) (hN : s.length - k < N), GoS Tryz.prog 131 R 97 [iC Tryz.f131 uRealX0, iL Tryz.f131 uRealX0, .inBlock 1, iC Tryz.f131 [1,1,1,1,1,1]] [(0, sS s), (4, .bool false), (5, iN n), (6, iN d), (7, .float .f64 (near (10 ^ d))), (8, .bool true), (34, iN s.length), (35, iN k)] w := by
 intro N
 induction N with
 | zero => intro n d k hF hk hd hn hN; exact absurd hN (Nat.not_lt_zero _)
 | succ N ih =>
  intro n d k hF hk hd hn hN
  have hb := bl_bd s k
  have hn2 : n < 10 ^ 15 := dec_bd hn (by omega)
  have e15 : (10 : Nat) ^ 15 = 1000000000000000 := by decide
  have hsb := sc_bd hd
  have hrl := ratN_lt (a := n) (b := 10 ^ d) (by omega) hsb.1 hsb.2
  refine xs ?_
  refine xc 5 (((k : Nat) : Int) < ((s.length : Nat) : Int)) (fun h1p => ?_) (fun h1p => ?_)
  ·
   have hb4 := bl_bd s k
   refine xi 12 s ((k : Nat) : Int) k ?_
   refine xfc 8 44 ((bl s k) = 46) (fun h6p => ?_) (fun h6p => ?_)
   ·
    refine xfc 15 55 ((bl s k) ≥ 48) (fun h7p => ?_) (fun h7p => ?_)
    ·
     refine xfc 4 59 ((bl s k) ≤ 57) (fun h8p => ?_) (fun h8p => ?_)
     ·
      refine xfc 6 65 (((d : Nat) : Int) < 3) (fun h9p => ?_) (fun h9p => ?_)
      ·
       refine xt 14 10 ((n : Nat) : Int) (((10 * n) : Nat) : Int) ?_
       refine xsub 1 .u8 (bl s k) 48 ((bl s k) - 48) (IntWalk.u8_in _ (by omega)) ?_
       refine xcv 0 .u8 .i64 ((bl s k) - 48) ((bl s k) - 48) (IntWalk.i64_in _ (by omega)) ?_
       refine xa 0 (((10 * n) : Nat) : Int) ((bl s k) - 48) ((((10 * n) : Nat) : Int) + ((bl s k) - 48)) ?_
       refine xa 5 ((d : Nat) : Int) 1 (((d + 1) : Nat) : Int) ?_
       refine xv 9 (show (binOp .mul 199 (.float .f64 (near (10 ^ d))) (.float .f64 4621819117588971520)).run Tryz.prog w = .ok (.float .f64 (near (10 ^ (d + 1)))) w from f_fmul (sc_up ⟨d, by omega⟩)) ?_
       refine xa 5 ((k : Nat) : Int) 1 (((k + 1) : Nat) : Int) ?_
       exact xl 3 (l := [(0, sS s), (4, .bool false), (5, .int .i64 ((((10 * n) : Nat) : Int) + ((bl s k) - 48))), (6, iN (d + 1)), (7, .float .f64 (near (10 ^ (d + 1)))), (8, .bool true), (34, iN s.length), (35, iN (k + 1))]) (GoS.cast (by rw [show ((((10 * n) : Nat) : Int) + ((bl s k) - 48)) = ((10 * n + ((bl s k).toNat - 48) : Nat) : Int) by omega]; first | done | rfl) (ih (10 * n + ((bl s k).toNat - 48)) (d + 1) (k + 1) ((scan_digit (n := n) (d := d) (k := k) (by omega) (by omega) (by omega) (by unfold most; simp only [cond_true, cond_false]; omega)).symm.trans hF) (by omega) (by omega) (by rw [show 12 + (d + 1) = (12 + d) + 1 by omega]; exact dec_up hn (by omega)) (by omega)))
      ·
       refine xr0 16 (v := .tuple #[.int .u64 0, .int .i64 3]) Tryz.func131 ?_
       rw [hR]
       rw [scan_none (by omega) (by intro z; simp at z) (by unfold most; simp only [cond_true, cond_false]; omega)] at hF
       subst hF
       exact ⟨rfl, rfl⟩
     ·
      refine xr0 22 (v := .tuple #[.int .u64 0, .int .i64 3]) Tryz.func131 ?_
      rw [hR]
      rw [scan_none (by omega) (by intro z; simp at z) (by unfold most; simp only [cond_true, cond_false]; omega)] at hF
      subst hF
      exact ⟨rfl, rfl⟩
    ·
     refine xr0 26 (v := .tuple #[.int .u64 0, .int .i64 3]) Tryz.func131 ?_
     rw [hR]
     rw [scan_none (by omega) (by intro z; simp at z) (by unfold most; simp only [cond_true, cond_false]; omega)] at hF
     subst hF
     exact ⟨rfl, rfl⟩
   ·
    refine xfc 15 55 ((bl s k) ≥ 48) (fun h17p => ?_) (fun h17p => ?_)
    ·
     refine xfc 4 59 ((bl s k) ≤ 57) (fun h18p => ?_) (fun h18p => ?_)
     ·
      refine xfc 6 65 (((d : Nat) : Int) < 3) (fun h19p => ?_) (fun h19p => ?_)
      ·
       refine xt 14 10 ((n : Nat) : Int) (((10 * n) : Nat) : Int) ?_
       refine xsub 1 .u8 (bl s k) 48 ((bl s k) - 48) (IntWalk.u8_in _ (by omega)) ?_
       refine xcv 0 .u8 .i64 ((bl s k) - 48) ((bl s k) - 48) (IntWalk.i64_in _ (by omega)) ?_
       refine xa 0 (((10 * n) : Nat) : Int) ((bl s k) - 48) ((((10 * n) : Nat) : Int) + ((bl s k) - 48)) ?_
       refine xa 5 ((d : Nat) : Int) 1 (((d + 1) : Nat) : Int) ?_
       refine xv 9 (show (binOp .mul 199 (.float .f64 (near (10 ^ d))) (.float .f64 4621819117588971520)).run Tryz.prog w = .ok (.float .f64 (near (10 ^ (d + 1)))) w from f_fmul (sc_up ⟨d, by omega⟩)) ?_
       refine xa 5 ((k : Nat) : Int) 1 (((k + 1) : Nat) : Int) ?_
       exact xl 3 (l := [(0, sS s), (4, .bool false), (5, .int .i64 ((((10 * n) : Nat) : Int) + ((bl s k) - 48))), (6, iN (d + 1)), (7, .float .f64 (near (10 ^ (d + 1)))), (8, .bool true), (34, iN s.length), (35, iN (k + 1))]) (GoS.cast (by rw [show ((((10 * n) : Nat) : Int) + ((bl s k) - 48)) = ((10 * n + ((bl s k).toNat - 48) : Nat) : Int) by omega]; first | done | rfl) (ih (10 * n + ((bl s k).toNat - 48)) (d + 1) (k + 1) ((scan_digit (n := n) (d := d) (k := k) (by omega) (by omega) (by omega) (by unfold most; simp only [cond_true, cond_false]; omega)).symm.trans hF) (by omega) (by omega) (by rw [show 12 + (d + 1) = (12 + d) + 1 by omega]; exact dec_up hn (by omega)) (by omega)))
      ·
       refine xr0 16 (v := .tuple #[.int .u64 0, .int .i64 3]) Tryz.func131 ?_
       rw [hR]
       rw [scan_none (by omega) (by intro z; simp at z) (by unfold most; simp only [cond_true, cond_false]; omega)] at hF
       subst hF
       exact ⟨rfl, rfl⟩
     ·
      refine xr0 22 (v := .tuple #[.int .u64 0, .int .i64 3]) Tryz.func131 ?_
      rw [hR]
      rw [scan_none (by omega) (by intro z; simp at z) (by unfold most; simp only [cond_true, cond_false]; omega)] at hF
      subst hF
      exact ⟨rfl, rfl⟩
    ·
     refine xr0 26 (v := .tuple #[.int .u64 0, .int .i64 3]) Tryz.func131 ?_
     rw [hR]
     rw [scan_none (by omega) (by intro z; simp at z) (by unfold most; simp only [cond_true, cond_false]; omega)] at hF
     subst hF
     exact ⟨rfl, rfl⟩
  ·
   refine xc 7 (((d : Nat) : Int) = 0) (fun h2p => ?_) (fun h2p => ?_)
   ·
    refine xr0 5 (v := .tuple #[.int .u64 0, .int .i64 3]) Tryz.func131 ?_
    rw [hR]
    rw [scan_end (by omega), if_pos (by omega)] at hF
    subst hF
    exact ⟨rfl, rfl⟩
   ·
    refine xv 6 (show (binOp .quo 199 (.float .f64 (FloatKind.nearest .f64 ((n : Nat) : Int))) (.float .f64 (near (10 ^ d)))).run Tryz.prog w = .ok (.float .f64 (ratN n (10 ^ d))) w from f_fquo (ratN_some (a := n) (b := (10 ^ d)) (by omega) (by first | decide | omega) (by first | decide | omega))) ?_
    refine xr0 16 (v := .tuple #[.int .u64 (((ratN n (10 ^ d)) : Nat) : Int), .int .i64 0]) Tryz.func131 ?_
    rw [hR]
    rw [scan_end (by omega), if_neg (by omega)] at hF
    subst hF
    exact ⟨by simp only [valP, errP, cond_true, cond_false, Nat.add_zero], rfl⟩

set_option maxHeartbeats 400000 in
theorem parse_Lp (s : List UInt8) (hs : s.length ≤ 9223372036854775807) (w : World) (X : Option (Nat × Nat)) (R : Ending → World → Prop) (hR : R = (fun e w' => e = .returned (.tuple #[.int .u64 ((valP X false : Nat) : Int), .int .i64 (errP X)]) ∧ w = w')) : ∀ (N : Nat) (n d k : Nat) (hF : scan false n d (s.drop k) = X) (hk : k ≤ s.length) (hd : d ≤ 12) (hn : n < 10 ^ d) (hN : s.length - k < N), GoS Tryz.prog 131 R 97 [iC Tryz.f131 uRealX0, iL Tryz.f131 uRealX0, .inBlock 1, iC Tryz.f131 [1,1,1,1,1,1]] [(0, sS s), (4, .bool false), (5, iN n), (6, iN d), (7, .float .f64 4607182418800017408), (8, .bool false), (34, iN s.length), (35, iN k)] w := by
 intro N
 induction N with
 | zero => intro n d k hF hk hd hn hN; exact absurd hN (Nat.not_lt_zero _)
 | succ N ih =>
  intro n d k hF hk hd hn hN
  have hb := bl_bd s k
  have hn2 : n < 10 ^ 15 := dec_bd hn (by omega)
  have e15 : (10 : Nat) ^ 15 = 1000000000000000 := by decide
  have hrl := ratN_lt (a := n) (b := 10 ^ 0) (by omega) (by decide) (by decide)
  refine xs ?_
  refine xc 5 (((k : Nat) : Int) < ((s.length : Nat) : Int)) (fun h1p => ?_) (fun h1p => ?_)
  ·
   have hb4 := bl_bd s k
   refine xi 12 s ((k : Nat) : Int) k ?_
   refine xfc 8 44 ((bl s k) = 46) (fun h6p => ?_) (fun h6p => ?_)
   ·
    refine xc 9 (((d : Nat) : Int) > 0) (fun h7p => ?_) (fun h7p => ?_)
    ·
     refine xa 10 ((k : Nat) : Int) 1 (((k + 1) : Nat) : Int) ?_
     exact xl 3 (l := [(0, sS s), (4, .bool false), (5, iN n), (6, .int .i64 0), (7, .float .f64 4607182418800017408), (8, .bool true), (34, iN s.length), (35, iN (k + 1))]) (GoS.cast (by rw [sc0]; rfl) (parse_Mp s hs w X R hR (s.length + 1) n 0 (k + 1) ((scan_point (n := n) (d := d) (k := k) (by omega) (by omega) (by omega)).symm.trans hF) (by omega) (by omega) (dec_bd hn (by omega)) (by omega)))
    ·
     refine xfc 5 55 ((bl s k) ≥ 48) (fun h8p => ?_) (fun h8p => ?_)
     ·
      refine xfc 4 59 ((bl s k) ≤ 57) (fun h9p => ?_) (fun h9p => ?_)
      ·
       refine xc 16 (((d : Nat) : Int) < 12) (fun h10p => ?_) (fun h10p => ?_)
       ·
        refine xt 3 10 ((n : Nat) : Int) (((10 * n) : Nat) : Int) ?_
        refine xsub 1 .u8 (bl s k) 48 ((bl s k) - 48) (IntWalk.u8_in _ (by omega)) ?_
        refine xcv 0 .u8 .i64 ((bl s k) - 48) ((bl s k) - 48) (IntWalk.i64_in _ (by omega)) ?_
        refine xa 0 (((10 * n) : Nat) : Int) ((bl s k) - 48) ((((10 * n) : Nat) : Int) + ((bl s k) - 48)) ?_
        refine xa 5 ((d : Nat) : Int) 1 (((d + 1) : Nat) : Int) ?_
        refine xa 11 ((k : Nat) : Int) 1 (((k + 1) : Nat) : Int) ?_
        exact xl 3 (l := [(0, sS s), (4, .bool false), (5, .int .i64 ((((10 * n) : Nat) : Int) + ((bl s k) - 48))), (6, iN (d + 1)), (7, .float .f64 4607182418800017408), (8, .bool false), (34, iN s.length), (35, iN (k + 1))]) (GoS.cast (by rw [show ((((10 * n) : Nat) : Int) + ((bl s k) - 48)) = ((10 * n + ((bl s k).toNat - 48) : Nat) : Int) by omega]; first | done | rfl) (ih (10 * n + ((bl s k).toNat - 48)) (d + 1) (k + 1) ((scan_digit (n := n) (d := d) (k := k) (by omega) (by omega) (by omega) (by unfold most; simp only [cond_true, cond_false]; omega)).symm.trans hF) (by omega) (by omega) (dec_up hn (by omega)) (by omega)))
       ·
        refine xr0 5 (v := .tuple #[.int .u64 0, .int .i64 3]) Tryz.func131 ?_
        rw [hR]
        rw [scan_none (by omega) (by intro z; omega) (by unfold most; simp only [cond_true, cond_false]; omega)] at hF
        subst hF
        exact ⟨rfl, rfl⟩
      ·
       refine xr0 22 (v := .tuple #[.int .u64 0, .int .i64 3]) Tryz.func131 ?_
       rw [hR]
       rw [scan_none (by omega) (by intro z; omega) (by unfold most; simp only [cond_true, cond_false]; omega)] at hF
       subst hF
       exact ⟨rfl, rfl⟩
     ·
      refine xr0 26 (v := .tuple #[.int .u64 0, .int .i64 3]) Tryz.func131 ?_
      rw [hR]
      rw [scan_none (by omega) (by intro z; omega) (by unfold most; simp only [cond_true, cond_false]; omega)] at hF
      subst hF
      exact ⟨rfl, rfl⟩
   ·
    refine xfc 15 55 ((bl s k) ≥ 48) (fun h18p => ?_) (fun h18p => ?_)
    ·
     refine xfc 4 59 ((bl s k) ≤ 57) (fun h19p => ?_) (fun h19p => ?_)
     ·
      refine xc 16 (((d : Nat) : Int) < 12) (fun h20p => ?_) (fun h20p => ?_)
      ·
       refine xt 3 10 ((n : Nat) : Int) (((10 * n) : Nat) : Int) ?_
       refine xsub 1 .u8 (bl s k) 48 ((bl s k) - 48) (IntWalk.u8_in _ (by omega)) ?_
       refine xcv 0 .u8 .i64 ((bl s k) - 48) ((bl s k) - 48) (IntWalk.i64_in _ (by omega)) ?_
       refine xa 0 (((10 * n) : Nat) : Int) ((bl s k) - 48) ((((10 * n) : Nat) : Int) + ((bl s k) - 48)) ?_
       refine xa 5 ((d : Nat) : Int) 1 (((d + 1) : Nat) : Int) ?_
       refine xa 11 ((k : Nat) : Int) 1 (((k + 1) : Nat) : Int) ?_
       exact xl 3 (l := [(0, sS s), (4, .bool false), (5, .int .i64 ((((10 * n) : Nat) : Int) + ((bl s k) - 48))), (6, iN (d + 1)), (7, .float .f64 4607182418800017408), (8, .bool false), (34, iN s.length), (35, iN (k + 1))]) (GoS.cast (by rw [show ((((10 * n) : Nat) : Int) + ((bl s k) - 48)) = ((10 * n + ((bl s k).toNat - 48) : Nat) : Int) by omega]; first | done | rfl) (ih (10 * n + ((bl s k).toNat - 48)) (d + 1) (k + 1) ((scan_digit (n := n) (d := d) (k := k) (by omega) (by omega) (by omega) (by unfold most; simp only [cond_true, cond_false]; omega)).symm.trans hF) (by omega) (by omega) (dec_up hn (by omega)) (by omega)))
      ·
       refine xr0 5 (v := .tuple #[.int .u64 0, .int .i64 3]) Tryz.func131 ?_
       rw [hR]
       rw [scan_none (by omega) (by intro z; omega) (by unfold most; simp only [cond_true, cond_false]; omega)] at hF
       subst hF
       exact ⟨rfl, rfl⟩
     ·
      refine xr0 22 (v := .tuple #[.int .u64 0, .int .i64 3]) Tryz.func131 ?_
      rw [hR]
      rw [scan_none (by omega) (by intro z; omega) (by unfold most; simp only [cond_true, cond_false]; omega)] at hF
      subst hF
      exact ⟨rfl, rfl⟩
    ·
     refine xr0 26 (v := .tuple #[.int .u64 0, .int .i64 3]) Tryz.func131 ?_
     rw [hR]
     rw [scan_none (by omega) (by intro z; omega) (by unfold most; simp only [cond_true, cond_false]; omega)] at hF
     subst hF
     exact ⟨rfl, rfl⟩
  ·
   refine xc 7 (((d : Nat) : Int) = 0) (fun h2p => ?_) (fun h2p => ?_)
   ·
    refine xr0 5 (v := .tuple #[.int .u64 0, .int .i64 3]) Tryz.func131 ?_
    rw [hR]
    rw [scan_end (by omega), if_pos (by omega)] at hF
    subst hF
    exact ⟨rfl, rfl⟩
   ·
    refine xv 6 (show (binOp .quo 199 (.float .f64 (FloatKind.nearest .f64 ((n : Nat) : Int))) (.float .f64 4607182418800017408)).run Tryz.prog w = .ok (.float .f64 (ratN n (10 ^ 0))) w from f_fquo (sc0 ▸ ratN_some (a := n) (b := (10 ^ 0)) (by omega) (by first | decide | omega) (by first | decide | omega))) ?_
    refine xr0 16 (v := .tuple #[.int .u64 (((ratN n (10 ^ 0)) : Nat) : Int), .int .i64 0]) Tryz.func131 ?_
    rw [hR]
    rw [scan_end (by omega), if_neg (by omega)] at hF
    subst hF
    exact ⟨by simp only [valP, errP, cond_true, cond_false, Nat.add_zero], rfl⟩

set_option maxHeartbeats 400000 in
theorem parse_c (s : List UInt8) (hs : s.length ≤ 9223372036854775807) (w : World) :
  Calls Tryz.prog 131 #[sS s] w (fun e w' => e = .returned (.tuple #[.int .u64 ((parseV s : Nat) : Int), .int .i64 (parseE s)]) ∧ w = w') := by
 refine xe 97 Tryz.func131 (fun R hR => ?_)
 refine xq 13 s ([110, 97, 110] : List UInt8) ?_
 refine xc 2 (s = ([110, 97, 110] : List UInt8)) (fun h2p => ?_) (fun h2p => ?_)
 ·
  have h2 : (decide (s = ([110, 97, 110] : List UInt8))) = true := decide_eq_true h2p
  obtain ⟨e1, e2⟩ := parse_nan (by simpa using h2)
  exact xr 5 (v := .tuple #[.int .u64 9221120237041090560, .int .i64 0]) Tryz.func131 hR ⟨by rw [e1, e2]; rfl, rfl⟩
 ·
  have h2 : (decide (s = ([110, 97, 110] : List UInt8))) = false := decide_eq_false h2p
  refine xq 2 s ([105, 110, 102] : List UInt8) ?_
  refine xc 2 (s = ([105, 110, 102] : List UInt8)) (fun h4p => ?_) (fun h4p => ?_)
  ·
   have h4 : (decide (s = ([105, 110, 102] : List UInt8))) = true := decide_eq_true h4p
   refine xka 2 (pinf_c w) ?_
   obtain ⟨e1, e2⟩ := parse_inf (by simpa using h2) (by simpa using h4)
   exact xr 4 (v := .tuple #[.int .u64 9218868437227405312, .int .i64 0]) Tryz.func131 hR ⟨by rw [e1, e2]; rfl, rfl⟩
  ·
   have h4 : (decide (s = ([105, 110, 102] : List UInt8))) = false := decide_eq_false h4p
   refine xq 2 s ([45, 105, 110, 102] : List UInt8) ?_
   refine xc 2 (s = ([45, 105, 110, 102] : List UInt8)) (fun h6p => ?_) (fun h6p => ?_)
   ·
    have h6 : (decide (s = ([45, 105, 110, 102] : List UInt8))) = true := decide_eq_true h6p
    refine xka 2 (ninf_c w) ?_
    obtain ⟨e1, e2⟩ := parse_ninf (by simpa using h2) (by simpa using h4) (by simpa using h6)
    exact xr 4 (v := .tuple #[.int .u64 18442240474082181120, .int .i64 0]) Tryz.func131 hR ⟨by rw [e1, e2]; rfl, rfl⟩
   ·
    refine xqn 5 s ([]) ?_
    refine xfn 1 25 (s = []) (fun h8p => ?_) (fun h8p => ?_)
    ·
     have hb9 := bl_bd s 0
     refine xi 1 s 0 0 ?_ (hlt := by first | omega | exact List.length_pos_iff.2 (by assumption))
     refine xc 9 ((bl s 0) = 45) (fun h11p => ?_) (fun h11p => ?_)
     ·
      have h11 : ((bl s 0) == 45) = true := by simpa using h11p
      refine xsl 2 s 1 1 ?_ (hlt := by first | omega | exact List.length_pos_iff.2 (by assumption))
      refine xn 13 (List.drop 1 s) ?_
      obtain ⟨e1, e2⟩ := parse_neg h2p h4p h6p (minus_yes h8p h11)
      exact xl 4 (l := [(0, sS (List.drop 1 s)), (4, .bool ((bl s 0) == 45)), (5, .int .i64 0), (6, .int .i64 0), (7, .float .f64 4607182418800017408), (8, .bool false), (34, iN ((List.drop 1 s).length)), (35, .int .i64 0)]) (GoS.cast (by rw [h11]; rfl) (parse_Ln (List.drop 1 s) (by rw [List.length_drop]; omega) w (scan false 0 0 ((List.drop 1 s).drop 0)) R (by rw [hR, e1, e2]) ((List.drop 1 s).length + 1) 0 0 0 rfl (by omega) (by decide) (by omega) (by omega)))
     ·
      have h11 : ((bl s 0) == 45) = false := by simpa using h11p
      refine xn 12 s ?_
      obtain ⟨e1, e2⟩ := parse_pos h2p h4p h6p (minus_no h11)
      exact xl 4 (l := [(0, sS s), (4, .bool ((bl s 0) == 45)), (5, .int .i64 0), (6, .int .i64 0), (7, .float .f64 4607182418800017408), (8, .bool false), (34, iN s.length), (35, .int .i64 0)]) (GoS.cast (by rw [h11]; rfl) (parse_Lp s (by omega) w (scan false 0 0 (s.drop 0)) R (by rw [hR, e1, e2]) (s.length + 1) 0 0 0 rfl (by omega) (by decide) (by omega) (by omega)))
    ·
     have h8 : (!(decide (s = []))) = false := by simpa using h8p
     refine xn 24 s ?_
     obtain ⟨e1, e2⟩ := parse_pos h2p h4p h6p (minus_nil (by simpa using h8))
     exact xl 4 (l := [(0, sS s), (4, .bool false), (5, .int .i64 0), (6, .int .i64 0), (7, .float .f64 4607182418800017408), (8, .bool false), (34, iN s.length), (35, .int .i64 0)]) (GoS.cast (by rfl) (parse_Lp s (by omega) w (scan false 0 0 (s.drop 0)) R (by rw [hR, e1, e2]) (s.length + 1) 0 0 0 rfl (by omega) (by decide) (by omega) (by omega)))


end Go.Proofs.YthpodbngljfdmaaGreatDoor

namespace Go.SynV
open Go Go.Gw Go.Shelf Go.Proofs Go.Proofs.YthpodbngljfdmaaGreatDoor Go.RowKit
/-- what is laid: the library's tables of letters and of runes, the error of the syntax, the table of the lowest bit's place at sixteen -/
structure GV (w : World) : Prop where
  case : Lib.CaseVar (shR.g 13) Lib.caseA w
  tabs : Lib.Utf8Tabs (shR.g 3) (shR.g 4) w
  syn : ∃ T x, w.cell? ⟨6, 0, none⟩ = some (.iface T x)
  deb : w.cell? ⟨shR.g 19, 15, none⟩ = some (.int .u8 4)
/-- it holds whatever is written but outside S -/
def GS (S : List Nat) (w : World) : Prop := ∀ w', Kept S w w' → GV w'
theorem GS.kept {S : List Nat} {w w1 : World} (h : GS S w) (k : Kept S w w1) : GS S w1 := fun w' k' => h w' (k.trans k')
theorem GS.nil {S : List Nat} {w : World} (h : GS S w) : GS [] w := fun w' k => h w' (k.mono (by simp))
theorem GS.now {S : List Nat} {w : World} (h : GS S w) : GV w := h w (Kept.refl _ _)
theorem GS.fresh {w0 w : World} {T : TypeId} {k b : Nat} {xs : List Value} {L : List Row} (h : GS [] w0) (hM : Mem [] w0 w (⟨T, k, obj b, 1, xs⟩ :: L)) : GS [b] w := fun w' kp => h w' (hM.back1 (Mem.bare kp)).kept
theorem cell_kept {w w' : World} {p : Addr} {v : Value} (h : w.cell? p = some v) (k : Kept [] w w') : w'.cell? p = some v := (Below.cell k.below (World.block_lt_of_cell? w p h)).trans h
theorem GV.kept {w w' : World} (h : GV w) (k : Kept [] w w') : GV w' :=
  ⟨Lib.CaseVar_below h.case k.below, ⟨fun c hc => cell_kept (h.tabs.1 c hc) k, fun i hi => ⟨cell_kept (h.tabs.2 i hi).1 k, cell_kept (h.tabs.2 i hi).2 k⟩⟩, let ⟨T, x, e⟩ := h.syn; ⟨T, x, cell_kept e k⟩, cell_kept h.deb k⟩
theorem GV.gs {w : World} (h : GV w) : GS [] w := fun _ k => h.kept k
end Go.SynV

set_option linter.unusedVariables false
set_option linter.unusedSimpArgs false
namespace Go.Proofs.YthpodbngljfdmaaGreatDoor
open Go Go.Gw Go.Shelf Go.Proofs Go.RowKit Go.Lib Go.SynV
set_option maxRecDepth 100000
theorem star22 : "*" ++ "errors.errorString" = "*errors.errorString" := by decide
theorem row245 (u : TypeId) (h : Tryz.prog.typeName? 3 u = some "*errors.errorString") : u = 245 :=
  typeName_ptr_named (nm := "errors.errorString") (by rw [star22]; kernel_rfl) (by kernel_rfl) (by decide) u (by rw [star22]; exact h)
def deb64 : List Int := [0, 1, 56, 2, 57, 49, 28, 3, 61, 58, 42, 50, 38, 29, 17, 4, 62, 47, 59, 36, 45, 43, 51, 22, 53, 39, 33, 30, 24, 18, 12, 5, 63, 55, 48, 27, 60, 41, 37, 16, 46, 35, 44, 21, 52, 32, 23, 11, 54, 26, 40, 15, 34, 20, 31, 10, 25, 14, 19, 9, 13, 8, 7, 6]
theorem lays260 : Lays.n260 Tryz.prog shR := { lays159 with }
theorem lays274 : Lays.n274 Tryz.prog shR := { lays159 with }
theorem gv_of {W : World} (h : laidMetH Tryz.prog Rows.syntaxBlanksRow.laid W) : GV W := by
  have hL : laidMet Tryz.prog Rows.syntaxBlanksRow.laid W := by rw [MakeChecks.laidMetH_plain _ _ _ (by kernel_rfl)] at h; exact h
  have hD : laidMet Tryz.prog _ W := hL.tail
  have hS : laidMet Tryz.prog _ W := hD.tail.tail.tail.tail
  refine ⟨?_, ?_, ?_, ?_⟩
  · exact caseVar_of_reads lays274 Tryz.underlying249 ⟨by kernel_rfl, by kernel_rfl, by kernel_rfl, by kernel_rfl, by kernel_rfl, by kernel_rfl⟩ (Pinned.caseRanges_eq ▸ laidMet.reads hL (show ("unicode.CaseRanges", Pinned.caseRanges) ∈ Rows.syntaxBlanksRow.laid by simp [Rows.syntaxBlanksRow, Rows.laid_unicode_CaseRanges]))
  · exact utf8Tabs_of_reads lays260 ⟨by kernel_rfl, by kernel_rfl, by kernel_rfl, by kernel_rfl, by kernel_rfl, by kernel_rfl, by kernel_rfl⟩
      (Pinned.utf8First_eq ▸ laidMet.reads hL (show ("unicode/utf8.first", Pinned.utf8First) ∈ Rows.syntaxBlanksRow.laid by simp [Rows.syntaxBlanksRow, Rows.laid_unicode_utf8_first]))
      ((show (Rows.laid_unicode_utf8_acceptRanges : DataW Unit) = acceptData by kernel_rfl) ▸ laidMet.reads hD.tail.tail (List.mem_cons_self ..))
  · obtain ⟨a, t, hv, _⟩ := laid_sentinel (g := 6) hS (by kernel_rfl) (by kernel_rfl) Tryz.underlying89 row245 Tryz.underlying245 Tryz.underlying247 rfl rfl Tryz.underlying9 (by kernel_rfl) (by kernel_rfl)
    exact ⟨_, _, World.var?_cell (by kernel_rfl) hv 0⟩
  · exact TabIs.cell (g := 3) (tabIs_of_head (g := 3) (t := 203) (n := 64) (e := 5) (zs := deb64) (k := .u8) (rest := Rows.syntaxBlanksRow.laid.tail.tail) (by kernel_rfl) (by kernel_rfl) (by kernel_rfl) (by kernel_rfl) (by kernel_rfl) (by kernel_rfl) hD) (by kernel_rfl) 15 (by decide)
end Go.Proofs.YthpodbngljfdmaaGreatDoor

namespace Go.Gw
set_option linter.unusedVariables false
set_option linter.unusedSimpArgs false
abbrev PS := List (Int × List Int)
def zp : Int × List Int := (0, [])
def pf (L : PS) (X : Nat → Value) (j : Nat) : List Value := [.int .i64 (L.getD j zp).1, X j]
def pcells (L : PS) (X : Nat → Value) : List Value := recs (pf L X) (List.range L.length)
theorem pf_len (L : PS) (X : Nat → Value) (j : Nat) : (pf L X j).length = 2 := rfl
theorem pcells_len (L : PS) (X : Nat → Value) : (pcells L X).length = L.length * 2 := by
  unfold pcells; rw [recs_len (pf_len L X), List.length_range]
theorem range_at {n j : Nat} (h : j < n) : (List.range n).getD j 0 = j := by
  simp [List.getD_eq_getElem?_getD, h]
theorem p_at0 {L : PS} {X : Nat → Value} {j : Nat} (h : j < L.length) : (pcells L X)[j * 2 + 0]? = some (.int .i64 (L.getD j zp).1) :=
  recs_at (pf_len L X) 0 (by rw [List.length_range]; exact h) (by rw [range_at h]; rfl)
theorem p_at1 {L : PS} {X : Nat → Value} {j : Nat} (h : j < L.length) : (pcells L X)[j * 2 + 1]? = some (X j) :=
  recs_at (pf_len L X) 0 (by rw [List.length_range]; exact h) (by rw [range_at h]; rfl)
section
variable {P : Program} {w w0 : World} {S : List Nat}
theorem p_loads {E : TypeId} (hE : Agged P E 2) {v : Value} {n : Nat} {L : PS} {X : Nat → Value} (h : Rd w 2 v n (pcells L X)) {j : Nat} {p : Addr} (hp : At v 2 j p) (hj : j < L.length) :
    (Instr.loadAt E (.pointer (some p))).run P w = .ok (.agg #[.int .i64 (L.getD j zp).1, X j]) w := by
  have := r_loads hE h (pf_len L X) hp (by rw [List.length_range]; exact hj) 0
  rw [range_at hj] at this
  exact this
/-- one more -/
def updX (X : Nat → Value) (n : Nat) (x : Value) : Nat → Value := fun j => if j = n then x else X j
theorem updX_at (X : Nat → Value) (n : Nat) (x : Value) : updX X n x n = x := if_pos rfl
theorem updX_lt {X : Nat → Value} {n j : Nat} {x : Value} (h : j < n) : updX X n x j = X j := if_neg (by omega)
theorem ps_snoc_lt {L : PS} {p : Int × List Int} {j : Nat} (h : j < L.length) : (L ++ [p]).getD j zp = L.getD j zp := by
  rw [List.getD_eq_getElem?_getD, List.getD_eq_getElem?_getD, List.getElem?_append_left h]
theorem ps_snoc_at {L : PS} {p : Int × List Int} : (L ++ [p]).getD L.length zp = p := by
  rw [List.getD_eq_getElem?_getD, List.getElem?_append_right (Nat.le_refl _), Nat.sub_self]; rfl
theorem pcells_snoc (L : PS) (X : Nat → Value) (p : Int × List Int) (x : Value) : pcells L X ++ [.int .i64 p.1, x] = pcells (L ++ [p]) (updX X L.length x) := by
  unfold pcells recs
  rw [List.length_append, List.length_cons, List.length_nil, List.range_succ, List.flatMap_append]
  congr 1
  · rw [List.flatMap_def, List.flatMap_def]
    congr 1
    refine List.map_congr_left fun j hj => ?_
    rw [List.mem_range] at hj
    unfold pf
    rw [ps_snoc_lt hj, updX_lt hj]
  · simp only [List.flatMap_cons, List.flatMap_nil, List.append_nil]
    unfold pf
    rw [ps_snoc_at, updX_at]
theorem pcells_nil (X : Nat → Value) : pcells [] X = [] := rfl
/-- the rows of the inner slices from i on -/
def atR (E : TypeId) (X : Nat → Value) (L : PS) : Nat → Nat → List Row
  | _, 0 => []
  | i, m + 1 => ⟨E, 1, X i, (L.getD i zp).2.length, ivals .i64 (L.getD i zp).2⟩ :: atR E X L (i + 1) m
theorem atR_snoc' (E : TypeId) (X : Nat → Value) (L : PS) (i m : Nat) : atR E X L i (m + 1) = atR E X L i m ++ [⟨E, 1, X (i + m), (L.getD (i + m) zp).2.length, ivals .i64 (L.getD (i + m) zp).2⟩] := by
  induction m generalizing i with
  | zero => rfl
  | succ m ih =>
    show _ :: atR E X L (i + 1) (m + 1) = (_ :: atR E X L (i + 1) m) ++ _
    rw [ih (i + 1), List.cons_append, show i + 1 + m = i + (m + 1) by omega]
theorem atR_congr {E : TypeId} {X X' : Nat → Value} {L L' : PS} {i m : Nat} (h : ∀ j, i ≤ j → j < i + m → X j = X' j ∧ (L.getD j zp).2 = (L'.getD j zp).2) : atR E X L i m = atR E X' L' i m := by
  induction m generalizing i with
  | zero => rfl
  | succ m ih =>
    unfold atR
    obtain ⟨h1, h2⟩ := h i (Nat.le_refl _) (by omega)
    rw [h1, h2, ih fun j a b => h j (by omega) (by omega)]
theorem atR_snoc (E : TypeId) (X : Nat → Value) (L : PS) (p : Int × List Int) (x : Value) : atR E (updX X L.length x) (L ++ [p]) 0 (L ++ [p]).length = atR E X L 0 L.length ++ [⟨E, 1, x, p.2.length, ivals .i64 p.2⟩] := by
  rw [List.length_append, List.length_cons, List.length_nil, atR_snoc', Nat.zero_add, updX_at, ps_snoc_at]
  congr 1
  exact atR_congr fun j _ h => ⟨updX_lt (by omega), by rw [ps_snoc_lt (by omega)]⟩
theorem atR_mem {E : TypeId} {X : Nat → Value} {L : PS} {i m j : Nat} (h1 : i ≤ j) (h2 : j < i + m) : (⟨E, 1, X j, (L.getD j zp).2.length, ivals .i64 (L.getD j zp).2⟩ : Row) ∈ atR E X L i m := by
  induction m generalizing i with
  | zero => omega
  | succ m ih =>
    unfold atR
    rcases Nat.lt_or_ge i j with h | h
    · exact List.mem_cons_of_mem _ (ih (by omega) (by omega))
    · obtain rfl : i = j := by omega
      exact List.mem_cons_self ..
theorem Mem.rdm {R : List Row} {r : Row} (h : Mem S w0 w R) (hr : r ∈ R) : Rd w r.k r.v r.n r.xs := own_rd (h.owns r hr)
theorem Mem.inner {E : TypeId} {X : Nat → Value} {L : PS} {A T : List Row} {i m : Nat} (h : Mem S w0 w (A ++ (atR E X L i m ++ T))) (j : Nat) (h1 : i ≤ j) (h2 : j < i + m) : Rd w 1 (X j) (L.getD j zp).2.length (ivals .i64 (L.getD j zp).2) :=
  h.rdm (List.mem_append_right _ (List.mem_append_left _ (atR_mem h1 h2)))
theorem Mem.toTail {r : Row} {A T : List Row} (h : Mem S w0 w (r :: (A ++ T))) : Mem S w0 w (A ++ (T ++ [r])) := by
  refine h.perm ?_
  have : (r :: (A ++ T)).Perm ((A ++ T) ++ [r]) := (List.perm_append_singleton r (A ++ T)).symm
  rwa [List.append_assoc] at this
theorem Mem.swapT {A B C : List Row} (h : Mem S w0 w (A ++ (B ++ C))) : Mem S w0 w (A ++ (C ++ B)) := h.perm (List.Perm.append_left A List.perm_append_comm)
end
end Go.Gw
namespace Go.Gw
open Go.RowKit
/-- a later part of a slice, whatever the world, as long as the whole reads -/
theorem f_from2 {P : Program} {w : World} {t E k b : Nat} {z : Value} (hT : SliceT P t E k b z) {v vb : Value} {n n0 k0 : Nat} {xs xs0 : List Value} (hq : ∀ W : World, Rd W k0 vb n0 xs0 → Rd W k v n xs) (hw : Rd w k0 vb n0 xs0) {x : Int} (lo : Nat) (hx : x = (lo : Int)) (hln : lo ≤ n) :
    ∃ v', (∀ (W : World) (kk : IntKind), (Instr.sliceAt t v (some (.int kk x)) none none).run P W = .ok v' W) ∧ ∀ W : World, Rd W k0 vb n0 xs0 → Rd W k v' (n - lo) (xs.drop (lo * k)) := by
  obtain ⟨v', h1, h2, _⟩ := f_from hT (hq w hw) lo hx hln
  refine ⟨v', h1, fun W h => ?_⟩
  obtain ⟨v'', h3, h4, _⟩ := f_from hT (hq W h) lo hx hln
  have e := (h1 W .i64).symm.trans (h3 W .i64)
  simp only [Result.ok.injEq, and_true] at e
  rw [e]; exact h4
end Go.Gw

namespace Go.QryP
open Go.Gw Go.UtfP Go.TokP
set_option linter.unusedVariables false
set_option linter.unusedSimpArgs false
/-- a query without its parts -/
structure Hd where
  op : Int
  field : List UInt8
  text : List UInt8
  edits : Int
  exact : Int
  lo : Int
  hi : Int
deriving DecidableEq
def hz : Hd := ⟨0, [], [], 0, 0, 0, 0⟩
/-- as it lies in a slice: the parts are another slice -/
structure QN where
  h : Hd
  parts : Value
def qz : QN := ⟨hz, .slice none 0 0⟩
abbrev qn (op : Int) (field text : List UInt8) (edits ex lo hi : Int) (v : Value) : QN := ⟨⟨op, field, text, edits, ex, lo, hi⟩, v⟩
def hdC (h : Hd) : List Value := [.int .i64 h.op, .string (sb h.field), .string (sb h.text), .int .i64 h.edits, .int .i64 h.exact, .int .u64 h.lo, .int .u64 h.hi]
def qnC (x : QN) : List Value := [.int .i64 x.h.op, .string (sb x.h.field), .string (sb x.h.text), .int .i64 x.h.edits, .int .i64 x.h.exact, .int .u64 x.h.lo, .int .u64 x.h.hi, x.parts]
theorem cc {α : Type} {a : α} {l m : List α} (h : l.Sublist m) : (a :: l).Sublist (a :: m) := .cons_cons a h
theorem cn {α : Type} {a : α} {l m : List α} (h : l.Sublist m) : l.Sublist (a :: m) := .cons a h
abbrev qR (h : Hd) (v : Value) : List Value := [.int .i64 h.op, .string (sb h.field), .string (sb h.text), .int .i64 h.edits, .int .i64 h.exact, .int .u64 h.lo, .int .u64 h.hi, v]
abbrev qA (h : Hd) (v : Value) : Value := .agg #[.int .i64 h.op, .string (sb h.field), .string (sb h.text), .int .i64 h.edits, .int .i64 h.exact, .int .u64 h.lo, .int .u64 h.hi, v]
abbrev qH (h : Hd) : Value := .agg #[.int .i64 h.op, .string (sb h.field), .string (sb h.text), .int .i64 h.edits, .int .i64 h.exact, .int .u64 h.lo, .int .u64 h.hi]
abbrev qRR (h : Hd) (v : Value) (g : Hd) (u : Value) : List Value := [.int .i64 h.op, .string (sb h.field), .string (sb h.text), .int .i64 h.edits, .int .i64 h.exact, .int .u64 h.lo, .int .u64 h.hi, v, .int .i64 g.op, .string (sb g.field), .string (sb g.text), .int .i64 g.edits, .int .i64 g.exact, .int .u64 g.lo, .int .u64 g.hi, u]
abbrev qP (n : Int) (v : Value) : List Value := [.int .i64 n, .string (sb []), .string (sb []), .int .i64 0, .int .i64 0, .int .u64 0, .int .u64 0, v]
abbrev qO (n : Int) (v : Value) : Value := .agg #[.int .i64 n, .string (sb []), .string (sb []), .int .i64 0, .int .i64 0, .int .u64 0, .int .u64 0, v]
theorem qnC_len (x : QN) : (qnC x).length = 8 := rfl
inductive Q where
  | mk (h : Hd) (l : List Q)
def Q.h : Q → Hd
  | .mk h _ => h
def Q.l : Q → List Q
  | .mk _ l => l
def q0 : Q := .mk hz []
theorem Q.eta (q : Q) : Q.mk q.h q.l = q := by cases q; rfl
mutual
def sizeQ : Q → Nat
  | .mk _ l => sizeL l + 1
def sizeL : List Q → Nat
  | [] => 0
  | q :: r => sizeQ q + sizeL r
end
mutual
def deepQ : Q → Nat
  | .mk _ l => deepL l + 1
def deepL : List Q → Nat
  | [] => 0
  | q :: r => max (deepQ q) (deepL r)
end
mutual
/-- how much a query holds -/
def bulkQ : Q → Nat
  | .mk h l => bulkL l + h.field.length + h.text.length + 1
def bulkL : List Q → Nat
  | [] => 0
  | q :: r => bulkQ q + bulkL r
end
mutual
def sameQ : Q → Q → Bool
  | .mk h l, .mk g m => decide (h = g) && sameL l m
def sameL : List Q → List Q → Bool
  | [], [] => true
  | a :: l, b :: m => sameQ a b && sameL l m
  | _, _ => false
end
mutual
def fewQ : Q → Nat → Nat
  | .mk _ l, n => fewL l (n + 1)
def fewL : List Q → Nat → Nat
  | [], n => n
  | q :: r, n => if n ≤ 5000 then fewL r (fewQ q n) else n
end
theorem sizeQ_mk (h : Hd) (l : List Q) : sizeQ (.mk h l) = sizeL l + 1 := by rw [sizeQ]
theorem deepQ_mk (h : Hd) (l : List Q) : deepQ (.mk h l) = deepL l + 1 := by rw [deepQ]
theorem bulkQ_mk (h : Hd) (l : List Q) : bulkQ (.mk h l) = bulkL l + h.field.length + h.text.length + 1 := by rw [bulkQ]
theorem sameQ_mk (h g : Hd) (l m : List Q) : sameQ (.mk h l) (.mk g m) = (decide (h = g) && sameL l m) := by rw [sameQ]
theorem fewQ_mk (h : Hd) (l : List Q) (n : Nat) : fewQ (.mk h l) n = fewL l (n + 1) := by rw [fewQ]
theorem sizeL_app : ∀ (a b : List Q), sizeL (a ++ b) = sizeL a + sizeL b
  | [], b => by simp [sizeL]
  | q :: a, b => by rw [List.cons_append, sizeL, sizeL, sizeL_app a b]; omega
theorem deepL_app : ∀ (a b : List Q), deepL (a ++ b) = max (deepL a) (deepL b)
  | [], b => by simp [deepL]
  | q :: a, b => by rw [List.cons_append, deepL, deepL, deepL_app a b]; omega
theorem bulkL_app : ∀ (a b : List Q), bulkL (a ++ b) = bulkL a + bulkL b
  | [], b => by simp [bulkL]
  | q :: a, b => by rw [List.cons_append, bulkL, bulkL, bulkL_app a b]; omega
theorem bulk_pos (q : Q) : 1 ≤ bulkQ q := by cases q; rw [bulkQ_mk]; omega
theorem size_bulkL : ∀ (l : List Q), (∀ q ∈ l, sizeQ q ≤ bulkQ q ∧ deepQ q ≤ sizeQ q) → sizeL l ≤ bulkL l ∧ deepL l ≤ sizeL l
  | [], _ => by simp [sizeL, bulkL, deepL]
  | q :: l, h => by
    have h1 := h q (List.mem_cons_self ..)
    have h2 := size_bulkL l fun x hx => h x (List.mem_cons_of_mem _ hx)
    rw [sizeL, bulkL, deepL]; omega
section
variable {l : List Q} {i : Nat}
theorem tk_snoc (h : i < l.length) : l.take (i + 1) = l.take i ++ [l.getD i q0] := by
  rw [List.take_succ_eq_append_getElem h, List.getD_eq_getElem?_getD, List.getElem?_eq_getElem h]; rfl
theorem tk_all (h : ¬ i < l.length) : l.take i = l := List.take_of_length_le (by omega)
theorem size_step (h : i < l.length) : sizeL (l.take (i + 1)) = sizeL (l.take i) + sizeQ (l.getD i q0) := by rw [tk_snoc h, sizeL_app]; simp [sizeL]
theorem deep_step (h : i < l.length) : deepL (l.take (i + 1)) = max (deepL (l.take i)) (deepQ (l.getD i q0)) := by rw [tk_snoc h, deepL_app]; simp [deepL]
theorem bulk_step (h : i < l.length) : bulkL (l.take (i + 1)) = bulkL (l.take i) + bulkQ (l.getD i q0) := by rw [tk_snoc h, bulkL_app]; simp [bulkL]
theorem bulk_take (l : List Q) (i : Nat) : bulkL (l.take i) ≤ bulkL l := by
  have := bulkL_app (l.take i) (l.drop i)
  rw [List.take_append_drop] at this; omega
theorem bulk_len : ∀ (l : List Q), l.length ≤ bulkL l
  | [] => Nat.zero_le _
  | q :: l => by have := bulk_len l; have := bulk_pos q; rw [List.length_cons, bulkL]; omega
theorem bulk_kid (h : i < l.length) : bulkQ (l.getD i q0) ≤ bulkL l := by
  have h1 := bulk_step h
  have h2 := bulk_take l (i + 1)
  omega
end
theorem size_bulk : ∀ (n : Nat) (q : Q), bulkQ q ≤ n → sizeQ q ≤ bulkQ q ∧ deepQ q ≤ sizeQ q
  | 0, q, h => by have := bulk_pos q; omega
  | n + 1, .mk g l, h => by
    rw [bulkQ_mk] at h
    have := size_bulkL l fun q hq => by
      obtain ⟨j, hj, rfl⟩ := List.getElem_of_mem hq
      have h1 := bulk_kid (l := l) hj
      rw [List.getD_eq_getElem?_getD, List.getElem?_eq_getElem hj] at h1
      exact size_bulk n l[j] (by have h2 : bulkQ l[j] ≤ bulkL l := h1; omega)
    rw [sizeQ_mk, bulkQ_mk, deepQ_mk]; omega
theorem size_le (q : Q) : sizeQ q ≤ bulkQ q ∧ deepQ q ≤ sizeQ q := size_bulk _ q (Nat.le_refl _)
theorem sizeL_le (l : List Q) : sizeL l ≤ bulkL l ∧ deepL l ≤ sizeL l := size_bulkL l fun q _ => size_le q
/-! ### few -/
theorem few_step {l : List Q} {i n : Nat} (h : i < l.length) (hn : n ≤ 5000) : fewL (l.drop i) n = fewL (l.drop (i + 1)) (fewQ (l.getD i q0) n) := by
  rw [List.drop_eq_getElem_cons h, fewL, if_pos hn, List.getD_eq_getElem?_getD, List.getElem?_eq_getElem h]; rfl
theorem few_stop {l : List Q} {i n : Nat} (h : ¬ i < l.length ∨ ¬ n ≤ 5000) : fewL (l.drop i) n = n := by
  by_cases g : i < l.length
  · rw [List.drop_eq_getElem_cons g, fewL, if_neg (by omega)]
  · rw [List.drop_of_length_le (by omega), fewL]
theorem few_bdL : ∀ (l : List Q) (n : Nat), (∀ q ∈ l, ∀ n, n ≤ fewQ q n ∧ fewQ q n ≤ n + sizeQ q) → n ≤ fewL l n ∧ fewL l n ≤ n + sizeL l
  | [], n, _ => by simp [fewL]
  | q :: l, n, h => by
    rw [fewL, sizeL]
    split
    · have h1 := h q (List.mem_cons_self ..) n
      have h2 := few_bdL l (fewQ q n) fun x hx => h x (List.mem_cons_of_mem _ hx)
      omega
    · omega
theorem few_bdQ : ∀ (m : Nat) (q : Q), bulkQ q ≤ m → ∀ n, n ≤ fewQ q n ∧ fewQ q n ≤ n + sizeQ q
  | 0, q, h => by have := bulk_pos q; omega
  | m + 1, .mk g l, h => fun n => by
    rw [bulkQ_mk] at h
    have := few_bdL l (n + 1) fun q hq => by
      obtain ⟨j, hj, rfl⟩ := List.getElem_of_mem hq
      have h1 := bulk_kid (l := l) hj
      rw [List.getD_eq_getElem?_getD, List.getElem?_eq_getElem hj] at h1
      exact few_bdQ m l[j] (by have h2 : bulkQ l[j] ≤ bulkL l := h1; omega)
    rw [fewQ_mk, sizeQ_mk]; omega
theorem few_bd (q : Q) (n : Nat) : n ≤ fewQ q n ∧ fewQ q n ≤ n + sizeQ q := few_bdQ _ q (Nat.le_refl _) n
/-! ### alike -/
theorem sameL_len : ∀ {a b : List Q}, sameL a b = true → a.length = b.length
  | [], [], _ => rfl
  | [], _ :: _, h => by simp [sameL] at h
  | _ :: _, [], h => by simp [sameL] at h
  | a :: l, b :: m, h => by
    rw [sameL, Bool.and_eq_true] at h
    rw [List.length_cons, List.length_cons, sameL_len h.2]
theorem same_no {a b : List Q} (h : ¬ a.length = b.length) : sameL a b = false := by
  cases e : sameL a b with
  | false => rfl
  | true => exact absurd (sameL_len e) h
theorem same_stepL {a b : List Q} {i : Nat} (h : i < a.length) (h2 : i < b.length) : sameL (a.drop i) (b.drop i) = (sameQ (a.getD i q0) (b.getD i q0) && sameL (a.drop (i + 1)) (b.drop (i + 1))) := by
  rw [List.drop_eq_getElem_cons h, List.drop_eq_getElem_cons h2, sameL, List.getD_eq_getElem?_getD, List.getElem?_eq_getElem h, List.getD_eq_getElem?_getD, List.getElem?_eq_getElem h2]; rfl
theorem same_end {a b : List Q} {i : Nat} (h : ¬ i < a.length) (h2 : a.length = b.length) : sameL (a.drop i) (b.drop i) = true := by
  rw [List.drop_of_length_le (by omega), List.drop_of_length_le (by omega), sameL]
theorem same_reflL : ∀ (l : List Q), (∀ q ∈ l, sameQ q q = true) → sameL l l = true
  | [], _ => by rw [sameL]
  | q :: l, h => by rw [sameL, h q (List.mem_cons_self ..), same_reflL l fun x hx => h x (List.mem_cons_of_mem _ hx)]; rfl
theorem same_reflN : ∀ (m : Nat) (q : Q), bulkQ q ≤ m → sameQ q q = true
  | 0, q, h => by have := bulk_pos q; omega
  | m + 1, .mk g l, h => by
    rw [bulkQ_mk] at h
    rw [sameQ_mk, same_reflL l fun q hq => by
      obtain ⟨j, hj, rfl⟩ := List.getElem_of_mem hq
      have h1 := bulk_kid (l := l) hj
      rw [List.getD_eq_getElem?_getD, List.getElem?_eq_getElem hj] at h1
      exact same_reflN m l[j] (by have h2 : bulkQ l[j] ≤ bulkL l := h1; omega)]
    simp
theorem same_refl (q : Q) : sameQ q q = true := same_reflN _ q (Nat.le_refl _)
theorem same_set : ∀ {l : List Q} {i : Nat} (r : Q), i < l.length → sameL (l.set i r) l = sameQ r (l.getD i q0)
  | [], i, r, h => by simp at h
  | q :: l, 0, r, _ => by
    rw [List.set_cons_zero, sameL, same_reflL l fun x _ => same_refl x]; simp
  | q :: l, i + 1, r, h => by
    rw [List.set_cons_succ, sameL, same_refl q, same_set r (by simpa using h)]; simp
/-! ### which may be -/
def nameP (s : List UInt8) : Bool := decide (1 ≤ s.length ∧ s.length ≤ 16) && s.all fun c => decide (97 ≤ c.toNat ∧ c.toNat ≤ 122 ∨ 48 ≤ c.toNat ∧ c.toNat ≤ 57 ∨ c.toNat = 95)
/-- the folded characters of a pattern: the error -/
def letP (s marks : List UInt8) : Int :=
  if decE s ≠ 0 then decE s else if 16 < (foldL s).length then 4 else if (foldL s).length = 0 then 20
  else if (foldL s).all (fun c => letter c || marks.any fun m => c == (m.toNat : Int)) = true then 0 else 20
def letN (s marks : List UInt8) : Nat := if letP s marks = 0 then (foldL s).length else 0
def letL (s marks : List UInt8) : List Int := if letP s marks = 0 then foldL s else []
/-- are all but field and parts empty, as far as they must be? -/
def nothP (h : Hd) (t e n : Bool) : Bool := (t || decide (h.text = [])) && (e || (decide (h.edits = 0) && decide (h.exact = 0))) && (n || (decide (h.lo = 0) && decide (h.hi = 0)))
/-- may the text stand behind the operator? -/
def WP (h : Hd) : Prop := (h.op = 1 ∧ termE h.text = 0) ∨ (h.op = 5 ∧ tokE h.text = 0 ∧ 1 ≤ (tokL h.text).length ∧ (tokL h.text).length ≤ 16) ∨ (h.op = 3 ∧ letP h.text [42, 63] = 0) ∨ (¬ h.op = 1 ∧ ¬ h.op = 5 ∧ ¬ h.op = 3 ∧ letP h.text [] = 0 ∧ 0 ≤ h.edits ∧ h.edits ≤ 2 ∧ 0 ≤ h.exact ∧ h.exact ≤ ((foldL h.text).length : Int))
instance (h : Hd) : Decidable (WP h) := by unfold WP; infer_instance
def wordsP (h : Hd) : Bool := decide (WP h)
/-- a part, without its own parts -/
def nodeP (h : Hd) (n : Nat) : Bool :=
  if h.op = 8 ∨ h.op = 7 then decide (2 ≤ n) && decide (h.field = []) && nothP h false false false
  else if h.op = 9 then decide (n = 1) && decide (h.field = []) && nothP h false false false
  else if h.op = 10 then decide (n = 0) && decide (h.field = []) && nothP h false false false
  else if 0 < n ∨ nameP h.field = false then false
  else if h.op = 1 then decide (termE h.text = 0) && nothP h true false false
  else if h.op = 2 then decide (0 < letN h.text []) && nothP h true false false
  else if h.op = 3 then decide (0 < letN h.text [42, 63]) && nothP h true false false
  else if h.op = 4 then decide (0 < letN h.text [] ∧ 0 ≤ h.edits ∧ h.edits ≤ 2 ∧ 0 ≤ h.exact ∧ h.exact ≤ (letN h.text [] : Int)) && nothP h true true false
  else if h.op = 5 then decide (tokE h.text = 0 ∧ 1 ≤ (tokL h.text).length ∧ (tokL h.text).length ≤ 16) && nothP h true false false
  else if h.op = 6 then nothP h false false true
  else false
mutual
def rightQ : Q → Bool
  | .mk h l => rightL l && nodeP h l.length
def rightL : List Q → Bool
  | [] => true
  | q :: r => rightQ q && rightL r
end
theorem rightQ_mk (h : Hd) (l : List Q) : rightQ (.mk h l) = (rightL l && nodeP h l.length) := by rw [rightQ]
theorem rightL_app : ∀ (a b : List Q), rightL (a ++ b) = (rightL a && rightL b)
  | [], b => by rw [List.nil_append, rightL]; rfl
  | q :: a, b => by rw [List.cons_append, rightL, rightL, rightL_app a b, Bool.and_assoc]
theorem right_step {l : List Q} {i : Nat} (h : i < l.length) : rightL (l.take (i + 1)) = (rightL (l.take i) && rightQ (l.getD i q0)) := by rw [tk_snoc h, rightL_app]; simp [rightL]
theorem right_bad {l : List Q} {i : Nat} (h : i < l.length) (hr : rightQ (l.getD i q0) = false) : rightL l = false := by
  have h1 := rightL_app (l.take (i + 1)) (l.drop (i + 1))
  rw [List.take_append_drop, right_step h, hr] at h1
  rw [h1]; simp
def checkQ (q : Q) : Int := if 64 < sizeQ q ∨ 8 < deepQ q then 4 else if rightQ q = true then 0 else 20
/-! ### how they lie in memory -/
inductive RdQ (w : World) : Q → Value → Prop
  | mk (h : Hd) (l : List Q) (v : Value) (L : List QN) (hr : Rd w 8 v L.length (recs qnC L)) (hl : L.length = l.length) (hh : ∀ j, j < l.length → (L.getD j qz).h = (l.getD j q0).h) (hs : ∀ j, j < l.length → RdQ w (l.getD j q0) (L.getD j qz).parts) : RdQ w (.mk h l) v
theorem RdQ.inv {w : World} {q : Q} {v : Value} (h : RdQ w q v) : ∃ L : List QN, Rd w 8 v L.length (recs qnC L) ∧ L.length = q.l.length ∧ (∀ j, j < q.l.length → (L.getD j qz).h = (q.l.getD j q0).h) ∧ ∀ j, j < q.l.length → RdQ w (q.l.getD j q0) (L.getD j qz).parts := by
  cases h with
  | mk h l v L hr hl hh hs => exact ⟨L, hr, hl, hh, hs⟩
theorem RdQ.map {w w' : World} (h : ∀ (v : Value) (n : Nat) (xs : List Value), Rd w 8 v n xs → Rd w' 8 v n xs) {q : Q} {v : Value} (hq : RdQ w q v) : RdQ w' q v := by
  induction hq with
  | mk g l v L hr hl hh hs ih => exact .mk g l v L (h _ _ _ hr) hl hh ih
theorem RdQ.kept {w w' : World} {q : Q} {v : Value} (h : RdQ w q v) (hk : Kept [] w w') : RdQ w' q v := h.map fun _ _ _ hr => hr.kept0 hk
theorem RdQ.one {w : World} {q : Q} {v : Value} (h : RdQ w q v) : v.oneCell' = true ∧ v.cells = #[v] ∧ v.cells.toList = [v] := by
  obtain ⟨L, hr, _⟩ := h.inv
  exact ⟨rd_one hr, rd_cells hr, rd_cellsl hr⟩
/-- the rows that hold a tree's parts -/
inductive QT (T : List Row) : Q → Value → Prop
  | mk (h : Hd) (l : List Q) (v : Value) (E : TypeId) (L : List QN) (hm : (⟨E, 8, v, L.length, recs qnC L⟩ : Row) ∈ T) (hl : L.length = l.length) (hh : ∀ j, j < l.length → (L.getD j qz).h = (l.getD j q0).h) (hs : ∀ j, j < l.length → QT T (l.getD j q0) (L.getD j qz).parts) : QT T (.mk h l) v
theorem QT.sub {T T' : List Row} (h : ∀ r, r ∈ T → r ∈ T') {q : Q} {v : Value} (hq : QT T q v) : QT T' q v := by
  induction hq with
  | mk g l v E L hm hl hh hs ih => exact .mk g l v E L (h _ hm) hl hh ih
theorem QT.rd {T R : List Row} {S : List Nat} {w0 w : World} (hM : Mem S w0 w R) (h : ∀ r, r ∈ T → r ∈ R) {q : Q} {v : Value} (hq : QT T q v) : RdQ w q v := by
  induction hq with
  | mk g l v E L hm hl hh hs ih => exact .mk g l v L (hM.rdm (h _ hm)) hl hh ih
end Go.QryP
namespace Go.QryP
open Go.Gw Go.UtfP Go.TokP
set_option linter.unusedVariables false
set_option linter.unusedSimpArgs false
theorem hd_ext {a b : Hd} (h1 : a.op = b.op) (h2 : a.field = b.field) (h3 : a.text = b.text) (h4 : a.edits = b.edits) (h5 : a.exact = b.exact) (h6 : a.lo = b.lo) (h7 : a.hi = b.hi) : a = b := by
  cases a; cases b; simp only at h1 h2 h3 h4 h5 h6 h7; subst h1 h2 h3 h4 h5 h6 h7; rfl
theorem flat_eq (a b : Hd) : ((a.op == b.op) && (((sb a.field).toList == (sb b.field).toList) && (((sb a.text).toList == (sb b.text).toList) && ((a.edits == b.edits) && ((a.exact == b.exact) && ((a.lo == b.lo) && ((a.hi == b.hi) && true))))))) = decide (a = b) := by
  rw [sb_toList, sb_toList, sb_toList, sb_toList]
  rw [Bool.eq_iff_iff]
  cases a; cases b
  simp
theorem same_eq (a b : Q) : sameQ a b = (decide (a.h = b.h) && sameL a.l b.l) := by cases a; cases b; rw [sameQ_mk]; rfl
theorem same_ne {a b : Q} (h : ¬ a.h = b.h) : sameQ a b = false := by rw [same_eq, decide_eq_false h]; rfl
theorem same_nl {a b : Q} (h : ¬ a.l.length = b.l.length) : sameQ a b = false := by rw [same_eq, same_no h, Bool.and_false]
theorem same_go {a b : Q} (h : a.h = b.h) : sameL (a.l.drop 0) (b.l.drop 0) = sameQ a b := by rw [same_eq, decide_eq_true h, List.drop_zero, List.drop_zero]; rfl
theorem few_go (q : Q) (n : Nat) : fewL (q.l.drop 0) (n + 1) = fewQ q n := by cases q; rw [fewQ_mk]; rfl
end Go.QryP
namespace Go.QryP
open Go.Gw Go.UtfP Go.TokP
set_option linter.unusedVariables false
set_option linter.unusedSimpArgs false
def okI (c : Int) : Prop := 97 ≤ c ∧ c ≤ 122 ∨ 48 ≤ c ∧ c ≤ 57 ∨ c = 95
theorem okI_iff {s : List UInt8} {j : Nat} (h : j < s.length) : okI (bl s j) ↔ (97 ≤ s[j].toNat ∧ s[j].toNat ≤ 122 ∨ 48 ≤ s[j].toNat ∧ s[j].toNat ≤ 57 ∨ s[j].toNat = 95) := by
  unfold okI bl
  rw [List.getD_eq_getElem?_getD, List.getElem?_eq_getElem h]
  simp only [Option.getD_some]
  omega
theorem name_yes {s : List UInt8} (h : 1 ≤ s.length ∧ s.length ≤ 16) (hz : ∀ j, j < s.length → okI (bl s j)) : nameP s = true := by
  unfold nameP
  rw [decide_eq_true h, Bool.true_and, List.all_eq_true]
  intro c hc
  obtain ⟨j, hj, rfl⟩ := List.getElem_of_mem hc
  exact decide_eq_true ((okI_iff hj).1 (hz j hj))
theorem name_no {s : List UInt8} {j : Nat} (h : j < s.length) (hn : ¬ okI (bl s j)) : nameP s = false := by
  cases e : nameP s with
  | false => rfl
  | true =>
    unfold nameP at e
    rw [Bool.and_eq_true, List.all_eq_true] at e
    exact absurd ((okI_iff h).2 (of_decide_eq_true (e.2 s[j] (List.getElem_mem h)))) hn
theorem name_len {s : List UInt8} (h : ¬ (1 ≤ s.length ∧ s.length ≤ 16)) : nameP s = false := by unfold nameP; rw [decide_eq_false h]; rfl
/-- a letter, or one of the first k marks -/
def okM (c : Int) (marks : List UInt8) (k : Nat) : Bool := letter c || (marks.take k).any fun m => c == (m.toNat : Int)
theorem okM_zero (c : Int) (marks : List UInt8) : okM c marks 0 = letter c := by unfold okM; simp
theorem okM_step {c : Int} {marks : List UInt8} {k : Nat} (h : k < marks.length) : okM c marks (k + 1) = (okM c marks k || c == bl marks k) := by
  unfold okM bl
  rw [List.take_succ_eq_append_getElem h, List.any_append, List.getD_eq_getElem?_getD, List.getElem?_eq_getElem h]
  simp [Bool.or_assoc]
theorem okM_all {c : Int} {marks : List UInt8} {k : Nat} (h : ¬ k < marks.length) : okM c marks k = (letter c || marks.any fun m => c == (m.toNat : Int)) := by unfold okM; rw [List.take_of_length_le (by omega)]
section
variable {s marks : List UInt8}
theorem let_err (h : decE s ≠ 0) : letP s marks = decE s ∧ letL s marks = [] := by
  have e : letP s marks = decE s := by unfold letP; rw [if_pos h]
  exact ⟨e, by unfold letL; rw [e, if_neg h]⟩
theorem let_long (h : decE s = 0) (h2 : 16 < (foldL s).length) : letP s marks = 4 ∧ letL s marks = [] := by
  have e : letP s marks = 4 := by unfold letP; rw [if_neg (by omega), if_pos h2]
  exact ⟨e, by unfold letL; rw [e]; rfl⟩
theorem let_none (h : decE s = 0) (h2 : (foldL s).length = 0) : letP s marks = 20 ∧ letL s marks = [] := by
  have e : letP s marks = 20 := by unfold letP; rw [if_neg (by omega), if_neg (by omega), if_pos h2]
  exact ⟨e, by unfold letL; rw [e]; rfl⟩
theorem let_bad (h : decE s = 0) (h2 : ¬ 16 < (foldL s).length) {i : Nat} (hi : i < (foldL s).length) (hn : okM ((foldL s).getD i 0) marks marks.length = false) : letP s marks = 20 ∧ letL s marks = [] := by
  have e : letP s marks = 20 := by
    unfold letP
    rw [if_neg (by omega), if_neg h2, if_neg (by omega), if_neg]
    intro z
    rw [List.all_eq_true] at z
    have := z ((foldL s).getD i 0) (by rw [List.getD_eq_getElem?_getD, List.getElem?_eq_getElem hi]; exact List.getElem_mem hi)
    rw [okM_all (by omega)] at hn
    rw [hn] at this; cases this
  exact ⟨e, by unfold letL; rw [e]; rfl⟩
theorem let_good (h : decE s = 0) (h2 : ¬ 16 < (foldL s).length) (h3 : ¬ (foldL s).length = 0) (hz : ∀ j, j < (foldL s).length → okM ((foldL s).getD j 0) marks marks.length = true) : letP s marks = 0 ∧ letL s marks = foldL s := by
  have e : letP s marks = 0 := by
    unfold letP
    rw [if_neg (by omega), if_neg h2, if_neg h3, if_pos]
    rw [List.all_eq_true]
    intro c hc
    obtain ⟨j, hj, rfl⟩ := List.getElem_of_mem hc
    have := hz j hj
    rwa [okM_all (by omega), List.getD_eq_getElem?_getD, List.getElem?_eq_getElem hj] at this
  exact ⟨e, by unfold letL; rw [e]; rfl⟩
theorem let_pos (h : letP s marks = 0) : 0 < (foldL s).length ∧ letN s marks = (foldL s).length ∧ letL s marks = foldL s := by
  refine ⟨?_, by unfold letN; rw [if_pos h], by unfold letL; rw [if_pos h]⟩
  unfold letP at h
  split at h
  · contradiction
  · split at h
    · cases h
    · split at h
      · cases h
      · omega
theorem letN_no (h : ¬ letP s marks = 0) : letN s marks = 0 := by unfold letN; rw [if_neg h]
theorem letN_iff : 0 < letN s marks ↔ letP s marks = 0 := by
  by_cases h : letP s marks = 0
  · have := let_pos h; rw [this.2.1]; exact ⟨fun _ => h, fun _ => this.1⟩
  · rw [letN_no h]; exact ⟨fun z => absurd z (Nat.lt_irrefl _), fun z => absurd z h⟩
end
section
variable {h : Hd} {n : Nat}
theorem noth_t (h : Hd) : ((h.op == h.op) && (((sb h.field).toList == (sb h.field).toList) && (((sb h.text).toList == (sb h.text).toList) && ((h.edits == 0) && ((h.exact == 0) && ((h.lo == 0) && ((h.hi == 0) && true))))))) = nothP h true false false := by
  rw [Bool.eq_iff_iff]; simp [nothP, and_assoc]
theorem noth_f (h : Hd) : ((h.op == h.op) && (((sb h.field).toList == (sb h.field).toList) && (((sb h.text).toList == (sb h.text).toList) && ((h.edits == h.edits) && ((h.exact == h.exact) && ((h.lo == 0) && ((h.hi == 0) && true))))))) = nothP h true true false := by
  rw [Bool.eq_iff_iff]; simp [nothP, and_assoc]
theorem noth_r (h : Hd) : ((h.op == h.op) && (((sb h.field).toList == (sb h.field).toList) && (((sb h.text).toList == (sb []).toList) && ((h.edits == 0) && ((h.exact == 0) && ((h.lo == h.lo) && ((h.hi == h.hi) && true))))))) = nothP h false false true := by
  rw [Bool.eq_iff_iff]; simp [nothP, and_assoc, sb_toList]
theorem noth_b (h : Hd) : ((h.op == h.op) && (((sb h.field).toList == (sb []).toList) && (((sb h.text).toList == (sb []).toList) && ((h.edits == 0) && ((h.exact == 0) && ((h.lo == 0) && ((h.hi == 0) && true))))))) = (decide (h.field = []) && nothP h false false false) := by
  rw [Bool.eq_iff_iff]; simp [nothP, and_assoc, sb_toList]
theorem node_join (ho : h.op = 8 ∨ h.op = 7) : nodeP h n = (decide (2 ≤ n) && decide (h.field = []) && nothP h false false false) := by unfold nodeP; rw [if_pos ho]
theorem node_not (ho : h.op = 9) : nodeP h n = (decide (n = 1) && decide (h.field = []) && nothP h false false false) := by unfold nodeP; rw [if_neg (by omega), if_pos ho]
theorem node_all (ho : h.op = 10) : nodeP h n = (decide (n = 0) && decide (h.field = []) && nothP h false false false) := by unfold nodeP; rw [if_neg (by omega), if_neg (by omega), if_pos ho]
theorem node_else (ho : ¬ (1 ≤ h.op ∧ h.op ≤ 10)) : nodeP h n = false := by
  unfold nodeP
  rw [if_neg (by omega), if_neg (by omega), if_neg (by omega)]
  split
  · rfl
  · rw [if_neg (by omega), if_neg (by omega), if_neg (by omega), if_neg (by omega), if_neg (by omega), if_neg (by omega)]
theorem node_name (ho : 1 ≤ h.op ∧ h.op ≤ 6) (hn : nameP h.field = false) : nodeP h n = false := by
  unfold nodeP; rw [if_neg (by omega), if_neg (by omega), if_neg (by omega), if_pos (.inr hn)]
theorem node_many (ho : 1 ≤ h.op ∧ h.op ≤ 6) (hn : 0 < n) : nodeP h n = false := by
  unfold nodeP; rw [if_neg (by omega), if_neg (by omega), if_neg (by omega), if_pos (.inl hn)]
theorem node_range (ho : h.op = 6) (hn : nameP h.field = true) (h0 : n = 0) : nodeP h n = nothP h false false true := by
  unfold nodeP; rw [if_neg (by omega), if_neg (by omega), if_neg (by omega), if_neg (by rw [hn]; simp; omega), if_neg (by omega), if_neg (by omega), if_neg (by omega), if_neg (by omega), if_neg (by omega), if_pos ho]
theorem noth_no (he : ¬ (h.edits = 0 ∧ h.exact = 0)) (t m : Bool) : nothP h t false m = false := by
  unfold nothP
  by_cases e : h.edits = 0
  · rw [decide_eq_true e, decide_eq_false (fun z => he ⟨e, z⟩)]; simp
  · rw [decide_eq_false e]; simp
theorem node_word (ho : 1 ≤ h.op ∧ h.op ≤ 5) (hn : nameP h.field = true) (hw : WP h) (h0 : n = 0) : nodeP h n = if h.op = 4 then nothP h true true false else nothP h true false false := by
  unfold nodeP
  rw [if_neg (by omega), if_neg (by omega), if_neg (by omega), if_neg (by rw [hn]; simp; omega)]
  unfold WP at hw
  have l1 := @letN_iff h.text []
  have l2 := @letN_iff h.text [42, 63]
  by_cases o1 : h.op = 1
  · rw [if_pos o1, if_neg (by omega), decide_eq_true (by omega)]; rfl
  · rw [if_neg o1]
    by_cases o2 : h.op = 2
    · rw [if_pos o2, if_neg (by omega), decide_eq_true (by rw [l1]; omega)]; rfl
    · rw [if_neg o2]
      by_cases o3 : h.op = 3
      · rw [if_pos o3, if_neg (by omega), decide_eq_true (by rw [l2]; omega)]; rfl
      · rw [if_neg o3]
        by_cases o4 : h.op = 4
        · have hz : letP h.text [] = 0 := by omega
          have hp := let_pos hz
          rw [if_pos o4, if_pos o4, decide_eq_true (by rw [l1, hp.2.1]; omega)]; rfl
        · rw [if_neg o4, if_neg o4, if_pos (by omega), decide_eq_true (by omega)]; rfl
theorem node_noword (ho : 1 ≤ h.op ∧ h.op ≤ 5) (hw : ¬ WP h) : nodeP h n = false := by
  unfold nodeP
  rw [if_neg (by omega), if_neg (by omega), if_neg (by omega)]
  split
  · rfl
  · unfold WP at hw
    have l1 := @letN_iff h.text []
    have l2 := @letN_iff h.text [42, 63]
    by_cases o1 : h.op = 1
    · rw [if_pos o1, decide_eq_false (by omega)]; rfl
    · rw [if_neg o1]
      by_cases o2 : h.op = 2
      · rw [if_pos o2]
        by_cases hz : letP h.text [] = 0
        · rw [noth_no (by omega), Bool.and_false]
        · rw [decide_eq_false (by rw [l1]; exact hz)]; rfl
      · rw [if_neg o2]
        by_cases o3 : h.op = 3
        · rw [if_pos o3, decide_eq_false (by rw [l2]; omega)]; rfl
        · rw [if_neg o3]
          by_cases o4 : h.op = 4
          · rw [if_pos o4, decide_eq_false]; rfl
            rintro ⟨z1, z2⟩
            have hz := l1.1 z1
            have hp := let_pos hz
            rw [hp.2.1] at z2
            omega
          · rw [if_neg o4, if_pos (by omega), decide_eq_false (by omega)]; rfl
end
theorem right_of {q : Q} (h : rightL q.l = true) : rightQ q = nodeP q.h q.l.length := by cases q with | mk g l => rw [rightQ_mk, (show rightL l = true from h)]; rfl
theorem right_not {q : Q} (h : rightL q.l = false) : rightQ q = false := by cases q with | mk g l => rw [rightQ_mk, (show rightL l = false from h)]; rfl
theorem check_big {q : Q} (h : 64 < sizeQ q ∨ 8 < deepQ q) : checkQ q = 4 := if_pos h
theorem check_bad {q : Q} (h : ¬ (64 < sizeQ q ∨ 8 < deepQ q)) (hr : rightQ q = false) : checkQ q = 20 := by unfold checkQ; rw [if_neg h, hr]; rfl
theorem check_good {q : Q} (h : ¬ (64 < sizeQ q ∨ 8 < deepQ q)) (hr : rightQ q = true) : checkQ q = 0 := by unfold checkQ; rw [if_neg h, hr]; rfl
end Go.QryP
namespace Go.QryP
open Go.Gw Go.UtfP Go.TokP
set_option linter.unusedVariables false
set_option linter.unusedSimpArgs false
theorem qn_left {M : List QN} {x : QN} {j : Nat} (h : j < M.length) : (M ++ [x]).getD j qz = M.getD j qz := by
  rw [List.getD_eq_getElem?_getD, List.getElem?_append_left h, ← List.getD_eq_getElem?_getD]
theorem qn_right {M : List QN} {x : QN} {i : Nat} (h : M.length = i) : (M ++ [x]).getD i qz = x := by
  subst h; rw [List.getD_eq_getElem?_getD, List.getElem?_append_right (Nat.le_refl _)]; simp
theorem QT.whole {q : Q} {u : Value} {E : TypeId} {M : List QN} {T : List Row} (h1 : M.length = q.l.length) (h2 : ∀ j, j < q.l.length → (M.getD j qz).h = (q.l.getD j q0).h) (h3 : ∀ j, j < q.l.length → QT T (q.l.getD j q0) (M.getD j qz).parts) : QT (⟨E, 8, u, M.length, recs qnC M⟩ :: T) q u := by
  cases q with
  | mk g l => exact .mk g l u E M (List.mem_cons_self ..) h1 h2 (fun j hj => (h3 j hj).sub fun r hr => List.mem_cons_of_mem _ hr)
theorem Mem.joinT {S : List Nat} {w0 w w' : World} {A T R : List Row} (h : Mem S w0 w (A ++ T)) (c : Mem [] w w' R) : Mem S w0 w' (A ++ (R ++ T)) := (h.join c).perm (List.perm_append_comm_assoc _ _ _)
theorem Mem.join0 {S : List Nat} {w0 w w' : World} {A R : List Row} (h : Mem S w0 w A) (c : Mem [] w w' R) : Mem S w0 w' (A ++ R) := (h.join c).perm List.perm_append_comm
end Go.QryP
namespace Go.QryP
open Go.Gw Go.UtfP Go.TokP
set_option linter.unusedVariables false
set_option linter.unusedSimpArgs false
section
variable {h : Hd} {n : Nat}
theorem node_out (ho : ¬ (h.op = 8 ∨ h.op = 7) ∧ ¬ h.op = 9 ∧ ¬ h.op = 10) (hn : 0 < n ∨ nameP h.field = false) : nodeP h n = false := by
  unfold nodeP; rw [if_neg ho.1, if_neg ho.2.1, if_neg ho.2.2, if_pos hn]
theorem node_in (ho : 1 ≤ h.op ∧ h.op ≤ 6) (h0 : n = 0) (hn : nameP h.field = true) : nodeP h n = (if h.op = 1 then decide (termE h.text = 0) && nothP h true false false
  else if h.op = 2 then decide (0 < letN h.text []) && nothP h true false false
  else if h.op = 3 then decide (0 < letN h.text [42, 63]) && nothP h true false false
  else if h.op = 4 then decide (0 < letN h.text [] ∧ 0 ≤ h.edits ∧ h.edits ≤ 2 ∧ 0 ≤ h.exact ∧ h.exact ≤ (letN h.text [] : Int)) && nothP h true true false
  else if h.op = 5 then decide (tokE h.text = 0 ∧ 1 ≤ (tokL h.text).length ∧ (tokL h.text).length ≤ 16) && nothP h true false false
  else if h.op = 6 then nothP h false false true
  else false) := by
  unfold nodeP
  rw [if_neg (by omega), if_neg (by omega), if_neg (by omega), if_neg (by rw [hn]; simp; omega)]
theorem node_1 (ho : h.op = 1) (h0 : n = 0) (hn : nameP h.field = true) : nodeP h n = (decide (termE h.text = 0) && nothP h true false false) := by rw [node_in (by omega) h0 hn, if_pos ho]
theorem node_2 (ho : h.op = 2) (h0 : n = 0) (hn : nameP h.field = true) : nodeP h n = (decide (0 < letN h.text []) && nothP h true false false) := by rw [node_in (by omega) h0 hn, if_neg (by omega), if_pos ho]
theorem node_3 (ho : h.op = 3) (h0 : n = 0) (hn : nameP h.field = true) : nodeP h n = (decide (0 < letN h.text [42, 63]) && nothP h true false false) := by rw [node_in (by omega) h0 hn, if_neg (by omega), if_neg (by omega), if_pos ho]
theorem node_4 (ho : h.op = 4) (h0 : n = 0) (hn : nameP h.field = true) : nodeP h n = (decide (0 < letN h.text [] ∧ 0 ≤ h.edits ∧ h.edits ≤ 2 ∧ 0 ≤ h.exact ∧ h.exact ≤ (letN h.text [] : Int)) && nothP h true true false) := by rw [node_in (by omega) h0 hn, if_neg (by omega), if_neg (by omega), if_neg (by omega), if_pos ho]
theorem node_5 (ho : h.op = 5) (h0 : n = 0) (hn : nameP h.field = true) : nodeP h n = (decide (tokE h.text = 0 ∧ 1 ≤ (tokL h.text).length ∧ (tokL h.text).length ≤ 16) && nothP h true false false) := by rw [node_in (by omega) h0 hn, if_neg (by omega), if_neg (by omega), if_neg (by omega), if_neg (by omega), if_pos ho]
end
end Go.QryP

namespace Go.QryP
open Go.Gw Go.UtfP Go.TokP
set_option linter.unusedVariables false
set_option linter.unusedSimpArgs false
def foxH : Hd := ⟨1, [116], [102, 111, 120], 0, 0, 0, 0⟩
def rngH : Hd := ⟨6, [110], [], 0, 0, 0, 5⟩
abbrev opH (k : Int) : Hd := ⟨k, [], [], 0, 0, 0, 0⟩
def oneQ : Q := .mk (opH 7) [.mk foxH [], .mk (opH 9) [.mk rngH []]]
theorem RdQ.nil (w : World) (g : Hd) : RdQ w (.mk g []) (.slice none 0 0) := .mk g [] _ [] (Rd.nil w 8) rfl (fun j hj => absurd hj (Nat.not_lt_zero _)) (fun j hj => absurd hj (Nat.not_lt_zero _))
theorem QT.nil {T : List Row} {E : TypeId} (h : (⟨E, 8, .slice none 0 0, 0, []⟩ : Row) ∈ T) (g : Hd) : QT T (.mk g []) (.slice none 0 0) := .mk g [] _ E [] h rfl (fun j hj => absurd hj (Nat.not_lt_zero _)) (fun j hj => absurd hj (Nat.not_lt_zero _))
theorem QT.one {T : List Row} {E : TypeId} {v u : Value} {g k : Hd} {l : List Q} (h : (⟨E, 8, v, 1, recs qnC [⟨k, u⟩]⟩ : Row) ∈ T) (hq : QT T (.mk k l) u) : QT T (.mk g [.mk k l]) v := by
  refine .mk g _ v E [⟨k, u⟩] h rfl (fun j hj => ?_) (fun j hj => ?_)
  · match j, hj with | 0, _ => rfl
  · match j, hj with | 0, _ => exact hq
theorem QT.two {T : List Row} {E : TypeId} {v u u2 : Value} {g k k2 : Hd} {l l2 : List Q} (h : (⟨E, 8, v, 2, recs qnC [⟨k, u⟩, ⟨k2, u2⟩]⟩ : Row) ∈ T) (hq : QT T (.mk k l) u) (hq2 : QT T (.mk k2 l2) u2) : QT T (.mk g [.mk k l, .mk k2 l2]) v := by
  refine .mk g _ v E [⟨k, u⟩, ⟨k2, u2⟩] h rfl (fun j hj => ?_) (fun j hj => ?_)
  · match j, hj with
    | 0, _ => rfl
    | 1, _ => rfl
  · match j, hj with
    | 0, _ => exact hq
    | 1, _ => exact hq2
theorem RdQ.one1 {w : World} {v u : Value} {k : Hd} {a : Q} (g : Hd) (h : Rd w 8 v 1 (recs qnC [⟨k, u⟩])) (hk : k = a.h) (ha : RdQ w a u) : RdQ w (.mk g [a]) v := by
  refine .mk g _ v [⟨k, u⟩] h rfl (fun j hj => ?_) (fun j hj => ?_)
  · match j, hj with | 0, _ => exact hk
  · match j, hj with | 0, _ => exact ha
theorem RdQ.two2 {w : World} {v u u2 : Value} {k k2 : Hd} {a b : Q} (g : Hd) (h : Rd w 8 v 2 (recs qnC [⟨k, u⟩, ⟨k2, u2⟩])) (hk : k = a.h) (ha : RdQ w a u) (hk2 : k2 = b.h) (hb : RdQ w b u2) : RdQ w (.mk g [a, b]) v := by
  refine .mk g _ v [⟨k, u⟩, ⟨k2, u2⟩] h rfl (fun j hj => ?_) (fun j hj => ?_)
  · match j, hj with
    | 0, _ => exact hk
    | 1, _ => exact hk2
  · match j, hj with
    | 0, _ => exact ha
    | 1, _ => exact hb
theorem RdQ.upd {w : World} {v vr : Value} {M : List QN} {q r : Q} {g : Hd} {i : Nat} (hi : i < q.l.length) (h : Rd w 8 v M.length (recs qnC (M.set i ⟨g, vr⟩))) (h1 : M.length = q.l.length) (h2 : ∀ j, j < q.l.length → (M.getD j qz).h = (q.l.getD j q0).h) (h3 : ∀ j, j < q.l.length → RdQ w (q.l.getD j q0) (M.getD j qz).parts) (hg : g = r.h) (hr : RdQ w r vr) : RdQ w (.mk q.h (q.l.set i r)) v := by
  have g1 : ∀ (j : Nat) (x : QN), (M.set i x).getD j qz = if i = j ∧ j < M.length then x else M.getD j qz := by
    intro j x
    rw [List.getD_eq_getElem?_getD, List.getElem?_set, List.getD_eq_getElem?_getD]
    by_cases e : i = j
    · subst e
      by_cases e2 : i < M.length
      · rw [if_pos rfl, if_pos e2, if_pos ⟨rfl, e2⟩]; rfl
      · omega
    · rw [if_neg e, if_neg (fun z => e z.1)]
  have g2 : ∀ (j : Nat), (q.l.set i r).getD j q0 = if i = j ∧ j < q.l.length then r else q.l.getD j q0 := by
    intro j
    rw [List.getD_eq_getElem?_getD, List.getElem?_set, List.getD_eq_getElem?_getD]
    by_cases e : i = j
    · subst e; rw [if_pos rfl, if_pos hi, if_pos ⟨rfl, hi⟩]; rfl
    · rw [if_neg e, if_neg (fun z => e z.1)]
  refine .mk q.h _ v (M.set i ⟨g, vr⟩) (by rw [List.length_set]; exact h) (by rw [List.length_set, List.length_set]; exact h1) (fun j hj => ?_) (fun j hj => ?_)
  · rw [List.length_set] at hj
    rw [g1, g2]
    by_cases e : i = j
    · subst e; rw [if_pos (show i = i ∧ i < M.length from ⟨rfl, by omega⟩), if_pos (show i = i ∧ i < q.l.length from ⟨rfl, hj⟩)]; exact hg
    · rw [if_neg (fun z => e z.1), if_neg (fun z => e z.1)]; exact h2 j hj
  · rw [List.length_set] at hj
    rw [g1, g2]
    by_cases e : i = j
    · subst e; rw [if_pos (show i = i ∧ i < M.length from ⟨rfl, by omega⟩), if_pos (show i = i ∧ i < q.l.length from ⟨rfl, hj⟩)]; exact hr
    · rw [if_neg (fun z => e z.1), if_neg (fun z => e z.1)]; exact h3 j hj
theorem qnC_one {x : QN} (h : x.parts.oneCell' = true) : ∀ u ∈ qnC x, u.oneCell' = true := by
  intro u hu
  simp only [qnC, List.mem_cons, List.not_mem_nil, or_false] at hu
  rcases hu with rfl | rfl | rfl | rfl | rfl | rfl | rfl | rfl <;> first | rfl | exact h
/-! ### the laws -/
theorem check_iff (q : Q) : checkQ q = 0 ↔ sizeQ q ≤ 64 ∧ deepQ q ≤ 8 ∧ rightQ q = true := by
  unfold checkQ
  split
  · exact ⟨fun z => absurd z (by decide), fun z => by omega⟩
  · split
    · rename_i h1 h2; exact ⟨fun _ => ⟨by omega, by omega, h2⟩, fun _ => rfl⟩
    · rename_i h1 h2; exact ⟨fun z => absurd z (by decide), fun z => absurd z.2.2 h2⟩
theorem node_two (k : Int) (h : k = 7 ∨ k = 8) : nodeP (opH k) 2 = true := by
  rcases h with rfl | rfl <;> decide
theorem check_join (k : Int) (h : k = 7 ∨ k = 8) (a b : Q) : checkQ (.mk (opH k) [a, b]) = 0 ↔ checkQ a = 0 ∧ checkQ b = 0 ∧ sizeQ a + sizeQ b + 1 ≤ 64 ∧ max (deepQ a) (deepQ b) + 1 ≤ 8 := by
  rw [check_iff, check_iff, check_iff, sizeQ_mk, deepQ_mk, rightQ_mk]
  simp only [sizeL, deepL, rightL, List.length_cons, List.length_nil, Nat.zero_add, node_two k h, Bool.and_true, Bool.and_eq_true]
  constructor
  · rintro ⟨h1, h2, h3, h4⟩; exact ⟨⟨by omega, by omega, h3⟩, ⟨by omega, by omega, h4⟩, by omega, by omega⟩
  · rintro ⟨⟨_, _, h3⟩, ⟨_, _, h4⟩, h5, h6⟩; exact ⟨by omega, by omega, h3, h4⟩
theorem check_or (a b : Q) : checkQ (.mk (opH 8) [a, b]) = checkQ (.mk (opH 7) [a, b]) := by
  unfold checkQ
  rw [sizeQ_mk, sizeQ_mk, deepQ_mk, deepQ_mk, rightQ_mk, rightQ_mk]
  simp only [List.length_cons, List.length_nil, Nat.zero_add, node_two 7 (.inl rfl), node_two 8 (.inr rfl)]
theorem check_not (a : Q) : checkQ (.mk (opH 9) [a]) = 0 ↔ checkQ a = 0 ∧ sizeQ a + 1 ≤ 64 ∧ deepQ a + 1 ≤ 8 := by
  have e : nodeP (opH 9) 1 = true := by decide
  rw [check_iff, check_iff, sizeQ_mk, deepQ_mk, rightQ_mk]
  simp only [sizeL, deepL, rightL, List.length_cons, List.length_nil, Nat.zero_add, e, Bool.and_true]
  constructor
  · rintro ⟨h1, h2, h3⟩; exact ⟨⟨by omega, by omega, h3⟩, by omega, by omega⟩
  · rintro ⟨⟨_, _, h3⟩, h5, h6⟩; exact ⟨by omega, by omega, h3⟩
theorem size_two (g : Hd) (a b : Q) : sizeQ (.mk g [a, b]) = sizeQ a + sizeQ b + 1 := by rw [sizeQ_mk]; simp [sizeL]
theorem deep_two (g : Hd) (a b : Q) : deepQ (.mk g [a, b]) = max (deepQ a) (deepQ b) + 1 := by rw [deepQ_mk]; simp [deepL]
theorem size_eq (q : Q) : sizeQ q = sizeL q.l + 1 := by cases q; rw [sizeQ_mk]; rfl
theorem deep_eq (q : Q) : deepQ q = deepL q.l + 1 := by cases q; rw [deepQ_mk]; rfl
theorem right_eq (q : Q) : rightQ q = (rightL q.l && nodeP q.h q.l.length) := by cases q; rw [rightQ_mk]; rfl
theorem bulk_eq (q : Q) : bulkQ q = bulkL q.l + q.h.field.length + q.h.text.length + 1 := by cases q; rw [bulkQ_mk]; rfl
theorem set_split {l : List Q} {i : Nat} (h : i < l.length) (r : Q) : l.set i r = l.take i ++ r :: l.drop (i + 1) ∧ l = l.take i ++ l.getD i q0 :: l.drop (i + 1) := by
  refine ⟨by rw [List.set_eq_take_append_cons_drop, if_pos h], ?_⟩
  have := List.take_append_drop i l
  rw [List.drop_eq_getElem_cons h] at this
  rw [List.getD_eq_getElem?_getD, List.getElem?_eq_getElem h]
  exact this.symm
theorem set_facts {l : List Q} {i : Nat} (h : i < l.length) (r : Q) : sizeL (l.set i r) + sizeQ (l.getD i q0) = sizeL l + sizeQ r ∧ (deepQ r ≤ deepQ (l.getD i q0) → deepL (l.set i r) ≤ deepL l) ∧ (rightL l = true → rightQ r = true → rightL (l.set i r) = true) ∧ bulkL (l.set i r) + bulkQ (l.getD i q0) = bulkL l + bulkQ r ∧ sizeQ (l.getD i q0) ≤ sizeL l ∧ deepQ (l.getD i q0) ≤ deepL l ∧ (rightL l = true → rightQ (l.getD i q0) = true) := by
  obtain ⟨e1, e2⟩ := set_split h r
  have f1 : sizeL (l.set i r) = sizeL (l.take i) + (sizeQ r + sizeL (l.drop (i + 1))) := by rw [e1, sizeL_app, sizeL]
  have f2 : sizeL l = sizeL (l.take i) + (sizeQ (l.getD i q0) + sizeL (l.drop (i + 1))) := by
    have := sizeL_app (l.take i) (l.getD i q0 :: l.drop (i + 1)); rw [← e2, sizeL] at this; exact this
  have f3 : deepL (l.set i r) = max (deepL (l.take i)) (max (deepQ r) (deepL (l.drop (i + 1)))) := by rw [e1, deepL_app, deepL]
  have f4 : deepL l = max (deepL (l.take i)) (max (deepQ (l.getD i q0)) (deepL (l.drop (i + 1)))) := by
    have := deepL_app (l.take i) (l.getD i q0 :: l.drop (i + 1)); rw [← e2, deepL] at this; exact this
  have f5 : rightL (l.set i r) = (rightL (l.take i) && (rightQ r && rightL (l.drop (i + 1)))) := by rw [e1, rightL_app, rightL]
  have f6 : rightL l = (rightL (l.take i) && (rightQ (l.getD i q0) && rightL (l.drop (i + 1)))) := by
    have := rightL_app (l.take i) (l.getD i q0 :: l.drop (i + 1)); rw [← e2, rightL] at this; exact this
  have f7 : bulkL (l.set i r) = bulkL (l.take i) + (bulkQ r + bulkL (l.drop (i + 1))) := by rw [e1, bulkL_app, bulkL]
  have f8 : bulkL l = bulkL (l.take i) + (bulkQ (l.getD i q0) + bulkL (l.drop (i + 1))) := by
    have := bulkL_app (l.take i) (l.getD i q0 :: l.drop (i + 1)); rw [← e2, bulkL] at this; exact this
  refine ⟨by omega, fun z => by omega, fun z1 z2 => ?_, by omega, by omega, by omega, fun z => ?_⟩
  · rw [f6] at z1; simp only [Bool.and_eq_true] at z1
    rw [f5, z1.1, z2, z1.2.2]; rfl
  · rw [f6] at z; simp only [Bool.and_eq_true] at z; exact z.2.1
theorem check_kid {q : Q} {i : Nat} (hc : checkQ q = 0) (h : i < q.l.length) : checkQ (q.l.getD i q0) = 0 := by
  rw [check_iff] at hc ⊢
  obtain ⟨h1, h2, h3⟩ := hc
  have := set_facts h q0
  rw [size_eq] at h1; rw [deep_eq] at h2; rw [right_eq, Bool.and_eq_true] at h3
  exact ⟨by omega, by omega, this.2.2.2.2.2.2 h3.1⟩
theorem check_put {q r : Q} {i : Nat} (hc : checkQ q = 0) (hr : checkQ r = 0) (h : i < q.l.length) (hs : ¬ sizeQ r > sizeQ (q.l.getD i q0)) (hd : ¬ deepQ r > deepQ (q.l.getD i q0)) : checkQ (.mk q.h (q.l.set i r)) = 0 := by
  rw [check_iff] at hc hr ⊢
  obtain ⟨h1, h2, h3⟩ := hc
  have := set_facts h r
  rw [size_eq] at h1; rw [deep_eq] at h2; rw [right_eq, Bool.and_eq_true] at h3
  have h4 := this.2.1 (by omega)
  refine ⟨by rw [sizeQ_mk]; omega, by rw [deepQ_mk]; omega, ?_⟩
  rw [rightQ_mk, List.length_set, this.2.2.1 h3.1 hr.2.2, h3.2]; rfl
theorem same_put {q r : Q} {i : Nat} (h : i < q.l.length) : sameQ (.mk q.h (q.l.set i r)) q = sameQ r (q.l.getD i q0) := by
  rw [same_eq]
  show (decide (q.h = q.h) && sameL (q.l.set i r) q.l) = _
  rw [decide_eq_true rfl, Bool.true_and, same_set r h]
theorem bulk_put {q r : Q} {i : Nat} (h : i < q.l.length) : bulkQ (.mk q.h (q.l.set i r)) ≤ bulkQ q + bulkQ r := by
  have := set_facts h r
  rw [bulkQ_mk, bulk_eq q]; omega
end Go.QryP
namespace Go.QryP
open Go.Gw Go.UtfP Go.TokP
set_option linter.unusedVariables false
set_option linter.unusedSimpArgs false
theorem bulk_two (k : Int) (a b : Q) : bulkQ (.mk (opH k) [a, b]) = bulkQ a + bulkQ b + 1 := by rw [bulkQ_mk]; simp [bulkL]
theorem bulk_one (k : Int) (a : Q) : bulkQ (.mk (opH k) [a]) = bulkQ a + 1 := by rw [bulkQ_mk]; simp [bulkL]
theorem size_one (g : Hd) (a : Q) : sizeQ (.mk g [a]) = sizeQ a + 1 := by rw [sizeQ_mk]; simp [sizeL]
theorem deep_one (g : Hd) (a : Q) : deepQ (.mk g [a]) = deepQ a + 1 := by rw [deepQ_mk]; simp [deepL]
theorem Mem.joinTop {S : List Nat} {w0 w w' : World} {A T : List Row} {r : Row} (h : Mem S w0 w A) (c : Mem [] w w' (r :: T)) : Mem S w0 w' (r :: (A ++ T)) := (h.join c).perm (List.Perm.cons _ List.perm_append_comm)
theorem one_tree {T : List Row} {E : TypeId} {v u : Value} (h5 : (⟨E, 8, v, 2, recs qnC [⟨foxH, .slice none 0 0⟩, ⟨opH 9, u⟩]⟩ : Row) ∈ T) (h3 : (⟨E, 8, u, 1, recs qnC [⟨rngH, .slice none 0 0⟩]⟩ : Row) ∈ T) (h0 : (⟨E, 8, .slice none 0 0, 0, []⟩ : Row) ∈ T) : QT T oneQ v :=
  QT.two h5 (QT.nil h0 _) (QT.one h3 (QT.nil h0 _))
end Go.QryP

namespace Go.Proofs.YthpodbngljfdmaaGreatDoor
open Go Go.Gw Go.UtfP Go.TokP Go.QryP Go.RowKit
set_option linter.unusedVariables false
set_option linter.unusedSimpArgs false
set_option maxRecDepth 20000
theorem sT23 : SliceT Tryz.prog 23 25 8 96 (.agg #[.int .i64 0, .string (sb ([])), .string (sb ([])), .int .i64 0, .int .i64 0, .int .u64 0, .int .u64 0, .slice none 0 0]) := ⟨by kernel_rfl, ⟨_, rfl, by kernel_rfl, by kernel_rfl, by kernel_rfl⟩, rfl, by decide⟩
theorem pE23 : Plain Tryz.prog 23 := ⟨.slice 25, by kernel_rfl, (fun _ h => by cases h), (fun _ _ h => by cases h)⟩
theorem oT25 : ObjT Tryz.prog 25 8 (.agg #[.int .i64 0, .string (sb ([])), .string (sb ([])), .int .i64 0, .int .i64 0, .int .u64 0, .int .u64 0, .slice none 0 0]) := ⟨⟨_, rfl, by kernel_rfl, by kernel_rfl⟩, rfl⟩
theorem aE25 : Agged Tryz.prog 25 8 := ⟨⟨_, Tryz.underlying25, .inl ⟨_, rfl⟩⟩, _, rfl, by kernel_rfl⟩

abbrev uQryA0 : List Nat := [1,1,0,1,0,0]
set_option maxHeartbeats 1000000 in
theorem size_c_L (N : Nat) (ih : ∀ (q : Q), bulkQ q < N → ∀ {w : World} (h : Hd) (he : h = q.h) (v : Value) (hq : RdQ w q v) (hb : bulkQ q ≤ 1048576) , Calls Tryz.prog 27 #[.agg #[.int .i64 (h.op), sS (h.field), sS (h.text), .int .i64 (h.edits), .int .i64 (h.exact), .int .u64 (h.lo), .int .u64 (h.hi), v]] w (fun e w' => e = .returned (.tuple #[iN (sizeQ q), iN (deepQ q)]) ∧ Mem [] w w' [])) {w0 : World} (q : Q) (h : Hd) (he : h = q.h) (v : Value) (hq : RdQ w0 q v) (hb : bulkQ q ≤ 1048576) (L : List QN) (hr : Rd w0 8 v L.length (recs qnC L)) (hl : L.length = q.l.length) (hh : ∀ j, j < q.l.length → (L.getD j qz).h = (q.l.getD j q0).h) (hs : ∀ j, j < q.l.length → RdQ w0 (q.l.getD j q0) (L.getD j qz).parts) (hN : bulkQ q = N) (R : Ending → World → Prop) (hR : R = (fun e w' => e = .returned (.tuple #[iN (sizeQ q), iN (deepQ q)]) ∧ Mem [] w0 w' [])) : ∀ (M_ : Nat) (i : Nat) (w : World) (hi : i ≤ L.length) (hM : Mem [] w0 w []) (hN : L.length - i < M_), GoS Tryz.prog 27 R 30 [iC Tryz.f27 uQryA0, iL Tryz.f27 uQryA0, .inBlock 0, iC Tryz.f27 [1,1,1]] [(2, iN (sizeL (List.take i q.l) + 1)), (3, iN (deepL (List.take i q.l))), (9, v), (10, iN (List.length L)), (11, iN i)] w := by
 intro M_
 induction M_ with
 | zero => intro i w hi hM hN; exact absurd hN (Nat.not_lt_zero _)
 | succ M_ ih_ =>
  intro i w hi hM hN
  have hbl : bulkL q.l + q.h.field.length + q.h.text.length + 1 = bulkQ q := by cases q; rw [bulkQ_mk]; rfl
  have hln := bulk_len q.l
  have hst := sizeL_le (List.take i q.l)
  have hbt := bulk_take q.l i
  have hbt1 := bulk_take q.l (i + 1)
  refine xs ?_
  refine xc 5 (((i : Nat) : Int) < (((List.length L) : Nat) : Int)) (fun h1p => ?_) (fun h1p => ?_)
  ·
   refine xat 5 sT23 (hr.kept0 hM.kept) ((i : Nat) : Int) i (fun p3 hp4 => ?_)
   refine xv 0 (r_loads (f := qnC) (l := L) aE25 (hr.kept0 hM.kept) qnC_len hp4 (by first | omega | (dsimp only; omega)) qz) ?_
   refine xx 0 (m_alloc oT25 hM) (fun b6 w7 hM9 => ?_)
   refine xst 0 (c_stores (ys := [.int .i64 ((List.getD L i qz).h.op), sS ((List.getD L i qz).h.field), sS ((List.getD L i qz).h.text), .int .i64 ((List.getD L i qz).h.edits), .int .i64 ((List.getD L i qz).h.exact), .int .u64 ((List.getD L i qz).h.lo), .int .u64 ((List.getD L i qz).h.hi), ((List.getD L i qz).parts)]) aE25 hM9 0 rfl (cel_obj b6 0) rfl (by decide) (by intro u hu; simp at hu; rcases hu with rfl | rfl | rfl | rfl | rfl | rfl | rfl | rfl <;> first | rfl | exact ((hs i (by omega)).kept hM9.kept).one.1)) (fun w11 hM13 => ?_)
   refine xv 3 (c_loads (ys := [.int .i64 ((List.getD L i qz).h.op), sS ((List.getD L i qz).h.field), sS ((List.getD L i qz).h.text), .int .i64 ((List.getD L i qz).h.edits), .int .i64 ((List.getD L i qz).h.exact), .int .u64 ((List.getD L i qz).h.lo), .int .u64 ((List.getD L i qz).h.hi), ((List.getD L i qz).parts)]) aE25 (hM13.rd 0 rfl) (cel_obj b6 0) rfl (lq rfl)) ?_
   have hM19 := hM13.sub (sD sR)
   have hkb23 := bulk_kid (l := q.l) (i := i) (by omega)
   have hks24 := size_le (List.getD q.l i q0)
   have hbs25 := bulk_step (l := q.l) (i := i) (by omega)
   refine xk 0 (ih (List.getD q.l i q0) (by omega) ((List.getD L i qz).h) (hh i (by omega)) ((List.getD L i qz).parts) ((hs i (by omega)).kept hM19.kept) (by omega)) (fun w20 m21 => ?_)
   have hM22 : Mem [] w0 w20 [] := Mem.join (R := []) hM19 m21
   refine xa 10 (((sizeL (List.take i q.l) + 1) : Nat) : Int) (((sizeQ (List.getD q.l i q0)) : Nat) : Int) ((((sizeL (List.take i q.l) + 1) + (sizeQ (List.getD q.l i q0))) : Nat) : Int) ?_
   refine xv 5 (show (Builtin.max_ #[3, 3] 3 #[iN (deepL (List.take i q.l)), iN (deepQ (List.getD q.l i q0))]).run Tryz.prog w20 = .ok (iN (max (deepL (List.take i q.l)) (deepQ (List.getD q.l i q0)))) w20 from f_max (by split <;> omega)) ?_
   refine xa 4 ((i : Nat) : Int) 1 (((i + 1) : Nat) : Int) ?_
   exact xl 3 (l := [(2, iN ((sizeL (List.take i q.l) + 1) + (sizeQ (List.getD q.l i q0)))), (3, iN (max (deepL (List.take i q.l)) (deepQ (List.getD q.l i q0)))), (9, v), (10, iN (List.length L)), (11, iN (i + 1))]) (GoS.cast (by rw [show sizeL (List.take (i + 1) q.l) + 1 = (sizeL (List.take i q.l) + 1) + sizeQ (List.getD q.l i q0) by rw [size_step (show i < q.l.length by omega)]; omega, deep_step (show i < q.l.length by omega)]) (ih_ (i + 1) _ (by omega) (hM22.sub sN) (by omega)))
  ·
   refine xa 5 (((deepL (List.take i q.l)) : Nat) : Int) 1 ((((deepL (List.take i q.l)) + 1) : Nat) : Int) ?_
   have e1 : List.take i q.l = q.l := tk_all (by omega)
   have e2 : sizeQ q = sizeL q.l + 1 := by cases q; rw [sizeQ_mk]; rfl
   have e3 : deepQ q = deepL q.l + 1 := by cases q; rw [deepQ_mk]; rfl
   exact xr 3 (v := .tuple #[iN (sizeL (List.take i q.l) + 1), iN ((deepL (List.take i q.l)) + 1)]) Tryz.func27 hR ⟨by rw [e2, e3, e1], hM.sub sN⟩

set_option maxHeartbeats 400000 in
theorem size_c_s (N : Nat) (ih : ∀ (q : Q), bulkQ q < N → ∀ {w : World} (h : Hd) (he : h = q.h) (v : Value) (hq : RdQ w q v) (hb : bulkQ q ≤ 1048576) , Calls Tryz.prog 27 #[.agg #[.int .i64 (h.op), sS (h.field), sS (h.text), .int .i64 (h.edits), .int .i64 (h.exact), .int .u64 (h.lo), .int .u64 (h.hi), v]] w (fun e w' => e = .returned (.tuple #[iN (sizeQ q), iN (deepQ q)]) ∧ Mem [] w w' [])) {w : World} (q : Q) (h : Hd) (he : h = q.h) (v : Value) (hq : RdQ w q v) (hb : bulkQ q ≤ 1048576) (hN : bulkQ q = N) :
  Calls Tryz.prog 27 #[.agg #[.int .i64 (h.op), sS (h.field), sS (h.text), .int .i64 (h.edits), .int .i64 (h.exact), .int .u64 (h.lo), .int .u64 (h.hi), v]] w (fun e w' => e = .returned (.tuple #[iN (sizeQ q), iN (deepQ q)]) ∧ Mem [] w w' []) := by
 obtain ⟨L, hr, hl, hh, hs⟩ := hq.inv
 have hbl : bulkL q.l + q.h.field.length + q.h.text.length + 1 = bulkQ q := by cases q; rw [bulkQ_mk]; rfl
 have hln := bulk_len q.l
 refine xe 30 Tryz.func27 (fun R hR => ?_)
 have hM0 := Mem.start w
 refine xx 2 (m_box (T := 25) (k := 8) (u := .agg #[.int .i64 (h.op), sS (h.field), sS (h.text), .int .i64 (h.edits), .int .i64 (h.exact), .int .u64 (h.lo), .int .u64 (h.hi), v]) rfl rfl hM0) (fun b1 w2 hM4 => ?_)
 refine xv 11 (c_load pE23 (hM4.rd 0 rfl) (cel_obj b1 7) rfl) ?_
 refine xv 0 (f_slen sT23 (hr.kept0 hM4.kept) 3 w2) ?_
 have hM9 := hM4.sub (sD sR)
 exact xl 4 (size_c_L N ih q h he v hq hb L hr hl hh hs  hN R hR (L.length + 1) 0 w2 (Nat.zero_le _) ((hM9.sub sN)) (by omega))

theorem size_c_n : ∀ (N : Nat), ∀ (q : Q), bulkQ q ≤ N → ∀ {w : World} (h : Hd) (he : h = q.h) (v : Value) (hq : RdQ w q v) (hb : bulkQ q ≤ 1048576) , Calls Tryz.prog 27 #[.agg #[.int .i64 (h.op), sS (h.field), sS (h.text), .int .i64 (h.edits), .int .i64 (h.exact), .int .u64 (h.lo), .int .u64 (h.hi), v]] w (fun e w' => e = .returned (.tuple #[iN (sizeQ q), iN (deepQ q)]) ∧ Mem [] w w' []) := by
 intro N
 induction N with
 | zero => intro q hn; have := bulk_pos q; omega
 | succ N ihn => intro q hn w h he v hq hb; exact size_c_s (bulkQ q) (fun c hc => ihn c (by omega)) q h he v hq hb rfl

theorem size_c {w : World} (q : Q) (h : Hd) (he : h = q.h) (v : Value) (hq : RdQ w q v) (hb : bulkQ q ≤ 1048576)  :
  Calls Tryz.prog 27 #[.agg #[.int .i64 (h.op), sS (h.field), sS (h.text), .int .i64 (h.edits), .int .i64 (h.exact), .int .u64 (h.lo), .int .u64 (h.hi), v]] w (fun e w' => e = .returned (.tuple #[iN (sizeQ q), iN (deepQ q)]) ∧ Mem [] w w' []) := size_c_n (bulkQ q) q (Nat.le_refl _) h he v hq hb

set_option maxHeartbeats 1000000 in
theorem parts_c_L (N : Nat) (ih : ∀ (q : Q), bulkQ q < N → ∀ {w : World} (h : Hd) (he : h = q.h) (v : Value) (hq : RdQ w q v) (hb : bulkQ q ≤ 1048576) , Calls Tryz.prog 34 #[.agg #[.int .i64 (h.op), sS (h.field), sS (h.text), .int .i64 (h.edits), .int .i64 (h.exact), .int .u64 (h.lo), .int .u64 (h.hi), v]] w (fun e w' => e = .returned (iN (sizeQ q)) ∧ Mem [] w w' [])) {w0 : World} (q : Q) (h : Hd) (he : h = q.h) (v : Value) (hq : RdQ w0 q v) (hb : bulkQ q ≤ 1048576) (L : List QN) (hr : Rd w0 8 v L.length (recs qnC L)) (hl : L.length = q.l.length) (hh : ∀ j, j < q.l.length → (L.getD j qz).h = (q.l.getD j q0).h) (hs : ∀ j, j < q.l.length → RdQ w0 (q.l.getD j q0) (L.getD j qz).parts) (b : Nat) (hN : bulkQ q = N) (R : Ending → World → Prop) (hR : R = (fun e w' => e = .returned (iN (sizeQ q)) ∧ Mem [] w0 w' [])) : ∀ (M_ : Nat) (i : Nat) (w : World) (hi : i ≤ L.length) (hM : Mem [] w0 w [⟨25, 8, (obj b), 1, [.int .i64 (h.op), sS (h.field), sS (h.text), .int .i64 (h.edits), .int .i64 (h.exact), .int .u64 (h.lo), .int .u64 (h.hi), v]⟩]) (hN : L.length - i < M_), GoS Tryz.prog 34 R 21 [iC Tryz.f34 uQryA0, iL Tryz.f34 uQryA0, .inBlock 0, iC Tryz.f34 [1,1,1]] [(1, pq b), (3, iN (sizeL (List.take i q.l) + 1)), (4, iN i)] w := by
 intro M_
 induction M_ with
 | zero => intro i w hi hM hN; exact absurd hN (Nat.not_lt_zero _)
 | succ M_ ih_ =>
  intro i w hi hM hN
  have hbl : bulkL q.l + q.h.field.length + q.h.text.length + 1 = bulkQ q := by cases q; rw [bulkQ_mk]; rfl
  have hln := bulk_len q.l
  have hst := sizeL_le (List.take i q.l)
  have hbt := bulk_take q.l i
  have hbt1 := bulk_take q.l (i + 1)
  refine xs ?_
  refine xv 5 (c_load pE23 (hM.rd 0 rfl) (cel_obj b 7) rfl) ?_
  refine xv 0 (f_slen sT23 (hr.kept0 hM.kept) 3 w) ?_
  refine xc 2 (((i : Nat) : Int) < (((List.length L) : Nat) : Int)) (fun h3p => ?_) (fun h3p => ?_)
  ·
   refine xv 6 (c_load pE23 (hM.rd 0 rfl) (cel_obj b 7) rfl) ?_
   refine xat 1 sT23 (hr.kept0 hM.kept) ((i : Nat) : Int) i (fun p5 hp6 => ?_)
   refine xv 0 (r_loads (f := qnC) (l := L) aE25 (hr.kept0 hM.kept) qnC_len hp6 (by first | omega | (dsimp only; omega)) qz) ?_
   have hkb14 := bulk_kid (l := q.l) (i := i) (by omega)
   have hks15 := size_le (List.getD q.l i q0)
   have hbs16 := bulk_step (l := q.l) (i := i) (by omega)
   refine xk 0 (ih (List.getD q.l i q0) (by omega) ((List.getD L i qz).h) (hh i (by omega)) ((List.getD L i qz).parts) ((hs i (by omega)).kept hM.kept) (by omega)) (fun w11 m12 => ?_)
   have hM13 : Mem [] w0 w11 [⟨25, 8, (obj b), 1, [.int .i64 (h.op), sS (h.field), sS (h.text), .int .i64 (h.edits), .int .i64 (h.exact), .int .u64 (h.lo), .int .u64 (h.hi), v]⟩] := Mem.join (R := []) hM m12
   refine xa 0 (((sizeL (List.take i q.l) + 1) : Nat) : Int) (((sizeQ (List.getD q.l i q0)) : Nat) : Int) ((((sizeL (List.take i q.l) + 1) + (sizeQ (List.getD q.l i q0))) : Nat) : Int) ?_
   refine xa 5 ((i : Nat) : Int) 1 (((i + 1) : Nat) : Int) ?_
   exact xl 3 (l := [(1, pq b), (3, iN ((sizeL (List.take i q.l) + 1) + (sizeQ (List.getD q.l i q0)))), (4, iN (i + 1))]) (GoS.cast (by rw [show sizeL (List.take (i + 1) q.l) + 1 = (sizeL (List.take i q.l) + 1) + sizeQ (List.getD q.l i q0) by rw [size_step (show i < q.l.length by omega)]; omega]) (ih_ (i + 1) _ (by omega) (hM13.sub (sK sN)) (by omega)))
  ·
   have hM4 := hM.sub (sD sR)
   have e1 : List.take i q.l = q.l := tk_all (by omega)
   have e2 : sizeQ q = sizeL q.l + 1 := by cases q; rw [sizeQ_mk]; rfl
   exact xr 6 (v := iN (sizeL (List.take i q.l) + 1)) Tryz.func34 hR ⟨by rw [e2, e1], hM4.sub sN⟩

set_option maxHeartbeats 400000 in
theorem parts_c_s (N : Nat) (ih : ∀ (q : Q), bulkQ q < N → ∀ {w : World} (h : Hd) (he : h = q.h) (v : Value) (hq : RdQ w q v) (hb : bulkQ q ≤ 1048576) , Calls Tryz.prog 34 #[.agg #[.int .i64 (h.op), sS (h.field), sS (h.text), .int .i64 (h.edits), .int .i64 (h.exact), .int .u64 (h.lo), .int .u64 (h.hi), v]] w (fun e w' => e = .returned (iN (sizeQ q)) ∧ Mem [] w w' [])) {w : World} (q : Q) (h : Hd) (he : h = q.h) (v : Value) (hq : RdQ w q v) (hb : bulkQ q ≤ 1048576) (hN : bulkQ q = N) :
  Calls Tryz.prog 34 #[.agg #[.int .i64 (h.op), sS (h.field), sS (h.text), .int .i64 (h.edits), .int .i64 (h.exact), .int .u64 (h.lo), .int .u64 (h.hi), v]] w (fun e w' => e = .returned (iN (sizeQ q)) ∧ Mem [] w w' []) := by
 obtain ⟨L, hr, hl, hh, hs⟩ := hq.inv
 have hbl : bulkL q.l + q.h.field.length + q.h.text.length + 1 = bulkQ q := by cases q; rw [bulkQ_mk]; rfl
 have hln := bulk_len q.l
 refine xe 21 Tryz.func34 (fun R hR => ?_)
 have hM0 := Mem.start w
 refine xx 2 (m_box (T := 25) (k := 8) (u := .agg #[.int .i64 (h.op), sS (h.field), sS (h.text), .int .i64 (h.edits), .int .i64 (h.exact), .int .u64 (h.lo), .int .u64 (h.hi), v]) rfl rfl hM0) (fun b1 w2 hM4 => ?_)
 exact xl 13 (parts_c_L N ih q h he v hq hb L hr hl hh hs b1  hN R hR (L.length + 1) 0 w2 (Nat.zero_le _) ((hM4.sub (sK sN))) (by omega))

theorem parts_c_n : ∀ (N : Nat), ∀ (q : Q), bulkQ q ≤ N → ∀ {w : World} (h : Hd) (he : h = q.h) (v : Value) (hq : RdQ w q v) (hb : bulkQ q ≤ 1048576) , Calls Tryz.prog 34 #[.agg #[.int .i64 (h.op), sS (h.field), sS (h.text), .int .i64 (h.edits), .int .i64 (h.exact), .int .u64 (h.lo), .int .u64 (h.hi), v]] w (fun e w' => e = .returned (iN (sizeQ q)) ∧ Mem [] w w' []) := by
 intro N
 induction N with
 | zero => intro q hn; have := bulk_pos q; omega
 | succ N ihn => intro q hn w h he v hq hb; exact parts_c_s (bulkQ q) (fun c hc => ihn c (by omega)) q h he v hq hb rfl

theorem parts_c {w : World} (q : Q) (h : Hd) (he : h = q.h) (v : Value) (hq : RdQ w q v) (hb : bulkQ q ≤ 1048576)  :
  Calls Tryz.prog 34 #[.agg #[.int .i64 (h.op), sS (h.field), sS (h.text), .int .i64 (h.edits), .int .i64 (h.exact), .int .u64 (h.lo), .int .u64 (h.hi), v]] w (fun e w' => e = .returned (iN (sizeQ q)) ∧ Mem [] w w' []) := parts_c_n (bulkQ q) q (Nat.le_refl _) h he v hq hb

set_option maxHeartbeats 1000000 in
theorem deep_c_L (N : Nat) (ih : ∀ (q : Q), bulkQ q < N → ∀ {w : World} (h : Hd) (he : h = q.h) (v : Value) (hq : RdQ w q v) (hb : bulkQ q ≤ 1048576) , Calls Tryz.prog 35 #[.agg #[.int .i64 (h.op), sS (h.field), sS (h.text), .int .i64 (h.edits), .int .i64 (h.exact), .int .u64 (h.lo), .int .u64 (h.hi), v]] w (fun e w' => e = .returned (iN (deepQ q)) ∧ Mem [] w w' [])) {w0 : World} (q : Q) (h : Hd) (he : h = q.h) (v : Value) (hq : RdQ w0 q v) (hb : bulkQ q ≤ 1048576) (L : List QN) (hr : Rd w0 8 v L.length (recs qnC L)) (hl : L.length = q.l.length) (hh : ∀ j, j < q.l.length → (L.getD j qz).h = (q.l.getD j q0).h) (hs : ∀ j, j < q.l.length → RdQ w0 (q.l.getD j q0) (L.getD j qz).parts) (b : Nat) (hN : bulkQ q = N) (R : Ending → World → Prop) (hR : R = (fun e w' => e = .returned (iN (deepQ q)) ∧ Mem [] w0 w' [])) : ∀ (M_ : Nat) (i : Nat) (w : World) (hi : i ≤ L.length) (hM : Mem [] w0 w [⟨25, 8, (obj b), 1, [.int .i64 (h.op), sS (h.field), sS (h.text), .int .i64 (h.edits), .int .i64 (h.exact), .int .u64 (h.lo), .int .u64 (h.hi), v]⟩]) (hN : L.length - i < M_), GoS Tryz.prog 35 R 25 [iC Tryz.f35 uQryA0, iL Tryz.f35 uQryA0, .inBlock 0, iC Tryz.f35 [1,1,1]] [(1, pq b), (3, iN (deepL (List.take i q.l))), (4, iN i)] w := by
 intro M_
 induction M_ with
 | zero => intro i w hi hM hN; exact absurd hN (Nat.not_lt_zero _)
 | succ M_ ih_ =>
  intro i w hi hM hN
  have hbl : bulkL q.l + q.h.field.length + q.h.text.length + 1 = bulkQ q := by cases q; rw [bulkQ_mk]; rfl
  have hln := bulk_len q.l
  have hst := sizeL_le (List.take i q.l)
  have hbt := bulk_take q.l i
  have hbt1 := bulk_take q.l (i + 1)
  refine xs ?_
  refine xv 5 (c_load pE23 (hM.rd 0 rfl) (cel_obj b 7) rfl) ?_
  refine xv 0 (f_slen sT23 (hr.kept0 hM.kept) 3 w) ?_
  refine xc 2 (((i : Nat) : Int) < (((List.length L) : Nat) : Int)) (fun h3p => ?_) (fun h3p => ?_)
  ·
   refine xv 6 (c_load pE23 (hM.rd 0 rfl) (cel_obj b 7) rfl) ?_
   refine xat 1 sT23 (hr.kept0 hM.kept) ((i : Nat) : Int) i (fun p6 hp7 => ?_)
   refine xv 0 (r_loads (f := qnC) (l := L) aE25 (hr.kept0 hM.kept) qnC_len hp7 (by first | omega | (dsimp only; omega)) qz) ?_
   have hkb15 := bulk_kid (l := q.l) (i := i) (by omega)
   have hks16 := size_le (List.getD q.l i q0)
   have hbs17 := bulk_step (l := q.l) (i := i) (by omega)
   refine xk 0 (ih (List.getD q.l i q0) (by omega) ((List.getD L i qz).h) (hh i (by omega)) ((List.getD L i qz).parts) ((hs i (by omega)).kept hM.kept) (by omega)) (fun w12 m13 => ?_)
   have hM14 : Mem [] w0 w12 [⟨25, 8, (obj b), 1, [.int .i64 (h.op), sS (h.field), sS (h.text), .int .i64 (h.edits), .int .i64 (h.exact), .int .u64 (h.lo), .int .u64 (h.hi), v]⟩] := Mem.join (R := []) hM m13
   refine xc 8 ((((deepQ (List.getD q.l i q0)) : Nat) : Int) > (((deepL (List.take i q.l)) : Nat) : Int)) (fun h18p => ?_) (fun h18p => ?_)
   ·
    refine xa 7 ((i : Nat) : Int) 1 (((i + 1) : Nat) : Int) ?_
    exact xl 3 (l := [(1, pq b), (3, iN (deepQ (List.getD q.l i q0))), (4, iN (i + 1))]) (GoS.cast (by rw [deep_step (show i < q.l.length by omega), Nat.max_eq_right (by omega)]) (ih_ (i + 1) _ (by omega) (hM14.sub (sK sN)) (by omega)))
   ·
    refine xa 4 ((i : Nat) : Int) 1 (((i + 1) : Nat) : Int) ?_
    exact xl 3 (l := [(1, pq b), (3, iN (deepL (List.take i q.l))), (4, iN (i + 1))]) (GoS.cast (by rw [deep_step (show i < q.l.length by omega), Nat.max_eq_left (by omega)]) (ih_ (i + 1) _ (by omega) (hM14.sub (sK sN)) (by omega)))
  ·
   refine xa 4 (((deepL (List.take i q.l)) : Nat) : Int) 1 ((((deepL (List.take i q.l)) + 1) : Nat) : Int) ?_
   have hM5 := hM.sub (sD sR)
   have e1 : List.take i q.l = q.l := tk_all (by omega)
   have e3 : deepQ q = deepL q.l + 1 := by cases q; rw [deepQ_mk]; rfl
   exact xr 2 (v := iN ((deepL (List.take i q.l)) + 1)) Tryz.func35 hR ⟨by rw [e3, e1], hM5.sub sN⟩

set_option maxHeartbeats 400000 in
theorem deep_c_s (N : Nat) (ih : ∀ (q : Q), bulkQ q < N → ∀ {w : World} (h : Hd) (he : h = q.h) (v : Value) (hq : RdQ w q v) (hb : bulkQ q ≤ 1048576) , Calls Tryz.prog 35 #[.agg #[.int .i64 (h.op), sS (h.field), sS (h.text), .int .i64 (h.edits), .int .i64 (h.exact), .int .u64 (h.lo), .int .u64 (h.hi), v]] w (fun e w' => e = .returned (iN (deepQ q)) ∧ Mem [] w w' [])) {w : World} (q : Q) (h : Hd) (he : h = q.h) (v : Value) (hq : RdQ w q v) (hb : bulkQ q ≤ 1048576) (hN : bulkQ q = N) :
  Calls Tryz.prog 35 #[.agg #[.int .i64 (h.op), sS (h.field), sS (h.text), .int .i64 (h.edits), .int .i64 (h.exact), .int .u64 (h.lo), .int .u64 (h.hi), v]] w (fun e w' => e = .returned (iN (deepQ q)) ∧ Mem [] w w' []) := by
 obtain ⟨L, hr, hl, hh, hs⟩ := hq.inv
 have hbl : bulkL q.l + q.h.field.length + q.h.text.length + 1 = bulkQ q := by cases q; rw [bulkQ_mk]; rfl
 have hln := bulk_len q.l
 refine xe 25 Tryz.func35 (fun R hR => ?_)
 have hM0 := Mem.start w
 refine xx 2 (m_box (T := 25) (k := 8) (u := .agg #[.int .i64 (h.op), sS (h.field), sS (h.text), .int .i64 (h.edits), .int .i64 (h.exact), .int .u64 (h.lo), .int .u64 (h.hi), v]) rfl rfl hM0) (fun b1 w2 hM4 => ?_)
 exact xl 13 (deep_c_L N ih q h he v hq hb L hr hl hh hs b1  hN R hR (L.length + 1) 0 w2 (Nat.zero_le _) ((hM4.sub (sK sN))) (by omega))

theorem deep_c_n : ∀ (N : Nat), ∀ (q : Q), bulkQ q ≤ N → ∀ {w : World} (h : Hd) (he : h = q.h) (v : Value) (hq : RdQ w q v) (hb : bulkQ q ≤ 1048576) , Calls Tryz.prog 35 #[.agg #[.int .i64 (h.op), sS (h.field), sS (h.text), .int .i64 (h.edits), .int .i64 (h.exact), .int .u64 (h.lo), .int .u64 (h.hi), v]] w (fun e w' => e = .returned (iN (deepQ q)) ∧ Mem [] w w' []) := by
 intro N
 induction N with
 | zero => intro q hn; have := bulk_pos q; omega
 | succ N ihn => intro q hn w h he v hq hb; exact deep_c_s (bulkQ q) (fun c hc => ihn c (by omega)) q h he v hq hb rfl

theorem deep_c {w : World} (q : Q) (h : Hd) (he : h = q.h) (v : Value) (hq : RdQ w q v) (hb : bulkQ q ≤ 1048576)  :
  Calls Tryz.prog 35 #[.agg #[.int .i64 (h.op), sS (h.field), sS (h.text), .int .i64 (h.edits), .int .i64 (h.exact), .int .u64 (h.lo), .int .u64 (h.hi), v]] w (fun e w' => e = .returned (iN (deepQ q)) ∧ Mem [] w w' []) := deep_c_n (bulkQ q) q (Nat.le_refl _) h he v hq hb


end Go.Proofs.YthpodbngljfdmaaGreatDoor

namespace Go.Proofs.YthpodbngljfdmaaGreatDoor
open Go Go.Gw Go.UtfP Go.TokP Go.QryP Go.RowKit
set_option linter.unusedVariables false
set_option linter.unusedSimpArgs false
set_option maxRecDepth 20000
theorem pE22 : Plain Tryz.prog 22 := ⟨.int .u64, by kernel_rfl, (fun _ h => by cases h), (fun _ _ h => by cases h)⟩
theorem oT68 : ObjT Tryz.prog 68 7 (.agg #[.int .i64 0, .string (sb ([])), .string (sb ([])), .int .i64 0, .int .i64 0, .int .u64 0, .int .u64 0]) := ⟨⟨_, rfl, by kernel_rfl, by kernel_rfl⟩, rfl⟩
theorem aE68 : Agged Tryz.prog 68 7 := ⟨⟨_, Tryz.underlying68, .inl ⟨_, rfl⟩⟩, _, rfl, by kernel_rfl⟩


set_option maxHeartbeats 1000000 in
theorem few_L (N : Nat) (ih : ∀ (q : Q), bulkQ q < N → ∀ {w : World} (h : Hd) (he : h = q.h) (v : Value) (hq : RdQ w q v) (hb : bulkQ q ≤ 1048576) (n : Nat) (hn : n + bulkQ q ≤ 1100000), Calls Tryz.prog 16 #[.agg #[.int .i64 (h.op), sS (h.field), sS (h.text), .int .i64 (h.edits), .int .i64 (h.exact), .int .u64 (h.lo), .int .u64 (h.hi), v], iN n] w (fun e w' => e = .returned (iN (fewQ q n)) ∧ Mem [] w w' [])) {w0 : World} (q : Q) (h : Hd) (he : h = q.h) (v : Value) (hq : RdQ w0 q v) (hb : bulkQ q ≤ 1048576) (n : Nat) (hn : n + bulkQ q ≤ 1100000) (L : List QN) (hr : Rd w0 8 v L.length (recs qnC L)) (hl : L.length = q.l.length) (hh : ∀ j, j < q.l.length → (L.getD j qz).h = (q.l.getD j q0).h) (hs : ∀ j, j < q.l.length → RdQ w0 (q.l.getD j q0) (L.getD j qz).parts) (b : Nat) (hN : bulkQ q = N) (R : Ending → World → Prop) (hR : R = (fun e w' => e = .returned (iN (fewQ q n)) ∧ Mem [] w0 w' [])) : ∀ (M_ : Nat) (i m : Nat) (w : World) (hi : i ≤ L.length) (hF : fewL (q.l.drop i) m = fewQ q n) (hm : m ≤ n + 1 + sizeL (List.take i q.l)) (hM : Mem [] w0 w [⟨25, 8, (obj b), 1, [.int .i64 (h.op), sS (h.field), sS (h.text), .int .i64 (h.edits), .int .i64 (h.exact), .int .u64 (h.lo), .int .u64 (h.hi), v]⟩]) (hN : L.length - i < M_), GoS Tryz.prog 16 R 27 [iC Tryz.f16 [1,1,0,1,0,0], iL Tryz.f16 [1,1,0,1,0,0], .inBlock 0, iC Tryz.f16 [1,1,1]] [(1, iN m), (2, pq b), (5, iN i)] w := by
 intro M_
 induction M_ with
 | zero => intro i m w hi hF hm hM hN; exact absurd hN (Nat.not_lt_zero _)
 | succ M_ ih_ =>
  intro i m w hi hF hm hM hN
  have hbl : bulkL q.l + q.h.field.length + q.h.text.length + 1 = bulkQ q := by cases q; rw [bulkQ_mk]; rfl
  have hln := bulk_len q.l
  have hst := sizeL_le (List.take i q.l)
  have hbt := bulk_take q.l i
  have hbt1 := bulk_take q.l (i + 1)
  refine xs ?_
  refine xv 5 (c_load pE23 (hM.rd 0 rfl) (cel_obj b 7) rfl) ?_
  refine xv 0 (f_slen sT23 (hr.kept0 hM.kept) 3 w) ?_
  refine xfc 2 13 (((i : Nat) : Int) < (((List.length L) : Nat) : Int)) (fun h3p => ?_) (fun h3p => ?_)
  ·
   refine xc 4 (((m : Nat) : Int) ≤ 5000) (fun h4p => ?_) (fun h4p => ?_)
   ·
    refine xv 5 (c_load pE23 (hM.rd 0 rfl) (cel_obj b 7) rfl) ?_
    refine xat 1 sT23 (hr.kept0 hM.kept) ((i : Nat) : Int) i (fun p6 hp7 => ?_)
    refine xv 0 (r_loads (f := qnC) (l := L) aE25 (hr.kept0 hM.kept) qnC_len hp7 (by first | omega | (dsimp only; omega)) qz) ?_
    have hkb15 := bulk_kid (l := q.l) (i := i) (by omega)
    have hks16 := size_le (List.getD q.l i q0)
    have hbs17 := bulk_step (l := q.l) (i := i) (by omega)
    refine xk 1 (ih (List.getD q.l i q0) (by omega) ((List.getD L i qz).h) (hh i (by omega)) ((List.getD L i qz).parts) ((hs i (by omega)).kept hM.kept) (by omega) m (by omega)) (fun w12 m13 => ?_)
    have hM14 : Mem [] w0 w12 [⟨25, 8, (obj b), 1, [.int .i64 (h.op), sS (h.field), sS (h.text), .int .i64 (h.edits), .int .i64 (h.exact), .int .u64 (h.lo), .int .u64 (h.hi), v]⟩] := Mem.join (R := []) hM m13
    refine xa 5 ((i : Nat) : Int) 1 (((i + 1) : Nat) : Int) ?_
    have hfb := few_bd (List.getD q.l i q0) m
    exact xl 3 (ih_ (i + 1) _ _ (by omega) ((few_step (show i < q.l.length by omega) (by omega)).symm.trans hF) (by rw [size_step (show i < q.l.length by omega)]; omega) (hM14.sub (sK sN)) (by omega))
   ·
    have hM5 := hM.sub (sD sR)
    exact xr 6 (v := iN m) Tryz.func16 hR ⟨ret_int (by rw [← hF, few_stop (.inr (by omega))]), hM5.sub sN⟩
  ·
   have hM19 := hM.sub (sD sR)
   exact xr 11 (v := iN m) Tryz.func16 hR ⟨ret_int (by rw [← hF, few_stop (.inl (by omega))]), hM19.sub sN⟩

set_option maxHeartbeats 400000 in
theorem few_s (N : Nat) (ih : ∀ (q : Q), bulkQ q < N → ∀ {w : World} (h : Hd) (he : h = q.h) (v : Value) (hq : RdQ w q v) (hb : bulkQ q ≤ 1048576) (n : Nat) (hn : n + bulkQ q ≤ 1100000), Calls Tryz.prog 16 #[.agg #[.int .i64 (h.op), sS (h.field), sS (h.text), .int .i64 (h.edits), .int .i64 (h.exact), .int .u64 (h.lo), .int .u64 (h.hi), v], iN n] w (fun e w' => e = .returned (iN (fewQ q n)) ∧ Mem [] w w' [])) {w : World} (q : Q) (h : Hd) (he : h = q.h) (v : Value) (hq : RdQ w q v) (hb : bulkQ q ≤ 1048576) (n : Nat) (hn : n + bulkQ q ≤ 1100000) (hN : bulkQ q = N) :
  Calls Tryz.prog 16 #[.agg #[.int .i64 (h.op), sS (h.field), sS (h.text), .int .i64 (h.edits), .int .i64 (h.exact), .int .u64 (h.lo), .int .u64 (h.hi), v], iN n] w (fun e w' => e = .returned (iN (fewQ q n)) ∧ Mem [] w w' []) := by
 obtain ⟨L, hr, hl, hh, hs⟩ := hq.inv
 have hbl : bulkL q.l + q.h.field.length + q.h.text.length + 1 = bulkQ q := by cases q; rw [bulkQ_mk]; rfl
 have hln := bulk_len q.l
 refine xe 27 Tryz.func16 (fun R hR => ?_)
 have hM0 := Mem.start w
 refine xx 2 (m_box (T := 25) (k := 8) (u := .agg #[.int .i64 (h.op), sS (h.field), sS (h.text), .int .i64 (h.edits), .int .i64 (h.exact), .int .u64 (h.lo), .int .u64 (h.hi), v]) rfl rfl hM0) (fun b1 w2 hM4 => ?_)
 refine xa 5 ((n : Nat) : Int) 1 (((n + 1) : Nat) : Int) ?_
 exact xl 9 (few_L N ih q h he v hq hb n hn L hr hl hh hs b1 hN R hR (L.length + 1) 0 (n + 1) w2 (Nat.zero_le _) (few_go q n) (by simp [sizeL]) (hM4.sub (sK sN)) (by omega))

theorem few_c_n : ∀ (N : Nat), ∀ (q : Q), bulkQ q ≤ N → ∀ {w : World} (h : Hd) (he : h = q.h) (v : Value) (hq : RdQ w q v) (hb : bulkQ q ≤ 1048576) (n : Nat) (hn : n + bulkQ q ≤ 1100000), Calls Tryz.prog 16 #[.agg #[.int .i64 (h.op), sS (h.field), sS (h.text), .int .i64 (h.edits), .int .i64 (h.exact), .int .u64 (h.lo), .int .u64 (h.hi), v], iN n] w (fun e w' => e = .returned (iN (fewQ q n)) ∧ Mem [] w w' []) := by
 intro N
 induction N with
 | zero => intro q hn; have := bulk_pos q; omega
 | succ N ihn => intro q hn w h he v hq hb n hn; exact few_s (bulkQ q) (fun c hc => ihn c (by omega)) q h he v hq hb n hn rfl

theorem few_c {w : World} (q : Q) (h : Hd) (he : h = q.h) (v : Value) (hq : RdQ w q v) (hb : bulkQ q ≤ 1048576) (n : Nat) (hn : n + bulkQ q ≤ 1100000) :
  Calls Tryz.prog 16 #[.agg #[.int .i64 (h.op), sS (h.field), sS (h.text), .int .i64 (h.edits), .int .i64 (h.exact), .int .u64 (h.lo), .int .u64 (h.hi), v], iN n] w (fun e w' => e = .returned (iN (fewQ q n)) ∧ Mem [] w w' []) := few_c_n (bulkQ q) q (Nat.le_refl _) h he v hq hb n hn

set_option maxHeartbeats 1000000 in
theorem fewb_c {w : World} (q : Q) (h : Hd) (he : h = q.h) (v : Value) (hq : RdQ w q v) (hb : bulkQ q ≤ 1048576) :
  Calls Tryz.prog 7 #[.agg #[.int .i64 (h.op), sS (h.field), sS (h.text), .int .i64 (h.edits), .int .i64 (h.exact), .int .u64 (h.lo), .int .u64 (h.hi), v]] w (fun e w' => e = .returned (.bool (decide (((fewQ q 0 : Nat) : Int) ≤ 5000))) ∧ Mem [] w w' []) := by
 obtain ⟨L, hr, hl, hh, hs⟩ := hq.inv
 have hbl : bulkL q.l + q.h.field.length + q.h.text.length + 1 = bulkQ q := by cases q; rw [bulkQ_mk]; rfl
 have hln := bulk_len q.l
 refine xe 6 Tryz.func7 (fun R hR => ?_)
 have hM0 := Mem.start w
 refine xx 2 (m_box (T := 25) (k := 8) (u := .agg #[.int .i64 (h.op), sS (h.field), sS (h.text), .int .i64 (h.edits), .int .i64 (h.exact), .int .u64 (h.lo), .int .u64 (h.hi), v]) rfl rfl hM0) (fun b1 w2 hM4 => ?_)
 refine xv 4 (c_loads (ys := [.int .i64 (h.op), sS (h.field), sS (h.text), .int .i64 (h.edits), .int .i64 (h.exact), .int .u64 (h.lo), .int .u64 (h.hi), v]) aE25 (hM4.rd 0 rfl) (cel_obj b1 0) rfl (lq rfl)) ?_
 have hM8 := hM4.sub (sD sR)
 refine xk 0 (few_c q h he v (hq.kept hM8.kept) (by omega) 0 (by omega)) (fun w9 m10 => ?_)
 have hM11 : Mem [] w w9 [] := Mem.join (R := []) hM8 m10
 exact xr 3 Tryz.func7 hR ⟨rfl, hM11.sub sN⟩

set_option maxHeartbeats 400000 in
theorem flat_c {w : World} (h : Hd) (v : Value) :
  Calls Tryz.prog 47 #[.agg #[.int .i64 (h.op), sS (h.field), sS (h.text), .int .i64 (h.edits), .int .i64 (h.exact), .int .u64 (h.lo), .int .u64 (h.hi), v]] w (fun e w' => e = .returned (.agg #[.int .i64 (h.op), sS (h.field), sS (h.text), .int .i64 (h.edits), .int .i64 (h.exact), .int .u64 (h.lo), .int .u64 (h.hi)]) ∧ Mem [] w w' []) := by
 refine xe 18 Tryz.func47 (fun R hR => ?_)
 have hM0 := Mem.start w
 refine xx 2 (m_box (T := 25) (k := 8) (u := .agg #[.int .i64 (h.op), sS (h.field), sS (h.text), .int .i64 (h.edits), .int .i64 (h.exact), .int .u64 (h.lo), .int .u64 (h.hi), v]) rfl rfl hM0) (fun b1 w2 hM4 => ?_)
 refine xx 0 (m_alloc oT68 hM4) (fun b6 w7 hM9 => ?_)
 refine xv 4 (c_load pE3 (hM9.rd 1 rfl) (cel_obj b1 0) rfl) ?_
 refine xv 1 (c_load pE9 (hM9.rd 1 rfl) (cel_obj b1 1) rfl) ?_
 refine xv 1 (c_load pE9 (hM9.rd 1 rfl) (cel_obj b1 2) rfl) ?_
 refine xv 1 (c_load pE3 (hM9.rd 1 rfl) (cel_obj b1 3) rfl) ?_
 refine xv 1 (c_load pE3 (hM9.rd 1 rfl) (cel_obj b1 4) rfl) ?_
 refine xv 1 (c_load pE22 (hM9.rd 1 rfl) (cel_obj b1 5) rfl) ?_
 refine xv 1 (c_load pE22 (hM9.rd 1 rfl) (cel_obj b1 6) rfl) ?_
 refine xst 1 (c_stores (ys := [.int .i64 (h.op), sS (h.field), sS (h.text), .int .i64 (h.edits), .int .i64 (h.exact), .int .u64 (h.lo), .int .u64 (h.hi)]) aE68 hM9 0 rfl (cel_obj b6 0) rfl (by decide) (oneL rfl)) (fun w11 hM13 => ?_)
 exact xrc 1 (v := .agg #[.int .i64 (h.op), sS (h.field), sS (h.text), .int .i64 (h.edits), .int .i64 (h.exact), .int .u64 (h.lo), .int .u64 (h.hi)]) Tryz.func47 (ResC.cell (c := 2) (by kernel_rfl) (show (Instr.loadAt 68 (pq b6)).run Tryz.prog w11 = .ok (.agg #[.int .i64 (h.op), sS (h.field), sS (h.text), .int .i64 (h.edits), .int .i64 (h.exact), .int .u64 (h.lo), .int .u64 (h.hi)]) w11 from c_loads (ys := [.int .i64 (h.op), sS (h.field), sS (h.text), .int .i64 (h.edits), .int .i64 (h.exact), .int .u64 (h.lo), .int .u64 (h.hi)]) aE68 (hM13.rd 0 rfl) (cel_obj b6 0) rfl (lq rfl)) ResC.nil) hR (⟨rfl, hM13.sub sN⟩)


end Go.Proofs.YthpodbngljfdmaaGreatDoor

namespace Go.Proofs.YthpodbngljfdmaaGreatDoor
open Go Go.Gw Go.UtfP Go.TokP Go.QryP Go.RowKit
set_option linter.unusedVariables false
set_option linter.unusedSimpArgs false
set_option maxRecDepth 20000


set_option maxHeartbeats 2000000 in
theorem rsame_c_L (N : Nat) (ih : ∀ (qa : Q), bulkQ qa < N → ∀ {w : World} (ha : Hd) (hea : ha = qa.h) (va : Value) (hqa : RdQ w qa va) (hba : bulkQ qa ≤ 1048576) (qb : Q) (hb : Hd) (heb : hb = qb.h) (vb : Value) (hqb : RdQ w qb vb) (hbb : bulkQ qb ≤ 1048576) , Calls Tryz.prog 13 #[.agg #[.int .i64 (ha.op), sS (ha.field), sS (ha.text), .int .i64 (ha.edits), .int .i64 (ha.exact), .int .u64 (ha.lo), .int .u64 (ha.hi), va], .agg #[.int .i64 (hb.op), sS (hb.field), sS (hb.text), .int .i64 (hb.edits), .int .i64 (hb.exact), .int .u64 (hb.lo), .int .u64 (hb.hi), vb]] w (fun e w' => e = .returned (.bool (sameQ qa qb)) ∧ Mem [] w w' [])) {w0 : World} (qa : Q) (ha : Hd) (hea : ha = qa.h) (va : Value) (hqa : RdQ w0 qa va) (hba : bulkQ qa ≤ 1048576) (qb : Q) (hb : Hd) (heb : hb = qb.h) (vb : Value) (hqb : RdQ w0 qb vb) (hbb : bulkQ qb ≤ 1048576) (La : List QN) (hra : Rd w0 8 va La.length (recs qnC La)) (hla : La.length = qa.l.length) (hha : ∀ j, j < qa.l.length → (La.getD j qz).h = (qa.l.getD j q0).h) (hsa : ∀ j, j < qa.l.length → RdQ w0 (qa.l.getD j q0) (La.getD j qz).parts) (Lb : List QN) (hrb : Rd w0 8 vb Lb.length (recs qnC Lb)) (hlb : Lb.length = qb.l.length) (hhb : ∀ j, j < qb.l.length → (Lb.getD j qz).h = (qb.l.getD j q0).h) (hsb : ∀ j, j < qb.l.length → RdQ w0 (qb.l.getD j q0) (Lb.getD j qz).parts) (b1 b2 : Nat) (hN : bulkQ qa = N) (hLL : La.length = Lb.length) (R : Ending → World → Prop) (hR : R = (fun e w' => e = .returned (.bool (sameQ qa qb)) ∧ Mem [] w0 w' [])) : ∀ (M_ : Nat) (i : Nat) (w : World) (hi : i ≤ La.length) (hS : sameL (qa.l.drop i) (qb.l.drop i) = sameQ qa qb) (hM : Mem [] w0 w [⟨25, 8, (obj b1), 1, [.int .i64 (ha.op), sS (ha.field), sS (ha.text), .int .i64 (ha.edits), .int .i64 (ha.exact), .int .u64 (ha.lo), .int .u64 (ha.hi), va]⟩, ⟨25, 8, (obj b2), 1, [.int .i64 (hb.op), sS (hb.field), sS (hb.text), .int .i64 (hb.edits), .int .i64 (hb.exact), .int .u64 (hb.lo), .int .u64 (hb.hi), vb]⟩]) (hN : La.length - i < M_), GoS Tryz.prog 13 R 81 [iC Tryz.f13 [1,1,0,1,0,0], iL Tryz.f13 [1,1,0,1,0,0], .inBlock 0, iC Tryz.f13 [1,1,1]] [(2, pq b1), (3, pq b2), (5, iN i)] w := by
 intro M_
 induction M_ with
 | zero => intro i w hi hS hM hN; exact absurd hN (Nat.not_lt_zero _)
 | succ M_ ih_ =>
  intro i w hi hS hM hN
  have hbla : bulkL qa.l + qa.h.field.length + qa.h.text.length + 1 = bulkQ qa := by cases qa; rw [bulkQ_mk]; rfl
  have hlna := bulk_len qa.l
  have hblb : bulkL qb.l + qb.h.field.length + qb.h.text.length + 1 = bulkQ qb := by cases qb; rw [bulkQ_mk]; rfl
  have hlnb := bulk_len qb.l
  refine xs ?_
  refine xv 5 (c_load pE23 (hM.rd 0 rfl) (cel_obj b1 7) rfl) ?_
  refine xv 0 (f_slen sT23 (hra.kept0 hM.kept) 3 w) ?_
  refine xc 2 (((i : Nat) : Int) < (((List.length La) : Nat) : Int)) (fun h3p => ?_) (fun h3p => ?_)
  ·
   refine xh 4 [] hM (sK (sK sR)) (fun w5 hM6 hS7 => ?_)
   refine yl [0] 1 hS7 pE23 0 rfl (cel_obj b1 7) rfl ?_
   obtain ⟨p9, hp10, hq11⟩ := rd_at (i := ((i : Nat) : Int)) sT23 (hra.kept0 hS7.kept) i (by omega) (by first | omega | (dsimp only; omega))
   refine yv [2] 3 (fun W_ hW_ => hq11 W_ .i64) hS7 ?_
   refine yv [] 4 (fun W_ hW_ => (show (Instr.loadAt 25 (.pointer (some p9))).run Tryz.prog W_ = .ok (.agg #[.int .i64 ((List.getD La i qz).h.op), sS ((List.getD La i qz).h.field), sS ((List.getD La i qz).h.text), .int .i64 ((List.getD La i qz).h.edits), .int .i64 ((List.getD La i qz).h.exact), .int .u64 ((List.getD La i qz).h.lo), .int .u64 ((List.getD La i qz).h.hi), ((List.getD La i qz).parts)]) W_ from r_loads (f := qnC) (l := La) aE25 (hra.kept0 hW_.kept) qnC_len hp10 (by first | omega | (dsimp only; omega)) qz)) hS7 ?_
   refine yl [5] 6 hS7 pE23 1 rfl (cel_obj b2 7) rfl ?_
   obtain ⟨p12, hp13, hq14⟩ := rd_at (i := ((i : Nat) : Int)) sT23 (hrb.kept0 hS7.kept) i (by omega) (by first | omega | (dsimp only; omega))
   refine yv [7] 8 (fun W_ hW_ => hq14 W_ .i64) hS7 ?_
   refine yv [] 9 (fun W_ hW_ => (show (Instr.loadAt 25 (.pointer (some p12))).run Tryz.prog W_ = .ok (.agg #[.int .i64 ((List.getD Lb i qz).h.op), sS ((List.getD Lb i qz).h.field), sS ((List.getD Lb i qz).h.text), .int .i64 ((List.getD Lb i qz).h.edits), .int .i64 ((List.getD Lb i qz).h.exact), .int .u64 ((List.getD Lb i qz).h.lo), .int .u64 ((List.getD Lb i qz).h.hi), ((List.getD Lb i qz).parts)]) W_ from r_loads (f := qnC) (l := Lb) aE25 (hrb.kept0 hW_.kept) qnC_len hp13 (by first | omega | (dsimp only; omega)) qz)) hS7 ?_
   have hkb18 := bulk_kid (l := qa.l) (i := i) (by omega)
   have hks19 := size_le (List.getD qa.l i q0)
   have hbs20 := bulk_step (l := qa.l) (i := i) (by omega)
   have hkb21 := bulk_kid (l := qb.l) (i := i) (by omega)
   have hks22 := size_le (List.getD qb.l i q0)
   have hbs23 := bulk_step (l := qb.l) (i := i) (by omega)
   refine yck [] 10 (ih (List.getD qa.l i q0) (by omega) ((List.getD La i qz).h) (hha i (by omega)) ((List.getD La i qz).parts) ((hsa i (by omega)).kept hM6.kept) (by omega) (List.getD qb.l i q0) ((List.getD Lb i qz).h) (hhb i (by omega)) ((List.getD Lb i qz).parts) ((hsb i (by omega)).kept hM6.kept) (by omega)) hS7 (fun w15 m16 => ?_)
   have hM17 : Mem [] w0 w15 [⟨25, 8, (obj b1), 1, [.int .i64 (ha.op), sS (ha.field), sS (ha.text), .int .i64 (ha.edits), .int .i64 (ha.exact), .int .u64 (ha.lo), .int .u64 (ha.hi), va]⟩, ⟨25, 8, (obj b2), 1, [.int .i64 (hb.op), sS (hb.field), sS (hb.text), .int .i64 (hb.edits), .int .i64 (hb.exact), .int .u64 (hb.lo), .int .u64 (hb.hi), vb]⟩] := Mem.join (R := []) hM6 m16
   have hS24 := hM17.sub (sK (sK sR))
   refine ⟨hS24, ?_⟩
   refine ydp [11] hS24 ?_
   refine xb 0 (!(sameQ (List.getD qa.l i q0) (List.getD qb.l i q0))) (fun h25 => ?_) (fun h25 => ?_)
   ·
    have hM26 := hM17.sub (sD (sD sR))
    exact xr 4 (v := .bool false) Tryz.func13 hR ⟨ret_bool (by rw [← hS, same_stepL (i := i) (by omega) (by omega), (show sameQ (List.getD qa.l i q0) (List.getD qb.l i q0) = false by simpa using h25)]; rfl), hM26.sub sN⟩
   ·
    refine xa 4 ((i : Nat) : Int) 1 (((i + 1) : Nat) : Int) ?_
    exact xl 3 (ih_ (i + 1) _ (by omega) (by rw [← hS, same_stepL (i := i) (by omega) (by omega), (show sameQ (List.getD qa.l i q0) (List.getD qb.l i q0) = true by simpa using h25)]; rfl) (hM17.sub (sK (sK sN))) (by omega))
  ·
   have hM4 := hM.sub (sD (sD sR))
   exact xr 5 (v := .bool true) Tryz.func13 hR ⟨ret_bool (by rw [← hS, same_end (by omega) (by omega)]), hM4.sub sN⟩

set_option maxHeartbeats 2000000 in
theorem rsame_c_s (N : Nat) (ih : ∀ (qa : Q), bulkQ qa < N → ∀ {w : World} (ha : Hd) (hea : ha = qa.h) (va : Value) (hqa : RdQ w qa va) (hba : bulkQ qa ≤ 1048576) (qb : Q) (hb : Hd) (heb : hb = qb.h) (vb : Value) (hqb : RdQ w qb vb) (hbb : bulkQ qb ≤ 1048576) , Calls Tryz.prog 13 #[.agg #[.int .i64 (ha.op), sS (ha.field), sS (ha.text), .int .i64 (ha.edits), .int .i64 (ha.exact), .int .u64 (ha.lo), .int .u64 (ha.hi), va], .agg #[.int .i64 (hb.op), sS (hb.field), sS (hb.text), .int .i64 (hb.edits), .int .i64 (hb.exact), .int .u64 (hb.lo), .int .u64 (hb.hi), vb]] w (fun e w' => e = .returned (.bool (sameQ qa qb)) ∧ Mem [] w w' [])) {w : World} (qa : Q) (ha : Hd) (hea : ha = qa.h) (va : Value) (hqa : RdQ w qa va) (hba : bulkQ qa ≤ 1048576) (qb : Q) (hb : Hd) (heb : hb = qb.h) (vb : Value) (hqb : RdQ w qb vb) (hbb : bulkQ qb ≤ 1048576) (hN : bulkQ qa = N) :
  Calls Tryz.prog 13 #[.agg #[.int .i64 (ha.op), sS (ha.field), sS (ha.text), .int .i64 (ha.edits), .int .i64 (ha.exact), .int .u64 (ha.lo), .int .u64 (ha.hi), va], .agg #[.int .i64 (hb.op), sS (hb.field), sS (hb.text), .int .i64 (hb.edits), .int .i64 (hb.exact), .int .u64 (hb.lo), .int .u64 (hb.hi), vb]] w (fun e w' => e = .returned (.bool (sameQ qa qb)) ∧ Mem [] w w' []) := by
 obtain ⟨La, hra, hla, hha, hsa⟩ := hqa.inv
 have hbla : bulkL qa.l + qa.h.field.length + qa.h.text.length + 1 = bulkQ qa := by cases qa; rw [bulkQ_mk]; rfl
 have hlna := bulk_len qa.l
 obtain ⟨Lb, hrb, hlb, hhb, hsb⟩ := hqb.inv
 have hblb : bulkL qb.l + qb.h.field.length + qb.h.text.length + 1 = bulkQ qb := by cases qb; rw [bulkQ_mk]; rfl
 have hlnb := bulk_len qb.l
 refine xe 81 Tryz.func13 (fun R hR => ?_)
 have hM0 := Mem.start w
 refine xx 2 (m_box (T := 25) (k := 8) (u := .agg #[.int .i64 (ha.op), sS (ha.field), sS (ha.text), .int .i64 (ha.edits), .int .i64 (ha.exact), .int .u64 (ha.lo), .int .u64 (ha.hi), va]) rfl rfl hM0) (fun b1 w2 hM4 => ?_)
 refine xx 0 (m_box (T := 25) (k := 8) (u := .agg #[.int .i64 (hb.op), sS (hb.field), sS (hb.text), .int .i64 (hb.edits), .int .i64 (hb.exact), .int .u64 (hb.lo), .int .u64 (hb.hi), vb]) rfl rfl hM4) (fun b6 w7 hM9 => ?_)
 refine xv 6 (c_load pE3 (hM9.rd 1 rfl) (cel_obj b1 0) rfl) ?_
 refine xv 1 (c_load pE3 (hM9.rd 0 rfl) (cel_obj b6 0) rfl) ?_
 refine xfn 2 11 (ha.op = hb.op) (fun h15p => ?_) (fun h15p => ?_)
 ·
  have hM40 := hM9.sub (sD (sD sR))
  exact xr 56 (v := .bool false) Tryz.func13 hR ⟨ret_bool (same_ne (by rw [← hea, ← heb]; exact fun z => h15p (by rw [z]))).symm, hM40.sub sN⟩
 ·
  refine xv 1 (c_load pE9 (hM9.rd 1 rfl) (cel_obj b1 1) rfl) ?_
  refine xv 1 (c_load pE9 (hM9.rd 0 rfl) (cel_obj b6 1) rfl) ?_
  refine xqn 0 (ha.field) (hb.field) ?_
  refine xfn 2 18 (ha.field = hb.field) (fun h19p => ?_) (fun h19p => ?_)
  ·
   have hM41 := hM9.sub (sD (sD sR))
   exact xr 49 (v := .bool false) Tryz.func13 hR ⟨ret_bool (same_ne (by rw [← hea, ← heb]; exact fun z => h19p (by rw [z]))).symm, hM41.sub sN⟩
  ·
   refine xv 1 (c_load pE9 (hM9.rd 1 rfl) (cel_obj b1 2) rfl) ?_
   refine xv 1 (c_load pE9 (hM9.rd 0 rfl) (cel_obj b6 2) rfl) ?_
   refine xqn 0 (ha.text) (hb.text) ?_
   refine xfn 2 25 (ha.text = hb.text) (fun h23p => ?_) (fun h23p => ?_)
   ·
    have hM42 := hM9.sub (sD (sD sR))
    exact xr 42 (v := .bool false) Tryz.func13 hR ⟨ret_bool (same_ne (by rw [← hea, ← heb]; exact fun z => h23p (by rw [z]))).symm, hM42.sub sN⟩
   ·
    refine xv 1 (c_load pE3 (hM9.rd 1 rfl) (cel_obj b1 3) rfl) ?_
    refine xv 1 (c_load pE3 (hM9.rd 0 rfl) (cel_obj b6 3) rfl) ?_
    refine xfn 3 32 (ha.edits = hb.edits) (fun h26p => ?_) (fun h26p => ?_)
    ·
     have hM43 := hM9.sub (sD (sD sR))
     exact xr 35 (v := .bool false) Tryz.func13 hR ⟨ret_bool (same_ne (by rw [← hea, ← heb]; exact fun z => h26p (by rw [z]))).symm, hM43.sub sN⟩
    ·
     refine xv 1 (c_load pE3 (hM9.rd 1 rfl) (cel_obj b1 4) rfl) ?_
     refine xv 1 (c_load pE3 (hM9.rd 0 rfl) (cel_obj b6 4) rfl) ?_
     refine xfn 3 39 (ha.exact = hb.exact) (fun h29p => ?_) (fun h29p => ?_)
     ·
      have hM44 := hM9.sub (sD (sD sR))
      exact xr 28 (v := .bool false) Tryz.func13 hR ⟨ret_bool (same_ne (by rw [← hea, ← heb]; exact fun z => h29p (by rw [z]))).symm, hM44.sub sN⟩
     ·
      refine xv 1 (c_load pE22 (hM9.rd 1 rfl) (cel_obj b1 5) rfl) ?_
      refine xv 1 (c_load pE22 (hM9.rd 0 rfl) (cel_obj b6 5) rfl) ?_
      refine xfn 3 46 (ha.lo = hb.lo) (fun h32p => ?_) (fun h32p => ?_)
      ·
       have hM45 := hM9.sub (sD (sD sR))
       exact xr 21 (v := .bool false) Tryz.func13 hR ⟨ret_bool (same_ne (by rw [← hea, ← heb]; exact fun z => h32p (by rw [z]))).symm, hM45.sub sN⟩
      ·
       refine xv 1 (c_load pE22 (hM9.rd 1 rfl) (cel_obj b1 6) rfl) ?_
       refine xv 1 (c_load pE22 (hM9.rd 0 rfl) (cel_obj b6 6) rfl) ?_
       refine xfn 3 53 (ha.hi = hb.hi) (fun h35p => ?_) (fun h35p => ?_)
       ·
        have hM46 := hM9.sub (sD (sD sR))
        exact xr 14 (v := .bool false) Tryz.func13 hR ⟨ret_bool (same_ne (by rw [← hea, ← heb]; exact fun z => h35p (by rw [z]))).symm, hM46.sub sN⟩
       ·
        refine xv 1 (c_load pE23 (hM9.rd 1 rfl) (cel_obj b1 7) rfl) ?_
        refine xv 0 (f_slen sT23 (hra.kept0 hM9.kept) 3 w7) ?_
        refine xv 1 (c_load pE23 (hM9.rd 0 rfl) (cel_obj b6 7) rfl) ?_
        refine xv 0 (f_slen sT23 (hrb.kept0 hM9.kept) 3 w7) ?_
        refine xcn 3 ((((List.length La) : Nat) : Int) = (((List.length Lb) : Nat) : Int)) (fun h47p => ?_) (fun h47p => ?_)
        ·
         have hM48 := hM9.sub (sD (sD sR))
         exact xr 4 (v := .bool false) Tryz.func13 hR ⟨ret_bool (same_nl (by omega)).symm, hM48.sub sN⟩
        ·
         have hM49 : Mem [] w w7 [⟨25, 8, (obj b1), 1, [.int .i64 (ha.op), sS (ha.field), sS (ha.text), .int .i64 (ha.edits), .int .i64 (ha.exact), .int .u64 (ha.lo), .int .u64 (ha.hi), va]⟩, ⟨25, 8, (obj b6), 1, [.int .i64 (hb.op), sS (hb.field), sS (hb.text), .int .i64 (hb.edits), .int .i64 (hb.exact), .int .u64 (hb.lo), .int .u64 (hb.hi), vb]⟩] := hM9.perm (pS pR)
         exact xl 8 (rsame_c_L N ih qa ha hea va hqa hba qb hb heb vb hqb hbb La hra hla hha hsa Lb hrb hlb hhb hsb b1 b6 hN (by omega) R hR (La.length + 1) 0 w7 (Nat.zero_le _) (same_go (by rw [← hea, ← heb]; exact (hd_ext h15p h19p h23p h26p h29p h32p h35p))) (hM49.sub (sK (sK sN))) (by omega))

theorem rsame_c_n : ∀ (N : Nat), ∀ (qa : Q), bulkQ qa ≤ N → ∀ {w : World} (ha : Hd) (hea : ha = qa.h) (va : Value) (hqa : RdQ w qa va) (hba : bulkQ qa ≤ 1048576) (qb : Q) (hb : Hd) (heb : hb = qb.h) (vb : Value) (hqb : RdQ w qb vb) (hbb : bulkQ qb ≤ 1048576) , Calls Tryz.prog 13 #[.agg #[.int .i64 (ha.op), sS (ha.field), sS (ha.text), .int .i64 (ha.edits), .int .i64 (ha.exact), .int .u64 (ha.lo), .int .u64 (ha.hi), va], .agg #[.int .i64 (hb.op), sS (hb.field), sS (hb.text), .int .i64 (hb.edits), .int .i64 (hb.exact), .int .u64 (hb.lo), .int .u64 (hb.hi), vb]] w (fun e w' => e = .returned (.bool (sameQ qa qb)) ∧ Mem [] w w' []) := by
 intro N
 induction N with
 | zero => intro qa hn; have := bulk_pos qa; omega
 | succ N ihn => intro qa hn w ha hea va hqa hba qb hb heb vb hqb hbb; exact rsame_c_s (bulkQ qa) (fun c hc => ihn c (by omega)) qa ha hea va hqa hba qb hb heb vb hqb hbb rfl

theorem rsame_c {w : World} (qa : Q) (ha : Hd) (hea : ha = qa.h) (va : Value) (hqa : RdQ w qa va) (hba : bulkQ qa ≤ 1048576) (qb : Q) (hb : Hd) (heb : hb = qb.h) (vb : Value) (hqb : RdQ w qb vb) (hbb : bulkQ qb ≤ 1048576)  :
  Calls Tryz.prog 13 #[.agg #[.int .i64 (ha.op), sS (ha.field), sS (ha.text), .int .i64 (ha.edits), .int .i64 (ha.exact), .int .u64 (ha.lo), .int .u64 (ha.hi), va], .agg #[.int .i64 (hb.op), sS (hb.field), sS (hb.text), .int .i64 (hb.edits), .int .i64 (hb.exact), .int .u64 (hb.lo), .int .u64 (hb.hi), vb]] w (fun e w' => e = .returned (.bool (sameQ qa qb)) ∧ Mem [] w w' []) := rsame_c_n (bulkQ qa) qa (Nat.le_refl _) ha hea va hqa hba qb hb heb vb hqb hbb


end Go.Proofs.YthpodbngljfdmaaGreatDoor

namespace Go.Proofs.YthpodbngljfdmaaGreatDoor
open Go Go.Gw Go.UtfP Go.TokP Go.QryP Go.RowKit
set_option linter.unusedVariables false
set_option linter.unusedSimpArgs false
set_option maxRecDepth 20000

abbrev uQryD0 : List Nat := [1,1,1,1,1,0,1,0,0]
abbrev uQryD1 : List Nat := [1,1,1,1,1,1]
set_option maxHeartbeats 400000 in
theorem name_c_L (s : List UInt8) (hs : s.length ≤ 1048576) (hn : 1 ≤ s.length ∧ s.length ≤ 16) (w : World) (R : Ending → World → Prop) (hR : R = (fun e w' => e = .returned (.bool (nameP s)) ∧ w = w')) : ∀ (N : Nat) (i : Nat) (hi : i ≤ s.length) (hz : ∀ j, j < i → okI (bl s j)) (hN : s.length - i < N), GoS Tryz.prog 45 R 39 [iC Tryz.f45 [1,1,0,1,0,0], iL Tryz.f45 [1,1,0,1,0,0], .inBlock 0, iC Tryz.f45 [1,1,1]] [(0, sS s), (13, iN (List.length s)), (14, iN i)] w := by
 intro N
 induction N with
 | zero => intro i hi hz hN; exact absurd hN (Nat.not_lt_zero _)
 | succ N ih =>
  intro i hi hz hN
  have hb := bl_bd s i
  refine xs ?_
  refine xc 5 (((i : Nat) : Int) < (((List.length s) : Nat) : Int)) (fun h1p => ?_) (fun h1p => ?_)
  ·
   have hb2 := bl_bd s i
   refine xi 12 s ((i : Nat) : Int) i ?_
   refine xfc 7 22 ((bl s i) < 97) (fun h4p => ?_) (fun h4p => ?_)
   ·
    refine xfc 7 29 ((bl s i) < 48) (fun h5p => ?_) (fun h5p => ?_)
    ·
     refine xcn 9 ((bl s i) = 95) (fun h10p => ?_) (fun h10p => ?_)
     ·
      exact xr 4 (v := .bool false) Tryz.func45 hR ⟨ret_bool (name_no (j := i) (by omega) (by unfold okI; omega)).symm, rfl⟩
     ·
      refine xa 3 ((i : Nat) : Int) 1 (((i + 1) : Nat) : Int) ?_
      exact xl 3 (ih (i + 1) (by omega) (fun j hj => by rcases Nat.lt_succ_iff_lt_or_eq.1 hj with g | g; exact hz j g; subst g; unfold okI; omega) (by omega))
    ·
     refine xfc 5 34 ((bl s i) > 57) (fun h6p => ?_) (fun h6p => ?_)
     ·
      refine xcn 4 ((bl s i) = 95) (fun h12p => ?_) (fun h12p => ?_)
      ·
       exact xr 4 (v := .bool false) Tryz.func45 hR ⟨ret_bool (name_no (j := i) (by omega) (by unfold okI; omega)).symm, rfl⟩
      ·
       refine xa 3 ((i : Nat) : Int) 1 (((i + 1) : Nat) : Int) ?_
       exact xl 3 (ih (i + 1) (by omega) (fun j hj => by rcases Nat.lt_succ_iff_lt_or_eq.1 hj with g | g; exact hz j g; subst g; unfold okI; omega) (by omega))
     ·
      refine xa 8 ((i : Nat) : Int) 1 (((i + 1) : Nat) : Int) ?_
      exact xl 3 (ih (i + 1) (by omega) (fun j hj => by rcases Nat.lt_succ_iff_lt_or_eq.1 hj with g | g; exact hz j g; subst g; unfold okI; omega) (by omega))
   ·
    refine xfc 4 26 ((bl s i) > 122) (fun h7p => ?_) (fun h7p => ?_)
    ·
     refine xfc 3 29 ((bl s i) < 48) (fun h8p => ?_) (fun h8p => ?_)
     ·
      refine xcn 9 ((bl s i) = 95) (fun h15p => ?_) (fun h15p => ?_)
      ·
       exact xr 4 (v := .bool false) Tryz.func45 hR ⟨ret_bool (name_no (j := i) (by omega) (by unfold okI; omega)).symm, rfl⟩
      ·
       refine xa 3 ((i : Nat) : Int) 1 (((i + 1) : Nat) : Int) ?_
       exact xl 3 (ih (i + 1) (by omega) (fun j hj => by rcases Nat.lt_succ_iff_lt_or_eq.1 hj with g | g; exact hz j g; subst g; unfold okI; omega) (by omega))
     ·
      refine xfc 5 34 ((bl s i) > 57) (fun h9p => ?_) (fun h9p => ?_)
      ·
       refine xcn 4 ((bl s i) = 95) (fun h17p => ?_) (fun h17p => ?_)
       ·
        exact xr 4 (v := .bool false) Tryz.func45 hR ⟨ret_bool (name_no (j := i) (by omega) (by unfold okI; omega)).symm, rfl⟩
       ·
        refine xa 3 ((i : Nat) : Int) 1 (((i + 1) : Nat) : Int) ?_
        exact xl 3 (ih (i + 1) (by omega) (fun j hj => by rcases Nat.lt_succ_iff_lt_or_eq.1 hj with g | g; exact hz j g; subst g; unfold okI; omega) (by omega))
      ·
       refine xa 8 ((i : Nat) : Int) 1 (((i + 1) : Nat) : Int) ?_
       exact xl 3 (ih (i + 1) (by omega) (fun j hj => by rcases Nat.lt_succ_iff_lt_or_eq.1 hj with g | g; exact hz j g; subst g; unfold okI; omega) (by omega))
    ·
     refine xa 16 ((i : Nat) : Int) 1 (((i + 1) : Nat) : Int) ?_
     exact xl 3 (ih (i + 1) (by omega) (fun j hj => by rcases Nat.lt_succ_iff_lt_or_eq.1 hj with g | g; exact hz j g; subst g; unfold okI; omega) (by omega))
  ·
   exact xr 5 (v := .bool true) Tryz.func45 hR ⟨ret_bool (name_yes (by omega) (fun j hj => hz j (by omega))).symm, rfl⟩

set_option maxHeartbeats 400000 in
theorem name_c (s : List UInt8) (hs : s.length ≤ 1048576) (w : World) :
  Calls Tryz.prog 45 #[sS s] w (fun e w' => e = .returned (.bool (nameP s)) ∧ w = w') := by
 refine xe 39 Tryz.func45 (fun R hR => ?_)
 refine xq 8 s ([]) ?_
 refine xfc 1 7 (s = []) (fun h2p => ?_) (fun h2p => ?_)
 ·
  exact xr 10 (v := .bool false) Tryz.func45 hR ⟨ret_bool (name_len (by first | omega | (rw [h2p]; decide))).symm, rfl⟩
 ·
  refine xn 1 s ?_
  refine xc 3 (((s.length : Nat) : Int) > 16) (fun h4p => ?_) (fun h4p => ?_)
  ·
   exact xr 4 (v := .bool false) Tryz.func45 hR ⟨ret_bool (name_len (by first | omega | (rw [h2p]; decide))).symm, rfl⟩
  ·
   refine xn 5 s ?_
   exact xl 4 (name_c_L s hs ⟨Nat.pos_of_ne_zero (fun z => h2p (List.eq_nil_of_length_eq_zero z)), by omega⟩ w R hR (s.length + 1) 0 (Nat.zero_le _) (fun j hj => absurd hj (Nat.not_lt_zero _)) (by omega))

set_option maxHeartbeats 400000 in
theorem rname_c_L (s : List UInt8) (hs : s.length ≤ 1048576) (w : World) (R : Ending → World → Prop) (hR : R = (fun e w' => e = .returned (.bool (nameP s)) ∧ w = w')) : ∀ (N : Nat) (i : Nat) (hi : i ≤ s.length) (hz : ∀ j, j < i → okI (bl s j)) (hN : s.length - i < N), GoS Tryz.prog 72 R 41 [iC Tryz.f72 [1,0,1,0,0], iL Tryz.f72 [1,0,1,0,0], .inBlock 0, iC Tryz.f72 [1,1]] [(0, sS s), (3, iN i)] w := by
 intro N
 induction N with
 | zero => intro i hi hz hN; exact absurd hN (Nat.not_lt_zero _)
 | succ N ih =>
  intro i hi hz hN
  have hb := bl_bd s i
  refine xs ?_
  refine xn 5 s ?_
  refine xc 2 (((i : Nat) : Int) < ((s.length : Nat) : Int)) (fun h2p => ?_) (fun h2p => ?_)
  ·
   have hb6 := bl_bd s i
   refine xi 7 s ((i : Nat) : Int) i ?_
   refine xfc 7 16 ((bl s i) ≥ 97) (fun h8p => ?_) (fun h8p => ?_)
   ·
    refine xfc 4 20 ((bl s i) ≤ 122) (fun h9p => ?_) (fun h9p => ?_)
    ·
     refine xa 18 ((i : Nat) : Int) 1 (((i + 1) : Nat) : Int) ?_
     exact xl 3 (ih (i + 1) (by omega) (fun j hj => by rcases Nat.lt_succ_iff_lt_or_eq.1 hj with g | g; exact hz j g; subst g; unfold okI; omega) (by omega))
    ·
     refine xfc 3 23 ((bl s i) ≥ 48) (fun h10p => ?_) (fun h10p => ?_)
     ·
      refine xfc 5 28 ((bl s i) ≤ 57) (fun h11p => ?_) (fun h11p => ?_)
      ·
       refine xa 10 ((i : Nat) : Int) 1 (((i + 1) : Nat) : Int) ?_
       exact xl 3 (ih (i + 1) (by omega) (fun j hj => by rcases Nat.lt_succ_iff_lt_or_eq.1 hj with g | g; exact hz j g; subst g; unfold okI; omega) (by omega))
      ·
       refine xcn 5 ((bl s i) = 95) (fun h16p => ?_) (fun h16p => ?_)
       ·
        exact xr 4 (v := .bool false) Tryz.func72 hR ⟨ret_bool (name_no (j := i) (by omega) (by unfold okI; omega)).symm, rfl⟩
       ·
        refine xa 4 ((i : Nat) : Int) 1 (((i + 1) : Nat) : Int) ?_
        exact xl 3 (ih (i + 1) (by omega) (fun j hj => by rcases Nat.lt_succ_iff_lt_or_eq.1 hj with g | g; exact hz j g; subst g; unfold okI; omega) (by omega))
     ·
      refine xcn 10 ((bl s i) = 95) (fun h18p => ?_) (fun h18p => ?_)
      ·
       exact xr 4 (v := .bool false) Tryz.func72 hR ⟨ret_bool (name_no (j := i) (by omega) (by unfold okI; omega)).symm, rfl⟩
      ·
       refine xa 4 ((i : Nat) : Int) 1 (((i + 1) : Nat) : Int) ?_
       exact xl 3 (ih (i + 1) (by omega) (fun j hj => by rcases Nat.lt_succ_iff_lt_or_eq.1 hj with g | g; exact hz j g; subst g; unfold okI; omega) (by omega))
   ·
    refine xfc 7 23 ((bl s i) ≥ 48) (fun h12p => ?_) (fun h12p => ?_)
    ·
     refine xfc 5 28 ((bl s i) ≤ 57) (fun h13p => ?_) (fun h13p => ?_)
     ·
      refine xa 10 ((i : Nat) : Int) 1 (((i + 1) : Nat) : Int) ?_
      exact xl 3 (ih (i + 1) (by omega) (fun j hj => by rcases Nat.lt_succ_iff_lt_or_eq.1 hj with g | g; exact hz j g; subst g; unfold okI; omega) (by omega))
     ·
      refine xcn 5 ((bl s i) = 95) (fun h21p => ?_) (fun h21p => ?_)
      ·
       exact xr 4 (v := .bool false) Tryz.func72 hR ⟨ret_bool (name_no (j := i) (by omega) (by unfold okI; omega)).symm, rfl⟩
      ·
       refine xa 4 ((i : Nat) : Int) 1 (((i + 1) : Nat) : Int) ?_
       exact xl 3 (ih (i + 1) (by omega) (fun j hj => by rcases Nat.lt_succ_iff_lt_or_eq.1 hj with g | g; exact hz j g; subst g; unfold okI; omega) (by omega))
    ·
     refine xcn 10 ((bl s i) = 95) (fun h23p => ?_) (fun h23p => ?_)
     ·
      exact xr 4 (v := .bool false) Tryz.func72 hR ⟨ret_bool (name_no (j := i) (by omega) (by unfold okI; omega)).symm, rfl⟩
     ·
      refine xa 4 ((i : Nat) : Int) 1 (((i + 1) : Nat) : Int) ?_
      exact xl 3 (ih (i + 1) (by omega) (fun j hj => by rcases Nat.lt_succ_iff_lt_or_eq.1 hj with g | g; exact hz j g; subst g; unfold okI; omega) (by omega))
  ·
   refine xn 4 s ?_
   refine xfc 2 36 (((s.length : Nat) : Int) ≥ 1) (fun h4p => ?_) (fun h4p => ?_)
   ·
    refine xn 1 s ?_
    exact xr 4 (v := .bool (decide (((s.length : Nat) : Int) ≤ 16))) Tryz.func72 hR ⟨ret_bool (by by_cases g : List.length s ≤ 16; rw [name_yes (by omega) (fun j hj => hz j (by omega)), decide_eq_true (by omega)]; rw [name_len (by omega), decide_eq_false (by omega)]), rfl⟩
   ·
    exact xr 6 (v := .bool false) Tryz.func72 hR ⟨ret_bool (name_len (by omega)).symm, rfl⟩

set_option maxHeartbeats 400000 in
theorem rname_c (s : List UInt8) (hs : s.length ≤ 1048576) (w : World) :
  Calls Tryz.prog 72 #[sS s] w (fun e w' => e = .returned (.bool (nameP s)) ∧ w = w') := by
 refine xe 41 Tryz.func72 (fun R hR => ?_)
 exact xl 11 (rname_c_L s hs w R hR (s.length + 1) 0 (Nat.zero_le _) (fun j hj => absurd hj (Nat.not_lt_zero _)) (by omega))

set_option maxHeartbeats 400000 in
theorem let_c_L2 (s m : List UInt8) (hm : m.length ≤ 1048576) (hd : decE s = 0) (hlong : ¬ 16 < (foldL s).length) (hnone : ¬ (foldL s).length = 0) {w0 : World} (v : Value) (i : Nat) (hi : i < (foldL s).length) (R : Ending → World → Prop) (hR : R = (fun e w' => ∃ v, e = .returned (.tuple #[v, .int .i64 (letP s m)]) ∧ Mem [] w0 w' [⟨3, 1, v, (List.length (letL s m)), (ivals .i64 (letL s m))⟩])) : ∀ (N : Nat) (k : Nat) (w : World) (out : ∀ (w : World), okM (List.getD (foldL s) i 0) m m.length = true → Mem [] w0 w [⟨3, 1, v, (List.length (foldL s)), (ivals .i64 (foldL s))⟩] → GoS Tryz.prog 60 R 53 [iC Tryz.f60 uQryD0, iL Tryz.f60 uQryD0, .inBlock 0, iC Tryz.f60 uQryD1] [(1, sS m), (6, v), (26, v), (27, iN (List.length (foldL s))), (28, iN (i + 1))] w) (hk : k ≤ m.length) (hM : Mem [] w0 w [⟨3, 1, v, (List.length (foldL s)), (ivals .i64 (foldL s))⟩]) (hN : m.length - k < N), GoS Tryz.prog 60 R 53 [iC Tryz.f60 [1,1,1,1,1,0,1,0,0,1,1,0,0,1,1,0,1,0,0], iL Tryz.f60 [1,1,1,1,1,0,1,0,0,1,1,0,0,1,1,0,1,0,0], .inBlock 2, iC Tryz.f60 [1,1,1,1,1,0,1,0,0,1,1,0,0,1,1,1], .inBlock 1, iC Tryz.f60 [1,1,1,1,1,0,1,0,0,1,1,1], iL Tryz.f60 uQryD0, .inBlock 0, iC Tryz.f60 uQryD1] [(1, sS m), (6, v), (9, .int .i64 (List.getD (foldL s) i 0)), (10, .bool (okM (List.getD (foldL s) i 0) m k)), (26, v), (27, iN (List.length (foldL s))), (28, iN i), (35, iN (List.length m)), (36, iN k)] w := by
 intro N
 induction N with
 | zero => intro k w out hk hM hN; exact absurd hN (Nat.not_lt_zero _)
 | succ N ih =>
  intro k w out hk hM hN
  have hb := bl_bd m k
  refine xs ?_
  refine xc 5 (((k : Nat) : Int) < (((List.length m) : Nat) : Int)) (fun h1p => ?_) (fun h1p => ?_)
  ·
   refine xf 11 40 (okM (List.getD (foldL s) i 0) m k) (fun h5 => ?_) (fun h5 => ?_)
   ·
    refine xa 11 ((k : Nat) : Int) 1 (((k + 1) : Nat) : Int) ?_
    exact xl 3 (l := [(1, sS m), (6, v), (9, .int .i64 (List.getD (foldL s) i 0)), (10, .bool true), (26, v), (27, iN (List.length (foldL s))), (28, iN i), (35, iN (List.length m)), (36, iN (k + 1))]) (GoS.cast (by rw [okM_step (show k < m.length by omega), (show okM (List.getD (foldL s) i 0) m k = true by simpa using h5)]; rfl) (ih (k + 1) w out (by omega) (hM.sub (sK sN)) (by omega)))
   ·
    have hb6 := bl_bd m k
    refine xi 3 m ((k : Nat) : Int) k ?_
    refine xcv 0 .u8 .i64 (bl m k) (bl m k) (IntWalk.i64_in _ (by omega)) ?_
    refine xa 6 ((k : Nat) : Int) 1 (((k + 1) : Nat) : Int) ?_
    exact xl 3 (l := [(1, sS m), (6, v), (9, .int .i64 (List.getD (foldL s) i 0)), (10, .bool ((List.getD (foldL s) i 0) == (bl m k))), (26, v), (27, iN (List.length (foldL s))), (28, iN i), (35, iN (List.length m)), (36, iN (k + 1))]) (GoS.cast (by rw [okM_step (show k < m.length by omega), (show okM (List.getD (foldL s) i 0) m k = false by simpa using h5)]; rfl) (ih (k + 1) w out (by omega) (hM.sub (sK sN)) (by omega)))
  ·
   refine xb 6 (!(okM (List.getD (foldL s) i 0) m k)) (fun h2 => ?_) (fun h2 => ?_)
   ·
    have hM3 := hM.sub (sD sR)
    obtain ⟨e1, e2⟩ := let_bad (marks := m) hd hlong (i := i) (by omega) (by rw [← (show k = m.length by omega)]; have z := h2; simpa using z)
    exact xr 5 (v := .tuple #[.slice none 0 0, .int .i64 20]) Tryz.func60 hR ⟨_, by rw [e1], by rw [e2]; exact (hM3.sub sN).nilrow 3 1⟩
   ·
    refine xa 3 ((i : Nat) : Int) 1 (((i + 1) : Nat) : Int) ?_
    exact xl 3 (out w (by rw [← (show k = m.length by omega)]; have z := h2; simpa using z) (hM.sub (sK sN)))

set_option maxHeartbeats 400000 in
theorem let_c_L1 (s m : List UInt8) (hm : m.length ≤ 1048576) (hd : decE s = 0) (hlong : ¬ 16 < (foldL s).length) (hnone : ¬ (foldL s).length = 0) {w0 : World} (v : Value) (R : Ending → World → Prop) (hR : R = (fun e w' => ∃ v, e = .returned (.tuple #[v, .int .i64 (letP s m)]) ∧ Mem [] w0 w' [⟨3, 1, v, (List.length (letL s m)), (ivals .i64 (letL s m))⟩])) : ∀ (N : Nat) (i : Nat) (w : World) (hi : i ≤ (foldL s).length) (hz : ∀ j, j < i → okM (List.getD (foldL s) j 0) m m.length = true) (hM : Mem [] w0 w [⟨3, 1, v, (List.length (foldL s)), (ivals .i64 (foldL s))⟩]) (hN : (foldL s).length - i < N), GoS Tryz.prog 60 R 53 [iC Tryz.f60 uQryD0, iL Tryz.f60 uQryD0, .inBlock 0, iC Tryz.f60 uQryD1] [(1, sS m), (6, v), (26, v), (27, iN (List.length (foldL s))), (28, iN i)] w := by
 intro N
 induction N with
 | zero => intro i w hi hz hM hN; exact absurd hN (Nat.not_lt_zero _)
 | succ N ih =>
  intro i w hi hz hM hN
  refine xs ?_
  refine xc 5 (((i : Nat) : Int) < (((List.length (foldL s)) : Nat) : Int)) (fun h1p => ?_) (fun h1p => ?_)
  ·
   refine xat 5 sT70 (hM.rd 0 rfl) ((i : Nat) : Int) i (fun p2 hp3 => ?_)
   refine xv 0 (at_load pE3 (hM.rd 0 rfl) hp3 (ivals_at (by first | omega | (dsimp only; omega)))) ?_
   refine xka 5 (letter_c (List.getD (foldL s) i 0) w) ?_
   refine xn 6 m ?_
   exact xl 4 (l := [(1, sS m), (6, v), (9, .int .i64 (List.getD (foldL s) i 0)), (10, .bool (letter (List.getD (foldL s) i 0))), (26, v), (27, iN (List.length (foldL s))), (28, iN i), (35, iN m.length), (36, .int .i64 0)]) (GoS.cast (by first | rfl | (rw [okM_zero]; rfl) | (rw [okM_zero])) (let_c_L2 s m hm hd hlong hnone v i (by omega) R hR (m.length + 1) 0 w (fun w ht hM => ih (i + 1) w (by omega) (fun j hj => by rcases Nat.lt_succ_iff_lt_or_eq.1 hj with g | g; exact hz j g; subst g; exact ht) hM (by omega)) (Nat.zero_le _) (hM.sub (sK sN)) (by omega)))
  ·
   obtain ⟨e1, e2⟩ := let_good (marks := m) hd hlong hnone (fun j hj => hz j (by omega))
   exact xr 7 (v := .tuple #[v, .int .i64 0]) Tryz.func60 hR ⟨_, by rw [e1], by rw [e2]; exact hM⟩

set_option maxHeartbeats 400000 in
theorem let_c (s m : List UInt8) (hs : s.length ≤ 1048576) (hm : m.length ≤ 1048576) (w : World) :
  Calls Tryz.prog 60 #[sS s, sS m] w (fun e w' => ∃ v, e = .returned (.tuple #[v, .int .i64 (letP s m)]) ∧ Mem [] w w' [⟨3, 1, v, (List.length (letL s m)), (ivals .i64 (letL s m))⟩]) := by
 refine xe 53 Tryz.func60 (fun R hR => ?_)
 have hM0 := Mem.start w
 refine xkv 8 (folded_c s (by omega) w) (fun v4 w1 m2 => ?_)
 have hM3 := Mem.join hM0 m2
 refine xcn 12 ((decE s) = 0) (fun h5p => ?_) (fun h5p => ?_)
 ·
  have hM6 := hM3.sub (sD sR)
  obtain ⟨e1, e2⟩ := let_err (by omega) (s := s) (marks := m)
  exact xr 6 (v := .tuple #[.slice none 0 0, .int .i64 (decE s)]) Tryz.func60 hR ⟨_, by rw [e1], by rw [e2]; exact (hM6.sub sN).nilrow 3 1⟩
 ·
  refine xv 5 (f_slen sT70 (hM3.rd 0 rfl) 3 w1) ?_
  refine xc 2 ((((List.length (foldL s)) : Nat) : Int) > 16) (fun h8p => ?_) (fun h8p => ?_)
  ·
   have hM9 := hM3.sub (sD sR)
   obtain ⟨e1, e2⟩ := let_long (by omega) (by omega) (s := s) (marks := m)
   exact xr 5 (v := .tuple #[.slice none 0 0, .int .i64 4]) Tryz.func60 hR ⟨_, by rw [e1], by rw [e2]; exact (hM9.sub sN).nilrow 3 1⟩
  ·
   refine xv 5 (f_slen sT70 (hM3.rd 0 rfl) 3 w1) ?_
   refine xc 2 ((((List.length (foldL s)) : Nat) : Int) = 0) (fun h11p => ?_) (fun h11p => ?_)
   ·
    have hM12 := hM3.sub (sD sR)
    obtain ⟨e1, e2⟩ := let_none (by omega) (by omega) (s := s) (marks := m)
    exact xr 5 (v := .tuple #[.slice none 0 0, .int .i64 20]) Tryz.func60 hR ⟨_, by rw [e1], by rw [e2]; exact (hM12.sub sN).nilrow 3 1⟩
   ·
    refine xv 5 (f_slen sT70 (hM3.rd 0 rfl) 3 w1) ?_
    exact xl 4 (let_c_L1 s m hm (by omega) (by omega) (by omega) v4 R hR ((foldL s).length + 1) 0 w1 (Nat.zero_le _) (fun j hj => absurd hj (Nat.not_lt_zero _)) (hM3.sub (sK sN)) (by omega))

set_option maxHeartbeats 400000 in
theorem rlet_c_L2 (s m : List UInt8) (hm : m.length ≤ 1048576) (hd : decE s = 0) (hlong : ¬ 16 < (foldL s).length) (hnone : ¬ (foldL s).length = 0) {w0 : World} (v : Value) (i : Nat) (hi : i < (foldL s).length) (R : Ending → World → Prop) (hR : R = (fun e w' => ∃ v, e = .returned (.tuple #[v, .int .i64 (letP s m)]) ∧ Mem [] w0 w' [⟨3, 1, v, (List.length (letL s m)), (ivals .i64 (letL s m))⟩])) : ∀ (N : Nat) (k : Nat) (w : World) (out : ∀ (w : World), okM (List.getD (foldL s) i 0) m m.length = true → Mem [] w0 w [⟨3, 1, v, (List.length (foldL s)), (ivals .i64 (foldL s))⟩] → GoS Tryz.prog 99 R 57 [iC Tryz.f99 uQryD0, iL Tryz.f99 uQryD0, .inBlock 0, iC Tryz.f99 uQryD1] [(1, sS m), (6, v), (8, iN (i + 1))] w) (hk : k ≤ m.length) (hM : Mem [] w0 w [⟨3, 1, v, (List.length (foldL s)), (ivals .i64 (foldL s))⟩]) (hN : m.length - k < N), GoS Tryz.prog 99 R 57 [iC Tryz.f99 [1,1,1,1,1,0,1,0,0,1,0,0,1,0,1,0,0], iL Tryz.f99 [1,1,1,1,1,0,1,0,0,1,0,0,1,0,1,0,0], .inBlock 2, iC Tryz.f99 [1,1,1,1,1,0,1,0,0,1,0,0,1,1], .inBlock 1, iC Tryz.f99 [1,1,1,1,1,0,1,0,0,1,1], iL Tryz.f99 uQryD0, .inBlock 0, iC Tryz.f99 uQryD1] [(1, sS m), (6, v), (8, iN i), (9, .bool (okM (List.getD (foldL s) i 0) m k)), (10, iN k)] w := by
 intro N
 induction N with
 | zero => intro k w out hk hM hN; exact absurd hN (Nat.not_lt_zero _)
 | succ N ih =>
  intro k w out hk hM hN
  have hb := bl_bd m k
  refine xs ?_
  refine xn 5 m ?_
  refine xc 2 (((k : Nat) : Int) < ((m.length : Nat) : Int)) (fun h2p => ?_) (fun h2p => ?_)
  ·
   refine xh 3 [] hM (sK sR) (fun w6 hM7 hS8 => ?_)
   rcases Bool.eq_false_or_eq_true (okM (List.getD (foldL s) i 0) m k) with h10 | h10
   ·
    refine ye [0] 1 (okM (List.getD (foldL s) i 0) m k) true h10 hS8 ?_
    refine ydp [2,3,4,5,6,7,8,9,10,11,12] hS8 ?_
    refine xa 3 ((k : Nat) : Int) 1 (((k + 1) : Nat) : Int) ?_
    exact xl 3 (l := [(1, sS m), (6, v), (8, iN i), (9, .bool true), (10, iN (k + 1))]) (GoS.cast (by rw [okM_step (show k < m.length by omega), (show okM (List.getD (foldL s) i 0) m k = true by simpa using h10)]; rfl) (ih (k + 1) w6 out (by omega) (hM7.sub (sK sN)) (by omega)))
   ·
    refine ye [0] 1 (okM (List.getD (foldL s) i 0) m k) false h10 hS8 ?_
    obtain ⟨p12, hp13, hq14⟩ := rd_at (i := ((i : Nat) : Int)) sT70 (hS8.rd 0 rfl) i (by omega) (by first | omega | (dsimp only; omega))
    refine yv [2,3] 4 (fun W_ hW_ => hq14 W_ .i64) hS8 ?_
    refine ya [] 5 hS8 pE3 0 rfl rfl hp13 (ivals_at (by first | omega | (dsimp only; omega))) ?_
    have hb15 := bl_bd m k
    refine yv [6,7] 8 (fun W_ hW_ => (show (Instr.index 9 (sS m) (iN k)).run Tryz.prog W_ = .ok (.int .u8 (bl m k)) W_ from f_index k (by kernel_rfl) (by omega) (by omega))) hS8 ?_
    refine yv [] 9 (fun W_ hW_ => (show (convert 5 3 (.int .u8 (bl m k))).run Tryz.prog W_ = .ok (.int .i64 (bl m k)) W_ from f_conv (u := .int .u8) (by kernel_rfl) (by kernel_rfl) (IntWalk.i64_in _ (by omega)))) hS8 ?_
    refine ydp [10,11,12] hS8 ?_
    refine xa 3 ((k : Nat) : Int) 1 (((k + 1) : Nat) : Int) ?_
    exact xl 3 (l := [(1, sS m), (6, v), (8, iN i), (9, .bool ((List.getD (foldL s) i 0) == (bl m k))), (10, iN (k + 1))]) (GoS.cast (by rw [okM_step (show k < m.length by omega), (show okM (List.getD (foldL s) i 0) m k = false by simpa using h10)]; rfl) (ih (k + 1) w6 out (by omega) (hM7.sub (sK sN)) (by omega)))
  ·
   refine xb 6 (!(okM (List.getD (foldL s) i 0) m k)) (fun h3 => ?_) (fun h3 => ?_)
   ·
    have hM4 := hM.sub (sD sR)
    obtain ⟨e1, e2⟩ := let_bad (marks := m) hd hlong (i := i) (by omega) (by rw [← (show k = m.length by omega)]; have z := h3; simpa using z)
    exact xr 5 (v := .tuple #[.slice none 0 0, .int .i64 20]) Tryz.func99 hR ⟨_, by rw [e1], by rw [e2]; exact (hM4.sub sN).nilrow 3 1⟩
   ·
    refine xa 4 ((i : Nat) : Int) 1 (((i + 1) : Nat) : Int) ?_
    exact xl 3 (out w (by rw [← (show k = m.length by omega)]; have z := h3; simpa using z) (hM.sub (sK sN)))

set_option maxHeartbeats 400000 in
theorem rlet_c_L1 (s m : List UInt8) (hm : m.length ≤ 1048576) (hd : decE s = 0) (hlong : ¬ 16 < (foldL s).length) (hnone : ¬ (foldL s).length = 0) {w0 : World} (v : Value) (R : Ending → World → Prop) (hR : R = (fun e w' => ∃ v, e = .returned (.tuple #[v, .int .i64 (letP s m)]) ∧ Mem [] w0 w' [⟨3, 1, v, (List.length (letL s m)), (ivals .i64 (letL s m))⟩])) : ∀ (N : Nat) (i : Nat) (w : World) (hi : i ≤ (foldL s).length) (hz : ∀ j, j < i → okM (List.getD (foldL s) j 0) m m.length = true) (hM : Mem [] w0 w [⟨3, 1, v, (List.length (foldL s)), (ivals .i64 (foldL s))⟩]) (hN : (foldL s).length - i < N), GoS Tryz.prog 99 R 57 [iC Tryz.f99 uQryD0, iL Tryz.f99 uQryD0, .inBlock 0, iC Tryz.f99 uQryD1] [(1, sS m), (6, v), (8, iN i)] w := by
 intro N
 induction N with
 | zero => intro i w hi hz hM hN; exact absurd hN (Nat.not_lt_zero _)
 | succ N ih =>
  intro i w hi hz hM hN
  refine xs ?_
  refine xv 5 (f_slen sT70 (hM.rd 0 rfl) 3 w) ?_
  refine xc 2 (((i : Nat) : Int) < (((List.length (foldL s)) : Nat) : Int)) (fun h2p => ?_) (fun h2p => ?_)
  ·
   refine xat 7 sT70 (hM.rd 0 rfl) ((i : Nat) : Int) i (fun p3 hp4 => ?_)
   refine xv 0 (at_load pE3 (hM.rd 0 rfl) hp4 (ivals_at (by first | omega | (dsimp only; omega)))) ?_
   refine xk 0 (rletter_c (List.getD (foldL s) i 0) w) (fun w8 m9 => ?_)
   have hM10 := Mem.join hM m9
   exact xl 9 (l := [(1, sS m), (6, v), (8, iN i), (9, .bool (letter (List.getD (foldL s) i 0))), (10, .int .i64 0)]) (GoS.cast (by first | rfl | (rw [okM_zero]; rfl) | (rw [okM_zero])) (rlet_c_L2 s m hm hd hlong hnone v i (by omega) R hR (m.length + 1) 0 w8 (fun w ht hM => ih (i + 1) w (by omega) (fun j hj => by rcases Nat.lt_succ_iff_lt_or_eq.1 hj with g | g; exact hz j g; subst g; exact ht) hM (by omega)) (Nat.zero_le _) (hM10.sub (sK sN)) (by omega)))
  ·
   obtain ⟨e1, e2⟩ := let_good (marks := m) hd hlong hnone (fun j hj => hz j (by omega))
   exact xr 7 (v := .tuple #[v, .int .i64 0]) Tryz.func99 hR ⟨_, by rw [e1], by rw [e2]; exact hM⟩

set_option maxHeartbeats 400000 in
theorem rlet_c (s m : List UInt8) (hs : s.length ≤ 1048576) (hm : m.length ≤ 1048576) (w : World) :
  Calls Tryz.prog 99 #[sS s, sS m] w (fun e w' => ∃ v, e = .returned (.tuple #[v, .int .i64 (letP s m)]) ∧ Mem [] w w' [⟨3, 1, v, (List.length (letL s m)), (ivals .i64 (letL s m))⟩]) := by
 refine xe 57 Tryz.func99 (fun R hR => ?_)
 have hM0 := Mem.start w
 refine xkv 8 (rfolded_c s (by omega) w) (fun v4 w1 m2 => ?_)
 have hM3 := Mem.join hM0 m2
 refine xcn 12 ((decE s) = 0) (fun h5p => ?_) (fun h5p => ?_)
 ·
  have hM6 := hM3.sub (sD sR)
  obtain ⟨e1, e2⟩ := let_err (by omega) (s := s) (marks := m)
  exact xr 6 (v := .tuple #[.slice none 0 0, .int .i64 (decE s)]) Tryz.func99 hR ⟨_, by rw [e1], by rw [e2]; exact (hM6.sub sN).nilrow 3 1⟩
 ·
  refine xv 5 (f_slen sT70 (hM3.rd 0 rfl) 3 w1) ?_
  refine xc 2 ((((List.length (foldL s)) : Nat) : Int) > 16) (fun h8p => ?_) (fun h8p => ?_)
  ·
   have hM9 := hM3.sub (sD sR)
   obtain ⟨e1, e2⟩ := let_long (by omega) (by omega) (s := s) (marks := m)
   exact xr 5 (v := .tuple #[.slice none 0 0, .int .i64 4]) Tryz.func99 hR ⟨_, by rw [e1], by rw [e2]; exact (hM9.sub sN).nilrow 3 1⟩
  ·
   refine xv 5 (f_slen sT70 (hM3.rd 0 rfl) 3 w1) ?_
   refine xc 2 ((((List.length (foldL s)) : Nat) : Int) = 0) (fun h11p => ?_) (fun h11p => ?_)
   ·
    have hM12 := hM3.sub (sD sR)
    obtain ⟨e1, e2⟩ := let_none (by omega) (by omega) (s := s) (marks := m)
    exact xr 5 (v := .tuple #[.slice none 0 0, .int .i64 20]) Tryz.func99 hR ⟨_, by rw [e1], by rw [e2]; exact (hM12.sub sN).nilrow 3 1⟩
   ·
    exact xl 8 (rlet_c_L1 s m hm (by omega) (by omega) (by omega) v4 R hR ((foldL s).length + 1) 0 w1 (Nat.zero_le _) (fun j hj => absurd hj (Nat.not_lt_zero _)) (hM3.sub (sK sN)) (by omega))


end Go.Proofs.YthpodbngljfdmaaGreatDoor

namespace Go.Proofs.YthpodbngljfdmaaGreatDoor
open Go Go.Gw Go.UtfP Go.TokP Go.QryP Go.RowKit
set_option linter.unusedVariables false
set_option linter.unusedSimpArgs false
set_option maxRecDepth 20000


set_option maxHeartbeats 2000000 in
theorem words_c {w : World} (q : Q) (h : Hd) (he : h = q.h) (v : Value) (hq : RdQ w q v) (hb : bulkQ q ≤ 1048576) :
  Calls Tryz.prog 46 #[.agg #[.int .i64 (h.op), sS (h.field), sS (h.text), .int .i64 (h.edits), .int .i64 (h.exact), .int .u64 (h.lo), .int .u64 (h.hi), v]] w (fun e w' => e = .returned (.bool (wordsP h)) ∧ Mem [] w w' []) := by
 obtain ⟨L, hr, hl, hh, hs⟩ := hq.inv
 have hbl : bulkL q.l + q.h.field.length + q.h.text.length + 1 = bulkQ q := by cases q; rw [bulkQ_mk]; rfl
 have hln := bulk_len q.l
 have lp1 := @let_pos h.text []
 have lp2 : letP h.text [] = 0 → (letL h.text []).length = (foldL h.text).length := fun z => by rw [(lp1 z).2.2]
 have lp3 := lp1
 clear lp1 lp3
 refine xe 83 Tryz.func46 (fun R hR => ?_)
 have hM0 := Mem.start w
 refine xx 2 (m_box (T := 25) (k := 8) (u := .agg #[.int .i64 (h.op), sS (h.field), sS (h.text), .int .i64 (h.edits), .int .i64 (h.exact), .int .u64 (h.lo), .int .u64 (h.hi), v]) rfl rfl hM0) (fun b1 w2 hM4 => ?_)
 refine xv 6 (c_load pE3 (hM4.rd 0 rfl) (cel_obj b1 0) rfl) ?_
 refine xc 7 (h.op = 1) (fun h8p => ?_) (fun h8p => ?_)
 ·
  refine xv 3 (c_load pE9 (hM4.rd 0 rfl) (cel_obj b1 2) rfl) ?_
  have hM10 := hM4.sub (sD sR)
  refine xk 0 (term_c (h.text) w2) (fun w11 m12 => ?_)
  have hM13 := Mem.join hM10 m12
  exact xr 12 (v := .bool ((termE (h.text)) == 0)) Tryz.func46 hR ⟨ret_bool (by by_cases g : (termE (h.text)) = 0; exact (beq_iff_eq.2 g).trans (decide_eq_true (by unfold WP; omega)).symm; exact (beq_eq_false_iff_ne.2 g).trans (decide_eq_false (by unfold WP; omega)).symm), hM13.sub sN⟩
 ·
  refine xc 5 (h.op = 5) (fun h14p => ?_) (fun h14p => ?_)
  ·
   refine xv 3 (c_load pE9 (hM4.rd 0 rfl) (cel_obj b1 2) rfl) ?_
   have hM16 := hM4.sub (sD sR)
   refine xkv 0 (tokens_c (h.text) w2) (fun v20 w17 m18 => ?_)
   have hM19 := Mem.join hM16 m18
   refine xfc 11 33 ((tokE (h.text)) = 0) (fun h21p => ?_) (fun h21p => ?_)
   ·
    refine xv 1 (f_slen sT79 (hM19.rd 0 rfl) 3 w17) ?_
    refine xfc 3 38 ((((List.length (tokL (h.text))) : Nat) : Int) > 0) (fun h23p => ?_) (fun h23p => ?_)
    ·
     refine xv 1 (f_slen sT79 (hM19.rd 0 rfl) 3 w17) ?_
     have hM25 := hM19.sub (sD sR)
     exact xr 4 (v := .bool (decide ((((List.length (tokL (h.text))) : Nat) : Int) ≤ 16))) Tryz.func46 hR ⟨ret_bool (by by_cases g : (((List.length (tokL (h.text))) : Nat) : Int) ≤ 16; exact (decide_eq_true g).trans (decide_eq_true (by unfold WP; omega)).symm; exact (decide_eq_false g).trans (decide_eq_false (by unfold WP; omega)).symm), hM25.sub sN⟩
    ·
     have hM26 := hM19.sub (sD sR)
     exact xr 6 (v := .bool false) Tryz.func46 hR ⟨ret_bool (decide_eq_false (by unfold WP; omega)).symm, hM26.sub sN⟩
   ·
    have hM27 := hM19.sub (sD sR)
    exact xr 11 (v := .bool false) Tryz.func46 hR ⟨ret_bool (decide_eq_false (by unfold WP; omega)).symm, hM27.sub sN⟩
  ·
   refine xc 5 (h.op = 3) (fun h28p => ?_) (fun h28p => ?_)
   ·
    refine xv 3 (c_load pE9 (hM4.rd 0 rfl) (cel_obj b1 2) rfl) ?_
    have hM30 := hM4.sub (sD sR)
    refine xkv 0 (let_c (h.text) ([42, 63] : List UInt8) (by rw [he]; omega) (by decide) w2) (fun v34 w31 m32 => ?_)
    have hM33 := Mem.join hM30 m32
    have hM35 := hM33.sub (sD sR)
    exact xr 12 (v := .bool ((letP (h.text) ([42, 63] : List UInt8)) == 0)) Tryz.func46 hR ⟨ret_bool (by by_cases g : (letP (h.text) ([42, 63] : List UInt8)) = 0; exact (beq_iff_eq.2 g).trans (decide_eq_true (by unfold WP; omega)).symm; exact (beq_eq_false_iff_ne.2 g).trans (decide_eq_false (by unfold WP; omega)).symm), hM35.sub sN⟩
   ·
    refine xv 5 (c_load pE9 (hM4.rd 0 rfl) (cel_obj b1 2) rfl) ?_
    refine xkv 0 (let_c (h.text) ([]) (by rw [he]; omega) (by decide) w2) (fun v40 w37 m38 => ?_)
    have hM39 := Mem.join hM4 m38
    refine xfc 11 61 ((letP (h.text) ([])) = 0) (fun h41p => ?_) (fun h41p => ?_)
    ·
     refine xv 1 (c_load pE3 (hM39.rd 1 rfl) (cel_obj b1 3) rfl) ?_
     refine xfc 3 66 (h.edits ≥ 0) (fun h43p => ?_) (fun h43p => ?_)
     ·
      refine xv 1 (c_load pE3 (hM39.rd 1 rfl) (cel_obj b1 3) rfl) ?_
      refine xfc 3 71 (h.edits ≤ 2) (fun h45p => ?_) (fun h45p => ?_)
      ·
       refine xv 1 (c_load pE3 (hM39.rd 1 rfl) (cel_obj b1 4) rfl) ?_
       refine xfc 3 76 (h.exact ≥ 0) (fun h47p => ?_) (fun h47p => ?_)
       ·
        refine xv 1 (c_load pE3 (hM39.rd 1 rfl) (cel_obj b1 4) rfl) ?_
        refine xv 1 (f_slen sT70 (hM39.rd 0 rfl) 3 w37) ?_
        have hM50 := hM39.sub (sD (sD sR))
        exact xr 4 (v := .bool (decide (h.exact ≤ (((List.length (letL (h.text) ([]))) : Nat) : Int)))) Tryz.func46 hR ⟨ret_bool (by by_cases g : h.exact ≤ (((List.length (letL (h.text) ([]))) : Nat) : Int); exact (decide_eq_true g).trans (decide_eq_true (by unfold WP; omega)).symm; exact (decide_eq_false g).trans (decide_eq_false (by unfold WP; omega)).symm), hM50.sub sN⟩
       ·
        have hM51 := hM39.sub (sD (sD sR))
        exact xr 8 (v := .bool false) Tryz.func46 hR ⟨ret_bool (decide_eq_false (by unfold WP; omega)).symm, hM51.sub sN⟩
      ·
       have hM52 := hM39.sub (sD (sD sR))
       exact xr 13 (v := .bool false) Tryz.func46 hR ⟨ret_bool (decide_eq_false (by unfold WP; omega)).symm, hM52.sub sN⟩
     ·
      have hM53 := hM39.sub (sD (sD sR))
      exact xr 18 (v := .bool false) Tryz.func46 hR ⟨ret_bool (decide_eq_false (by unfold WP; omega)).symm, hM53.sub sN⟩
    ·
     have hM54 := hM39.sub (sD (sD sR))
     exact xr 23 (v := .bool false) Tryz.func46 hR ⟨ret_bool (decide_eq_false (by unfold WP; omega)).symm, hM54.sub sN⟩


end Go.Proofs.YthpodbngljfdmaaGreatDoor

namespace Go.Proofs.YthpodbngljfdmaaGreatDoor
open Go Go.Gw Go.UtfP Go.TokP Go.QryP Go.RowKit
set_option linter.unusedVariables false
set_option linter.unusedSimpArgs false
set_option maxRecDepth 20000
theorem eT68 : EqT Tryz.prog 68 := ⟨by kernel_rfl, by kernel_rfl, by kernel_rfl⟩


set_option maxHeartbeats 8000000 in
theorem right_L (N : Nat) (ih : ∀ (q : Q), bulkQ q < N → ∀ {w : World} (h : Hd) (he : h = q.h) (v : Value) (hq : RdQ w q v) (hb : bulkQ q ≤ 1048576) , Calls Tryz.prog 28 #[.agg #[.int .i64 (h.op), sS (h.field), sS (h.text), .int .i64 (h.edits), .int .i64 (h.exact), .int .u64 (h.lo), .int .u64 (h.hi), v]] w (fun e w' => e = .returned (.bool (rightQ q)) ∧ Mem [] w w' [])) {w0 : World} (q : Q) (h : Hd) (he : h = q.h) (v : Value) (hq : RdQ w0 q v) (hb : bulkQ q ≤ 1048576) (L : List QN) (hr : Rd w0 8 v L.length (recs qnC L)) (hl : L.length = q.l.length) (hh : ∀ j, j < q.l.length → (L.getD j qz).h = (q.l.getD j q0).h) (hs : ∀ j, j < q.l.length → RdQ w0 (q.l.getD j q0) (L.getD j qz).parts) (b : Nat) (hN : bulkQ q = N) (R : Ending → World → Prop) (hR : R = (fun e w' => e = .returned (.bool (rightQ q)) ∧ Mem [] w0 w' [])) : ∀ (M_ : Nat) (i : Nat) (w : World) (hi : i ≤ L.length) (hRt : rightL (q.l.take i) = true) (hM : Mem [] w0 w [⟨25, 8, (obj b), 1, [.int .i64 (h.op), sS (h.field), sS (h.text), .int .i64 (h.edits), .int .i64 (h.exact), .int .u64 (h.lo), .int .u64 (h.hi), v]⟩]) (hN : L.length - i < M_), GoS Tryz.prog 28 R 93 [iC Tryz.f28 [1,0,1,0,0], iL Tryz.f28 [1,0,1,0,0], .inBlock 0, iC Tryz.f28 [1,1]] [(1, pq b), (8, v), (9, iN (List.length L)), (10, iN i)] w := by
 intro M_
 induction M_ with
 | zero => intro i w hi hRt hM hN; exact absurd hN (Nat.not_lt_zero _)
 | succ M_ ih_ =>
  intro i w hi hRt hM hN
  have hbl : bulkL q.l + q.h.field.length + q.h.text.length + 1 = bulkQ q := by cases q; rw [bulkQ_mk]; rfl
  have hln := bulk_len q.l
  have hqe := he
  refine xs ?_
  refine xc 5 (((i : Nat) : Int) < (((List.length L) : Nat) : Int)) (fun h1p => ?_) (fun h1p => ?_)
  ·
   refine xat 5 sT23 (hr.kept0 hM.kept) ((i : Nat) : Int) i (fun p453 hp454 => ?_)
   refine xv 0 (r_loads (f := qnC) (l := L) aE25 (hr.kept0 hM.kept) qnC_len hp454 (by first | omega | (dsimp only; omega)) qz) ?_
   refine xx 0 (m_alloc oT25 hM) (fun b456 w457 hM459 => ?_)
   refine xst 0 (c_stores (ys := [.int .i64 ((List.getD L i qz).h.op), sS ((List.getD L i qz).h.field), sS ((List.getD L i qz).h.text), .int .i64 ((List.getD L i qz).h.edits), .int .i64 ((List.getD L i qz).h.exact), .int .u64 ((List.getD L i qz).h.lo), .int .u64 ((List.getD L i qz).h.hi), ((List.getD L i qz).parts)]) aE25 hM459 0 rfl (cel_obj b456 0) rfl (by decide) (by intro u hu; simp at hu; rcases hu with rfl | rfl | rfl | rfl | rfl | rfl | rfl | rfl <;> first | rfl | exact ((hs i (by omega)).kept hM459.kept).one.1)) (fun w461 hM463 => ?_)
   refine xv 3 (c_loads (ys := [.int .i64 ((List.getD L i qz).h.op), sS ((List.getD L i qz).h.field), sS ((List.getD L i qz).h.text), .int .i64 ((List.getD L i qz).h.edits), .int .i64 ((List.getD L i qz).h.exact), .int .u64 ((List.getD L i qz).h.lo), .int .u64 ((List.getD L i qz).h.hi), ((List.getD L i qz).parts)]) aE25 (hM463.rd 0 rfl) (cel_obj b456 0) rfl (lq rfl)) ?_
   have hM469 := hM463.sub (sD (sK sR))
   have hkb473 := bulk_kid (l := q.l) (i := i) (by omega)
   have hks474 := size_le (List.getD q.l i q0)
   have hbs475 := bulk_step (l := q.l) (i := i) (by omega)
   refine xk 0 (ih (List.getD q.l i q0) (by omega) ((List.getD L i qz).h) (hh i (by omega)) ((List.getD L i qz).parts) ((hs i (by omega)).kept hM469.kept) (by omega)) (fun w470 m471 => ?_)
   have hM472 : Mem [] w0 w470 [⟨25, 8, (obj b), 1, [.int .i64 (h.op), sS (h.field), sS (h.text), .int .i64 (h.edits), .int .i64 (h.exact), .int .u64 (h.lo), .int .u64 (h.hi), v]⟩] := Mem.join (R := []) hM469 m471
   refine xb 2 (!(rightQ (List.getD q.l i q0))) (fun h476 => ?_) (fun h476 => ?_)
   ·
    have hM477 := hM472.sub (sD sR)
    exact xr 4 (v := .bool false) Tryz.func28 hR ⟨ret_bool (right_not (right_bad (show i < q.l.length by omega) (by have z := h476; simpa using z))).symm, hM477.sub sN⟩
   ·
    refine xa 3 ((i : Nat) : Int) 1 (((i + 1) : Nat) : Int) ?_
    exact xl 3 (ih_ (i + 1) _ (by omega) (by rw [right_step (show i < q.l.length by omega), hRt, Bool.true_and]; have z := h476; simpa using z) (hM472.sub (sK sN)) (by omega))
  ·
   refine xv 4 (c_load pE3 (hM.rd 0 rfl) (cel_obj b 0) rfl) ?_
   refine xv 1 (c_load pE23 (hM.rd 0 rfl) (cel_obj b 7) rfl) ?_
   refine xv 0 (show (Instr.build 25 #[(0, .int .i64 (h.op)), (7, v)]).run Tryz.prog w = .ok (.agg #[.int .i64 (h.op), sS ([]), sS ([]), .int .i64 0, .int .i64 0, .int .u64 0, .int .u64 0, v]) w from (by obtain ⟨a0_, m0_, c0_, e0_⟩ : ∃ a m c, v = Value.slice a m c := rd_form (hr.kept0 hM.kept); rw [e0_]; kernel_rfl)) ?_
   refine xx 0 (m_alloc oT25 hM) (fun b2 w3 hM5 => ?_)
   refine xst 0 (c_stores (ys := [.int .i64 (h.op), sS ([]), sS ([]), .int .i64 0, .int .i64 0, .int .u64 0, .int .u64 0, v]) aE25 hM5 0 rfl (cel_obj b2 0) rfl (by decide) (by intro u hu; simp at hu; rcases hu with rfl | rfl | rfl | rfl | rfl | rfl | rfl | rfl <;> first | rfl | exact (hq.kept hM5.kept).one.1)) (fun w7 hM9 => ?_)
   refine xv 9 (c_load pE3 (hM9.rd 1 rfl) (cel_obj b 0) rfl) ?_
   refine xc 8 (h.op = 1) (fun h16p => ?_) (fun h16p => ?_)
   ·
    have h16 : (h.op == 1) = true := by simpa using h16p
    refine xc 1 (h.op = 1) (fun h20p => ?_) (fun h20p => ?_)
    ·
     refine xh 1 [7] hM9 (sD (sK sR)) (fun w21 hM22 hS23 => ?_)
     refine yl [0] 1 hS23 pE9 0 rfl (cel_obj b 1) rfl ?_
     refine yl [2] 3 hS23 pE9 0 rfl (cel_obj b 2) rfl ?_
     refine yst [4] 5 (c_store (E := 9) (u := sS (h.field)) (by kernel_rfl) hM22 0 rfl (cel_obj b2 1) (by decide) rfl rfl) hS23 (fun _ h_ => h_.sub (sD (sK sR))) (fun w25 hM27 hS29 => ?_)
     refine ysw [6] 7 (c_store (E := 9) (u := sS (h.text)) (by kernel_rfl) hM27 0 rfl (cel_obj b2 2) (by decide) rfl rfl) hS29 (fun w30 hM32 => ?_)
     refine yd ?_
     refine xv 4 (c_load pE3 (hM32.rd 1 rfl) (cel_obj b 0) rfl) ?_
     refine xc 2 (h.op = 4) (fun h35p => ?_) (fun h35p => ?_)
     ·
      refine xh 0 [7] hM32 (sD (sK sR)) (fun w36 hM37 hS38 => ?_)
      refine yl [0] 1 hS38 pE3 0 rfl (cel_obj b 3) rfl ?_
      refine yl [2] 3 hS38 pE3 0 rfl (cel_obj b 4) rfl ?_
      refine yst [4] 5 (c_store (E := 3) (u := .int .i64 (h.edits)) (by kernel_rfl) hM37 0 rfl (cel_obj b2 3) (by decide) rfl rfl) hS38 (fun _ h_ => h_.sub (sD (sK sR))) (fun w40 hM42 hS44 => ?_)
      refine ysw [6] 7 (c_store (E := 3) (u := .int .i64 (h.exact)) (by kernel_rfl) hM42 0 rfl (cel_obj b2 4) (by decide) rfl rfl) hS44 (fun w45 hM47 => ?_)
      refine yd ?_
      refine xv 3 (c_load pE9 (hM47.rd 1 rfl) (cel_obj b 1) rfl) ?_
      refine xka 0 (name_c (h.field) (by rw [he]; omega) w45) ?_
      refine xf 2 50 (!(nameP (h.field))) (fun h50 => ?_) (fun h50 => ?_)
      ·
       have hM55 := hM47.sub (sD (sD sR))
       refine xr0 10 (v := .bool false) Tryz.func28 ?_
       rw [hR]
       have hall : rightL q.l = true := by rw [← tk_all (l := q.l) (i := i) (by omega)]; exact hRt
       have hro := right_of hall
       rw [← he] at hro
       exact ⟨ret_bool (by rw [hro, node_name (by omega) (by have z := h50; simpa using z)]), hM55.sub sN⟩
      ·
       refine xv 0 (c_loads (ys := [.int .i64 (h.op), sS (h.field), sS (h.text), .int .i64 (h.edits), .int .i64 (h.exact), .int .u64 (h.lo), .int .u64 (h.hi), v]) aE25 (hM47.rd 1 rfl) (cel_obj b 0) rfl (lq rfl)) ?_
       refine xk 0 (words_c q h he v (hq.kept hM47.kept) (by omega)) (fun w52 m53 => ?_)
       have hM54 : Mem [] w0 w52 [⟨25, 8, (obj b2), 1, [.int .i64 (h.op), sS (h.field), sS (h.text), .int .i64 (h.edits), .int .i64 (h.exact), .int .u64 0, .int .u64 0, v]⟩, ⟨25, 8, (obj b), 1, [.int .i64 (h.op), sS (h.field), sS (h.text), .int .i64 (h.edits), .int .i64 (h.exact), .int .u64 (h.lo), .int .u64 (h.hi), v]⟩] := Mem.join (R := []) hM47 m53
       refine xb 3 (!(wordsP h)) (fun h56 => ?_) (fun h56 => ?_)
       ·
        have hM57 := hM54.sub (sD (sD sR))
        refine xr0 4 (v := .bool false) Tryz.func28 ?_
        rw [hR]
        have hall : rightL q.l = true := by rw [← tk_all (l := q.l) (i := i) (by omega)]; exact hRt
        have hro := right_of hall
        rw [← he] at hro
        exact ⟨ret_bool (by rw [hro, node_noword (by omega) (of_decide_eq_false (by have z := h56; simpa [wordsP] using z))]), hM57.sub sN⟩
       ·
        refine xh 3 [] hM54 (sK (sK sR)) (fun w67 hM68 hS69 => ?_)
        refine yl [0] 1 hS69 pE23 1 rfl (cel_obj b 7) rfl ?_
        refine yv [] 2 (fun W_ hW_ => (show (Builtin.len_ #[23] 3 #[v]).run Tryz.prog W_ = .ok (iN (List.length L)) W_ from f_slen sT23 (hr.kept0 hW_.kept) 3 _)) hS69 ?_
        rcases Bool.eq_false_or_eq_true ((((List.length L) : Nat) : Int) == 0) with h71 | h71
        ·
         have h71p : (((List.length L) : Nat) : Int) = 0 := eq_of_beq h71
         refine ye [3,4] 5 ((((List.length L) : Nat) : Int) == 0) true h71 hS69 ?_
         refine yv [] 6 (fun W_ hW_ => (show (Instr.loadAt 25 (pq b)).run Tryz.prog W_ = .ok (.agg #[.int .i64 (h.op), sS (h.field), sS (h.text), .int .i64 (h.edits), .int .i64 (h.exact), .int .u64 (h.lo), .int .u64 (h.hi), v]) W_ from c_loads (ys := [.int .i64 (h.op), sS (h.field), sS (h.text), .int .i64 (h.edits), .int .i64 (h.exact), .int .u64 (h.lo), .int .u64 (h.hi), v]) aE25 (hW_.rd 1 rfl) (cel_obj b 0) rfl (lq rfl))) hS69 ?_
         refine yv [] 8 (fun W_ hW_ => (show (Instr.loadAt 25 (pq b2)).run Tryz.prog W_ = .ok (.agg #[.int .i64 (h.op), sS (h.field), sS (h.text), .int .i64 (h.edits), .int .i64 (h.exact), .int .u64 0, .int .u64 0, v]) W_ from c_loads (ys := [.int .i64 (h.op), sS (h.field), sS (h.text), .int .i64 (h.edits), .int .i64 (h.exact), .int .u64 0, .int .u64 0, v]) aE25 (hW_.rd 0 rfl) (cel_obj b2 0) rfl (lq rfl))) hS69 ?_
         refine yck [] 7 (flat_c (w := w67) h v) hS69 (fun w72 m73 => ?_)
         have hM74 : Mem [] w0 w72 [⟨25, 8, (obj b2), 1, [.int .i64 (h.op), sS (h.field), sS (h.text), .int .i64 (h.edits), .int .i64 (h.exact), .int .u64 0, .int .u64 0, v]⟩, ⟨25, 8, (obj b), 1, [.int .i64 (h.op), sS (h.field), sS (h.text), .int .i64 (h.edits), .int .i64 (h.exact), .int .u64 (h.lo), .int .u64 (h.hi), v]⟩] := Mem.join (R := []) hM68 m73
         have hS75 := hM74.sub (sK (sK sR))
         refine ⟨hS75, ?_⟩
         refine yck [] 9 (flat_c (w := w72) (Hd.mk (h.op) (h.field) (h.text) (h.edits) (h.exact) 0 0) v) hS75 (fun w76 m77 => ?_)
         have hM78 : Mem [] w0 w76 [⟨25, 8, (obj b2), 1, [.int .i64 (h.op), sS (h.field), sS (h.text), .int .i64 (h.edits), .int .i64 (h.exact), .int .u64 0, .int .u64 0, v]⟩, ⟨25, 8, (obj b), 1, [.int .i64 (h.op), sS (h.field), sS (h.text), .int .i64 (h.edits), .int .i64 (h.exact), .int .u64 (h.lo), .int .u64 (h.hi), v]⟩] := Mem.join (R := []) hM74 m77
         have hS79 := hM78.sub (sK (sK sR))
         refine ⟨hS79, ?_⟩
         refine yp [] 10 (.bool (nothP h true true false)) (fun W_ hW_ => (show Tryz.prog.eqGuardType Tryz.prog.depth 68 = false ∧ (binOp .eql 68 (.agg #[.int .i64 (h.op), sS (h.field), sS (h.text), .int .i64 (h.edits), .int .i64 (h.exact), .int .u64 (h.lo), .int .u64 (h.hi)]) (.agg #[.int .i64 (h.op), sS (h.field), sS (h.text), .int .i64 (h.edits), .int .i64 (h.exact), .int .u64 0, .int .u64 0])).run Tryz.prog W_ = .ok (.bool (nothP h true true false)) W_ from f_ageq eT68 (xs := [.int .i64 (h.op), sS (h.field), sS (h.text), .int .i64 (h.edits), .int .i64 (h.exact), .int .u64 (h.lo), .int .u64 (h.hi)]) (ys := [.int .i64 (h.op), sS (h.field), sS (h.text), .int .i64 (h.edits), .int .i64 (h.exact), .int .u64 0, .int .u64 0]) (r := ((h.op == h.op) && (((sb (h.field)).toList == (sb (h.field)).toList) && (((sb (h.text)).toList == (sb (h.text)).toList) && ((h.edits == h.edits) && ((h.exact == h.exact) && ((h.lo == 0) && ((h.hi == 0) && true)))))))) (by kernel_rfl) (noth_f h))) hS79 ?_
         refine ydp [11,12] hS79 ?_
         have hM80 := hM78.sub (sD (sD sR))
         refine xr0 0 (v := .bool (nothP h true true false)) Tryz.func28 ?_
         rw [hR]
         have hall : rightL q.l = true := by rw [← tk_all (l := q.l) (i := i) (by omega)]; exact hRt
         have hro := right_of hall
         rw [← he] at hro
         exact ⟨ret_bool (by rw [hro, node_word (by omega) (by have z := h50; simpa using z) (of_decide_eq_true (by have z := h56; simpa [wordsP] using z)) (by omega), if_pos (by omega)]), hM80.sub sN⟩
        ·
         have h71p : ¬ ((((List.length L) : Nat) : Int) = 0) := p_ne h71
         refine ye [3,4] 5 ((((List.length L) : Nat) : Int) == 0) false h71 hS69 ?_
         refine ydp [6,7,8,9,10,11,12] hS69 ?_
         have hM81 := hM68.sub (sD (sD sR))
         refine xr0 0 (v := .bool false) Tryz.func28 ?_
         rw [hR]
         have hall : rightL q.l = true := by rw [← tk_all (l := q.l) (i := i) (by omega)]; exact hRt
         have hro := right_of hall
         rw [← he] at hro
         exact ⟨ret_bool (by rw [hro, node_many (by omega) (by omega)]), hM81.sub sN⟩
     ·
      refine xv 4 (c_load pE9 (hM32.rd 1 rfl) (cel_obj b 1) rfl) ?_
      refine xka 0 (name_c (h.field) (by rw [he]; omega) w30) ?_
      refine xf 2 50 (!(nameP (h.field))) (fun h59 => ?_) (fun h59 => ?_)
      ·
       have hM64 := hM32.sub (sD (sD sR))
       refine xr0 10 (v := .bool false) Tryz.func28 ?_
       rw [hR]
       have hall : rightL q.l = true := by rw [← tk_all (l := q.l) (i := i) (by omega)]; exact hRt
       have hro := right_of hall
       rw [← he] at hro
       exact ⟨ret_bool (by rw [hro, node_name (by omega) (by have z := h59; simpa using z)]), hM64.sub sN⟩
      ·
       refine xv 0 (c_loads (ys := [.int .i64 (h.op), sS (h.field), sS (h.text), .int .i64 (h.edits), .int .i64 (h.exact), .int .u64 (h.lo), .int .u64 (h.hi), v]) aE25 (hM32.rd 1 rfl) (cel_obj b 0) rfl (lq rfl)) ?_
       refine xk 0 (words_c q h he v (hq.kept hM32.kept) (by omega)) (fun w61 m62 => ?_)
       have hM63 : Mem [] w0 w61 [⟨25, 8, (obj b2), 1, [.int .i64 (h.op), sS (h.field), sS (h.text), .int .i64 0, .int .i64 0, .int .u64 0, .int .u64 0, v]⟩, ⟨25, 8, (obj b), 1, [.int .i64 (h.op), sS (h.field), sS (h.text), .int .i64 (h.edits), .int .i64 (h.exact), .int .u64 (h.lo), .int .u64 (h.hi), v]⟩] := Mem.join (R := []) hM32 m62
       refine xb 3 (!(wordsP h)) (fun h65 => ?_) (fun h65 => ?_)
       ·
        have hM66 := hM63.sub (sD (sD sR))
        refine xr0 4 (v := .bool false) Tryz.func28 ?_
        rw [hR]
        have hall : rightL q.l = true := by rw [← tk_all (l := q.l) (i := i) (by omega)]; exact hRt
        have hro := right_of hall
        rw [← he] at hro
        exact ⟨ret_bool (by rw [hro, node_noword (by omega) (of_decide_eq_false (by have z := h65; simpa [wordsP] using z))]), hM66.sub sN⟩
       ·
        refine xh 3 [] hM63 (sK (sK sR)) (fun w82 hM83 hS84 => ?_)
        refine yl [0] 1 hS84 pE23 1 rfl (cel_obj b 7) rfl ?_
        refine yv [] 2 (fun W_ hW_ => (show (Builtin.len_ #[23] 3 #[v]).run Tryz.prog W_ = .ok (iN (List.length L)) W_ from f_slen sT23 (hr.kept0 hW_.kept) 3 _)) hS84 ?_
        rcases Bool.eq_false_or_eq_true ((((List.length L) : Nat) : Int) == 0) with h86 | h86
        ·
         have h86p : (((List.length L) : Nat) : Int) = 0 := eq_of_beq h86
         refine ye [3,4] 5 ((((List.length L) : Nat) : Int) == 0) true h86 hS84 ?_
         refine yv [] 6 (fun W_ hW_ => (show (Instr.loadAt 25 (pq b)).run Tryz.prog W_ = .ok (.agg #[.int .i64 (h.op), sS (h.field), sS (h.text), .int .i64 (h.edits), .int .i64 (h.exact), .int .u64 (h.lo), .int .u64 (h.hi), v]) W_ from c_loads (ys := [.int .i64 (h.op), sS (h.field), sS (h.text), .int .i64 (h.edits), .int .i64 (h.exact), .int .u64 (h.lo), .int .u64 (h.hi), v]) aE25 (hW_.rd 1 rfl) (cel_obj b 0) rfl (lq rfl))) hS84 ?_
         refine yv [] 8 (fun W_ hW_ => (show (Instr.loadAt 25 (pq b2)).run Tryz.prog W_ = .ok (.agg #[.int .i64 (h.op), sS (h.field), sS (h.text), .int .i64 0, .int .i64 0, .int .u64 0, .int .u64 0, v]) W_ from c_loads (ys := [.int .i64 (h.op), sS (h.field), sS (h.text), .int .i64 0, .int .i64 0, .int .u64 0, .int .u64 0, v]) aE25 (hW_.rd 0 rfl) (cel_obj b2 0) rfl (lq rfl))) hS84 ?_
         refine yck [] 7 (flat_c (w := w82) h v) hS84 (fun w87 m88 => ?_)
         have hM89 : Mem [] w0 w87 [⟨25, 8, (obj b2), 1, [.int .i64 (h.op), sS (h.field), sS (h.text), .int .i64 0, .int .i64 0, .int .u64 0, .int .u64 0, v]⟩, ⟨25, 8, (obj b), 1, [.int .i64 (h.op), sS (h.field), sS (h.text), .int .i64 (h.edits), .int .i64 (h.exact), .int .u64 (h.lo), .int .u64 (h.hi), v]⟩] := Mem.join (R := []) hM83 m88
         have hS90 := hM89.sub (sK (sK sR))
         refine ⟨hS90, ?_⟩
         refine yck [] 9 (flat_c (w := w87) (Hd.mk (h.op) (h.field) (h.text) 0 0 0 0) v) hS90 (fun w91 m92 => ?_)
         have hM93 : Mem [] w0 w91 [⟨25, 8, (obj b2), 1, [.int .i64 (h.op), sS (h.field), sS (h.text), .int .i64 0, .int .i64 0, .int .u64 0, .int .u64 0, v]⟩, ⟨25, 8, (obj b), 1, [.int .i64 (h.op), sS (h.field), sS (h.text), .int .i64 (h.edits), .int .i64 (h.exact), .int .u64 (h.lo), .int .u64 (h.hi), v]⟩] := Mem.join (R := []) hM89 m92
         have hS94 := hM93.sub (sK (sK sR))
         refine ⟨hS94, ?_⟩
         refine yp [] 10 (.bool (nothP h true false false)) (fun W_ hW_ => (show Tryz.prog.eqGuardType Tryz.prog.depth 68 = false ∧ (binOp .eql 68 (.agg #[.int .i64 (h.op), sS (h.field), sS (h.text), .int .i64 (h.edits), .int .i64 (h.exact), .int .u64 (h.lo), .int .u64 (h.hi)]) (.agg #[.int .i64 (h.op), sS (h.field), sS (h.text), .int .i64 0, .int .i64 0, .int .u64 0, .int .u64 0])).run Tryz.prog W_ = .ok (.bool (nothP h true false false)) W_ from f_ageq eT68 (xs := [.int .i64 (h.op), sS (h.field), sS (h.text), .int .i64 (h.edits), .int .i64 (h.exact), .int .u64 (h.lo), .int .u64 (h.hi)]) (ys := [.int .i64 (h.op), sS (h.field), sS (h.text), .int .i64 0, .int .i64 0, .int .u64 0, .int .u64 0]) (r := ((h.op == h.op) && (((sb (h.field)).toList == (sb (h.field)).toList) && (((sb (h.text)).toList == (sb (h.text)).toList) && ((h.edits == 0) && ((h.exact == 0) && ((h.lo == 0) && ((h.hi == 0) && true)))))))) (by kernel_rfl) (noth_t h))) hS94 ?_
         refine ydp [11,12] hS94 ?_
         have hM95 := hM93.sub (sD (sD sR))
         refine xr0 0 (v := .bool (nothP h true false false)) Tryz.func28 ?_
         rw [hR]
         have hall : rightL q.l = true := by rw [← tk_all (l := q.l) (i := i) (by omega)]; exact hRt
         have hro := right_of hall
         rw [← he] at hro
         exact ⟨ret_bool (by rw [hro, node_word (by omega) (by have z := h59; simpa using z) (of_decide_eq_true (by have z := h65; simpa [wordsP] using z)) (by omega), if_neg (by omega)]), hM95.sub sN⟩
        ·
         have h86p : ¬ ((((List.length L) : Nat) : Int) = 0) := p_ne h86
         refine ye [3,4] 5 ((((List.length L) : Nat) : Int) == 0) false h86 hS84 ?_
         refine ydp [6,7,8,9,10,11,12] hS84 ?_
         have hM96 := hM83.sub (sD (sD sR))
         refine xr0 0 (v := .bool false) Tryz.func28 ?_
         rw [hR]
         have hall : rightL q.l = true := by rw [← tk_all (l := q.l) (i := i) (by omega)]; exact hRt
         have hro := right_of hall
         rw [← he] at hro
         exact ⟨ret_bool (by rw [hro, node_many (by omega) (by omega)]), hM96.sub sN⟩
    ·
     have h20 : (h.op == 1) = false := by simpa using h20p
     rw [h16] at h20; cases h20
   ·
    refine xc 5 (h.op = 2) (fun h17p => ?_) (fun h17p => ?_)
    ·
     have h17 : (h.op == 2) = true := by simpa using h17p
     refine xc 1 (h.op = 2) (fun h97p => ?_) (fun h97p => ?_)
     ·
      refine xh 1 [7] hM9 (sD (sK sR)) (fun w98 hM99 hS100 => ?_)
      refine yl [0] 1 hS100 pE9 0 rfl (cel_obj b 1) rfl ?_
      refine yl [2] 3 hS100 pE9 0 rfl (cel_obj b 2) rfl ?_
      refine yst [4] 5 (c_store (E := 9) (u := sS (h.field)) (by kernel_rfl) hM99 0 rfl (cel_obj b2 1) (by decide) rfl rfl) hS100 (fun _ h_ => h_.sub (sD (sK sR))) (fun w102 hM104 hS106 => ?_)
      refine ysw [6] 7 (c_store (E := 9) (u := sS (h.text)) (by kernel_rfl) hM104 0 rfl (cel_obj b2 2) (by decide) rfl rfl) hS106 (fun w107 hM109 => ?_)
      refine yd ?_
      refine xv 4 (c_load pE3 (hM109.rd 1 rfl) (cel_obj b 0) rfl) ?_
      refine xc 2 (h.op = 4) (fun h112p => ?_) (fun h112p => ?_)
      ·
       refine xh 0 [7] hM109 (sD (sK sR)) (fun w113 hM114 hS115 => ?_)
       refine yl [0] 1 hS115 pE3 0 rfl (cel_obj b 3) rfl ?_
       refine yl [2] 3 hS115 pE3 0 rfl (cel_obj b 4) rfl ?_
       refine yst [4] 5 (c_store (E := 3) (u := .int .i64 (h.edits)) (by kernel_rfl) hM114 0 rfl (cel_obj b2 3) (by decide) rfl rfl) hS115 (fun _ h_ => h_.sub (sD (sK sR))) (fun w117 hM119 hS121 => ?_)
       refine ysw [6] 7 (c_store (E := 3) (u := .int .i64 (h.exact)) (by kernel_rfl) hM119 0 rfl (cel_obj b2 4) (by decide) rfl rfl) hS121 (fun w122 hM124 => ?_)
       refine yd ?_
       refine xv 3 (c_load pE9 (hM124.rd 1 rfl) (cel_obj b 1) rfl) ?_
       refine xka 0 (name_c (h.field) (by rw [he]; omega) w122) ?_
       refine xf 2 50 (!(nameP (h.field))) (fun h127 => ?_) (fun h127 => ?_)
       ·
        have hM132 := hM124.sub (sD (sD sR))
        refine xr0 10 (v := .bool false) Tryz.func28 ?_
        rw [hR]
        have hall : rightL q.l = true := by rw [← tk_all (l := q.l) (i := i) (by omega)]; exact hRt
        have hro := right_of hall
        rw [← he] at hro
        exact ⟨ret_bool (by rw [hro, node_name (by omega) (by have z := h127; simpa using z)]), hM132.sub sN⟩
       ·
        refine xv 0 (c_loads (ys := [.int .i64 (h.op), sS (h.field), sS (h.text), .int .i64 (h.edits), .int .i64 (h.exact), .int .u64 (h.lo), .int .u64 (h.hi), v]) aE25 (hM124.rd 1 rfl) (cel_obj b 0) rfl (lq rfl)) ?_
        refine xk 0 (words_c q h he v (hq.kept hM124.kept) (by omega)) (fun w129 m130 => ?_)
        have hM131 : Mem [] w0 w129 [⟨25, 8, (obj b2), 1, [.int .i64 (h.op), sS (h.field), sS (h.text), .int .i64 (h.edits), .int .i64 (h.exact), .int .u64 0, .int .u64 0, v]⟩, ⟨25, 8, (obj b), 1, [.int .i64 (h.op), sS (h.field), sS (h.text), .int .i64 (h.edits), .int .i64 (h.exact), .int .u64 (h.lo), .int .u64 (h.hi), v]⟩] := Mem.join (R := []) hM124 m130
        refine xb 3 (!(wordsP h)) (fun h133 => ?_) (fun h133 => ?_)
        ·
         have hM134 := hM131.sub (sD (sD sR))
         refine xr0 4 (v := .bool false) Tryz.func28 ?_
         rw [hR]
         have hall : rightL q.l = true := by rw [← tk_all (l := q.l) (i := i) (by omega)]; exact hRt
         have hro := right_of hall
         rw [← he] at hro
         exact ⟨ret_bool (by rw [hro, node_noword (by omega) (of_decide_eq_false (by have z := h133; simpa [wordsP] using z))]), hM134.sub sN⟩
        ·
         refine xh 3 [] hM131 (sK (sK sR)) (fun w144 hM145 hS146 => ?_)
         refine yl [0] 1 hS146 pE23 1 rfl (cel_obj b 7) rfl ?_
         refine yv [] 2 (fun W_ hW_ => (show (Builtin.len_ #[23] 3 #[v]).run Tryz.prog W_ = .ok (iN (List.length L)) W_ from f_slen sT23 (hr.kept0 hW_.kept) 3 _)) hS146 ?_
         rcases Bool.eq_false_or_eq_true ((((List.length L) : Nat) : Int) == 0) with h148 | h148
         ·
          have h148p : (((List.length L) : Nat) : Int) = 0 := eq_of_beq h148
          refine ye [3,4] 5 ((((List.length L) : Nat) : Int) == 0) true h148 hS146 ?_
          refine yv [] 6 (fun W_ hW_ => (show (Instr.loadAt 25 (pq b)).run Tryz.prog W_ = .ok (.agg #[.int .i64 (h.op), sS (h.field), sS (h.text), .int .i64 (h.edits), .int .i64 (h.exact), .int .u64 (h.lo), .int .u64 (h.hi), v]) W_ from c_loads (ys := [.int .i64 (h.op), sS (h.field), sS (h.text), .int .i64 (h.edits), .int .i64 (h.exact), .int .u64 (h.lo), .int .u64 (h.hi), v]) aE25 (hW_.rd 1 rfl) (cel_obj b 0) rfl (lq rfl))) hS146 ?_
          refine yv [] 8 (fun W_ hW_ => (show (Instr.loadAt 25 (pq b2)).run Tryz.prog W_ = .ok (.agg #[.int .i64 (h.op), sS (h.field), sS (h.text), .int .i64 (h.edits), .int .i64 (h.exact), .int .u64 0, .int .u64 0, v]) W_ from c_loads (ys := [.int .i64 (h.op), sS (h.field), sS (h.text), .int .i64 (h.edits), .int .i64 (h.exact), .int .u64 0, .int .u64 0, v]) aE25 (hW_.rd 0 rfl) (cel_obj b2 0) rfl (lq rfl))) hS146 ?_
          refine yck [] 7 (flat_c (w := w144) h v) hS146 (fun w149 m150 => ?_)
          have hM151 : Mem [] w0 w149 [⟨25, 8, (obj b2), 1, [.int .i64 (h.op), sS (h.field), sS (h.text), .int .i64 (h.edits), .int .i64 (h.exact), .int .u64 0, .int .u64 0, v]⟩, ⟨25, 8, (obj b), 1, [.int .i64 (h.op), sS (h.field), sS (h.text), .int .i64 (h.edits), .int .i64 (h.exact), .int .u64 (h.lo), .int .u64 (h.hi), v]⟩] := Mem.join (R := []) hM145 m150
          have hS152 := hM151.sub (sK (sK sR))
          refine ⟨hS152, ?_⟩
          refine yck [] 9 (flat_c (w := w149) (Hd.mk (h.op) (h.field) (h.text) (h.edits) (h.exact) 0 0) v) hS152 (fun w153 m154 => ?_)
          have hM155 : Mem [] w0 w153 [⟨25, 8, (obj b2), 1, [.int .i64 (h.op), sS (h.field), sS (h.text), .int .i64 (h.edits), .int .i64 (h.exact), .int .u64 0, .int .u64 0, v]⟩, ⟨25, 8, (obj b), 1, [.int .i64 (h.op), sS (h.field), sS (h.text), .int .i64 (h.edits), .int .i64 (h.exact), .int .u64 (h.lo), .int .u64 (h.hi), v]⟩] := Mem.join (R := []) hM151 m154
          have hS156 := hM155.sub (sK (sK sR))
          refine ⟨hS156, ?_⟩
          refine yp [] 10 (.bool (nothP h true true false)) (fun W_ hW_ => (show Tryz.prog.eqGuardType Tryz.prog.depth 68 = false ∧ (binOp .eql 68 (.agg #[.int .i64 (h.op), sS (h.field), sS (h.text), .int .i64 (h.edits), .int .i64 (h.exact), .int .u64 (h.lo), .int .u64 (h.hi)]) (.agg #[.int .i64 (h.op), sS (h.field), sS (h.text), .int .i64 (h.edits), .int .i64 (h.exact), .int .u64 0, .int .u64 0])).run Tryz.prog W_ = .ok (.bool (nothP h true true false)) W_ from f_ageq eT68 (xs := [.int .i64 (h.op), sS (h.field), sS (h.text), .int .i64 (h.edits), .int .i64 (h.exact), .int .u64 (h.lo), .int .u64 (h.hi)]) (ys := [.int .i64 (h.op), sS (h.field), sS (h.text), .int .i64 (h.edits), .int .i64 (h.exact), .int .u64 0, .int .u64 0]) (r := ((h.op == h.op) && (((sb (h.field)).toList == (sb (h.field)).toList) && (((sb (h.text)).toList == (sb (h.text)).toList) && ((h.edits == h.edits) && ((h.exact == h.exact) && ((h.lo == 0) && ((h.hi == 0) && true)))))))) (by kernel_rfl) (noth_f h))) hS156 ?_
          refine ydp [11,12] hS156 ?_
          have hM157 := hM155.sub (sD (sD sR))
          refine xr0 0 (v := .bool (nothP h true true false)) Tryz.func28 ?_
          rw [hR]
          have hall : rightL q.l = true := by rw [← tk_all (l := q.l) (i := i) (by omega)]; exact hRt
          have hro := right_of hall
          rw [← he] at hro
          exact ⟨ret_bool (by rw [hro, node_word (by omega) (by have z := h127; simpa using z) (of_decide_eq_true (by have z := h133; simpa [wordsP] using z)) (by omega), if_pos (by omega)]), hM157.sub sN⟩
         ·
          have h148p : ¬ ((((List.length L) : Nat) : Int) = 0) := p_ne h148
          refine ye [3,4] 5 ((((List.length L) : Nat) : Int) == 0) false h148 hS146 ?_
          refine ydp [6,7,8,9,10,11,12] hS146 ?_
          have hM158 := hM145.sub (sD (sD sR))
          refine xr0 0 (v := .bool false) Tryz.func28 ?_
          rw [hR]
          have hall : rightL q.l = true := by rw [← tk_all (l := q.l) (i := i) (by omega)]; exact hRt
          have hro := right_of hall
          rw [← he] at hro
          exact ⟨ret_bool (by rw [hro, node_many (by omega) (by omega)]), hM158.sub sN⟩
      ·
       refine xv 4 (c_load pE9 (hM109.rd 1 rfl) (cel_obj b 1) rfl) ?_
       refine xka 0 (name_c (h.field) (by rw [he]; omega) w107) ?_
       refine xf 2 50 (!(nameP (h.field))) (fun h136 => ?_) (fun h136 => ?_)
       ·
        have hM141 := hM109.sub (sD (sD sR))
        refine xr0 10 (v := .bool false) Tryz.func28 ?_
        rw [hR]
        have hall : rightL q.l = true := by rw [← tk_all (l := q.l) (i := i) (by omega)]; exact hRt
        have hro := right_of hall
        rw [← he] at hro
        exact ⟨ret_bool (by rw [hro, node_name (by omega) (by have z := h136; simpa using z)]), hM141.sub sN⟩
       ·
        refine xv 0 (c_loads (ys := [.int .i64 (h.op), sS (h.field), sS (h.text), .int .i64 (h.edits), .int .i64 (h.exact), .int .u64 (h.lo), .int .u64 (h.hi), v]) aE25 (hM109.rd 1 rfl) (cel_obj b 0) rfl (lq rfl)) ?_
        refine xk 0 (words_c q h he v (hq.kept hM109.kept) (by omega)) (fun w138 m139 => ?_)
        have hM140 : Mem [] w0 w138 [⟨25, 8, (obj b2), 1, [.int .i64 (h.op), sS (h.field), sS (h.text), .int .i64 0, .int .i64 0, .int .u64 0, .int .u64 0, v]⟩, ⟨25, 8, (obj b), 1, [.int .i64 (h.op), sS (h.field), sS (h.text), .int .i64 (h.edits), .int .i64 (h.exact), .int .u64 (h.lo), .int .u64 (h.hi), v]⟩] := Mem.join (R := []) hM109 m139
        refine xb 3 (!(wordsP h)) (fun h142 => ?_) (fun h142 => ?_)
        ·
         have hM143 := hM140.sub (sD (sD sR))
         refine xr0 4 (v := .bool false) Tryz.func28 ?_
         rw [hR]
         have hall : rightL q.l = true := by rw [← tk_all (l := q.l) (i := i) (by omega)]; exact hRt
         have hro := right_of hall
         rw [← he] at hro
         exact ⟨ret_bool (by rw [hro, node_noword (by omega) (of_decide_eq_false (by have z := h142; simpa [wordsP] using z))]), hM143.sub sN⟩
        ·
         refine xh 3 [] hM140 (sK (sK sR)) (fun w159 hM160 hS161 => ?_)
         refine yl [0] 1 hS161 pE23 1 rfl (cel_obj b 7) rfl ?_
         refine yv [] 2 (fun W_ hW_ => (show (Builtin.len_ #[23] 3 #[v]).run Tryz.prog W_ = .ok (iN (List.length L)) W_ from f_slen sT23 (hr.kept0 hW_.kept) 3 _)) hS161 ?_
         rcases Bool.eq_false_or_eq_true ((((List.length L) : Nat) : Int) == 0) with h163 | h163
         ·
          have h163p : (((List.length L) : Nat) : Int) = 0 := eq_of_beq h163
          refine ye [3,4] 5 ((((List.length L) : Nat) : Int) == 0) true h163 hS161 ?_
          refine yv [] 6 (fun W_ hW_ => (show (Instr.loadAt 25 (pq b)).run Tryz.prog W_ = .ok (.agg #[.int .i64 (h.op), sS (h.field), sS (h.text), .int .i64 (h.edits), .int .i64 (h.exact), .int .u64 (h.lo), .int .u64 (h.hi), v]) W_ from c_loads (ys := [.int .i64 (h.op), sS (h.field), sS (h.text), .int .i64 (h.edits), .int .i64 (h.exact), .int .u64 (h.lo), .int .u64 (h.hi), v]) aE25 (hW_.rd 1 rfl) (cel_obj b 0) rfl (lq rfl))) hS161 ?_
          refine yv [] 8 (fun W_ hW_ => (show (Instr.loadAt 25 (pq b2)).run Tryz.prog W_ = .ok (.agg #[.int .i64 (h.op), sS (h.field), sS (h.text), .int .i64 0, .int .i64 0, .int .u64 0, .int .u64 0, v]) W_ from c_loads (ys := [.int .i64 (h.op), sS (h.field), sS (h.text), .int .i64 0, .int .i64 0, .int .u64 0, .int .u64 0, v]) aE25 (hW_.rd 0 rfl) (cel_obj b2 0) rfl (lq rfl))) hS161 ?_
          refine yck [] 7 (flat_c (w := w159) h v) hS161 (fun w164 m165 => ?_)
          have hM166 : Mem [] w0 w164 [⟨25, 8, (obj b2), 1, [.int .i64 (h.op), sS (h.field), sS (h.text), .int .i64 0, .int .i64 0, .int .u64 0, .int .u64 0, v]⟩, ⟨25, 8, (obj b), 1, [.int .i64 (h.op), sS (h.field), sS (h.text), .int .i64 (h.edits), .int .i64 (h.exact), .int .u64 (h.lo), .int .u64 (h.hi), v]⟩] := Mem.join (R := []) hM160 m165
          have hS167 := hM166.sub (sK (sK sR))
          refine ⟨hS167, ?_⟩
          refine yck [] 9 (flat_c (w := w164) (Hd.mk (h.op) (h.field) (h.text) 0 0 0 0) v) hS167 (fun w168 m169 => ?_)
          have hM170 : Mem [] w0 w168 [⟨25, 8, (obj b2), 1, [.int .i64 (h.op), sS (h.field), sS (h.text), .int .i64 0, .int .i64 0, .int .u64 0, .int .u64 0, v]⟩, ⟨25, 8, (obj b), 1, [.int .i64 (h.op), sS (h.field), sS (h.text), .int .i64 (h.edits), .int .i64 (h.exact), .int .u64 (h.lo), .int .u64 (h.hi), v]⟩] := Mem.join (R := []) hM166 m169
          have hS171 := hM170.sub (sK (sK sR))
          refine ⟨hS171, ?_⟩
          refine yp [] 10 (.bool (nothP h true false false)) (fun W_ hW_ => (show Tryz.prog.eqGuardType Tryz.prog.depth 68 = false ∧ (binOp .eql 68 (.agg #[.int .i64 (h.op), sS (h.field), sS (h.text), .int .i64 (h.edits), .int .i64 (h.exact), .int .u64 (h.lo), .int .u64 (h.hi)]) (.agg #[.int .i64 (h.op), sS (h.field), sS (h.text), .int .i64 0, .int .i64 0, .int .u64 0, .int .u64 0])).run Tryz.prog W_ = .ok (.bool (nothP h true false false)) W_ from f_ageq eT68 (xs := [.int .i64 (h.op), sS (h.field), sS (h.text), .int .i64 (h.edits), .int .i64 (h.exact), .int .u64 (h.lo), .int .u64 (h.hi)]) (ys := [.int .i64 (h.op), sS (h.field), sS (h.text), .int .i64 0, .int .i64 0, .int .u64 0, .int .u64 0]) (r := ((h.op == h.op) && (((sb (h.field)).toList == (sb (h.field)).toList) && (((sb (h.text)).toList == (sb (h.text)).toList) && ((h.edits == 0) && ((h.exact == 0) && ((h.lo == 0) && ((h.hi == 0) && true)))))))) (by kernel_rfl) (noth_t h))) hS171 ?_
          refine ydp [11,12] hS171 ?_
          have hM172 := hM170.sub (sD (sD sR))
          refine xr0 0 (v := .bool (nothP h true false false)) Tryz.func28 ?_
          rw [hR]
          have hall : rightL q.l = true := by rw [← tk_all (l := q.l) (i := i) (by omega)]; exact hRt
          have hro := right_of hall
          rw [← he] at hro
          exact ⟨ret_bool (by rw [hro, node_word (by omega) (by have z := h136; simpa using z) (of_decide_eq_true (by have z := h142; simpa [wordsP] using z)) (by omega), if_neg (by omega)]), hM172.sub sN⟩
         ·
          have h163p : ¬ ((((List.length L) : Nat) : Int) = 0) := p_ne h163
          refine ye [3,4] 5 ((((List.length L) : Nat) : Int) == 0) false h163 hS161 ?_
          refine ydp [6,7,8,9,10,11,12] hS161 ?_
          have hM173 := hM160.sub (sD (sD sR))
          refine xr0 0 (v := .bool false) Tryz.func28 ?_
          rw [hR]
          have hall : rightL q.l = true := by rw [← tk_all (l := q.l) (i := i) (by omega)]; exact hRt
          have hro := right_of hall
          rw [← he] at hro
          exact ⟨ret_bool (by rw [hro, node_many (by omega) (by omega)]), hM173.sub sN⟩
     ·
      have h97 : (h.op == 2) = false := by simpa using h97p
      rw [h17] at h97; cases h97
    ·
     refine xc 5 (h.op = 3) (fun h18p => ?_) (fun h18p => ?_)
     ·
      have h18 : (h.op == 3) = true := by simpa using h18p
      refine xc 1 (h.op = 3) (fun h174p => ?_) (fun h174p => ?_)
      ·
       refine xh 1 [7] hM9 (sD (sK sR)) (fun w175 hM176 hS177 => ?_)
       refine yl [0] 1 hS177 pE9 0 rfl (cel_obj b 1) rfl ?_
       refine yl [2] 3 hS177 pE9 0 rfl (cel_obj b 2) rfl ?_
       refine yst [4] 5 (c_store (E := 9) (u := sS (h.field)) (by kernel_rfl) hM176 0 rfl (cel_obj b2 1) (by decide) rfl rfl) hS177 (fun _ h_ => h_.sub (sD (sK sR))) (fun w179 hM181 hS183 => ?_)
       refine ysw [6] 7 (c_store (E := 9) (u := sS (h.text)) (by kernel_rfl) hM181 0 rfl (cel_obj b2 2) (by decide) rfl rfl) hS183 (fun w184 hM186 => ?_)
       refine yd ?_
       refine xv 4 (c_load pE3 (hM186.rd 1 rfl) (cel_obj b 0) rfl) ?_
       refine xc 2 (h.op = 4) (fun h189p => ?_) (fun h189p => ?_)
       ·
        refine xh 0 [7] hM186 (sD (sK sR)) (fun w190 hM191 hS192 => ?_)
        refine yl [0] 1 hS192 pE3 0 rfl (cel_obj b 3) rfl ?_
        refine yl [2] 3 hS192 pE3 0 rfl (cel_obj b 4) rfl ?_
        refine yst [4] 5 (c_store (E := 3) (u := .int .i64 (h.edits)) (by kernel_rfl) hM191 0 rfl (cel_obj b2 3) (by decide) rfl rfl) hS192 (fun _ h_ => h_.sub (sD (sK sR))) (fun w194 hM196 hS198 => ?_)
        refine ysw [6] 7 (c_store (E := 3) (u := .int .i64 (h.exact)) (by kernel_rfl) hM196 0 rfl (cel_obj b2 4) (by decide) rfl rfl) hS198 (fun w199 hM201 => ?_)
        refine yd ?_
        refine xv 3 (c_load pE9 (hM201.rd 1 rfl) (cel_obj b 1) rfl) ?_
        refine xka 0 (name_c (h.field) (by rw [he]; omega) w199) ?_
        refine xf 2 50 (!(nameP (h.field))) (fun h204 => ?_) (fun h204 => ?_)
        ·
         have hM209 := hM201.sub (sD (sD sR))
         refine xr0 10 (v := .bool false) Tryz.func28 ?_
         rw [hR]
         have hall : rightL q.l = true := by rw [← tk_all (l := q.l) (i := i) (by omega)]; exact hRt
         have hro := right_of hall
         rw [← he] at hro
         exact ⟨ret_bool (by rw [hro, node_name (by omega) (by have z := h204; simpa using z)]), hM209.sub sN⟩
        ·
         refine xv 0 (c_loads (ys := [.int .i64 (h.op), sS (h.field), sS (h.text), .int .i64 (h.edits), .int .i64 (h.exact), .int .u64 (h.lo), .int .u64 (h.hi), v]) aE25 (hM201.rd 1 rfl) (cel_obj b 0) rfl (lq rfl)) ?_
         refine xk 0 (words_c q h he v (hq.kept hM201.kept) (by omega)) (fun w206 m207 => ?_)
         have hM208 : Mem [] w0 w206 [⟨25, 8, (obj b2), 1, [.int .i64 (h.op), sS (h.field), sS (h.text), .int .i64 (h.edits), .int .i64 (h.exact), .int .u64 0, .int .u64 0, v]⟩, ⟨25, 8, (obj b), 1, [.int .i64 (h.op), sS (h.field), sS (h.text), .int .i64 (h.edits), .int .i64 (h.exact), .int .u64 (h.lo), .int .u64 (h.hi), v]⟩] := Mem.join (R := []) hM201 m207
         refine xb 3 (!(wordsP h)) (fun h210 => ?_) (fun h210 => ?_)
         ·
          have hM211 := hM208.sub (sD (sD sR))
          refine xr0 4 (v := .bool false) Tryz.func28 ?_
          rw [hR]
          have hall : rightL q.l = true := by rw [← tk_all (l := q.l) (i := i) (by omega)]; exact hRt
          have hro := right_of hall
          rw [← he] at hro
          exact ⟨ret_bool (by rw [hro, node_noword (by omega) (of_decide_eq_false (by have z := h210; simpa [wordsP] using z))]), hM211.sub sN⟩
         ·
          refine xh 3 [] hM208 (sK (sK sR)) (fun w221 hM222 hS223 => ?_)
          refine yl [0] 1 hS223 pE23 1 rfl (cel_obj b 7) rfl ?_
          refine yv [] 2 (fun W_ hW_ => (show (Builtin.len_ #[23] 3 #[v]).run Tryz.prog W_ = .ok (iN (List.length L)) W_ from f_slen sT23 (hr.kept0 hW_.kept) 3 _)) hS223 ?_
          rcases Bool.eq_false_or_eq_true ((((List.length L) : Nat) : Int) == 0) with h225 | h225
          ·
           have h225p : (((List.length L) : Nat) : Int) = 0 := eq_of_beq h225
           refine ye [3,4] 5 ((((List.length L) : Nat) : Int) == 0) true h225 hS223 ?_
           refine yv [] 6 (fun W_ hW_ => (show (Instr.loadAt 25 (pq b)).run Tryz.prog W_ = .ok (.agg #[.int .i64 (h.op), sS (h.field), sS (h.text), .int .i64 (h.edits), .int .i64 (h.exact), .int .u64 (h.lo), .int .u64 (h.hi), v]) W_ from c_loads (ys := [.int .i64 (h.op), sS (h.field), sS (h.text), .int .i64 (h.edits), .int .i64 (h.exact), .int .u64 (h.lo), .int .u64 (h.hi), v]) aE25 (hW_.rd 1 rfl) (cel_obj b 0) rfl (lq rfl))) hS223 ?_
           refine yv [] 8 (fun W_ hW_ => (show (Instr.loadAt 25 (pq b2)).run Tryz.prog W_ = .ok (.agg #[.int .i64 (h.op), sS (h.field), sS (h.text), .int .i64 (h.edits), .int .i64 (h.exact), .int .u64 0, .int .u64 0, v]) W_ from c_loads (ys := [.int .i64 (h.op), sS (h.field), sS (h.text), .int .i64 (h.edits), .int .i64 (h.exact), .int .u64 0, .int .u64 0, v]) aE25 (hW_.rd 0 rfl) (cel_obj b2 0) rfl (lq rfl))) hS223 ?_
           refine yck [] 7 (flat_c (w := w221) h v) hS223 (fun w226 m227 => ?_)
           have hM228 : Mem [] w0 w226 [⟨25, 8, (obj b2), 1, [.int .i64 (h.op), sS (h.field), sS (h.text), .int .i64 (h.edits), .int .i64 (h.exact), .int .u64 0, .int .u64 0, v]⟩, ⟨25, 8, (obj b), 1, [.int .i64 (h.op), sS (h.field), sS (h.text), .int .i64 (h.edits), .int .i64 (h.exact), .int .u64 (h.lo), .int .u64 (h.hi), v]⟩] := Mem.join (R := []) hM222 m227
           have hS229 := hM228.sub (sK (sK sR))
           refine ⟨hS229, ?_⟩
           refine yck [] 9 (flat_c (w := w226) (Hd.mk (h.op) (h.field) (h.text) (h.edits) (h.exact) 0 0) v) hS229 (fun w230 m231 => ?_)
           have hM232 : Mem [] w0 w230 [⟨25, 8, (obj b2), 1, [.int .i64 (h.op), sS (h.field), sS (h.text), .int .i64 (h.edits), .int .i64 (h.exact), .int .u64 0, .int .u64 0, v]⟩, ⟨25, 8, (obj b), 1, [.int .i64 (h.op), sS (h.field), sS (h.text), .int .i64 (h.edits), .int .i64 (h.exact), .int .u64 (h.lo), .int .u64 (h.hi), v]⟩] := Mem.join (R := []) hM228 m231
           have hS233 := hM232.sub (sK (sK sR))
           refine ⟨hS233, ?_⟩
           refine yp [] 10 (.bool (nothP h true true false)) (fun W_ hW_ => (show Tryz.prog.eqGuardType Tryz.prog.depth 68 = false ∧ (binOp .eql 68 (.agg #[.int .i64 (h.op), sS (h.field), sS (h.text), .int .i64 (h.edits), .int .i64 (h.exact), .int .u64 (h.lo), .int .u64 (h.hi)]) (.agg #[.int .i64 (h.op), sS (h.field), sS (h.text), .int .i64 (h.edits), .int .i64 (h.exact), .int .u64 0, .int .u64 0])).run Tryz.prog W_ = .ok (.bool (nothP h true true false)) W_ from f_ageq eT68 (xs := [.int .i64 (h.op), sS (h.field), sS (h.text), .int .i64 (h.edits), .int .i64 (h.exact), .int .u64 (h.lo), .int .u64 (h.hi)]) (ys := [.int .i64 (h.op), sS (h.field), sS (h.text), .int .i64 (h.edits), .int .i64 (h.exact), .int .u64 0, .int .u64 0]) (r := ((h.op == h.op) && (((sb (h.field)).toList == (sb (h.field)).toList) && (((sb (h.text)).toList == (sb (h.text)).toList) && ((h.edits == h.edits) && ((h.exact == h.exact) && ((h.lo == 0) && ((h.hi == 0) && true)))))))) (by kernel_rfl) (noth_f h))) hS233 ?_
           refine ydp [11,12] hS233 ?_
           have hM234 := hM232.sub (sD (sD sR))
           refine xr0 0 (v := .bool (nothP h true true false)) Tryz.func28 ?_
           rw [hR]
           have hall : rightL q.l = true := by rw [← tk_all (l := q.l) (i := i) (by omega)]; exact hRt
           have hro := right_of hall
           rw [← he] at hro
           exact ⟨ret_bool (by rw [hro, node_word (by omega) (by have z := h204; simpa using z) (of_decide_eq_true (by have z := h210; simpa [wordsP] using z)) (by omega), if_pos (by omega)]), hM234.sub sN⟩
          ·
           have h225p : ¬ ((((List.length L) : Nat) : Int) = 0) := p_ne h225
           refine ye [3,4] 5 ((((List.length L) : Nat) : Int) == 0) false h225 hS223 ?_
           refine ydp [6,7,8,9,10,11,12] hS223 ?_
           have hM235 := hM222.sub (sD (sD sR))
           refine xr0 0 (v := .bool false) Tryz.func28 ?_
           rw [hR]
           have hall : rightL q.l = true := by rw [← tk_all (l := q.l) (i := i) (by omega)]; exact hRt
           have hro := right_of hall
           rw [← he] at hro
           exact ⟨ret_bool (by rw [hro, node_many (by omega) (by omega)]), hM235.sub sN⟩
       ·
        refine xv 4 (c_load pE9 (hM186.rd 1 rfl) (cel_obj b 1) rfl) ?_
        refine xka 0 (name_c (h.field) (by rw [he]; omega) w184) ?_
        refine xf 2 50 (!(nameP (h.field))) (fun h213 => ?_) (fun h213 => ?_)
        ·
         have hM218 := hM186.sub (sD (sD sR))
         refine xr0 10 (v := .bool false) Tryz.func28 ?_
         rw [hR]
         have hall : rightL q.l = true := by rw [← tk_all (l := q.l) (i := i) (by omega)]; exact hRt
         have hro := right_of hall
         rw [← he] at hro
         exact ⟨ret_bool (by rw [hro, node_name (by omega) (by have z := h213; simpa using z)]), hM218.sub sN⟩
        ·
         refine xv 0 (c_loads (ys := [.int .i64 (h.op), sS (h.field), sS (h.text), .int .i64 (h.edits), .int .i64 (h.exact), .int .u64 (h.lo), .int .u64 (h.hi), v]) aE25 (hM186.rd 1 rfl) (cel_obj b 0) rfl (lq rfl)) ?_
         refine xk 0 (words_c q h he v (hq.kept hM186.kept) (by omega)) (fun w215 m216 => ?_)
         have hM217 : Mem [] w0 w215 [⟨25, 8, (obj b2), 1, [.int .i64 (h.op), sS (h.field), sS (h.text), .int .i64 0, .int .i64 0, .int .u64 0, .int .u64 0, v]⟩, ⟨25, 8, (obj b), 1, [.int .i64 (h.op), sS (h.field), sS (h.text), .int .i64 (h.edits), .int .i64 (h.exact), .int .u64 (h.lo), .int .u64 (h.hi), v]⟩] := Mem.join (R := []) hM186 m216
         refine xb 3 (!(wordsP h)) (fun h219 => ?_) (fun h219 => ?_)
         ·
          have hM220 := hM217.sub (sD (sD sR))
          refine xr0 4 (v := .bool false) Tryz.func28 ?_
          rw [hR]
          have hall : rightL q.l = true := by rw [← tk_all (l := q.l) (i := i) (by omega)]; exact hRt
          have hro := right_of hall
          rw [← he] at hro
          exact ⟨ret_bool (by rw [hro, node_noword (by omega) (of_decide_eq_false (by have z := h219; simpa [wordsP] using z))]), hM220.sub sN⟩
         ·
          refine xh 3 [] hM217 (sK (sK sR)) (fun w236 hM237 hS238 => ?_)
          refine yl [0] 1 hS238 pE23 1 rfl (cel_obj b 7) rfl ?_
          refine yv [] 2 (fun W_ hW_ => (show (Builtin.len_ #[23] 3 #[v]).run Tryz.prog W_ = .ok (iN (List.length L)) W_ from f_slen sT23 (hr.kept0 hW_.kept) 3 _)) hS238 ?_
          rcases Bool.eq_false_or_eq_true ((((List.length L) : Nat) : Int) == 0) with h240 | h240
          ·
           have h240p : (((List.length L) : Nat) : Int) = 0 := eq_of_beq h240
           refine ye [3,4] 5 ((((List.length L) : Nat) : Int) == 0) true h240 hS238 ?_
           refine yv [] 6 (fun W_ hW_ => (show (Instr.loadAt 25 (pq b)).run Tryz.prog W_ = .ok (.agg #[.int .i64 (h.op), sS (h.field), sS (h.text), .int .i64 (h.edits), .int .i64 (h.exact), .int .u64 (h.lo), .int .u64 (h.hi), v]) W_ from c_loads (ys := [.int .i64 (h.op), sS (h.field), sS (h.text), .int .i64 (h.edits), .int .i64 (h.exact), .int .u64 (h.lo), .int .u64 (h.hi), v]) aE25 (hW_.rd 1 rfl) (cel_obj b 0) rfl (lq rfl))) hS238 ?_
           refine yv [] 8 (fun W_ hW_ => (show (Instr.loadAt 25 (pq b2)).run Tryz.prog W_ = .ok (.agg #[.int .i64 (h.op), sS (h.field), sS (h.text), .int .i64 0, .int .i64 0, .int .u64 0, .int .u64 0, v]) W_ from c_loads (ys := [.int .i64 (h.op), sS (h.field), sS (h.text), .int .i64 0, .int .i64 0, .int .u64 0, .int .u64 0, v]) aE25 (hW_.rd 0 rfl) (cel_obj b2 0) rfl (lq rfl))) hS238 ?_
           refine yck [] 7 (flat_c (w := w236) h v) hS238 (fun w241 m242 => ?_)
           have hM243 : Mem [] w0 w241 [⟨25, 8, (obj b2), 1, [.int .i64 (h.op), sS (h.field), sS (h.text), .int .i64 0, .int .i64 0, .int .u64 0, .int .u64 0, v]⟩, ⟨25, 8, (obj b), 1, [.int .i64 (h.op), sS (h.field), sS (h.text), .int .i64 (h.edits), .int .i64 (h.exact), .int .u64 (h.lo), .int .u64 (h.hi), v]⟩] := Mem.join (R := []) hM237 m242
           have hS244 := hM243.sub (sK (sK sR))
           refine ⟨hS244, ?_⟩
           refine yck [] 9 (flat_c (w := w241) (Hd.mk (h.op) (h.field) (h.text) 0 0 0 0) v) hS244 (fun w245 m246 => ?_)
           have hM247 : Mem [] w0 w245 [⟨25, 8, (obj b2), 1, [.int .i64 (h.op), sS (h.field), sS (h.text), .int .i64 0, .int .i64 0, .int .u64 0, .int .u64 0, v]⟩, ⟨25, 8, (obj b), 1, [.int .i64 (h.op), sS (h.field), sS (h.text), .int .i64 (h.edits), .int .i64 (h.exact), .int .u64 (h.lo), .int .u64 (h.hi), v]⟩] := Mem.join (R := []) hM243 m246
           have hS248 := hM247.sub (sK (sK sR))
           refine ⟨hS248, ?_⟩
           refine yp [] 10 (.bool (nothP h true false false)) (fun W_ hW_ => (show Tryz.prog.eqGuardType Tryz.prog.depth 68 = false ∧ (binOp .eql 68 (.agg #[.int .i64 (h.op), sS (h.field), sS (h.text), .int .i64 (h.edits), .int .i64 (h.exact), .int .u64 (h.lo), .int .u64 (h.hi)]) (.agg #[.int .i64 (h.op), sS (h.field), sS (h.text), .int .i64 0, .int .i64 0, .int .u64 0, .int .u64 0])).run Tryz.prog W_ = .ok (.bool (nothP h true false false)) W_ from f_ageq eT68 (xs := [.int .i64 (h.op), sS (h.field), sS (h.text), .int .i64 (h.edits), .int .i64 (h.exact), .int .u64 (h.lo), .int .u64 (h.hi)]) (ys := [.int .i64 (h.op), sS (h.field), sS (h.text), .int .i64 0, .int .i64 0, .int .u64 0, .int .u64 0]) (r := ((h.op == h.op) && (((sb (h.field)).toList == (sb (h.field)).toList) && (((sb (h.text)).toList == (sb (h.text)).toList) && ((h.edits == 0) && ((h.exact == 0) && ((h.lo == 0) && ((h.hi == 0) && true)))))))) (by kernel_rfl) (noth_t h))) hS248 ?_
           refine ydp [11,12] hS248 ?_
           have hM249 := hM247.sub (sD (sD sR))
           refine xr0 0 (v := .bool (nothP h true false false)) Tryz.func28 ?_
           rw [hR]
           have hall : rightL q.l = true := by rw [← tk_all (l := q.l) (i := i) (by omega)]; exact hRt
           have hro := right_of hall
           rw [← he] at hro
           exact ⟨ret_bool (by rw [hro, node_word (by omega) (by have z := h213; simpa using z) (of_decide_eq_true (by have z := h219; simpa [wordsP] using z)) (by omega), if_neg (by omega)]), hM249.sub sN⟩
          ·
           have h240p : ¬ ((((List.length L) : Nat) : Int) = 0) := p_ne h240
           refine ye [3,4] 5 ((((List.length L) : Nat) : Int) == 0) false h240 hS238 ?_
           refine ydp [6,7,8,9,10,11,12] hS238 ?_
           have hM250 := hM237.sub (sD (sD sR))
           refine xr0 0 (v := .bool false) Tryz.func28 ?_
           rw [hR]
           have hall : rightL q.l = true := by rw [← tk_all (l := q.l) (i := i) (by omega)]; exact hRt
           have hro := right_of hall
           rw [← he] at hro
           exact ⟨ret_bool (by rw [hro, node_many (by omega) (by omega)]), hM250.sub sN⟩
      ·
       have h174 : (h.op == 3) = false := by simpa using h174p
       rw [h18] at h174; cases h174
     ·
      refine xc 5 (h.op = 4) (fun h19p => ?_) (fun h19p => ?_)
      ·
       have h19 : (h.op == 4) = true := by simpa using h19p
       refine xc 1 (h.op = 4) (fun h251p => ?_) (fun h251p => ?_)
       ·
        refine xh 1 [7] hM9 (sD (sK sR)) (fun w252 hM253 hS254 => ?_)
        refine yl [0] 1 hS254 pE9 0 rfl (cel_obj b 1) rfl ?_
        refine yl [2] 3 hS254 pE9 0 rfl (cel_obj b 2) rfl ?_
        refine yst [4] 5 (c_store (E := 9) (u := sS (h.field)) (by kernel_rfl) hM253 0 rfl (cel_obj b2 1) (by decide) rfl rfl) hS254 (fun _ h_ => h_.sub (sD (sK sR))) (fun w256 hM258 hS260 => ?_)
        refine ysw [6] 7 (c_store (E := 9) (u := sS (h.text)) (by kernel_rfl) hM258 0 rfl (cel_obj b2 2) (by decide) rfl rfl) hS260 (fun w261 hM263 => ?_)
        refine yd ?_
        refine xv 4 (c_load pE3 (hM263.rd 1 rfl) (cel_obj b 0) rfl) ?_
        refine xc 2 (h.op = 4) (fun h266p => ?_) (fun h266p => ?_)
        ·
         refine xh 0 [7] hM263 (sD (sK sR)) (fun w267 hM268 hS269 => ?_)
         refine yl [0] 1 hS269 pE3 0 rfl (cel_obj b 3) rfl ?_
         refine yl [2] 3 hS269 pE3 0 rfl (cel_obj b 4) rfl ?_
         refine yst [4] 5 (c_store (E := 3) (u := .int .i64 (h.edits)) (by kernel_rfl) hM268 0 rfl (cel_obj b2 3) (by decide) rfl rfl) hS269 (fun _ h_ => h_.sub (sD (sK sR))) (fun w271 hM273 hS275 => ?_)
         refine ysw [6] 7 (c_store (E := 3) (u := .int .i64 (h.exact)) (by kernel_rfl) hM273 0 rfl (cel_obj b2 4) (by decide) rfl rfl) hS275 (fun w276 hM278 => ?_)
         refine yd ?_
         refine xv 3 (c_load pE9 (hM278.rd 1 rfl) (cel_obj b 1) rfl) ?_
         refine xka 0 (name_c (h.field) (by rw [he]; omega) w276) ?_
         refine xf 2 50 (!(nameP (h.field))) (fun h281 => ?_) (fun h281 => ?_)
         ·
          have hM286 := hM278.sub (sD (sD sR))
          refine xr0 10 (v := .bool false) Tryz.func28 ?_
          rw [hR]
          have hall : rightL q.l = true := by rw [← tk_all (l := q.l) (i := i) (by omega)]; exact hRt
          have hro := right_of hall
          rw [← he] at hro
          exact ⟨ret_bool (by rw [hro, node_name (by omega) (by have z := h281; simpa using z)]), hM286.sub sN⟩
         ·
          refine xv 0 (c_loads (ys := [.int .i64 (h.op), sS (h.field), sS (h.text), .int .i64 (h.edits), .int .i64 (h.exact), .int .u64 (h.lo), .int .u64 (h.hi), v]) aE25 (hM278.rd 1 rfl) (cel_obj b 0) rfl (lq rfl)) ?_
          refine xk 0 (words_c q h he v (hq.kept hM278.kept) (by omega)) (fun w283 m284 => ?_)
          have hM285 : Mem [] w0 w283 [⟨25, 8, (obj b2), 1, [.int .i64 (h.op), sS (h.field), sS (h.text), .int .i64 (h.edits), .int .i64 (h.exact), .int .u64 0, .int .u64 0, v]⟩, ⟨25, 8, (obj b), 1, [.int .i64 (h.op), sS (h.field), sS (h.text), .int .i64 (h.edits), .int .i64 (h.exact), .int .u64 (h.lo), .int .u64 (h.hi), v]⟩] := Mem.join (R := []) hM278 m284
          refine xb 3 (!(wordsP h)) (fun h287 => ?_) (fun h287 => ?_)
          ·
           have hM288 := hM285.sub (sD (sD sR))
           refine xr0 4 (v := .bool false) Tryz.func28 ?_
           rw [hR]
           have hall : rightL q.l = true := by rw [← tk_all (l := q.l) (i := i) (by omega)]; exact hRt
           have hro := right_of hall
           rw [← he] at hro
           exact ⟨ret_bool (by rw [hro, node_noword (by omega) (of_decide_eq_false (by have z := h287; simpa [wordsP] using z))]), hM288.sub sN⟩
          ·
           refine xh 3 [] hM285 (sK (sK sR)) (fun w289 hM290 hS291 => ?_)
           refine yl [0] 1 hS291 pE23 1 rfl (cel_obj b 7) rfl ?_
           refine yv [] 2 (fun W_ hW_ => (show (Builtin.len_ #[23] 3 #[v]).run Tryz.prog W_ = .ok (iN (List.length L)) W_ from f_slen sT23 (hr.kept0 hW_.kept) 3 _)) hS291 ?_
           rcases Bool.eq_false_or_eq_true ((((List.length L) : Nat) : Int) == 0) with h293 | h293
           ·
            have h293p : (((List.length L) : Nat) : Int) = 0 := eq_of_beq h293
            refine ye [3,4] 5 ((((List.length L) : Nat) : Int) == 0) true h293 hS291 ?_
            refine yv [] 6 (fun W_ hW_ => (show (Instr.loadAt 25 (pq b)).run Tryz.prog W_ = .ok (.agg #[.int .i64 (h.op), sS (h.field), sS (h.text), .int .i64 (h.edits), .int .i64 (h.exact), .int .u64 (h.lo), .int .u64 (h.hi), v]) W_ from c_loads (ys := [.int .i64 (h.op), sS (h.field), sS (h.text), .int .i64 (h.edits), .int .i64 (h.exact), .int .u64 (h.lo), .int .u64 (h.hi), v]) aE25 (hW_.rd 1 rfl) (cel_obj b 0) rfl (lq rfl))) hS291 ?_
            refine yv [] 8 (fun W_ hW_ => (show (Instr.loadAt 25 (pq b2)).run Tryz.prog W_ = .ok (.agg #[.int .i64 (h.op), sS (h.field), sS (h.text), .int .i64 (h.edits), .int .i64 (h.exact), .int .u64 0, .int .u64 0, v]) W_ from c_loads (ys := [.int .i64 (h.op), sS (h.field), sS (h.text), .int .i64 (h.edits), .int .i64 (h.exact), .int .u64 0, .int .u64 0, v]) aE25 (hW_.rd 0 rfl) (cel_obj b2 0) rfl (lq rfl))) hS291 ?_
            refine yck [] 7 (flat_c (w := w289) h v) hS291 (fun w294 m295 => ?_)
            have hM296 : Mem [] w0 w294 [⟨25, 8, (obj b2), 1, [.int .i64 (h.op), sS (h.field), sS (h.text), .int .i64 (h.edits), .int .i64 (h.exact), .int .u64 0, .int .u64 0, v]⟩, ⟨25, 8, (obj b), 1, [.int .i64 (h.op), sS (h.field), sS (h.text), .int .i64 (h.edits), .int .i64 (h.exact), .int .u64 (h.lo), .int .u64 (h.hi), v]⟩] := Mem.join (R := []) hM290 m295
            have hS297 := hM296.sub (sK (sK sR))
            refine ⟨hS297, ?_⟩
            refine yck [] 9 (flat_c (w := w294) (Hd.mk (h.op) (h.field) (h.text) (h.edits) (h.exact) 0 0) v) hS297 (fun w298 m299 => ?_)
            have hM300 : Mem [] w0 w298 [⟨25, 8, (obj b2), 1, [.int .i64 (h.op), sS (h.field), sS (h.text), .int .i64 (h.edits), .int .i64 (h.exact), .int .u64 0, .int .u64 0, v]⟩, ⟨25, 8, (obj b), 1, [.int .i64 (h.op), sS (h.field), sS (h.text), .int .i64 (h.edits), .int .i64 (h.exact), .int .u64 (h.lo), .int .u64 (h.hi), v]⟩] := Mem.join (R := []) hM296 m299
            have hS301 := hM300.sub (sK (sK sR))
            refine ⟨hS301, ?_⟩
            refine yp [] 10 (.bool (nothP h true true false)) (fun W_ hW_ => (show Tryz.prog.eqGuardType Tryz.prog.depth 68 = false ∧ (binOp .eql 68 (.agg #[.int .i64 (h.op), sS (h.field), sS (h.text), .int .i64 (h.edits), .int .i64 (h.exact), .int .u64 (h.lo), .int .u64 (h.hi)]) (.agg #[.int .i64 (h.op), sS (h.field), sS (h.text), .int .i64 (h.edits), .int .i64 (h.exact), .int .u64 0, .int .u64 0])).run Tryz.prog W_ = .ok (.bool (nothP h true true false)) W_ from f_ageq eT68 (xs := [.int .i64 (h.op), sS (h.field), sS (h.text), .int .i64 (h.edits), .int .i64 (h.exact), .int .u64 (h.lo), .int .u64 (h.hi)]) (ys := [.int .i64 (h.op), sS (h.field), sS (h.text), .int .i64 (h.edits), .int .i64 (h.exact), .int .u64 0, .int .u64 0]) (r := ((h.op == h.op) && (((sb (h.field)).toList == (sb (h.field)).toList) && (((sb (h.text)).toList == (sb (h.text)).toList) && ((h.edits == h.edits) && ((h.exact == h.exact) && ((h.lo == 0) && ((h.hi == 0) && true)))))))) (by kernel_rfl) (noth_f h))) hS301 ?_
            refine ydp [11,12] hS301 ?_
            have hM302 := hM300.sub (sD (sD sR))
            refine xr0 0 (v := .bool (nothP h true true false)) Tryz.func28 ?_
            rw [hR]
            have hall : rightL q.l = true := by rw [← tk_all (l := q.l) (i := i) (by omega)]; exact hRt
            have hro := right_of hall
            rw [← he] at hro
            exact ⟨ret_bool (by rw [hro, node_word (by omega) (by have z := h281; simpa using z) (of_decide_eq_true (by have z := h287; simpa [wordsP] using z)) (by omega), if_pos (by omega)]), hM302.sub sN⟩
           ·
            have h293p : ¬ ((((List.length L) : Nat) : Int) = 0) := p_ne h293
            refine ye [3,4] 5 ((((List.length L) : Nat) : Int) == 0) false h293 hS291 ?_
            refine ydp [6,7,8,9,10,11,12] hS291 ?_
            have hM303 := hM290.sub (sD (sD sR))
            refine xr0 0 (v := .bool false) Tryz.func28 ?_
            rw [hR]
            have hall : rightL q.l = true := by rw [← tk_all (l := q.l) (i := i) (by omega)]; exact hRt
            have hro := right_of hall
            rw [← he] at hro
            exact ⟨ret_bool (by rw [hro, node_many (by omega) (by omega)]), hM303.sub sN⟩
        ·
         have h266 : (h.op == 4) = false := by simpa using h266p
         rw [h19] at h266; cases h266
       ·
        have h251 : (h.op == 4) = false := by simpa using h251p
        rw [h19] at h251; cases h251
      ·
       have h19 : (h.op == 4) = false := by simpa using h19p
       refine xc 4 (h.op = 5) (fun h304p => ?_) (fun h304p => ?_)
       ·
        refine xh 1 [7] hM9 (sD (sK sR)) (fun w305 hM306 hS307 => ?_)
        refine yl [0] 1 hS307 pE9 0 rfl (cel_obj b 1) rfl ?_
        refine yl [2] 3 hS307 pE9 0 rfl (cel_obj b 2) rfl ?_
        refine yst [4] 5 (c_store (E := 9) (u := sS (h.field)) (by kernel_rfl) hM306 0 rfl (cel_obj b2 1) (by decide) rfl rfl) hS307 (fun _ h_ => h_.sub (sD (sK sR))) (fun w309 hM311 hS313 => ?_)
        refine ysw [6] 7 (c_store (E := 9) (u := sS (h.text)) (by kernel_rfl) hM311 0 rfl (cel_obj b2 2) (by decide) rfl rfl) hS313 (fun w314 hM316 => ?_)
        refine yd ?_
        refine xv 4 (c_load pE3 (hM316.rd 1 rfl) (cel_obj b 0) rfl) ?_
        refine xc 2 (h.op = 4) (fun h319p => ?_) (fun h319p => ?_)
        ·
         have h319 : (h.op == 4) = true := by simpa using h319p
         rw [h19] at h319; cases h319
        ·
         refine xv 4 (c_load pE9 (hM316.rd 1 rfl) (cel_obj b 1) rfl) ?_
         refine xka 0 (name_c (h.field) (by rw [he]; omega) w314) ?_
         refine xf 2 50 (!(nameP (h.field))) (fun h321 => ?_) (fun h321 => ?_)
         ·
          have hM326 := hM316.sub (sD (sD sR))
          refine xr0 10 (v := .bool false) Tryz.func28 ?_
          rw [hR]
          have hall : rightL q.l = true := by rw [← tk_all (l := q.l) (i := i) (by omega)]; exact hRt
          have hro := right_of hall
          rw [← he] at hro
          exact ⟨ret_bool (by rw [hro, node_name (by omega) (by have z := h321; simpa using z)]), hM326.sub sN⟩
         ·
          refine xv 0 (c_loads (ys := [.int .i64 (h.op), sS (h.field), sS (h.text), .int .i64 (h.edits), .int .i64 (h.exact), .int .u64 (h.lo), .int .u64 (h.hi), v]) aE25 (hM316.rd 1 rfl) (cel_obj b 0) rfl (lq rfl)) ?_
          refine xk 0 (words_c q h he v (hq.kept hM316.kept) (by omega)) (fun w323 m324 => ?_)
          have hM325 : Mem [] w0 w323 [⟨25, 8, (obj b2), 1, [.int .i64 (h.op), sS (h.field), sS (h.text), .int .i64 0, .int .i64 0, .int .u64 0, .int .u64 0, v]⟩, ⟨25, 8, (obj b), 1, [.int .i64 (h.op), sS (h.field), sS (h.text), .int .i64 (h.edits), .int .i64 (h.exact), .int .u64 (h.lo), .int .u64 (h.hi), v]⟩] := Mem.join (R := []) hM316 m324
          refine xb 3 (!(wordsP h)) (fun h327 => ?_) (fun h327 => ?_)
          ·
           have hM328 := hM325.sub (sD (sD sR))
           refine xr0 4 (v := .bool false) Tryz.func28 ?_
           rw [hR]
           have hall : rightL q.l = true := by rw [← tk_all (l := q.l) (i := i) (by omega)]; exact hRt
           have hro := right_of hall
           rw [← he] at hro
           exact ⟨ret_bool (by rw [hro, node_noword (by omega) (of_decide_eq_false (by have z := h327; simpa [wordsP] using z))]), hM328.sub sN⟩
          ·
           refine xh 3 [] hM325 (sK (sK sR)) (fun w363 hM364 hS365 => ?_)
           refine yl [0] 1 hS365 pE23 1 rfl (cel_obj b 7) rfl ?_
           refine yv [] 2 (fun W_ hW_ => (show (Builtin.len_ #[23] 3 #[v]).run Tryz.prog W_ = .ok (iN (List.length L)) W_ from f_slen sT23 (hr.kept0 hW_.kept) 3 _)) hS365 ?_
           rcases Bool.eq_false_or_eq_true ((((List.length L) : Nat) : Int) == 0) with h367 | h367
           ·
            have h367p : (((List.length L) : Nat) : Int) = 0 := eq_of_beq h367
            refine ye [3,4] 5 ((((List.length L) : Nat) : Int) == 0) true h367 hS365 ?_
            refine yv [] 6 (fun W_ hW_ => (show (Instr.loadAt 25 (pq b)).run Tryz.prog W_ = .ok (.agg #[.int .i64 (h.op), sS (h.field), sS (h.text), .int .i64 (h.edits), .int .i64 (h.exact), .int .u64 (h.lo), .int .u64 (h.hi), v]) W_ from c_loads (ys := [.int .i64 (h.op), sS (h.field), sS (h.text), .int .i64 (h.edits), .int .i64 (h.exact), .int .u64 (h.lo), .int .u64 (h.hi), v]) aE25 (hW_.rd 1 rfl) (cel_obj b 0) rfl (lq rfl))) hS365 ?_
            refine yv [] 8 (fun W_ hW_ => (show (Instr.loadAt 25 (pq b2)).run Tryz.prog W_ = .ok (.agg #[.int .i64 (h.op), sS (h.field), sS (h.text), .int .i64 0, .int .i64 0, .int .u64 0, .int .u64 0, v]) W_ from c_loads (ys := [.int .i64 (h.op), sS (h.field), sS (h.text), .int .i64 0, .int .i64 0, .int .u64 0, .int .u64 0, v]) aE25 (hW_.rd 0 rfl) (cel_obj b2 0) rfl (lq rfl))) hS365 ?_
            refine yck [] 7 (flat_c (w := w363) h v) hS365 (fun w368 m369 => ?_)
            have hM370 : Mem [] w0 w368 [⟨25, 8, (obj b2), 1, [.int .i64 (h.op), sS (h.field), sS (h.text), .int .i64 0, .int .i64 0, .int .u64 0, .int .u64 0, v]⟩, ⟨25, 8, (obj b), 1, [.int .i64 (h.op), sS (h.field), sS (h.text), .int .i64 (h.edits), .int .i64 (h.exact), .int .u64 (h.lo), .int .u64 (h.hi), v]⟩] := Mem.join (R := []) hM364 m369
            have hS371 := hM370.sub (sK (sK sR))
            refine ⟨hS371, ?_⟩
            refine yck [] 9 (flat_c (w := w368) (Hd.mk (h.op) (h.field) (h.text) 0 0 0 0) v) hS371 (fun w372 m373 => ?_)
            have hM374 : Mem [] w0 w372 [⟨25, 8, (obj b2), 1, [.int .i64 (h.op), sS (h.field), sS (h.text), .int .i64 0, .int .i64 0, .int .u64 0, .int .u64 0, v]⟩, ⟨25, 8, (obj b), 1, [.int .i64 (h.op), sS (h.field), sS (h.text), .int .i64 (h.edits), .int .i64 (h.exact), .int .u64 (h.lo), .int .u64 (h.hi), v]⟩] := Mem.join (R := []) hM370 m373
            have hS375 := hM374.sub (sK (sK sR))
            refine ⟨hS375, ?_⟩
            refine yp [] 10 (.bool (nothP h true false false)) (fun W_ hW_ => (show Tryz.prog.eqGuardType Tryz.prog.depth 68 = false ∧ (binOp .eql 68 (.agg #[.int .i64 (h.op), sS (h.field), sS (h.text), .int .i64 (h.edits), .int .i64 (h.exact), .int .u64 (h.lo), .int .u64 (h.hi)]) (.agg #[.int .i64 (h.op), sS (h.field), sS (h.text), .int .i64 0, .int .i64 0, .int .u64 0, .int .u64 0])).run Tryz.prog W_ = .ok (.bool (nothP h true false false)) W_ from f_ageq eT68 (xs := [.int .i64 (h.op), sS (h.field), sS (h.text), .int .i64 (h.edits), .int .i64 (h.exact), .int .u64 (h.lo), .int .u64 (h.hi)]) (ys := [.int .i64 (h.op), sS (h.field), sS (h.text), .int .i64 0, .int .i64 0, .int .u64 0, .int .u64 0]) (r := ((h.op == h.op) && (((sb (h.field)).toList == (sb (h.field)).toList) && (((sb (h.text)).toList == (sb (h.text)).toList) && ((h.edits == 0) && ((h.exact == 0) && ((h.lo == 0) && ((h.hi == 0) && true)))))))) (by kernel_rfl) (noth_t h))) hS375 ?_
            refine ydp [11,12] hS375 ?_
            have hM376 := hM374.sub (sD (sD sR))
            refine xr0 0 (v := .bool (nothP h true false false)) Tryz.func28 ?_
            rw [hR]
            have hall : rightL q.l = true := by rw [← tk_all (l := q.l) (i := i) (by omega)]; exact hRt
            have hro := right_of hall
            rw [← he] at hro
            exact ⟨ret_bool (by rw [hro, node_word (by omega) (by have z := h321; simpa using z) (of_decide_eq_true (by have z := h327; simpa [wordsP] using z)) (by omega), if_neg (by omega)]), hM376.sub sN⟩
           ·
            have h367p : ¬ ((((List.length L) : Nat) : Int) = 0) := p_ne h367
            refine ye [3,4] 5 ((((List.length L) : Nat) : Int) == 0) false h367 hS365 ?_
            refine ydp [6,7,8,9,10,11,12] hS365 ?_
            have hM377 := hM364.sub (sD (sD sR))
            refine xr0 0 (v := .bool false) Tryz.func28 ?_
            rw [hR]
            have hall : rightL q.l = true := by rw [← tk_all (l := q.l) (i := i) (by omega)]; exact hRt
            have hro := right_of hall
            rw [← he] at hro
            exact ⟨ret_bool (by rw [hro, node_many (by omega) (by omega)]), hM377.sub sN⟩
       ·
        refine xc 5 (h.op = 6) (fun h329p => ?_) (fun h329p => ?_)
        ·
         refine xh 1 [11] hM9 (sD (sK sR)) (fun w330 hM331 hS332 => ?_)
         refine yl [0] 1 hS332 pE9 0 rfl (cel_obj b 1) rfl ?_
         refine yl [2] 3 hS332 pE22 0 rfl (cel_obj b 5) rfl ?_
         refine yl [4] 5 hS332 pE22 0 rfl (cel_obj b 6) rfl ?_
         refine yst [6] 7 (c_store (E := 9) (u := sS (h.field)) (by kernel_rfl) hM331 0 rfl (cel_obj b2 1) (by decide) rfl rfl) hS332 (fun _ h_ => h_.sub (sD (sK sR))) (fun w334 hM336 hS338 => ?_)
         refine yst [8] 9 (c_store (E := 22) (u := .int .u64 (h.lo)) (by kernel_rfl) hM336 0 rfl (cel_obj b2 5) (by decide) rfl rfl) hS338 (fun _ h_ => h_.sub (sD (sK sR))) (fun w339 hM341 hS343 => ?_)
         refine ysw [10] 11 (c_store (E := 22) (u := .int .u64 (h.hi)) (by kernel_rfl) hM341 0 rfl (cel_obj b2 6) (by decide) rfl rfl) hS343 (fun w344 hM346 => ?_)
         refine yd ?_
         refine xv 3 (c_load pE9 (hM346.rd 1 rfl) (cel_obj b 1) rfl) ?_
         refine xka 0 (name_c (h.field) (by rw [he]; omega) w344) ?_
         refine xb 2 (!(nameP (h.field))) (fun h349 => ?_) (fun h349 => ?_)
         ·
          have hM350 := hM346.sub (sD (sD sR))
          refine xr0 4 (v := .bool false) Tryz.func28 ?_
          rw [hR]
          have hall : rightL q.l = true := by rw [← tk_all (l := q.l) (i := i) (by omega)]; exact hRt
          have hro := right_of hall
          rw [← he] at hro
          exact ⟨ret_bool (by rw [hro, node_name (by omega) (by have z := h349; simpa using z)]), hM350.sub sN⟩
         ·
          refine xh 3 [] hM346 (sK (sK sR)) (fun w378 hM379 hS380 => ?_)
          refine yl [0] 1 hS380 pE23 1 rfl (cel_obj b 7) rfl ?_
          refine yv [] 2 (fun W_ hW_ => (show (Builtin.len_ #[23] 3 #[v]).run Tryz.prog W_ = .ok (iN (List.length L)) W_ from f_slen sT23 (hr.kept0 hW_.kept) 3 _)) hS380 ?_
          rcases Bool.eq_false_or_eq_true ((((List.length L) : Nat) : Int) == 0) with h382 | h382
          ·
           have h382p : (((List.length L) : Nat) : Int) = 0 := eq_of_beq h382
           refine ye [3,4] 5 ((((List.length L) : Nat) : Int) == 0) true h382 hS380 ?_
           refine yv [] 6 (fun W_ hW_ => (show (Instr.loadAt 25 (pq b)).run Tryz.prog W_ = .ok (.agg #[.int .i64 (h.op), sS (h.field), sS (h.text), .int .i64 (h.edits), .int .i64 (h.exact), .int .u64 (h.lo), .int .u64 (h.hi), v]) W_ from c_loads (ys := [.int .i64 (h.op), sS (h.field), sS (h.text), .int .i64 (h.edits), .int .i64 (h.exact), .int .u64 (h.lo), .int .u64 (h.hi), v]) aE25 (hW_.rd 1 rfl) (cel_obj b 0) rfl (lq rfl))) hS380 ?_
           refine yv [] 8 (fun W_ hW_ => (show (Instr.loadAt 25 (pq b2)).run Tryz.prog W_ = .ok (.agg #[.int .i64 (h.op), sS (h.field), sS ([]), .int .i64 0, .int .i64 0, .int .u64 (h.lo), .int .u64 (h.hi), v]) W_ from c_loads (ys := [.int .i64 (h.op), sS (h.field), sS ([]), .int .i64 0, .int .i64 0, .int .u64 (h.lo), .int .u64 (h.hi), v]) aE25 (hW_.rd 0 rfl) (cel_obj b2 0) rfl (lq rfl))) hS380 ?_
           refine yck [] 7 (flat_c (w := w378) h v) hS380 (fun w383 m384 => ?_)
           have hM385 : Mem [] w0 w383 [⟨25, 8, (obj b2), 1, [.int .i64 (h.op), sS (h.field), sS ([]), .int .i64 0, .int .i64 0, .int .u64 (h.lo), .int .u64 (h.hi), v]⟩, ⟨25, 8, (obj b), 1, [.int .i64 (h.op), sS (h.field), sS (h.text), .int .i64 (h.edits), .int .i64 (h.exact), .int .u64 (h.lo), .int .u64 (h.hi), v]⟩] := Mem.join (R := []) hM379 m384
           have hS386 := hM385.sub (sK (sK sR))
           refine ⟨hS386, ?_⟩
           refine yck [] 9 (flat_c (w := w383) (Hd.mk (h.op) (h.field) ([]) 0 0 (h.lo) (h.hi)) v) hS386 (fun w387 m388 => ?_)
           have hM389 : Mem [] w0 w387 [⟨25, 8, (obj b2), 1, [.int .i64 (h.op), sS (h.field), sS ([]), .int .i64 0, .int .i64 0, .int .u64 (h.lo), .int .u64 (h.hi), v]⟩, ⟨25, 8, (obj b), 1, [.int .i64 (h.op), sS (h.field), sS (h.text), .int .i64 (h.edits), .int .i64 (h.exact), .int .u64 (h.lo), .int .u64 (h.hi), v]⟩] := Mem.join (R := []) hM385 m388
           have hS390 := hM389.sub (sK (sK sR))
           refine ⟨hS390, ?_⟩
           refine yp [] 10 (.bool (nothP h false false true)) (fun W_ hW_ => (show Tryz.prog.eqGuardType Tryz.prog.depth 68 = false ∧ (binOp .eql 68 (.agg #[.int .i64 (h.op), sS (h.field), sS (h.text), .int .i64 (h.edits), .int .i64 (h.exact), .int .u64 (h.lo), .int .u64 (h.hi)]) (.agg #[.int .i64 (h.op), sS (h.field), sS ([]), .int .i64 0, .int .i64 0, .int .u64 (h.lo), .int .u64 (h.hi)])).run Tryz.prog W_ = .ok (.bool (nothP h false false true)) W_ from f_ageq eT68 (xs := [.int .i64 (h.op), sS (h.field), sS (h.text), .int .i64 (h.edits), .int .i64 (h.exact), .int .u64 (h.lo), .int .u64 (h.hi)]) (ys := [.int .i64 (h.op), sS (h.field), sS ([]), .int .i64 0, .int .i64 0, .int .u64 (h.lo), .int .u64 (h.hi)]) (r := ((h.op == h.op) && (((sb (h.field)).toList == (sb (h.field)).toList) && (((sb (h.text)).toList == (sb ([])).toList) && ((h.edits == 0) && ((h.exact == 0) && ((h.lo == h.lo) && ((h.hi == h.hi) && true)))))))) (by kernel_rfl) (noth_r h))) hS390 ?_
           refine ydp [11,12] hS390 ?_
           have hM391 := hM389.sub (sD (sD sR))
           refine xr0 0 (v := .bool (nothP h false false true)) Tryz.func28 ?_
           rw [hR]
           have hall : rightL q.l = true := by rw [← tk_all (l := q.l) (i := i) (by omega)]; exact hRt
           have hro := right_of hall
           rw [← he] at hro
           exact ⟨ret_bool (by rw [hro, node_range (by omega) (by have z := h349; simpa using z) (by omega)]), hM391.sub sN⟩
          ·
           have h382p : ¬ ((((List.length L) : Nat) : Int) = 0) := p_ne h382
           refine ye [3,4] 5 ((((List.length L) : Nat) : Int) == 0) false h382 hS380 ?_
           refine ydp [6,7,8,9,10,11,12] hS380 ?_
           have hM392 := hM379.sub (sD (sD sR))
           refine xr0 0 (v := .bool false) Tryz.func28 ?_
           rw [hR]
           have hall : rightL q.l = true := by rw [← tk_all (l := q.l) (i := i) (by omega)]; exact hRt
           have hro := right_of hall
           rw [← he] at hro
           exact ⟨ret_bool (by rw [hro, node_many (by omega) (by omega)]), hM392.sub sN⟩
        ·
         refine xc 6 (h.op = 7) (fun h351p => ?_) (fun h351p => ?_)
         ·
          have h351 : (h.op == 7) = true := by simpa using h351p
          refine xc 1 (h.op = 7) (fun h352p => ?_) (fun h352p => ?_)
          ·
           refine xv 2 (c_load pE23 (hM9.rd 1 rfl) (cel_obj b 7) rfl) ?_
           refine xv 0 (f_slen sT23 (hr.kept0 hM9.kept) 3 w7) ?_
           refine xv 0 (show (Builtin.max_ #[3, 3] 3 #[.int .i64 2, iN (List.length L)]).run Tryz.prog w7 = .ok (iN (max 2 (List.length L))) w7 from f_max (by split <;> omega)) ?_
           refine xh 4 [] hM9 (sK (sK sR)) (fun w393 hM394 hS395 => ?_)
           refine yl [0] 1 hS395 pE23 1 rfl (cel_obj b 7) rfl ?_
           refine yv [] 2 (fun W_ hW_ => (show (Builtin.len_ #[23] 3 #[v]).run Tryz.prog W_ = .ok (iN (List.length L)) W_ from f_slen sT23 (hr.kept0 hW_.kept) 3 _)) hS395 ?_
           rcases Bool.eq_false_or_eq_true ((((List.length L) : Nat) : Int) == (((max 2 (List.length L)) : Nat) : Int)) with h397 | h397
           ·
            have h397p : (((List.length L) : Nat) : Int) = (((max 2 (List.length L)) : Nat) : Int) := eq_of_beq h397
            refine ye [3,4] 5 ((((List.length L) : Nat) : Int) == (((max 2 (List.length L)) : Nat) : Int)) true h397 hS395 ?_
            refine yv [] 6 (fun W_ hW_ => (show (Instr.loadAt 25 (pq b)).run Tryz.prog W_ = .ok (.agg #[.int .i64 (h.op), sS (h.field), sS (h.text), .int .i64 (h.edits), .int .i64 (h.exact), .int .u64 (h.lo), .int .u64 (h.hi), v]) W_ from c_loads (ys := [.int .i64 (h.op), sS (h.field), sS (h.text), .int .i64 (h.edits), .int .i64 (h.exact), .int .u64 (h.lo), .int .u64 (h.hi), v]) aE25 (hW_.rd 1 rfl) (cel_obj b 0) rfl (lq rfl))) hS395 ?_
            refine yv [] 8 (fun W_ hW_ => (show (Instr.loadAt 25 (pq b2)).run Tryz.prog W_ = .ok (.agg #[.int .i64 (h.op), sS ([]), sS ([]), .int .i64 0, .int .i64 0, .int .u64 0, .int .u64 0, v]) W_ from c_loads (ys := [.int .i64 (h.op), sS ([]), sS ([]), .int .i64 0, .int .i64 0, .int .u64 0, .int .u64 0, v]) aE25 (hW_.rd 0 rfl) (cel_obj b2 0) rfl (lq rfl))) hS395 ?_
            refine yck [] 7 (flat_c (w := w393) h v) hS395 (fun w398 m399 => ?_)
            have hM400 : Mem [] w0 w398 [⟨25, 8, (obj b2), 1, [.int .i64 (h.op), sS ([]), sS ([]), .int .i64 0, .int .i64 0, .int .u64 0, .int .u64 0, v]⟩, ⟨25, 8, (obj b), 1, [.int .i64 (h.op), sS (h.field), sS (h.text), .int .i64 (h.edits), .int .i64 (h.exact), .int .u64 (h.lo), .int .u64 (h.hi), v]⟩] := Mem.join (R := []) hM394 m399
            have hS401 := hM400.sub (sK (sK sR))
            refine ⟨hS401, ?_⟩
            refine yck [] 9 (flat_c (w := w398) (Hd.mk (h.op) ([]) ([]) 0 0 0 0) v) hS401 (fun w402 m403 => ?_)
            have hM404 : Mem [] w0 w402 [⟨25, 8, (obj b2), 1, [.int .i64 (h.op), sS ([]), sS ([]), .int .i64 0, .int .i64 0, .int .u64 0, .int .u64 0, v]⟩, ⟨25, 8, (obj b), 1, [.int .i64 (h.op), sS (h.field), sS (h.text), .int .i64 (h.edits), .int .i64 (h.exact), .int .u64 (h.lo), .int .u64 (h.hi), v]⟩] := Mem.join (R := []) hM400 m403
            have hS405 := hM404.sub (sK (sK sR))
            refine ⟨hS405, ?_⟩
            refine yp [] 10 (.bool (decide (h.field = []) && nothP h false false false)) (fun W_ hW_ => (show Tryz.prog.eqGuardType Tryz.prog.depth 68 = false ∧ (binOp .eql 68 (.agg #[.int .i64 (h.op), sS (h.field), sS (h.text), .int .i64 (h.edits), .int .i64 (h.exact), .int .u64 (h.lo), .int .u64 (h.hi)]) (.agg #[.int .i64 (h.op), sS ([]), sS ([]), .int .i64 0, .int .i64 0, .int .u64 0, .int .u64 0])).run Tryz.prog W_ = .ok (.bool (decide (h.field = []) && nothP h false false false)) W_ from f_ageq eT68 (xs := [.int .i64 (h.op), sS (h.field), sS (h.text), .int .i64 (h.edits), .int .i64 (h.exact), .int .u64 (h.lo), .int .u64 (h.hi)]) (ys := [.int .i64 (h.op), sS ([]), sS ([]), .int .i64 0, .int .i64 0, .int .u64 0, .int .u64 0]) (r := ((h.op == h.op) && (((sb (h.field)).toList == (sb ([])).toList) && (((sb (h.text)).toList == (sb ([])).toList) && ((h.edits == 0) && ((h.exact == 0) && ((h.lo == 0) && ((h.hi == 0) && true)))))))) (by kernel_rfl) (noth_b h))) hS405 ?_
            refine ydp [11,12] hS405 ?_
            have hM406 := hM404.sub (sD (sD sR))
            refine xr0 0 (v := .bool (decide (h.field = []) && nothP h false false false)) Tryz.func28 ?_
            rw [hR]
            have hall : rightL q.l = true := by rw [← tk_all (l := q.l) (i := i) (by omega)]; exact hRt
            have hro := right_of hall
            rw [← he] at hro
            have hmx : L.length = max 2 L.length := Int.ofNat.inj h397p
            exact ⟨ret_bool (by first | (rw [hro, node_join (by omega), (show decide (2 ≤ q.l.length) = true from decide_eq_true (by omega))]; rfl) | (rw [hro, node_not (by omega), (show decide (q.l.length = 1) = true from decide_eq_true (by omega))]; rfl) | (rw [hro, node_all (by omega), (show decide (q.l.length = 0) = true from decide_eq_true (by omega))]; rfl)), hM406.sub sN⟩
           ·
            have h397p : ¬ ((((List.length L) : Nat) : Int) = (((max 2 (List.length L)) : Nat) : Int)) := p_ne h397
            refine ye [3,4] 5 ((((List.length L) : Nat) : Int) == (((max 2 (List.length L)) : Nat) : Int)) false h397 hS395 ?_
            refine ydp [6,7,8,9,10,11,12] hS395 ?_
            have hM407 := hM394.sub (sD (sD sR))
            refine xr0 0 (v := .bool false) Tryz.func28 ?_
            rw [hR]
            have hall : rightL q.l = true := by rw [← tk_all (l := q.l) (i := i) (by omega)]; exact hRt
            have hro := right_of hall
            rw [← he] at hro
            have hmx : ¬ L.length = max 2 L.length := fun z => h397p (congrArg Int.ofNat z)
            exact ⟨ret_bool (by first | (rw [hro, node_join (by omega), (show decide (2 ≤ q.l.length) = false from decide_eq_false (by omega))]; rfl) | (rw [hro, node_not (by omega), (show decide (q.l.length = 1) = false from decide_eq_false (by omega))]; rfl) | (rw [hro, node_all (by omega), (show decide (q.l.length = 0) = false from decide_eq_false (by omega))]; rfl)), hM407.sub sN⟩
          ·
           have h352 : (h.op == 7) = false := by simpa using h352p
           rw [h351] at h352; cases h352
         ·
          refine xc 4 (h.op = 8) (fun h356p => ?_) (fun h356p => ?_)
          ·
           refine xv 2 (c_load pE23 (hM9.rd 1 rfl) (cel_obj b 7) rfl) ?_
           refine xv 0 (f_slen sT23 (hr.kept0 hM9.kept) 3 w7) ?_
           refine xv 0 (show (Builtin.max_ #[3, 3] 3 #[.int .i64 2, iN (List.length L)]).run Tryz.prog w7 = .ok (iN (max 2 (List.length L))) w7 from f_max (by split <;> omega)) ?_
           refine xh 4 [] hM9 (sK (sK sR)) (fun w408 hM409 hS410 => ?_)
           refine yl [0] 1 hS410 pE23 1 rfl (cel_obj b 7) rfl ?_
           refine yv [] 2 (fun W_ hW_ => (show (Builtin.len_ #[23] 3 #[v]).run Tryz.prog W_ = .ok (iN (List.length L)) W_ from f_slen sT23 (hr.kept0 hW_.kept) 3 _)) hS410 ?_
           rcases Bool.eq_false_or_eq_true ((((List.length L) : Nat) : Int) == (((max 2 (List.length L)) : Nat) : Int)) with h412 | h412
           ·
            have h412p : (((List.length L) : Nat) : Int) = (((max 2 (List.length L)) : Nat) : Int) := eq_of_beq h412
            refine ye [3,4] 5 ((((List.length L) : Nat) : Int) == (((max 2 (List.length L)) : Nat) : Int)) true h412 hS410 ?_
            refine yv [] 6 (fun W_ hW_ => (show (Instr.loadAt 25 (pq b)).run Tryz.prog W_ = .ok (.agg #[.int .i64 (h.op), sS (h.field), sS (h.text), .int .i64 (h.edits), .int .i64 (h.exact), .int .u64 (h.lo), .int .u64 (h.hi), v]) W_ from c_loads (ys := [.int .i64 (h.op), sS (h.field), sS (h.text), .int .i64 (h.edits), .int .i64 (h.exact), .int .u64 (h.lo), .int .u64 (h.hi), v]) aE25 (hW_.rd 1 rfl) (cel_obj b 0) rfl (lq rfl))) hS410 ?_
            refine yv [] 8 (fun W_ hW_ => (show (Instr.loadAt 25 (pq b2)).run Tryz.prog W_ = .ok (.agg #[.int .i64 (h.op), sS ([]), sS ([]), .int .i64 0, .int .i64 0, .int .u64 0, .int .u64 0, v]) W_ from c_loads (ys := [.int .i64 (h.op), sS ([]), sS ([]), .int .i64 0, .int .i64 0, .int .u64 0, .int .u64 0, v]) aE25 (hW_.rd 0 rfl) (cel_obj b2 0) rfl (lq rfl))) hS410 ?_
            refine yck [] 7 (flat_c (w := w408) h v) hS410 (fun w413 m414 => ?_)
            have hM415 : Mem [] w0 w413 [⟨25, 8, (obj b2), 1, [.int .i64 (h.op), sS ([]), sS ([]), .int .i64 0, .int .i64 0, .int .u64 0, .int .u64 0, v]⟩, ⟨25, 8, (obj b), 1, [.int .i64 (h.op), sS (h.field), sS (h.text), .int .i64 (h.edits), .int .i64 (h.exact), .int .u64 (h.lo), .int .u64 (h.hi), v]⟩] := Mem.join (R := []) hM409 m414
            have hS416 := hM415.sub (sK (sK sR))
            refine ⟨hS416, ?_⟩
            refine yck [] 9 (flat_c (w := w413) (Hd.mk (h.op) ([]) ([]) 0 0 0 0) v) hS416 (fun w417 m418 => ?_)
            have hM419 : Mem [] w0 w417 [⟨25, 8, (obj b2), 1, [.int .i64 (h.op), sS ([]), sS ([]), .int .i64 0, .int .i64 0, .int .u64 0, .int .u64 0, v]⟩, ⟨25, 8, (obj b), 1, [.int .i64 (h.op), sS (h.field), sS (h.text), .int .i64 (h.edits), .int .i64 (h.exact), .int .u64 (h.lo), .int .u64 (h.hi), v]⟩] := Mem.join (R := []) hM415 m418
            have hS420 := hM419.sub (sK (sK sR))
            refine ⟨hS420, ?_⟩
            refine yp [] 10 (.bool (decide (h.field = []) && nothP h false false false)) (fun W_ hW_ => (show Tryz.prog.eqGuardType Tryz.prog.depth 68 = false ∧ (binOp .eql 68 (.agg #[.int .i64 (h.op), sS (h.field), sS (h.text), .int .i64 (h.edits), .int .i64 (h.exact), .int .u64 (h.lo), .int .u64 (h.hi)]) (.agg #[.int .i64 (h.op), sS ([]), sS ([]), .int .i64 0, .int .i64 0, .int .u64 0, .int .u64 0])).run Tryz.prog W_ = .ok (.bool (decide (h.field = []) && nothP h false false false)) W_ from f_ageq eT68 (xs := [.int .i64 (h.op), sS (h.field), sS (h.text), .int .i64 (h.edits), .int .i64 (h.exact), .int .u64 (h.lo), .int .u64 (h.hi)]) (ys := [.int .i64 (h.op), sS ([]), sS ([]), .int .i64 0, .int .i64 0, .int .u64 0, .int .u64 0]) (r := ((h.op == h.op) && (((sb (h.field)).toList == (sb ([])).toList) && (((sb (h.text)).toList == (sb ([])).toList) && ((h.edits == 0) && ((h.exact == 0) && ((h.lo == 0) && ((h.hi == 0) && true)))))))) (by kernel_rfl) (noth_b h))) hS420 ?_
            refine ydp [11,12] hS420 ?_
            have hM421 := hM419.sub (sD (sD sR))
            refine xr0 0 (v := .bool (decide (h.field = []) && nothP h false false false)) Tryz.func28 ?_
            rw [hR]
            have hall : rightL q.l = true := by rw [← tk_all (l := q.l) (i := i) (by omega)]; exact hRt
            have hro := right_of hall
            rw [← he] at hro
            have hmx : L.length = max 2 L.length := Int.ofNat.inj h412p
            exact ⟨ret_bool (by first | (rw [hro, node_join (by omega), (show decide (2 ≤ q.l.length) = true from decide_eq_true (by omega))]; rfl) | (rw [hro, node_not (by omega), (show decide (q.l.length = 1) = true from decide_eq_true (by omega))]; rfl) | (rw [hro, node_all (by omega), (show decide (q.l.length = 0) = true from decide_eq_true (by omega))]; rfl)), hM421.sub sN⟩
           ·
            have h412p : ¬ ((((List.length L) : Nat) : Int) = (((max 2 (List.length L)) : Nat) : Int)) := p_ne h412
            refine ye [3,4] 5 ((((List.length L) : Nat) : Int) == (((max 2 (List.length L)) : Nat) : Int)) false h412 hS410 ?_
            refine ydp [6,7,8,9,10,11,12] hS410 ?_
            have hM422 := hM409.sub (sD (sD sR))
            refine xr0 0 (v := .bool false) Tryz.func28 ?_
            rw [hR]
            have hall : rightL q.l = true := by rw [← tk_all (l := q.l) (i := i) (by omega)]; exact hRt
            have hro := right_of hall
            rw [← he] at hro
            have hmx : ¬ L.length = max 2 L.length := fun z => h412p (congrArg Int.ofNat z)
            exact ⟨ret_bool (by first | (rw [hro, node_join (by omega), (show decide (2 ≤ q.l.length) = false from decide_eq_false (by omega))]; rfl) | (rw [hro, node_not (by omega), (show decide (q.l.length = 1) = false from decide_eq_false (by omega))]; rfl) | (rw [hro, node_all (by omega), (show decide (q.l.length = 0) = false from decide_eq_false (by omega))]; rfl)), hM422.sub sN⟩
          ·
           refine xc 5 (h.op = 9) (fun h360p => ?_) (fun h360p => ?_)
           ·
            refine xh 5 [] hM9 (sK (sK sR)) (fun w423 hM424 hS425 => ?_)
            refine yl [0] 1 hS425 pE23 1 rfl (cel_obj b 7) rfl ?_
            refine yv [] 2 (fun W_ hW_ => (show (Builtin.len_ #[23] 3 #[v]).run Tryz.prog W_ = .ok (iN (List.length L)) W_ from f_slen sT23 (hr.kept0 hW_.kept) 3 _)) hS425 ?_
            rcases Bool.eq_false_or_eq_true ((((List.length L) : Nat) : Int) == 1) with h427 | h427
            ·
             have h427p : (((List.length L) : Nat) : Int) = 1 := eq_of_beq h427
             refine ye [3,4] 5 ((((List.length L) : Nat) : Int) == 1) true h427 hS425 ?_
             refine yv [] 6 (fun W_ hW_ => (show (Instr.loadAt 25 (pq b)).run Tryz.prog W_ = .ok (.agg #[.int .i64 (h.op), sS (h.field), sS (h.text), .int .i64 (h.edits), .int .i64 (h.exact), .int .u64 (h.lo), .int .u64 (h.hi), v]) W_ from c_loads (ys := [.int .i64 (h.op), sS (h.field), sS (h.text), .int .i64 (h.edits), .int .i64 (h.exact), .int .u64 (h.lo), .int .u64 (h.hi), v]) aE25 (hW_.rd 1 rfl) (cel_obj b 0) rfl (lq rfl))) hS425 ?_
             refine yv [] 8 (fun W_ hW_ => (show (Instr.loadAt 25 (pq b2)).run Tryz.prog W_ = .ok (.agg #[.int .i64 (h.op), sS ([]), sS ([]), .int .i64 0, .int .i64 0, .int .u64 0, .int .u64 0, v]) W_ from c_loads (ys := [.int .i64 (h.op), sS ([]), sS ([]), .int .i64 0, .int .i64 0, .int .u64 0, .int .u64 0, v]) aE25 (hW_.rd 0 rfl) (cel_obj b2 0) rfl (lq rfl))) hS425 ?_
             refine yck [] 7 (flat_c (w := w423) h v) hS425 (fun w428 m429 => ?_)
             have hM430 : Mem [] w0 w428 [⟨25, 8, (obj b2), 1, [.int .i64 (h.op), sS ([]), sS ([]), .int .i64 0, .int .i64 0, .int .u64 0, .int .u64 0, v]⟩, ⟨25, 8, (obj b), 1, [.int .i64 (h.op), sS (h.field), sS (h.text), .int .i64 (h.edits), .int .i64 (h.exact), .int .u64 (h.lo), .int .u64 (h.hi), v]⟩] := Mem.join (R := []) hM424 m429
             have hS431 := hM430.sub (sK (sK sR))
             refine ⟨hS431, ?_⟩
             refine yck [] 9 (flat_c (w := w428) (Hd.mk (h.op) ([]) ([]) 0 0 0 0) v) hS431 (fun w432 m433 => ?_)
             have hM434 : Mem [] w0 w432 [⟨25, 8, (obj b2), 1, [.int .i64 (h.op), sS ([]), sS ([]), .int .i64 0, .int .i64 0, .int .u64 0, .int .u64 0, v]⟩, ⟨25, 8, (obj b), 1, [.int .i64 (h.op), sS (h.field), sS (h.text), .int .i64 (h.edits), .int .i64 (h.exact), .int .u64 (h.lo), .int .u64 (h.hi), v]⟩] := Mem.join (R := []) hM430 m433
             have hS435 := hM434.sub (sK (sK sR))
             refine ⟨hS435, ?_⟩
             refine yp [] 10 (.bool (decide (h.field = []) && nothP h false false false)) (fun W_ hW_ => (show Tryz.prog.eqGuardType Tryz.prog.depth 68 = false ∧ (binOp .eql 68 (.agg #[.int .i64 (h.op), sS (h.field), sS (h.text), .int .i64 (h.edits), .int .i64 (h.exact), .int .u64 (h.lo), .int .u64 (h.hi)]) (.agg #[.int .i64 (h.op), sS ([]), sS ([]), .int .i64 0, .int .i64 0, .int .u64 0, .int .u64 0])).run Tryz.prog W_ = .ok (.bool (decide (h.field = []) && nothP h false false false)) W_ from f_ageq eT68 (xs := [.int .i64 (h.op), sS (h.field), sS (h.text), .int .i64 (h.edits), .int .i64 (h.exact), .int .u64 (h.lo), .int .u64 (h.hi)]) (ys := [.int .i64 (h.op), sS ([]), sS ([]), .int .i64 0, .int .i64 0, .int .u64 0, .int .u64 0]) (r := ((h.op == h.op) && (((sb (h.field)).toList == (sb ([])).toList) && (((sb (h.text)).toList == (sb ([])).toList) && ((h.edits == 0) && ((h.exact == 0) && ((h.lo == 0) && ((h.hi == 0) && true)))))))) (by kernel_rfl) (noth_b h))) hS435 ?_
             refine ydp [11,12] hS435 ?_
             have hM436 := hM434.sub (sD (sD sR))
             refine xr0 0 (v := .bool (decide (h.field = []) && nothP h false false false)) Tryz.func28 ?_
             rw [hR]
             have hall : rightL q.l = true := by rw [← tk_all (l := q.l) (i := i) (by omega)]; exact hRt
             have hro := right_of hall
             rw [← he] at hro
             exact ⟨ret_bool (by first | (rw [hro, node_join (by omega), (show decide (2 ≤ q.l.length) = true from decide_eq_true (by omega))]; rfl) | (rw [hro, node_not (by omega), (show decide (q.l.length = 1) = true from decide_eq_true (by omega))]; rfl) | (rw [hro, node_all (by omega), (show decide (q.l.length = 0) = true from decide_eq_true (by omega))]; rfl)), hM436.sub sN⟩
            ·
             have h427p : ¬ ((((List.length L) : Nat) : Int) = 1) := p_ne h427
             refine ye [3,4] 5 ((((List.length L) : Nat) : Int) == 1) false h427 hS425 ?_
             refine ydp [6,7,8,9,10,11,12] hS425 ?_
             have hM437 := hM424.sub (sD (sD sR))
             refine xr0 0 (v := .bool false) Tryz.func28 ?_
             rw [hR]
             have hall : rightL q.l = true := by rw [← tk_all (l := q.l) (i := i) (by omega)]; exact hRt
             have hro := right_of hall
             rw [← he] at hro
             exact ⟨ret_bool (by first | (rw [hro, node_join (by omega), (show decide (2 ≤ q.l.length) = false from decide_eq_false (by omega))]; rfl) | (rw [hro, node_not (by omega), (show decide (q.l.length = 1) = false from decide_eq_false (by omega))]; rfl) | (rw [hro, node_all (by omega), (show decide (q.l.length = 0) = false from decide_eq_false (by omega))]; rfl)), hM437.sub sN⟩
           ·
            refine xc 5 (h.op = 10) (fun h361p => ?_) (fun h361p => ?_)
            ·
             refine xh 3 [] hM9 (sK (sK sR)) (fun w438 hM439 hS440 => ?_)
             refine yl [0] 1 hS440 pE23 1 rfl (cel_obj b 7) rfl ?_
             refine yv [] 2 (fun W_ hW_ => (show (Builtin.len_ #[23] 3 #[v]).run Tryz.prog W_ = .ok (iN (List.length L)) W_ from f_slen sT23 (hr.kept0 hW_.kept) 3 _)) hS440 ?_
             rcases Bool.eq_false_or_eq_true ((((List.length L) : Nat) : Int) == 0) with h442 | h442
             ·
              have h442p : (((List.length L) : Nat) : Int) = 0 := eq_of_beq h442
              refine ye [3,4] 5 ((((List.length L) : Nat) : Int) == 0) true h442 hS440 ?_
              refine yv [] 6 (fun W_ hW_ => (show (Instr.loadAt 25 (pq b)).run Tryz.prog W_ = .ok (.agg #[.int .i64 (h.op), sS (h.field), sS (h.text), .int .i64 (h.edits), .int .i64 (h.exact), .int .u64 (h.lo), .int .u64 (h.hi), v]) W_ from c_loads (ys := [.int .i64 (h.op), sS (h.field), sS (h.text), .int .i64 (h.edits), .int .i64 (h.exact), .int .u64 (h.lo), .int .u64 (h.hi), v]) aE25 (hW_.rd 1 rfl) (cel_obj b 0) rfl (lq rfl))) hS440 ?_
              refine yv [] 8 (fun W_ hW_ => (show (Instr.loadAt 25 (pq b2)).run Tryz.prog W_ = .ok (.agg #[.int .i64 (h.op), sS ([]), sS ([]), .int .i64 0, .int .i64 0, .int .u64 0, .int .u64 0, v]) W_ from c_loads (ys := [.int .i64 (h.op), sS ([]), sS ([]), .int .i64 0, .int .i64 0, .int .u64 0, .int .u64 0, v]) aE25 (hW_.rd 0 rfl) (cel_obj b2 0) rfl (lq rfl))) hS440 ?_
              refine yck [] 7 (flat_c (w := w438) h v) hS440 (fun w443 m444 => ?_)
              have hM445 : Mem [] w0 w443 [⟨25, 8, (obj b2), 1, [.int .i64 (h.op), sS ([]), sS ([]), .int .i64 0, .int .i64 0, .int .u64 0, .int .u64 0, v]⟩, ⟨25, 8, (obj b), 1, [.int .i64 (h.op), sS (h.field), sS (h.text), .int .i64 (h.edits), .int .i64 (h.exact), .int .u64 (h.lo), .int .u64 (h.hi), v]⟩] := Mem.join (R := []) hM439 m444
              have hS446 := hM445.sub (sK (sK sR))
              refine ⟨hS446, ?_⟩
              refine yck [] 9 (flat_c (w := w443) (Hd.mk (h.op) ([]) ([]) 0 0 0 0) v) hS446 (fun w447 m448 => ?_)
              have hM449 : Mem [] w0 w447 [⟨25, 8, (obj b2), 1, [.int .i64 (h.op), sS ([]), sS ([]), .int .i64 0, .int .i64 0, .int .u64 0, .int .u64 0, v]⟩, ⟨25, 8, (obj b), 1, [.int .i64 (h.op), sS (h.field), sS (h.text), .int .i64 (h.edits), .int .i64 (h.exact), .int .u64 (h.lo), .int .u64 (h.hi), v]⟩] := Mem.join (R := []) hM445 m448
              have hS450 := hM449.sub (sK (sK sR))
              refine ⟨hS450, ?_⟩
              refine yp [] 10 (.bool (decide (h.field = []) && nothP h false false false)) (fun W_ hW_ => (show Tryz.prog.eqGuardType Tryz.prog.depth 68 = false ∧ (binOp .eql 68 (.agg #[.int .i64 (h.op), sS (h.field), sS (h.text), .int .i64 (h.edits), .int .i64 (h.exact), .int .u64 (h.lo), .int .u64 (h.hi)]) (.agg #[.int .i64 (h.op), sS ([]), sS ([]), .int .i64 0, .int .i64 0, .int .u64 0, .int .u64 0])).run Tryz.prog W_ = .ok (.bool (decide (h.field = []) && nothP h false false false)) W_ from f_ageq eT68 (xs := [.int .i64 (h.op), sS (h.field), sS (h.text), .int .i64 (h.edits), .int .i64 (h.exact), .int .u64 (h.lo), .int .u64 (h.hi)]) (ys := [.int .i64 (h.op), sS ([]), sS ([]), .int .i64 0, .int .i64 0, .int .u64 0, .int .u64 0]) (r := ((h.op == h.op) && (((sb (h.field)).toList == (sb ([])).toList) && (((sb (h.text)).toList == (sb ([])).toList) && ((h.edits == 0) && ((h.exact == 0) && ((h.lo == 0) && ((h.hi == 0) && true)))))))) (by kernel_rfl) (noth_b h))) hS450 ?_
              refine ydp [11,12] hS450 ?_
              have hM451 := hM449.sub (sD (sD sR))
              refine xr0 0 (v := .bool (decide (h.field = []) && nothP h false false false)) Tryz.func28 ?_
              rw [hR]
              have hall : rightL q.l = true := by rw [← tk_all (l := q.l) (i := i) (by omega)]; exact hRt
              have hro := right_of hall
              rw [← he] at hro
              exact ⟨ret_bool (by first | (rw [hro, node_join (by omega), (show decide (2 ≤ q.l.length) = true from decide_eq_true (by omega))]; rfl) | (rw [hro, node_not (by omega), (show decide (q.l.length = 1) = true from decide_eq_true (by omega))]; rfl) | (rw [hro, node_all (by omega), (show decide (q.l.length = 0) = true from decide_eq_true (by omega))]; rfl)), hM451.sub sN⟩
             ·
              have h442p : ¬ ((((List.length L) : Nat) : Int) = 0) := p_ne h442
              refine ye [3,4] 5 ((((List.length L) : Nat) : Int) == 0) false h442 hS440 ?_
              refine ydp [6,7,8,9,10,11,12] hS440 ?_
              have hM452 := hM439.sub (sD (sD sR))
              refine xr0 0 (v := .bool false) Tryz.func28 ?_
              rw [hR]
              have hall : rightL q.l = true := by rw [← tk_all (l := q.l) (i := i) (by omega)]; exact hRt
              have hro := right_of hall
              rw [← he] at hro
              exact ⟨ret_bool (by first | (rw [hro, node_join (by omega), (show decide (2 ≤ q.l.length) = false from decide_eq_false (by omega))]; rfl) | (rw [hro, node_not (by omega), (show decide (q.l.length = 1) = false from decide_eq_false (by omega))]; rfl) | (rw [hro, node_all (by omega), (show decide (q.l.length = 0) = false from decide_eq_false (by omega))]; rfl)), hM452.sub sN⟩
            ·
             have hM362 := hM9.sub (sD (sD sR))
             refine xr0 4 (v := .bool false) Tryz.func28 ?_
             rw [hR]
             have hall : rightL q.l = true := by rw [← tk_all (l := q.l) (i := i) (by omega)]; exact hRt
             have hro := right_of hall
             rw [← he] at hro
             exact ⟨ret_bool (by rw [hro, node_else (by omega)]), hM362.sub sN⟩

set_option maxHeartbeats 400000 in
theorem right_s (N : Nat) (ih : ∀ (q : Q), bulkQ q < N → ∀ {w : World} (h : Hd) (he : h = q.h) (v : Value) (hq : RdQ w q v) (hb : bulkQ q ≤ 1048576) , Calls Tryz.prog 28 #[.agg #[.int .i64 (h.op), sS (h.field), sS (h.text), .int .i64 (h.edits), .int .i64 (h.exact), .int .u64 (h.lo), .int .u64 (h.hi), v]] w (fun e w' => e = .returned (.bool (rightQ q)) ∧ Mem [] w w' [])) {w : World} (q : Q) (h : Hd) (he : h = q.h) (v : Value) (hq : RdQ w q v) (hb : bulkQ q ≤ 1048576) (hN : bulkQ q = N) :
  Calls Tryz.prog 28 #[.agg #[.int .i64 (h.op), sS (h.field), sS (h.text), .int .i64 (h.edits), .int .i64 (h.exact), .int .u64 (h.lo), .int .u64 (h.hi), v]] w (fun e w' => e = .returned (.bool (rightQ q)) ∧ Mem [] w w' []) := by
 obtain ⟨L, hr, hl, hh, hs⟩ := hq.inv
 have hbl : bulkL q.l + q.h.field.length + q.h.text.length + 1 = bulkQ q := by cases q; rw [bulkQ_mk]; rfl
 have hln := bulk_len q.l
 refine xe 93 Tryz.func28 (fun R hR => ?_)
 have hM0 := Mem.start w
 refine xx 2 (m_box (T := 25) (k := 8) (u := .agg #[.int .i64 (h.op), sS (h.field), sS (h.text), .int .i64 (h.edits), .int .i64 (h.exact), .int .u64 (h.lo), .int .u64 (h.hi), v]) rfl rfl hM0) (fun b1 w2 hM4 => ?_)
 refine xv 6 (c_load pE23 (hM4.rd 0 rfl) (cel_obj b1 7) rfl) ?_
 refine xv 0 (f_slen sT23 (hr.kept0 hM4.kept) 3 w2) ?_
 exact xl 4 (right_L N ih q h he v hq hb L hr hl hh hs b1 hN R hR (L.length + 1) 0 w2 (Nat.zero_le _) (by rw [List.take_zero, rightL]) (hM4.sub (sK sN)) (by omega))

theorem right_c_n : ∀ (N : Nat), ∀ (q : Q), bulkQ q ≤ N → ∀ {w : World} (h : Hd) (he : h = q.h) (v : Value) (hq : RdQ w q v) (hb : bulkQ q ≤ 1048576) , Calls Tryz.prog 28 #[.agg #[.int .i64 (h.op), sS (h.field), sS (h.text), .int .i64 (h.edits), .int .i64 (h.exact), .int .u64 (h.lo), .int .u64 (h.hi), v]] w (fun e w' => e = .returned (.bool (rightQ q)) ∧ Mem [] w w' []) := by
 intro N
 induction N with
 | zero => intro q hn; have := bulk_pos q; omega
 | succ N ihn => intro q hn w h he v hq hb; exact right_s (bulkQ q) (fun c hc => ihn c (by omega)) q h he v hq hb rfl

theorem right_c {w : World} (q : Q) (h : Hd) (he : h = q.h) (v : Value) (hq : RdQ w q v) (hb : bulkQ q ≤ 1048576)  :
  Calls Tryz.prog 28 #[.agg #[.int .i64 (h.op), sS (h.field), sS (h.text), .int .i64 (h.edits), .int .i64 (h.exact), .int .u64 (h.lo), .int .u64 (h.hi), v]] w (fun e w' => e = .returned (.bool (rightQ q)) ∧ Mem [] w w' []) := right_c_n (bulkQ q) q (Nat.le_refl _) h he v hq hb


end Go.Proofs.YthpodbngljfdmaaGreatDoor

namespace Go.Proofs.YthpodbngljfdmaaGreatDoor
open Go Go.Gw Go.UtfP Go.TokP Go.QryP Go.RowKit
set_option linter.unusedVariables false
set_option linter.unusedSimpArgs false
set_option maxRecDepth 20000


set_option maxHeartbeats 400000 in
theorem letters_c (s m : List UInt8) (hs : s.length ≤ 1048576) (hm : m.length ≤ 1048576) (w : World) :
  Calls Tryz.prog 74 #[sS s, sS m] w (fun e w' => e = .returned (iN (letN s m)) ∧ Mem [] w w' []) := by
 refine xe 17 Tryz.func74 (fun R hR => ?_)
 have hM0 := Mem.start w
 refine xkv 8 (rlet_c s m (by omega) (by omega) w) (fun v4 w1 m2 => ?_)
 have hM3 := Mem.join hM0 m2
 refine xcn 12 ((letP s m) = 0) (fun h5p => ?_) (fun h5p => ?_)
 ·
  have hM6 := hM3.sub (sD sR)
  exact xr 4 (v := .int .i64 0) Tryz.func74 hR ⟨ret_int (by rw [letN_no (by omega)]; rfl), hM6.sub sN⟩
 ·
  refine xv 4 (f_slen sT70 (hM3.rd 0 rfl) 3 w1) ?_
  have hM8 := hM3.sub (sD sR)
  exact xr 2 (v := iN (List.length (letL s m))) Tryz.func74 hR ⟨ret_int (by rw [(let_pos (by omega)).2.1, ← (let_pos (by omega)).2.2]), hM8.sub sN⟩

set_option maxHeartbeats 1000000 in
theorem noth_c {w : World} (h : Hd) (v : Value) (t d n : Bool) :
  Calls Tryz.prog 71 #[.agg #[.int .i64 (h.op), sS (h.field), sS (h.text), .int .i64 (h.edits), .int .i64 (h.exact), .int .u64 (h.lo), .int .u64 (h.hi), v], .bool t, .bool d, .bool n] w (fun e w' => e = .returned (.bool (nothP h t d n)) ∧ Mem [] w w' []) := by
 refine xe 41 Tryz.func71 (fun R hR => ?_)
 have hM0 := Mem.start w
 refine xx 2 (m_box (T := 25) (k := 8) (u := .agg #[.int .i64 (h.op), sS (h.field), sS (h.text), .int .i64 (h.edits), .int .i64 (h.exact), .int .u64 (h.lo), .int .u64 (h.hi), v]) rfl rfl hM0) (fun b1 w2 hM4 => ?_)
 refine xf 6 10 t (fun h7 => ?_) (fun h7 => ?_)
 ·
  refine xf 7 17 d (fun h8 => ?_) (fun h8 => ?_)
  ·
   refine xf 13 30 n (fun h9 => ?_) (fun h9 => ?_)
   ·
    have hM10 := hM4.sub (sD sR)
    exact xr 12 (v := .bool true) Tryz.func71 hR ⟨ret_bool (by unfold nothP; first | (simp [h7, h8, h9, h7p, h8p, h9p]; done) | (simp_all; done) | (simp_all; rw [Bool.eq_iff_iff]; simp; done)), hM10.sub sN⟩
   ·
    refine xv 1 (c_load pE22 (hM4.rd 0 rfl) (cel_obj b1 5) rfl) ?_
    refine xfc 2 34 (h.lo = 0) (fun h12p => ?_) (fun h12p => ?_)
    ·
     have h12 : (h.lo == 0) = true := by simpa using h12p
     refine xv 1 (c_load pE22 (hM4.rd 0 rfl) (cel_obj b1 6) rfl) ?_
     have hM14 := hM4.sub (sD sR)
     exact xr 6 (v := .bool (h.hi == 0)) Tryz.func71 hR ⟨ret_bool (by unfold nothP; first | (simp [h7, h8, h9, h12, h7p, h8p, h9p, h12p]; done) | (simp_all; done) | (simp_all; rw [Bool.eq_iff_iff]; simp; done)), hM14.sub sN⟩
    ·
     have h12 : (h.lo == 0) = false := by simpa using h12p
     have hM15 := hM4.sub (sD sR)
     exact xr 8 (v := .bool false) Tryz.func71 hR ⟨ret_bool (by unfold nothP; first | (simp [h7, h8, h9, h12, h7p, h8p, h9p, h12p]; done) | (simp_all; done) | (simp_all; rw [Bool.eq_iff_iff]; simp; done)), hM15.sub sN⟩
  ·
   refine xv 1 (c_load pE3 (hM4.rd 0 rfl) (cel_obj b1 3) rfl) ?_
   refine xfc 2 21 (h.edits = 0) (fun h17p => ?_) (fun h17p => ?_)
   ·
    have h17 : (h.edits == 0) = true := by simpa using h17p
    refine xv 1 (c_load pE3 (hM4.rd 0 rfl) (cel_obj b1 4) rfl) ?_
    refine xfc 5 28 (h.exact = 0) (fun h19p => ?_) (fun h19p => ?_)
    ·
     have h19 : (h.exact == 0) = true := by simpa using h19p
     refine xf 2 30 n (fun h20 => ?_) (fun h20 => ?_)
     ·
      have hM21 := hM4.sub (sD sR)
      exact xr 12 (v := .bool true) Tryz.func71 hR ⟨ret_bool (by unfold nothP; first | (simp [h7, h8, h17, h19, h20, h7p, h8p, h17p, h19p, h20p]; done) | (simp_all; done) | (simp_all; rw [Bool.eq_iff_iff]; simp; done)), hM21.sub sN⟩
     ·
      refine xv 1 (c_load pE22 (hM4.rd 0 rfl) (cel_obj b1 5) rfl) ?_
      refine xfc 2 34 (h.lo = 0) (fun h23p => ?_) (fun h23p => ?_)
      ·
       have h23 : (h.lo == 0) = true := by simpa using h23p
       refine xv 1 (c_load pE22 (hM4.rd 0 rfl) (cel_obj b1 6) rfl) ?_
       have hM25 := hM4.sub (sD sR)
       exact xr 6 (v := .bool (h.hi == 0)) Tryz.func71 hR ⟨ret_bool (by unfold nothP; first | (simp [h7, h8, h17, h19, h20, h23, h7p, h8p, h17p, h19p, h20p, h23p]; done) | (simp_all; done) | (simp_all; rw [Bool.eq_iff_iff]; simp; done)), hM25.sub sN⟩
      ·
       have h23 : (h.lo == 0) = false := by simpa using h23p
       have hM26 := hM4.sub (sD sR)
       exact xr 8 (v := .bool false) Tryz.func71 hR ⟨ret_bool (by unfold nothP; first | (simp [h7, h8, h17, h19, h20, h23, h7p, h8p, h17p, h19p, h20p, h23p]; done) | (simp_all; done) | (simp_all; rw [Bool.eq_iff_iff]; simp; done)), hM26.sub sN⟩
    ·
     have h19 : (h.exact == 0) = false := by simpa using h19p
     have hM27 := hM4.sub (sD sR)
     exact xr 14 (v := .bool false) Tryz.func71 hR ⟨ret_bool (by unfold nothP; first | (simp [h7, h8, h17, h19, h7p, h8p, h17p, h19p]; done) | (simp_all; done) | (simp_all; rw [Bool.eq_iff_iff]; simp; done)), hM27.sub sN⟩
   ·
    have h17 : (h.edits == 0) = false := by simpa using h17p
    have hM28 := hM4.sub (sD sR)
    exact xr 21 (v := .bool false) Tryz.func71 hR ⟨ret_bool (by unfold nothP; first | (simp [h7, h8, h17, h7p, h8p, h17p]; done) | (simp_all; done) | (simp_all; rw [Bool.eq_iff_iff]; simp; done)), hM28.sub sN⟩
 ·
  refine xv 1 (c_load pE9 (hM4.rd 0 rfl) (cel_obj b1 2) rfl) ?_
  refine xq 0 (h.text) ([]) ?_
  refine xfc 2 15 (h.text = []) (fun h31p => ?_) (fun h31p => ?_)
  ·
   have h31 : (decide (h.text = [])) = true := decide_eq_true h31p
   refine xf 2 17 d (fun h32 => ?_) (fun h32 => ?_)
   ·
    refine xf 13 30 n (fun h33 => ?_) (fun h33 => ?_)
    ·
     have hM34 := hM4.sub (sD sR)
     exact xr 12 (v := .bool true) Tryz.func71 hR ⟨ret_bool (by unfold nothP; first | (simp [h7, h31, h32, h33, h7p, h31p, h32p, h33p]; done) | (simp_all; done) | (simp_all; rw [Bool.eq_iff_iff]; simp; done)), hM34.sub sN⟩
    ·
     refine xv 1 (c_load pE22 (hM4.rd 0 rfl) (cel_obj b1 5) rfl) ?_
     refine xfc 2 34 (h.lo = 0) (fun h36p => ?_) (fun h36p => ?_)
     ·
      have h36 : (h.lo == 0) = true := by simpa using h36p
      refine xv 1 (c_load pE22 (hM4.rd 0 rfl) (cel_obj b1 6) rfl) ?_
      have hM38 := hM4.sub (sD sR)
      exact xr 6 (v := .bool (h.hi == 0)) Tryz.func71 hR ⟨ret_bool (by unfold nothP; first | (simp [h7, h31, h32, h33, h36, h7p, h31p, h32p, h33p, h36p]; done) | (simp_all; done) | (simp_all; rw [Bool.eq_iff_iff]; simp; done)), hM38.sub sN⟩
     ·
      have h36 : (h.lo == 0) = false := by simpa using h36p
      have hM39 := hM4.sub (sD sR)
      exact xr 8 (v := .bool false) Tryz.func71 hR ⟨ret_bool (by unfold nothP; first | (simp [h7, h31, h32, h33, h36, h7p, h31p, h32p, h33p, h36p]; done) | (simp_all; done) | (simp_all; rw [Bool.eq_iff_iff]; simp; done)), hM39.sub sN⟩
   ·
    refine xv 1 (c_load pE3 (hM4.rd 0 rfl) (cel_obj b1 3) rfl) ?_
    refine xfc 2 21 (h.edits = 0) (fun h41p => ?_) (fun h41p => ?_)
    ·
     have h41 : (h.edits == 0) = true := by simpa using h41p
     refine xv 1 (c_load pE3 (hM4.rd 0 rfl) (cel_obj b1 4) rfl) ?_
     refine xfc 5 28 (h.exact = 0) (fun h43p => ?_) (fun h43p => ?_)
     ·
      have h43 : (h.exact == 0) = true := by simpa using h43p
      refine xf 2 30 n (fun h44 => ?_) (fun h44 => ?_)
      ·
       have hM45 := hM4.sub (sD sR)
       exact xr 12 (v := .bool true) Tryz.func71 hR ⟨ret_bool (by unfold nothP; first | (simp [h7, h31, h32, h41, h43, h44, h7p, h31p, h32p, h41p, h43p, h44p]; done) | (simp_all; done) | (simp_all; rw [Bool.eq_iff_iff]; simp; done)), hM45.sub sN⟩
      ·
       refine xv 1 (c_load pE22 (hM4.rd 0 rfl) (cel_obj b1 5) rfl) ?_
       refine xfc 2 34 (h.lo = 0) (fun h47p => ?_) (fun h47p => ?_)
       ·
        have h47 : (h.lo == 0) = true := by simpa using h47p
        refine xv 1 (c_load pE22 (hM4.rd 0 rfl) (cel_obj b1 6) rfl) ?_
        have hM49 := hM4.sub (sD sR)
        exact xr 6 (v := .bool (h.hi == 0)) Tryz.func71 hR ⟨ret_bool (by unfold nothP; first | (simp [h7, h31, h32, h41, h43, h44, h47, h7p, h31p, h32p, h41p, h43p, h44p, h47p]; done) | (simp_all; done) | (simp_all; rw [Bool.eq_iff_iff]; simp; done)), hM49.sub sN⟩
       ·
        have h47 : (h.lo == 0) = false := by simpa using h47p
        have hM50 := hM4.sub (sD sR)
        exact xr 8 (v := .bool false) Tryz.func71 hR ⟨ret_bool (by unfold nothP; first | (simp [h7, h31, h32, h41, h43, h44, h47, h7p, h31p, h32p, h41p, h43p, h44p, h47p]; done) | (simp_all; done) | (simp_all; rw [Bool.eq_iff_iff]; simp; done)), hM50.sub sN⟩
     ·
      have h43 : (h.exact == 0) = false := by simpa using h43p
      have hM51 := hM4.sub (sD sR)
      exact xr 14 (v := .bool false) Tryz.func71 hR ⟨ret_bool (by unfold nothP; first | (simp [h7, h31, h32, h41, h43, h7p, h31p, h32p, h41p, h43p]; done) | (simp_all; done) | (simp_all; rw [Bool.eq_iff_iff]; simp; done)), hM51.sub sN⟩
    ·
     have h41 : (h.edits == 0) = false := by simpa using h41p
     have hM52 := hM4.sub (sD sR)
     exact xr 21 (v := .bool false) Tryz.func71 hR ⟨ret_bool (by unfold nothP; first | (simp [h7, h31, h32, h41, h7p, h31p, h32p, h41p]; done) | (simp_all; done) | (simp_all; rw [Bool.eq_iff_iff]; simp; done)), hM52.sub sN⟩
  ·
   have h31 : (decide (h.text = [])) = false := decide_eq_false h31p
   have hM53 := hM4.sub (sD sR)
   exact xr 27 (v := .bool false) Tryz.func71 hR ⟨ret_bool (by unfold nothP; first | (simp [h7, h31, h7p, h31p]; done) | (simp_all; done) | (simp_all; rw [Bool.eq_iff_iff]; simp; done)), hM53.sub sN⟩


end Go.Proofs.YthpodbngljfdmaaGreatDoor
