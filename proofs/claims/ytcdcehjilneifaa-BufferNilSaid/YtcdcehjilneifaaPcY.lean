/-
  The walk of BufferNil.
-/
import Derived.Test.YtcdcehjilneifaaPcX
namespace Go.Proofs.Ytcdcehjilneifaa
open Go Go.Gw Go.UtfP Go.TokP Go.PcP Go.RowKit
set_option linter.unusedVariables false
set_option linter.unusedSimpArgs false
set_option maxRecDepth 20000



set_option maxHeartbeats 400000 in
theorem lnil_c {w : World} (key : List UInt8) :
  Calls Try.prog 6 #[.string (sb key)] w (fun e w' => e = .returned (.bool true) ∧ Below w.heap.size w w') := by
 obtain ⟨R, hR⟩ : ∃ R : Ending → World → Prop, R = (fun e w' => e = .returned (.bool true) ∧ Below w.heap.size w w') := ⟨_, rfl⟩
 rw [← hR]
 refine GoS.enter (n := 34) Try.func6 (by kernel_rfl) rfl [(0, .string (sb key))] (by kernel_rfl) (by kernel_rfl) ?_
 have hM0 := Mem.start w
 refine GoS.run [0, 3] [.n, .n, .n, .n, .n, .n, .n, .n, .n, .n] _ [.inRegion (cops (csub (cd Try.f6) [1,1,0])) [0,1,2,3,4,5,6,7,8,9,10,11,12,13,14,15,16,17,18,19,20,21,22,23,24,25,26,27,28,29,30], .code (csub (cd Try.f6) [1,1,1])] [(0, .string (sb key)), (3, .pointer none)] w (by kernel_rfl) .nil ?_
 refine GoS.call [0, 3] 10 #[] (some 4) [.inRegion (cops (csub (cd Try.f6) [1,1,0])) [1,2,3,4,5,6,7,8,9,10,11,12,13,14,15,16,17,18,19,20,21,22,23,24,25,26,27,28,29,30], .code (csub (cd Try.f6) [1,1,1])] [(0, .string (sb key)), (3, .pointer none)] (by kernel_rfl) (awake_c w) ?_
 rintro _ w1 ⟨rfl, m2⟩
 refine ⟨_, rfl, ?_⟩
 have hM3 : Mem [] w w1 [] := Mem.join (R := []) hM0 m2
 refine GoS.run [0, 3, 5, 6, 7] [.n, .n, .n] _ [.inRegion (cops (csub (cd Try.f6) [1,1,0])) [4,5,6,7,8,9,10,11,12,13,14,15,16,17,18,19,20,21,22,23,24,25,26,27,28,29,30], .code (csub (cd Try.f6) [1,1,1])] [(0, .string (sb key)), (3, .pointer none), (5, .bool true), (6, .pointer none), (7, .agg #[.string (sb ([107] : List UInt8)), .slice none 0 0, .slice none 0 0])] w1 (by kernel_rfl) .nil ?_
 refine GoS.call [0, 3, 5] 19 #[.pointer none, .agg #[.string (sb ([107] : List UInt8)), .slice none 0 0, .slice none 0 0]] (some 8) [.inRegion (cops (csub (cd Try.f6) [1,1,0])) [5,6,7,8,9,10,11,12,13,14,15,16,17,18,19,20,21,22,23,24,25,26,27,28,29,30], .code (csub (cd Try.f6) [1,1,1])] [(0, .string (sb key)), (3, .pointer none), (5, .bool true)] (by kernel_rfl) (put0_c ([107] : List UInt8) (w := w1)) ?_
 rintro _ w4 ⟨rfl, m5⟩
 refine ⟨_, rfl, ?_⟩
 have hM6 : Mem [] w w4 [] := Mem.join (R := []) hM3 m5
 refine GoS.run [0, 3, 11, 12, 13] [.n, .n, .n, .n, .n] _ [.inRegion (cops (csub (cd Try.f6) [1,1,0])) [10,11,12,13,14,15,16,17,18,19,20,21,22,23,24,25,26,27,28,29,30], .code (csub (cd Try.f6) [1,1,1])] [(0, .string (sb key)), (3, .pointer none), (11, .bool true), (12, .pointer none), (13, .string (sb key))] w4 (by kernel_rfl) .nil ?_
 refine GoS.call [0, 3, 11] 15 #[.pointer none, .string (sb key)] (some 14) [.inRegion (cops (csub (cd Try.f6) [1,1,0])) [11,12,13,14,15,16,17,18,19,20,21,22,23,24,25,26,27,28,29,30], .code (csub (cd Try.f6) [1,1,1])] [(0, .string (sb key)), (3, .pointer none), (11, .bool true)] (by kernel_rfl) (drop0_c key (w := w4)) ?_
 rintro _ w7 ⟨rfl, m8⟩
 refine ⟨_, rfl, ?_⟩
 have hM9 : Mem [] w w7 [] := Mem.join (R := []) hM6 m8
 refine GoS.run [3, 17, 18, 19] [.n, .n, .n, .n, .n] _ [.inRegion (cops (csub (cd Try.f6) [1,1,0])) [16,17,18,19,20,21,22,23,24,25,26,27,28,29,30], .code (csub (cd Try.f6) [1,1,1])] [(3, .pointer none), (17, .bool true), (18, .pointer none), (19, .string (sb key))] w7 (by kernel_rfl) .nil ?_
 refine GoS.call [3, 17] 24 #[.pointer none, .string (sb key)] (some 20) [.inRegion (cops (csub (cd Try.f6) [1,1,0])) [17,18,19,20,21,22,23,24,25,26,27,28,29,30], .code (csub (cd Try.f6) [1,1,1])] [(3, .pointer none), (17, .bool true)] (by kernel_rfl) (has0_c key (w := w7)) ?_
 rintro _ w10 ⟨rfl, m11⟩
 refine ⟨_, rfl, ?_⟩
 have hM12 : Mem [] w w10 [] := Mem.join (R := []) hM9 m11
 refine GoS.run [3, 23, 24] [.n, .n, .n, .n] _ [.inRegion (cops (csub (cd Try.f6) [1,1,0])) [21,22,23,24,25,26,27,28,29,30], .code (csub (cd Try.f6) [1,1,1])] [(3, .pointer none), (23, .bool true), (24, .pointer none)] w10 (by kernel_rfl) .nil ?_
 refine GoS.call [3, 23] 23 #[.pointer none] (some 25) [.inRegion (cops (csub (cd Try.f6) [1,1,0])) [22,23,24,25,26,27,28,29,30], .code (csub (cd Try.f6) [1,1,1])] [(3, .pointer none), (23, .bool true)] (by kernel_rfl) (len0_c (w := w10)) ?_
 rintro _ w13 ⟨rfl, m14⟩
 refine ⟨_, rfl, ?_⟩
 have hM15 : Mem [] w w13 [] := Mem.join (R := []) hM12 m14
 refine GoS.run [28, 29] [.n, .n, .n, .n] _ [.inRegion (cops (csub (cd Try.f6) [1,1,0])) [26,27,28,29,30], .code (csub (cd Try.f6) [1,1,1])] [(28, .bool true), (29, .pointer none)] w13 (by kernel_rfl) .nil ?_
 refine GoS.call [28] 22 #[.pointer none] (some 30) [.inRegion (cops (csub (cd Try.f6) [1,1,0])) [27,28,29,30], .code (csub (cd Try.f6) [1,1,1])] [(28, .bool true)] (by kernel_rfl) (pieces0_c (w := w13)) ?_
 rintro _ w16 ⟨rfl, m17⟩
 refine ⟨_, rfl, ?_⟩
 have hM18 : Mem [] w w16 [] := Mem.join (R := []) hM15 m17
 refine GoS.run [2] [.n, .n, .n, .n, .n] _ [.code (csub (cd Try.f6) [1,1,1])] [(2, .bool true)] w16 (by kernel_rfl) .nil ?_
 refine GoS.ret (fn := Try.f6) (v := (.bool true)) Try.func6 (by kernel_rfl) ?_
 rw [hR]
 exact ⟨rfl, hM18.below⟩


end Go.Proofs.Ytcdcehjilneifaa
