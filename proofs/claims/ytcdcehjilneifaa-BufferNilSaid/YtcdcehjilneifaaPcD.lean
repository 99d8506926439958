/-
  The walk of the closure that knows names.
-/
import Derived.Test.YtcdcehjilneifaaPcC
import Derived.Test.YtcdcehjilneifaaMap
import Derived.Test.YtcdcehjilneifaaCmp
namespace Go.Proofs.Ytcdcehjilneifaa
open Go Go.Gw Go.UtfP Go.TokP Go.PcP Go.RowKit
set_option linter.unusedVariables false
set_option linter.unusedSimpArgs false
set_option maxRecDepth 20000

theorem pE62 : Plain Try.prog 62 := ⟨.map 9 4, by kernel_rfl, (fun _ h => by cases h), (fun _ _ h => by cases h)⟩


set_option maxHeartbeats 400000 in
theorem fresh_c {w : World} (s : List UInt8) (b B : Nat) (seen : List (List UInt8)) (hbx : Rd w 1 (obj b) 1 [.map (some B)]) (hm : MapIs w B seen) :
  Calls Try.prog 26 #[.string (sb s), pq b] w (fun e w' => e = .returned (.int .i64 (freshE seen s)) ∧ Mem [B] w w' [] ∧ MapIs w' B (if freshE seen s = 0 then seen ++ [s] else seen)) := by
 obtain ⟨R, hR⟩ : ∃ R : Ending → World → Prop, R = (fun e w' => e = .returned (.int .i64 (freshE seen s)) ∧ Mem [B] w w' [] ∧ MapIs w' B (if freshE seen s = 0 then seen ++ [s] else seen)) := ⟨_, rfl⟩
 rw [← hR]
 refine GoS.enter (n := 14) Try.func26 (by kernel_rfl) rfl [(0, .string (sb s)), (1, pq b)] (by kernel_rfl) (by kernel_rfl) ?_
 have hM0 := Mem.start w
 refine GoS.run [0, 1, 5] [.n, .n, .n, .n, .n, .n, .n, .n, .n] _ [.inRegion (cops (csub (cd Try.f26) [1,0,0,0])) [1,2,3], .code (csub (cd Try.f26) [1,0,0,1]), .inBlock 0, .code (csub (cd Try.f26) [1,1])] [(0, .string (sb s)), (1, pq b), (5, .string (sb s))] w (by kernel_rfl) .nil ?_
 refine GoS.call [0, 1] 27 #[.string (sb s)] (some 6) [.inRegion (cops (csub (cd Try.f26) [1,0,0,0])) [2,3], .code (csub (cd Try.f26) [1,0,0,1]), .inBlock 0, .code (csub (cd Try.f26) [1,1])] [(0, .string (sb s)), (1, pq b)] (by kernel_rfl) (name_c s w) ?_
 rintro _ _ ⟨rfl, rfl⟩
 refine ⟨_, rfl, ?_⟩
 refine GoS.run [0, 1, 4] [.n, .n, .n] _ [.code (csub (cd Try.f26) [1,0,0,1]), .inBlock 0, .code (csub (cd Try.f26) [1,1])] [(0, .string (sb s)), (1, pq b), (4, .bool (!(nameP s)))] w (by kernel_rfl) .nil ?_
 refine GoS.cond (!(nameP s)) [.code (csub (cd Try.f26) [1,0,0,1,0]), .inBlock 0, .code (csub (cd Try.f26) [1,1])] [.code (csub (cd Try.f26) [1,0,0,1,1]), .inBlock 0, .code (csub (cd Try.f26) [1,1])] (by kernel_rfl) (fun h1 => ?_) (fun h1 => ?_)
 ·
  refine GoS.run [3] [.n, .n, .n, .n] _ [.code (csub (cd Try.f26) [1,0,0,1,0,1]), .inBlock 0, .code (csub (cd Try.f26) [1,1])] [(3, .int .i64 1)] w (by kernel_rfl) .nil ?_
  refine GoS.ret (fn := Try.f26) (v := (.int .i64 1)) Try.func26 (by kernel_rfl) ?_
  rw [hR]
  have e0 : freshE seen s = 1 := fresh_name (by simpa using h1)
  exact ⟨ret_int e0.symm, hM0.mono1, by rw [e0]; exact (hm.kept0 hM0.kept)⟩
 ·
  have o2 : (Instr.loadAt 62 (pq b)).run Try.prog w = .ok (.map (some B)) w := c_load pE62 (hbx.kept0 hM0.kept) (cel_obj b 0) rfl
  have o3 : (Instr.lookup 62 (.map (some B)) (.string (sb s)) false).run Try.prog w = .ok (.bool (List.contains seen s)) w := f_lookup Try.underlying62 Try.underlying9 (by kernel_rfl) (hm.kept0 hM0.kept) s
  refine GoS.run [0, 1, 8] [.n, .n, .h (.map (some B)), .n, .h (.bool (List.contains seen s)), .n, .n] _ [.code (csub (cd Try.f26) [1,0,0,1,1,1]), .inBlock 0, .code (csub (cd Try.f26) [1,1])] [(0, .string (sb s)), (1, pq b), (8, .bool (List.contains seen s))] w (by kernel_rfl) (.cons o2 (.cons o3 .nil)) ?_
  refine GoS.cond (List.contains seen s) [.code (csub (cd Try.f26) [1,0,0,1,1,1,0]), .inBlock 0, .code (csub (cd Try.f26) [1,1])] [.code (csub (cd Try.f26) [1,0,0,1,1,1,1]), .inBlock 0, .code (csub (cd Try.f26) [1,1])] (by kernel_rfl) (fun h4 => ?_) (fun h4 => ?_)
  ·
   refine GoS.run [3] [.n, .n, .n, .n] _ [.code (csub (cd Try.f26) [1,0,0,1,1,1,0,1]), .inBlock 0, .code (csub (cd Try.f26) [1,1])] [(3, .int .i64 12)] w (by kernel_rfl) .nil ?_
   refine GoS.ret (fn := Try.f26) (v := (.int .i64 12)) Try.func26 (by kernel_rfl) ?_
   rw [hR]
   have e0 : freshE seen s = 12 := fresh_there (by simpa using h1) (by simpa using h4)
   exact ⟨ret_int e0.symm, hM0.mono1, by rw [e0]; exact (hm.kept0 hM0.kept)⟩
  ·
   refine GoS.run [0, 1] [.n] _ [.inBlock 0, .code (csub (cd Try.f26) [1,1])] [(0, .string (sb s)), (1, pq b)] w (by kernel_rfl) .nil ?_
   have o9 : (Instr.loadAt 62 (pq b)).run Try.prog w = .ok (.map (some B)) w := c_load pE62 (hbx.kept0 hM0.kept) (cel_obj b 0) rfl
   obtain ⟨w5, hr6, hk7, hm8⟩ := m_mapset (t := 62) Try.underlying62 Try.underlying9 (hm.kept0 hM0.kept) s (by simpa using h4)
   have o10 : (Instr.mapUpdate 62 (.map (some B)) (.string (sb s)) (.bool true)).run Try.prog w = .ok () w5 ∧ undef = undef := ⟨hr6, rfl⟩
   refine GoS.run [3] [.n, .n, .n, .h (.map (some B)), .n, .u (undef) (w5), .n, .n, .n, .n, .n] _ [.code (csub (cd Try.f26) [1,1,1,1])] [(3, .int .i64 0)] w5 (by kernel_rfl) (.cons o9 (.cons o10 .nil)) ?_
   refine GoS.ret (fn := Try.f26) (v := (.int .i64 0)) Try.func26 (by kernel_rfl) ?_
   rw [hR]
   have e0 : freshE seen s = 0 := fresh_ok (by simpa using h1) (by simpa using h4)
   exact ⟨ret_int e0.symm, (Mem.start w).of_kept (hM0.kept.mono1.trans hk7), by rw [e0, if_pos rfl]; exact hm8⟩


end Go.Proofs.Ytcdcehjilneifaa
