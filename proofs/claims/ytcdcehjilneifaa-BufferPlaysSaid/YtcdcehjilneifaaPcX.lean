/-
  The walk of awake.
-/
import Derived.Test.YtcdcehjilneifaaPcK
import Derived.Test.YtcdcehjilneifaaPcPl
import Derived.Test.YtcdcehjilneifaaPcS
namespace Go.Proofs.Ytcdcehjilneifaa
open Go Go.Gw Go.UtfP Go.TokP Go.PcP Go.RowKit
set_option linter.unusedVariables false
set_option linter.unusedSimpArgs false
set_option maxRecDepth 20000


abbrev uX0 : List Nat := [1,1,1,1]
abbrev uX1 : List Nat := [1,1,1,0]
set_option maxHeartbeats 400000 in
theorem new_c (w : World) :
  Calls Try.prog 14 #[] w (fun e w' => ∃ b, e = .returned (.pointer (some ⟨b, 0, none⟩)) ∧ Mem [] w w' [⟨82, 1, (obj b), 1, [.slice none 0 0]⟩]) := by
 obtain ⟨R, hR⟩ : ∃ R : Ending → World → Prop, R = (fun e w' => ∃ b, e = .returned (.pointer (some ⟨b, 0, none⟩)) ∧ Mem [] w w' [⟨82, 1, (obj b), 1, [.slice none 0 0]⟩]) := ⟨_, rfl⟩
 rw [← hR]
 refine GoS.enter (n := 3) Try.func14 (by kernel_rfl) rfl [] (by kernel_rfl) (by kernel_rfl) ?_
 have hM0 := Mem.start w
 obtain ⟨b1, w2, hr3, hM4⟩ := m_box (T := 82) (k := 1) (u := .agg #[.slice none 0 0]) rfl rfl hM0
 have hM5 : Mem [] w w2 [⟨82, 1, (obj b1), 1, [.slice none 0 0]⟩] := hM4
 have o6 : (Instr.box 82 (.agg #[.slice none 0 0])).run Try.prog w = .ok (pq b1) w2 := hr3
 refine GoS.run [0] [.n, .n, .n, .n, .n, .n, .n, .u (pq b1) (w2), .n, .n] _ [iC Try.f14 [1,1]] [(0, pq b1)] w2 (by kernel_rfl) (.cons o6 .nil) ?_
 refine GoS.ret (fn := Try.f14) (v := (pq b1)) Try.func14 (by kernel_rfl) ?_
 rw [hR]
 exact ⟨_, rfl, hM5⟩

set_option maxHeartbeats 400000 in
theorem put0_c (key : List UInt8) {w : World} :
  Calls Try.prog 19 #[.pointer none, .agg #[sS key, .slice none 0 0, .slice none 0 0]] w (fun e w' => e = .returned (.bool false) ∧ Mem [] w w' []) := by
 obtain ⟨R, hR⟩ : ∃ R : Ending → World → Prop, R = (fun e w' => e = .returned (.bool false) ∧ Mem [] w w' []) := ⟨_, rfl⟩
 rw [← hR]
 refine GoS.enter (n := 27) Try.func19 (by kernel_rfl) rfl [(0, .pointer none), (1, .agg #[sS key, .slice none 0 0, .slice none 0 0])] (by kernel_rfl) (by kernel_rfl) ?_
 have hM0 := Mem.start w
 obtain ⟨b1, w2, hr3, hM4⟩ := m_box (T := 29) (k := 3) (u := .agg #[sS key, .slice none 0 0, .slice none 0 0]) rfl rfl hM0
 have hM5 : Mem [] w w2 [⟨29, 3, (obj b1), 1, [sS key, .slice none 0 0, .slice none 0 0]⟩] := hM4
 have o6 : (Instr.box 29 (.agg #[sS key, .slice none 0 0, .slice none 0 0])).run Try.prog w = .ok (pq b1) w2 := hr3
 have hM7 := hM5.sub (sD sR)
 refine GoS.run [4] [.n, .n, .u (pq b1) (w2), .n, .n, .n, .n, .n, .n, .n, .n, .n, .n, .n, .n, .n, .n, .n, .n, .n, .n] _ [iC Try.f19 [1,0,1,0,1], iC Try.f19 [1,1]] [(4, .bool false)] w2 (by kernel_rfl) (.cons o6 .nil) ?_
 refine GoS.ret (fn := Try.f19) (v := (.bool false)) Try.func19 (by kernel_rfl) ?_
 rw [hR]
 exact ⟨rfl, hM7.sub sN⟩

set_option maxHeartbeats 400000 in
theorem drop0_c (key : List UInt8) {w : World} :
  Calls Try.prog 15 #[.pointer none, sS key] w (fun e w' => e = .returned (.bool false) ∧ Mem [] w w' []) := by
 obtain ⟨R, hR⟩ : ∃ R : Ending → World → Prop, R = (fun e w' => e = .returned (.bool false) ∧ Mem [] w w' []) := ⟨_, rfl⟩
 rw [← hR]
 refine GoS.enter (n := 22) Try.func15 (by kernel_rfl) rfl [(0, .pointer none), (1, sS key)] (by kernel_rfl) (by kernel_rfl) ?_
 have hM0 := Mem.start w
 refine GoS.run [0, 6, 7] [.n, .n, .n, .n, .n, .n, .n, .n] _ [.inRegion (cops (csub (cd Try.f15) [1,0])) [2,3], iC Try.f15 [1,1]] [(0, .pointer none), (6, .pointer none), (7, sS key)] w (by kernel_rfl) .nil ?_
 refine GoS.call [0] 39 #[.pointer none, sS key] (some 8) [.inRegion (cops (csub (cd Try.f15) [1,0])) [3], iC Try.f15 [1,1]] [(0, .pointer none)] (by kernel_rfl) (place0_c key (w := w)) ?_
 rintro _ w1 ⟨rfl, m2⟩
 refine ⟨_, rfl, ?_⟩
 have hM3 : Mem [] w w1 [] := Mem.join (R := []) hM0 m2
 refine GoS.run [4] [.n, .n, .n, .n, .n, .n, .n, .n, .n, .n, .n, .n, .n] _ [iC Try.f15 [1,1,0,1,0,1], iC Try.f15 [1,1,1]] [(4, .bool false)] w1 (by kernel_rfl) .nil ?_
 refine GoS.ret (fn := Try.f15) (v := (.bool false)) Try.func15 (by kernel_rfl) ?_
 rw [hR]
 exact ⟨rfl, hM3.sub sN⟩

set_option maxHeartbeats 1000000 in
theorem awake_c (w : World) :
  Calls Try.prog 10 #[] w (fun e w' => e = .returned (.bool true) ∧ Mem [] w w' []) := by
 obtain ⟨R, hR⟩ : ∃ R : Ending → World → Prop, R = (fun e w' => e = .returned (.bool true) ∧ Mem [] w w' []) := ⟨_, rfl⟩
 rw [← hR]
 refine GoS.enter (n := 52) Try.func10 (by kernel_rfl) rfl [] (by kernel_rfl) (by kernel_rfl) ?_
 have hM0 := Mem.start w
 obtain ⟨v1, w2, hr3, hM4⟩ := m_lit sT22 hM0 (n := 2) (parts := #[(0, .agg #[sS ([116] : List UInt8), sS ([84, 104, 101, 32, 102, 111, 120] : List UInt8)]), (1, .agg #[sS ([98] : List UInt8), sS ([])])]) (cs := [sS ([116] : List UInt8), sS ([84, 104, 101, 32, 102, 111, 120] : List UInt8), sS ([98] : List UInt8), sS ([])]) (by decide) (by kernel_rfl) rfl
 have o5 : (Instr.build 25 #[(0, sS ([107] : List UInt8)), (1, v1)]).run Try.prog w2 = .ok (.agg #[sS ([107] : List UInt8), v1, .slice none 0 0]) w2 := (by obtain ⟨a0_, m0_, c0_, e0_⟩ : ∃ a m c, v1 = Value.slice a m c := rd_form (hM4.rd 0 rfl); rw [e0_]; kernel_rfl)
 refine GoS.run [8] [.n, .n, .n, .n, .n, .n, .n, .n, .u (v1) (w2), .h (.agg #[sS ([107] : List UInt8), v1, .slice none 0 0])] _ [.inRegion (cops (csub (cd Try.f10) [1,0])) [4,5,6,7,8,9,10], iC Try.f10 [1,1]] [(8, .agg #[sS ([107] : List UInt8), v1, .slice none 0 0])] w2 (by kernel_rfl) (.cons hr3 (.cons o5 .nil)) ?_
 refine GoS.call [] 8 #[.agg #[sS ([107] : List UInt8), v1, .slice none 0 0]] (some 9) [.inRegion (cops (csub (cd Try.f10) [1,0])) [5,6,7,8,9,10], iC Try.f10 [1,1]] [] (by kernel_rfl) (piece_c (Dc.mk ([107] : List UInt8) ([(PcP.Fd.mk ([116] : List UInt8) ([84, 104, 101, 32, 102, 111, 120] : List UInt8)), (PcP.Fd.mk ([98] : List UInt8) ([]))] : List PcP.Fd) ([] : List Nm)) v1 (.slice none 0 0) (hM4.rd 0 rfl) (Rd.nil _ _)) ?_
 rintro _ w6 ⟨v7, v8, T9, rfl, ho10, m11⟩
 refine ⟨_, rfl, ?_⟩
 have hM12 : Mem [] w w6 (⟨57, 2, v1, 2, [sS ([116] : List UInt8), sS ([84, 104, 101, 32, 102, 111, 120] : List UInt8), sS ([98] : List UInt8), sS ([])]⟩ :: T9) := joinT0 (R := [⟨57, 2, v1, 2, [sS ([116] : List UInt8), sS ([84, 104, 101, 32, 102, 111, 120] : List UInt8), sS ([98] : List UInt8), sS ([])]⟩]) hM4 m11
 obtain ⟨hA, Z, hZ, hB, hTt⟩ := id ho10
 have hZ2 : (docP (Dc.mk ([107] : List UInt8) ([(PcP.Fd.mk ([116] : List UInt8) ([84, 104, 101, 32, 102, 111, 120] : List UInt8)), (PcP.Fd.mk ([98] : List UInt8) ([]))] : List PcP.Fd) ([] : List Nm))).words = [Wd.mk [98] [], Wd.mk [116] (tokL ([84, 104, 101, 32, 102, 111, 120] : List UInt8))] := by decide +kernel
 rw [hZ2] at hZ
 have hZl : Z.length = 2 := by simpa using (congrArg List.length hZ).symm
 have hz0 : (List.getD Z 0 wz).wd.name = [98] := by rw [← map_getD (by omega), ← hZ]; rfl
 have hz1 : (List.getD Z 1 wz).wd.toks.length = 2 := by rw [← map_getD (by omega), ← hZ]; decide +kernel
 obtain ⟨b13, w14, hr15, hM16⟩ := m_alloc oT29 hM12
 have hM17 : Mem [] w w14 (⟨29, 3, (obj b13), 1, [sS ([]), .slice none 0 0, .slice none 0 0]⟩ :: ⟨57, 2, v1, 2, [sS ([116] : List UInt8), sS ([84, 104, 101, 32, 102, 111, 120] : List UInt8), sS ([98] : List UInt8), sS ([])]⟩ :: T9) := hM16
 obtain ⟨w18, hr19, hM20⟩ := c_stores (ys := [sS ((docP (Dc.mk ([107] : List UInt8) ([(PcP.Fd.mk ([116] : List UInt8) ([84, 104, 101, 32, 102, 111, 120] : List UInt8)), (PcP.Fd.mk ([98] : List UInt8) ([]))] : List PcP.Fd) ([] : List Nm))).key), v7, v8]) aE29 hM17 0 rfl (cel_obj b13 0) rfl (by decide) (by intro u hu; simp at hu; rcases hu with rfl | rfl | rfl <;> first | rfl | exact (rdp_one (ho10.rd hM17 (fun r_ h_ => mS (mS (h_))))).1.1 | exact (rdp_one (ho10.rd hM17 (fun r_ h_ => mS (mS (h_))))).2.1)
 have hM21 : Mem [] w w18 (⟨29, 3, (obj b13), 1, [sS ((docP (Dc.mk ([107] : List UInt8) ([(PcP.Fd.mk ([116] : List UInt8) ([84, 104, 101, 32, 102, 111, 120] : List UInt8)), (PcP.Fd.mk ([98] : List UInt8) ([]))] : List PcP.Fd) ([] : List Nm))).key), v7, v8]⟩ :: ⟨57, 2, v1, 2, [sS ([116] : List UInt8), sS ([84, 104, 101, 32, 102, 111, 120] : List UInt8), sS ([98] : List UInt8), sS ([])]⟩ :: T9) := hM20
 have o22 : (Instr.storeAt 29 (pq b13) (.agg #[sS ((docP (Dc.mk ([107] : List UInt8) ([(PcP.Fd.mk ([116] : List UInt8) ([84, 104, 101, 32, 102, 111, 120] : List UInt8)), (PcP.Fd.mk ([98] : List UInt8) ([]))] : List PcP.Fd) ([] : List Nm))).key), v7, v8])).run Try.prog w14 = .ok () w18 ∧ undef = undef := ⟨hr19, rfl⟩
 have hM23 := hM21.sub (sK (sD sR))
 refine GoS.run [1, 2] [.n, .n, .n, .u (pq b13) (w14), .u (undef) (w18), .n, .n, .n, .n] _ [.inRegion (cops (csub (cd Try.f10) [1,1,0])) [0,1], iC Try.f10 [1,1,1]] [(1, pq b13), (2, .int .i64 (docE (Dc.mk ([107] : List UInt8) ([(PcP.Fd.mk ([116] : List UInt8) ([84, 104, 101, 32, 102, 111, 120] : List UInt8)), (PcP.Fd.mk ([98] : List UInt8) ([]))] : List PcP.Fd) ([] : List Nm))))] w18 (by kernel_rfl) (.cons hr15 (.cons o22 .nil)) ?_
 refine GoS.call [1, 2] 14 #[] (some 12) [.inRegion (cops (csub (cd Try.f10) [1,1,0])) [1], iC Try.f10 [1,1,1]] [(1, pq b13), (2, .int .i64 (docE (Dc.mk ([107] : List UInt8) ([(PcP.Fd.mk ([116] : List UInt8) ([84, 104, 101, 32, 102, 111, 120] : List UInt8)), (PcP.Fd.mk ([98] : List UInt8) ([]))] : List PcP.Fd) ([] : List Nm))))] (by kernel_rfl) (new_c w18) ?_
 rintro _ w24 ⟨b25, rfl, m26⟩
 refine ⟨_, rfl, ?_⟩
 have hM27 : Mem [] w w24 (⟨82, 1, (obj b25), 1, [.slice none 0 0]⟩ :: ⟨29, 3, (obj b13), 1, [sS ((docP (Dc.mk ([107] : List UInt8) ([(PcP.Fd.mk ([116] : List UInt8) ([84, 104, 101, 32, 102, 111, 120] : List UInt8)), (PcP.Fd.mk ([98] : List UInt8) ([]))] : List PcP.Fd) ([] : List Nm))).key), v7, v8]⟩ :: T9) := Mem.join hM23 m26
 refine GoS.run [1, 3, 15] [.n, .n, .n, .n, .n, .n, .n] _ [.inRegion (cops (csub (cd Try.f10) uX1)) [3,4,5,6,7,8,9,10,11,12,13,14,15,16,17,18,19,20,21,22,23,24,25,26,27,28,29,30,31,32,33,34,35,36,37,38,39], iC Try.f10 uX0] [(1, pq b13), (3, pq b25), (15, .bool ((docE (Dc.mk ([107] : List UInt8) ([(PcP.Fd.mk ([116] : List UInt8) ([84, 104, 101, 32, 102, 111, 120] : List UInt8)), (PcP.Fd.mk ([98] : List UInt8) ([]))] : List PcP.Fd) ([] : List Nm))) == 0))] w24 (by kernel_rfl) .nil ?_
 refine GoS.fork 15 ((docE (Dc.mk ([107] : List UInt8) ([(PcP.Fd.mk ([116] : List UInt8) ([84, 104, 101, 32, 102, 111, 120] : List UInt8)), (PcP.Fd.mk ([98] : List UInt8) ([]))] : List PcP.Fd) ([] : List Nm))) == 0) (by kernel_rfl) (fun h28 => ?_) (fun h28 => ?_)
 ·
  have h28p : (docE (Dc.mk ([107] : List UInt8) ([(PcP.Fd.mk ([116] : List UInt8) ([84, 104, 101, 32, 102, 111, 120] : List UInt8)), (PcP.Fd.mk ([98] : List UInt8) ([]))] : List PcP.Fd) ([] : List Nm))) = 0 := eq_of_beq h28
  have o29 : (Instr.loadAt 27 (.pointer (some (⟨b13, 2, none⟩)))).run Try.prog w24 = .ok (v8) w24 := c_load pE27 (hM27.rd 1 rfl) (cel_obj b13 2) rfl
  have o30 : (Builtin.len_ #[27] 3 #[v8]).run Try.prog w24 = .ok (iN (List.length Z)) w24 := f_slen sT27 (Mem_rdm hM27 ((fun r_ h_ => mS (mS (h_))) _ hB)) 3 _
  refine GoS.run [1, 3, 21] [.n, .h (v8), .h (iN (List.length Z)), .n, .n, .n] _ [.inRegion (cops (csub (cd Try.f10) uX1)) [9,10,11,12,13,14,15,16,17,18,19,20,21,22,23,24,25,26,27,28,29,30,31,32,33,34,35,36,37,38,39], iC Try.f10 uX0] [(1, pq b13), (3, pq b25), (21, .bool ((((List.length Z) : Nat) : Int) == 2))] w24 (by kernel_rfl) (.cons o29 (.cons o30 .nil)) ?_
  refine GoS.fork 21 ((((List.length Z) : Nat) : Int) == 2) (by kernel_rfl) (fun h31 => ?_) (fun h31 => ?_)
  ·
   have h31p : (((List.length Z) : Nat) : Int) = 2 := eq_of_beq h31
   have o35 : (Instr.loadAt 27 (.pointer (some (⟨b13, 2, none⟩)))).run Try.prog w24 = .ok (v8) w24 := c_load pE27 (hM27.rd 1 rfl) (cel_obj b13 2) rfl
   obtain ⟨p32, hp33, hq34⟩ := rd_at (i := 0) sT27 (Mem_rdm hM27 ((fun r_ h_ => mS (mS (h_))) _ hB)) 0 (by omega) (by first | omega | (dsimp only; omega))
   have o36 : (Instr.indexAt 27 (v8) (.int .i64 0)).run Try.prog w24 = .ok (.pointer (some p32)) w24 := hq34 _ _
   have o37 : (Instr.loadAt 9 (.pointer (some (Addr.add p32 0)))).run Try.prog w24 = .ok (sS ((List.getD Z 0 wz).wd.name)) w24 := c_load pE9 (Mem_rdm hM27 ((fun r_ h_ => mS (mS (h_))) _ hB)) (Cel.add (At.cel hp33) 0) (recs_at (i := 0) wzC_len wz (by first | omega | (dsimp only; omega)) rfl)
   have o38 : (binOp .eql 9 (sS ((List.getD Z 0 wz).wd.name)) (sS ([98] : List UInt8))).run Try.prog w24 = .ok (.bool (decide (((List.getD Z 0 wz).wd.name) = ([98] : List UInt8)))) w24 := f_streq
   refine GoS.run [1, 3, 29] [.n, .h (v8), .h (.pointer (some p32)), .n, .h (sS ((List.getD Z 0 wz).wd.name)), .h (.bool (decide (((List.getD Z 0 wz).wd.name) = ([98] : List UInt8)))), .n, .n] _ [.inRegion (cops (csub (cd Try.f10) uX1)) [17,18,19,20,21,22,23,24,25,26,27,28,29,30,31,32,33,34,35,36,37,38,39], iC Try.f10 uX0] [(1, pq b13), (3, pq b25), (29, .bool (decide (((List.getD Z 0 wz).wd.name) = ([98] : List UInt8))))] w24 (by kernel_rfl) (.cons o35 (.cons o36 (.cons o37 (.cons o38 .nil)))) ?_
   refine GoS.fork 29 (decide (((List.getD Z 0 wz).wd.name) = ([98] : List UInt8))) (by kernel_rfl) (fun h39 => ?_) (fun h39 => ?_)
   ·
    have h39p : ((List.getD Z 0 wz).wd.name) = ([98] : List UInt8) := of_decide_eq_true h39
    have o43 : (Instr.loadAt 27 (.pointer (some (⟨b13, 2, none⟩)))).run Try.prog w24 = .ok (v8) w24 := c_load pE27 (hM27.rd 1 rfl) (cel_obj b13 2) rfl
    obtain ⟨p40, hp41, hq42⟩ := rd_at (i := 1) sT27 (Mem_rdm hM27 ((fun r_ h_ => mS (mS (h_))) _ hB)) 1 (by omega) (by first | omega | (dsimp only; omega))
    have o44 : (Instr.indexAt 27 (v8) (.int .i64 1)).run Try.prog w24 = .ok (.pointer (some p40)) w24 := hq42 _ _
    have o45 : (Instr.loadAt 64 (.pointer (some (Addr.add p40 1)))).run Try.prog w24 = .ok (((List.getD Z 1 wz).toks)) w24 := c_load pE64 (Mem_rdm hM27 ((fun r_ h_ => mS (mS (h_))) _ hB)) (Cel.add (At.cel hp41) 1) (recs_at (i := 1) wzC_len wz (by first | omega | (dsimp only; omega)) rfl)
    have o46 : (Builtin.len_ #[64] 3 #[((List.getD Z 1 wz).toks)]).run Try.prog w24 = .ok (iN (List.length (List.getD Z 1 wz).wd.toks)) w24 := f_slen sT64 (Mem_rdm hM27 ((fun r_ h_ => mS (mS (h_))) _ (hTt _ (getD_mem (i := 1) (d := wz) (by omega))))) 3 _
    refine GoS.run [1, 3, 38] [.n, .h (v8), .h (.pointer (some p40)), .n, .h (((List.getD Z 1 wz).toks)), .h (iN (List.length (List.getD Z 1 wz).wd.toks)), .n, .n, .n] _ [.inRegion (cops (csub (cd Try.f10) uX1)) [26,27,28,29,30,31,32,33,34,35,36,37,38,39], iC Try.f10 uX0] [(1, pq b13), (3, pq b25), (38, .bool ((((List.length (List.getD Z 1 wz).wd.toks) : Nat) : Int) == 2))] w24 (by kernel_rfl) (.cons o43 (.cons o44 (.cons o45 (.cons o46 .nil)))) ?_
    refine GoS.fork 38 ((((List.length (List.getD Z 1 wz).wd.toks) : Nat) : Int) == 2) (by kernel_rfl) (fun h47 => ?_) (fun h47 => ?_)
    ·
     have h47p : (((List.length (List.getD Z 1 wz).wd.toks) : Nat) : Int) = 2 := eq_of_beq h47
     have o48 : (Instr.loadAt 29 (pq b13)).run Try.prog w24 = .ok (.agg #[sS ((docP (Dc.mk ([107] : List UInt8) ([(PcP.Fd.mk ([116] : List UInt8) ([84, 104, 101, 32, 102, 111, 120] : List UInt8)), (PcP.Fd.mk ([98] : List UInt8) ([]))] : List PcP.Fd) ([] : List Nm))).key), v7, v8]) w24 := c_loads (ys := [sS ((docP (Dc.mk ([107] : List UInt8) ([(PcP.Fd.mk ([116] : List UInt8) ([84, 104, 101, 32, 102, 111, 120] : List UInt8)), (PcP.Fd.mk ([98] : List UInt8) ([]))] : List PcP.Fd) ([] : List Nm))).key), v7, v8]) aE29 (hM27.rd 1 rfl) (cel_obj b13 0) rfl (by intro j u hj; match j, hj with | 0, hj => exact hj | 1, hj => exact hj | 2, hj => exact hj | n + 3, hj => cases hj)
     have hM49 := hM27.sub (sK (sD sR))
     refine GoS.run [3, 38, 39, 40] [.n, .h (.agg #[sS ((docP (Dc.mk ([107] : List UInt8) ([(PcP.Fd.mk ([116] : List UInt8) ([84, 104, 101, 32, 102, 111, 120] : List UInt8)), (PcP.Fd.mk ([98] : List UInt8) ([]))] : List PcP.Fd) ([] : List Nm))).key), v7, v8])] _ [.inRegion (cops (csub (cd Try.f10) uX1)) [28,29,30,31,32,33,34,35,36,37,38,39], iC Try.f10 uX0] [(3, pq b25), (38, .bool true), (39, pq b25), (40, .agg #[sS ((docP (Dc.mk ([107] : List UInt8) ([(PcP.Fd.mk ([116] : List UInt8) ([84, 104, 101, 32, 102, 111, 120] : List UInt8)), (PcP.Fd.mk ([98] : List UInt8) ([]))] : List PcP.Fd) ([] : List Nm))).key), v7, v8])] w24 (by kernel_rfl) (.cons o48 .nil) ?_
     have hM50 := hM49.nilrow 29 3
     have hM52 : Mem [] w w24 (⟨29, 3, (.slice none 0 0), (List.length ([] : List PZ)), (recs pzC ([] : List PZ))⟩ :: ⟨82, 1, (obj b25), 1, [.slice none 0 0]⟩ :: T9) := hM50
     have hM53 : Mem [] w w24 (⟨82, 1, (obj b25), 1, [.slice none 0 0]⟩ :: ⟨29, 3, (.slice none 0 0), (List.length ([] : List PZ)), (recs pzC ([] : List PZ))⟩ :: T9) := hM52.perm (pS pR)
     have hM54 : Mem [] w w24 ((⟨82, 1, (obj b25), 1, [.slice none 0 0]⟩ :: ⟨29, 3, (.slice none 0 0), (List.length ([] : List PZ)), (recs pzC ([] : List PZ))⟩ :: T9) ++ []) := swapT (R := []) (T := T9) hM53
     refine GoS.call [3, 38] 19 #[pq b25, .agg #[sS ((docP (Dc.mk ([107] : List UInt8) ([(PcP.Fd.mk ([116] : List UInt8) ([84, 104, 101, 32, 102, 111, 120] : List UInt8)), (PcP.Fd.mk ([98] : List UInt8) ([]))] : List PcP.Fd) ([] : List Nm))).key), v7, v8]] (some 41) [.inRegion (cops (csub (cd Try.f10) uX1)) [29,30,31,32,33,34,35,36,37,38,39], iC Try.f10 uX0] [(3, pq b25), (38, .bool true)] (by kernel_rfl) (put_c b25 (.slice none 0 0) ([] : List PZ) T9 (OwZ.nil) (Nat.zero_le _) (docP (Dc.mk ([107] : List UInt8) ([(PcP.Fd.mk ([116] : List UInt8) ([84, 104, 101, 32, 102, 111, 120] : List UInt8)), (PcP.Fd.mk ([98] : List UInt8) ([]))] : List PcP.Fd) ([] : List Nm))) v7 v8 (ho10.mono (fun r_ h_ => h_)) docP_small (Mem.lend (R := (⟨82, 1, (obj b25), 1, [.slice none 0 0]⟩ :: ⟨29, 3, (.slice none 0 0), (List.length ([] : List PZ)), (recs pzC ([] : List PZ))⟩ :: T9)) (L := []) hM54)) ?_
     rintro _ w55 ⟨v56, Z57, T58, rfl, hps59, hT60, hsub61, m62⟩
     refine ⟨_, rfl, ?_⟩
     have hM63 : Mem [] w w55 ((⟨82, 1, (obj b25), 1, [v56]⟩ :: ⟨29, 3, v56, (List.length Z57), (recs pzC Z57)⟩ :: T58) ++ []) := Mem.back (R := (⟨82, 1, (obj b25), 1, [.slice none 0 0]⟩ :: ⟨29, 3, (.slice none 0 0), (List.length ([] : List PZ)), (recs pzC ([] : List PZ))⟩ :: T9)) (L := []) hM54 m62
     have hM64 : Mem [] w w55 (⟨82, 1, (obj b25), 1, [v56]⟩ :: ⟨29, 3, v56, (List.length Z57), (recs pzC Z57)⟩ :: T58) := swapT2 (R := []) (T := T58) hM63
     have hsub65 : ∀ r_ ∈ T9, r_ ∈ T58 := fun r_ h_ => hsub61 r_ (h_)
     refine GoS.run [3, 43] [.n, .n] _ [.inRegion (cops (csub (cd Try.f10) uX1)) [31,32,33,34,35,36,37,38,39], iC Try.f10 uX0] [(3, pq b25), (43, .bool (checkP (docP (Dc.mk ([107] : List UInt8) ([(PcP.Fd.mk ([116] : List UInt8) ([84, 104, 101, 32, 102, 111, 120] : List UInt8)), (PcP.Fd.mk ([98] : List UInt8) ([]))] : List PcP.Fd) ([] : List Nm)))))] w55 (by kernel_rfl) .nil ?_
     refine GoS.fork 43 (checkP (docP (Dc.mk ([107] : List UInt8) ([(PcP.Fd.mk ([116] : List UInt8) ([84, 104, 101, 32, 102, 111, 120] : List UInt8)), (PcP.Fd.mk ([98] : List UInt8) ([]))] : List PcP.Fd) ([] : List Nm)))) (by kernel_rfl) (fun h66 => ?_) (fun h66 => ?_)
     ·
      refine GoS.run [3, 43, 44] [.n] _ [.inRegion (cops (csub (cd Try.f10) uX1)) [32,33,34,35,36,37,38,39], iC Try.f10 uX0] [(3, pq b25), (43, .bool true), (44, pq b25)] w55 (by kernel_rfl) .nil ?_
      refine GoS.call [3, 43] 24 #[pq b25, sS ([107] : List UInt8)] (some 45) [.inRegion (cops (csub (cd Try.f10) uX1)) [33,34,35,36,37,38,39], iC Try.f10 uX0] [(3, pq b25), (43, .bool true)] (by kernel_rfl) (has_c b25 ([107] : List UInt8) v56 Z57 (hM64.rd 0 rfl) (hM64.rd 1 rfl) (hT60.one hM64 (fun r_ h_ => mS (mS (h_))))) ?_
      rintro _ w67 ⟨rfl, m68⟩
      refine ⟨_, rfl, ?_⟩
      have hM69 : Mem [] w w67 (⟨82, 1, (obj b25), 1, [v56]⟩ :: ⟨29, 3, v56, (List.length Z57), (recs pzC Z57)⟩ :: T58) := Mem.join (R := []) hM64 m68
      refine GoS.run [3, 47] [.n, .n] _ [.inRegion (cops (csub (cd Try.f10) uX1)) [35,36,37,38,39], iC Try.f10 uX0] [(3, pq b25), (47, .bool (hasK (List.map PZ.pc Z57) ([107] : List UInt8)))] w67 (by kernel_rfl) .nil ?_
      refine GoS.fork 47 (hasK (List.map PZ.pc Z57) ([107] : List UInt8)) (by kernel_rfl) (fun h70 => ?_) (fun h70 => ?_)
      ·
       refine GoS.run [47, 48] [.n] _ [.inRegion (cops (csub (cd Try.f10) uX1)) [36,37,38,39], iC Try.f10 uX0] [(47, .bool true), (48, pq b25)] w67 (by kernel_rfl) .nil ?_
       refine GoS.call [47] 23 #[pq b25] (some 49) [.inRegion (cops (csub (cd Try.f10) uX1)) [37,38,39], iC Try.f10 uX0] [(47, .bool true)] (by kernel_rfl) (len_c b25 [] v56 Z57 (hM69.rd 0 rfl) (hM69.rd 1 rfl) (hT60.one hM69 (fun r_ h_ => mS (mS (h_))))) ?_
       rintro _ w71 ⟨rfl, m72⟩
       refine ⟨_, rfl, ?_⟩
       have hM73 : Mem [] w w71 (⟨82, 1, (obj b25), 1, [v56]⟩ :: ⟨29, 3, v56, (List.length Z57), (recs pzC Z57)⟩ :: T58) := Mem.join (R := []) hM69 m72
       have hM74 := hM73.sub (sD (sD sR))
       refine GoS.run [0] [.n, .n, .n] _ [.inRegion (cops (csub (cd Try.f10) uX1)) [], iC Try.f10 uX0] [(0, .bool ((((List.length Z57) : Nat) : Int) == 1))] w71 (by kernel_rfl) .nil ?_
       refine GoS.run [0] [.n] _ [iC Try.f10 uX0] [(0, .bool ((((List.length Z57) : Nat) : Int) == 1))] w71 (by kernel_rfl) .nil ?_
       refine GoS.ret (fn := Try.f10) (v := (.bool ((((List.length Z57) : Nat) : Int) == 1))) Try.func10 (by kernel_rfl) ?_
       rw [hR]
       have hl : Z57.length = 1 := by have z := congrArg List.length hps59; rw [List.length_map] at z; rw [z]; decide +kernel
       exact ⟨ret_bool (by rw [hl]; decide), hM74.sub sN⟩
      ·
       rw [hps59] at h70; exact absurd h70 (by decide +kernel)
     ·
      exact absurd h66 (by decide +kernel)
    ·
     rw [hz1] at h47; exact absurd h47 (by decide)
   ·
    rw [hz0] at h39; exact absurd h39 (by decide)
  ·
   rw [hZl] at h31; exact absurd h31 (by decide)
 ·
  exact absurd h28 (by decide +kernel)


end Go.Proofs.Ytcdcehjilneifaa
