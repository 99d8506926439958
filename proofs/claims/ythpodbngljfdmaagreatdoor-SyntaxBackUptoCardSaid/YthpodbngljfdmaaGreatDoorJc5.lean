/-
  Joined texts. No condition beyond those that each theorem names. What they say:
  The walk of SyntaxBack.
  The frame of a row that is bounded by bulk, of which package variables are laid: bulk, reach and what is laid are told. No condition.
  A query, as a row tells of it: the struct's eight cells, the last a slice of such structs. No condition beyond those that each theorem names.
  A query, as a row tells of it: its bounds are bits. No condition beyond those that each theorem names.
-/
import Derived.LaidLaws
import Derived.Test.YthpodbngljfdmaaGreatDoorRows
import Derived.Test.YthpodbngljfdmaaGreatDoorJc4
namespace Go.Proofs.YthpodbngljfdmaaGreatDoor
open Go Go.Gw Go.UtfP Go.TokP Go.QryP Go.SynP Go.RealQ Go.SynV Go.RowKit
set_option linter.unusedVariables false
set_option linter.unusedSimpArgs false
set_option maxRecDepth 20000


set_option maxHeartbeats 4000000 in
theorem lback_c {w : World} (q : Q) (h : Hd) (he : h = q.h) (v : Value) (hq : RdQ w q v) (hb : bulkQ q ≤ 1048576) (hu : numQ q) (s : List UInt8) (hs : s.length ≤ 1048576) (hG : GS [] w) :
  Calls Tryz.prog 5 #[.agg #[.int .i64 (h.op), sS (h.field), sS (h.text), .int .i64 (h.edits), .int .i64 (h.exact), .int .u64 (h.lo), .int .u64 (h.hi), v], sS s] w (fun e w' => e = .returned (.bool true) ∧ Below w.heap.size w w') := by
 obtain ⟨L, hr, hl, hh, hs⟩ := hq.inv
 have hbl : bulkL q.l + q.h.field.length + q.h.text.length + 1 = bulkQ q := by cases q; rw [bulkQ_mk]; rfl
 have hln := bulk_len q.l
 have hpl1_ := print_lim (q := q)
 have hpl2_ := print_lim (q := (parseQ s).1)
 have hpc_ := parse_check (s := s)
 have hpf_ := parse_fail (s := s)
 have hpb1_ : (printQ q).2 = 0 → (parseQ (printQ q).1).2.2 = 0 := fun h_ => by rw [print_back hu h_]
 have hpb2_ : (printQ (parseQ s).1).2 = 0 → (parseQ (printQ (parseQ s).1).1).2.2 = 0 := fun h_ => by rw [print_back (parse_num _) h_]
 have hcv_ := check_vals q
 refine xe 118 Tryz.func5 (fun R hR => ?_)
 have hM0 := Mem.start w
 refine xx 2 (m_box (T := 25) (k := 8) (u := .agg #[.int .i64 (h.op), sS (h.field), sS (h.text), .int .i64 (h.edits), .int .i64 (h.exact), .int .u64 (h.lo), .int .u64 (h.hi), v]) rfl rfl hM0) (fun b1 w2 hM4 => ?_)
 refine xv 5 (c_loads (ys := [.int .i64 (h.op), sS (h.field), sS (h.text), .int .i64 (h.edits), .int .i64 (h.exact), .int .u64 (h.lo), .int .u64 (h.hi), v]) aE25 (hM4.rd 0 rfl) (cel_obj b1 0) rfl (lq rfl)) ?_
 refine xk 0 (fewb_c q h he v (hq.kept hM4.kept) (by first | omega | decide)) (fun w8 m9 => ?_)
 have hM10 : Mem [] w w8 [⟨25, 8, (obj b1), 1, [.int .i64 (h.op), sS (h.field), sS (h.text), .int .i64 (h.edits), .int .i64 (h.exact), .int .u64 (h.lo), .int .u64 (h.hi), v]⟩] := Mem.join (R := []) hM4 m9
 refine xcn 2 (((fewQ q 0 : Nat) : Int) ≤ 5000) (fun h11p => ?_) (fun h11p => ?_)
 ·
  have hM12 := hM10.sub (sD sR)
  refine xk 2 (awake_c (hG.kept hM12.kept)) (fun w13 m14 => ?_)
  have hM15 : Mem [] w w13 [] := Mem.join (R := []) hM12 m14
  exact xr 2 Tryz.func5 hR ⟨rfl, hM15.none.below⟩
 ·
  refine xv 3 (c_loads (ys := [.int .i64 (h.op), sS (h.field), sS (h.text), .int .i64 (h.edits), .int .i64 (h.exact), .int .u64 (h.lo), .int .u64 (h.hi), v]) aE25 (hM10.rd 0 rfl) (cel_obj b1 0) rfl (lq rfl)) ?_
  refine xk 0 (print_c q h he v (hq.kept hM10.kept) (by omega) (hG.kept hM10.kept).now.deb hu) (fun w17 m18 => ?_)
  have hM19 : Mem [] w w17 [⟨25, 8, (obj b1), 1, [.int .i64 (h.op), sS (h.field), sS (h.text), .int .i64 (h.edits), .int .i64 (h.exact), .int .u64 (h.lo), .int .u64 (h.hi), v]⟩] := Mem.join (R := []) hM10 m18
  refine xk 9 (awake_c (hG.kept hM19.kept)) (fun w20 m21 => ?_)
  have hM22 : Mem [] w w20 [⟨25, 8, (obj b1), 1, [.int .i64 (h.op), sS (h.field), sS (h.text), .int .i64 (h.edits), .int .i64 (h.exact), .int .u64 (h.lo), .int .u64 (h.hi), v]⟩] := Mem.join (R := []) hM19 m21
  refine xfn 5 32 ((printQ q).2 = 0) (fun h23p => ?_) (fun h23p => ?_)
  ·
   refine xv 0 (c_loads (ys := [.int .i64 (h.op), sS (h.field), sS (h.text), .int .i64 (h.edits), .int .i64 (h.exact), .int .u64 (h.lo), .int .u64 (h.hi), v]) aE25 (hM22.rd 0 rfl) (cel_obj b1 0) rfl (lq rfl)) ?_
   refine xk 0 (check_c q h he v (hq.kept hM22.kept) (by first | omega | decide)) (fun w25 m26 => ?_)
   have hM27 : Mem [] w w25 [⟨25, 8, (obj b1), 1, [.int .i64 (h.op), sS (h.field), sS (h.text), .int .i64 (h.edits), .int .i64 (h.exact), .int .u64 (h.lo), .int .u64 (h.hi), v]⟩] := Mem.join (R := []) hM22 m26
   refine xfc 3 37 ((checkQ q) = 0) (fun h28p => ?_) (fun h28p => ?_)
   ·
    refine xcn 5 ((printQ q).2 = 4) (fun h29p => ?_) (fun h29p => ?_)
    ·
     have hM30 := hM27.sub (sD sR)
     refine xr0 4 (v := .bool false) Tryz.func5 ?_
     rw [hR]
     exfalso
     omega
    ·
     refine xc 7 ((printQ q).2 = 0) (fun h31p => ?_) (fun h31p => ?_)
     ·
      refine xcg 3 (synparse_c ((printQ q).1) (by first | omega | (exact Nat.le_trans (print_len _) (by decide))) (hG.kept hM27.kept)) ?_
      rintro _ w35 ⟨h32, u33, T34, rfl, he36, hqt37, m38⟩
      refine ⟨_, rfl, ?_⟩
      have hpb_ := parse_bulk ((printQ q).1)
      have hM39 : Mem [] w w35 (⟨25, 8, (obj b1), 1, [.int .i64 (h.op), sS (h.field), sS (h.text), .int .i64 (h.edits), .int .i64 (h.exact), .int .u64 (h.lo), .int .u64 (h.hi), v]⟩ :: T34) := Mem.join0 (A := [⟨25, 8, (obj b1), 1, [.int .i64 (h.op), sS (h.field), sS (h.text), .int .i64 (h.edits), .int .i64 (h.exact), .int .u64 (h.lo), .int .u64 (h.hi), v]⟩]) hM27 m38
      refine xx 4 (m_alloc oT25 hM39) (fun b40 w41 hM43 => ?_)
      refine xst 0 (c_stores (ys := [.int .i64 (h32.op), sS (h32.field), sS (h32.text), .int .i64 (h32.edits), .int .i64 (h32.exact), .int .u64 (h32.lo), .int .u64 (h32.hi), u33]) aE25 hM43 0 rfl (cel_obj b40 0) rfl (by decide) (by intro u hu; simp at hu; rcases hu with rfl | rfl | rfl | rfl | rfl | rfl | rfl | rfl <;> first | rfl | exact (QT.rd hM43 (fun r_ h_ => mS (mS (h_))) hqt37).one.1)) (fun w45 hM47 => ?_)
      refine xfn 8 52 ((parseQ ((printQ q).1)).2.2 = 0) (fun h50p => ?_) (fun h50p => ?_)
      ·
       have hM51 := hM47.sub (sD (sD sR))
       refine xr0 11 (v := .bool false) Tryz.func5 ?_
       rw [hR]
       exfalso
       omega
      ·
       refine xv 0 (c_loads (ys := [.int .i64 (h32.op), sS (h32.field), sS (h32.text), .int .i64 (h32.edits), .int .i64 (h32.exact), .int .u64 (h32.lo), .int .u64 (h32.hi), u33]) aE25 (hM47.rd 0 rfl) (cel_obj b40 0) rfl (lq rfl)) ?_
       refine xv 0 (c_loads (ys := [.int .i64 (h.op), sS (h.field), sS (h.text), .int .i64 (h.edits), .int .i64 (h.exact), .int .u64 (h.lo), .int .u64 (h.hi), v]) aE25 (hM47.rd 1 rfl) (cel_obj b1 0) rfl (lq rfl)) ?_
       have hM54 := hM47.sub (sD (sD sR))
       refine xk 0 (rsame_c (parseQ ((printQ q).1)).1 h32 he36 u33 (QT.rd hM54 (fun r_ h_ => h_) hqt37) (by first | omega | decide) q h he v (hq.kept hM54.kept) (by first | omega | decide)) (fun w55 m56 => ?_)
       have hM57 : Mem [] w w55 (T34) := Mem.join (R := []) hM54 m56
       refine xb 3 (!(sameQ ((parseQ ((printQ q).1)).1) q)) (fun h58 => ?_) (fun h58 => ?_)
       ·
        have e_ : (sameQ ((parseQ ((printQ q).1)).1) q) = true := by rw [print_back hu (by omega)]; exact same_refl _
        rw [e_] at h58; exact absurd h58 (by decide)
       ·
        refine xcg 4 (synparse_c s (by first | omega | (exact Nat.le_trans (print_len _) (by decide))) (hG.kept hM57.kept)) ?_
        rintro _ w63 ⟨h60, u61, T62, rfl, he64, hqt65, m66⟩
        refine ⟨_, rfl, ?_⟩
        have hpb_ := parse_bulk s
        have hM67 : Mem [] w w63 ((T62 ++ T34)) := Mem.joinT (A := []) (T := T34) hM57 m66
        refine xx 4 (m_alloc oT25 hM67) (fun b68 w69 hM71 => ?_)
        refine xst 0 (c_stores (ys := [.int .i64 (h60.op), sS (h60.field), sS (h60.text), .int .i64 (h60.edits), .int .i64 (h60.exact), .int .u64 (h60.lo), .int .u64 (h60.hi), u61]) aE25 hM71 0 rfl (cel_obj b68 0) rfl (by decide) (by intro u hu; simp at hu; rcases hu with rfl | rfl | rfl | rfl | rfl | rfl | rfl | rfl <;> first | rfl | exact (QT.rd hM71 (fun r_ h_ => mS (List.mem_append_left _ (h_))) hqt65).one.1)) (fun w73 hM75 => ?_)
        refine xcn 9 ((parseQ s).2.2 = 0) (fun h78p => ?_) (fun h78p => ?_)
        ·
         refine xfc 5 68 ((((parseQ s).2.1 : Nat) : Int) ≥ 0) (fun h79p => ?_) (fun h79p => ?_)
         ·
          refine xn 2 s ?_
          refine xfc 3 74 ((((parseQ s).2.1 : Nat) : Int) ≤ ((s.length : Nat) : Int)) (fun h81p => ?_) (fun h81p => ?_)
          ·
           refine xv 0 (c_loads (ys := [.int .i64 (h60.op), sS (h60.field), sS (h60.text), .int .i64 (h60.edits), .int .i64 (h60.exact), .int .u64 (h60.lo), .int .u64 (h60.hi), u61]) aE25 (hM75.rd 0 rfl) (cel_obj b68 0) rfl (lq rfl)) ?_
           have hM83 := hM75.sub (sD sR)
           refine xk 1 (rsame_c (parseQ s).1 h60 he64 u61 (QT.rd hM83 (fun r_ h_ => List.mem_append_left _ (h_)) hqt65) (by first | omega | decide) (Q.mk (opH 0) []) (opH 0) rfl (.slice none 0 0) (RdQ.nil (w73) _) (by first | omega | decide)) (fun w84 m85 => ?_)
           have hM86 : Mem [] w w84 ((T62 ++ T34)) := Mem.join (R := []) hM83 m85
           refine xf 2 79 (sameQ ((parseQ s).1) (Q.mk (opH 0) [])) (fun h87 => ?_) (fun h87 => ?_)
           ·
            refine xfc 3 82 ((parseQ s).2.2 = 21) (fun h88p => ?_) (fun h88p => ?_)
            ·
             exact xr 6 Tryz.func5 hR ⟨rfl, hM86.none.below⟩
            ·
             exact xr 6 (v := .bool ((((parseQ s).2.1 : Nat) : Int) == 0)) Tryz.func5 hR ⟨ret_bool (by first | (exact decide_eq_true (by omega)) | (simp; omega)), hM86.none.below⟩
           ·
            have e_ : (sameQ ((parseQ s).1) (Q.mk (opH 0) [])) = true := by rw [(parse_fail (by omega)).1]; exact same_refl _
            rw [e_] at h87; exact absurd h87 (by decide)
          ·
           have hM89 := hM75.sub (sD sR)
           refine xr0 14 (v := .bool false) Tryz.func5 ?_
           rw [hR]
           exfalso
           omega
         ·
          have hM90 := hM75.sub (sD sR)
          refine xr0 20 (v := .bool false) Tryz.func5 ?_
          rw [hR]
          exfalso
          omega
        ·
         refine xv 3 (c_loads (ys := [.int .i64 (h60.op), sS (h60.field), sS (h60.text), .int .i64 (h60.edits), .int .i64 (h60.exact), .int .u64 (h60.lo), .int .u64 (h60.hi), u61]) aE25 (hM75.rd 0 rfl) (cel_obj b68 0) rfl (lq rfl)) ?_
         refine xk 0 (print_c (parseQ s).1 h60 he64 u61 (QT.rd hM75 (fun r_ h_ => mS (List.mem_append_left _ (h_))) hqt65) (by omega) (hG.kept hM75.kept).now.deb (parse_num _)) (fun w92 m93 => ?_)
         have hM94 : Mem [] w w92 (⟨25, 8, (obj b68), 1, [.int .i64 (h60.op), sS (h60.field), sS (h60.text), .int .i64 (h60.edits), .int .i64 (h60.exact), .int .u64 (h60.lo), .int .u64 (h60.hi), u61]⟩ :: (T62 ++ T34)) := Mem.join (R := []) hM75 m93
         refine xv 9 (c_loads (ys := [.int .i64 (h60.op), sS (h60.field), sS (h60.text), .int .i64 (h60.edits), .int .i64 (h60.exact), .int .u64 (h60.lo), .int .u64 (h60.hi), u61]) aE25 (hM94.rd 0 rfl) (cel_obj b68 0) rfl (lq rfl)) ?_
         refine xk 0 (check_c (parseQ s).1 h60 he64 u61 (QT.rd hM94 (fun r_ h_ => mS (List.mem_append_left _ (h_))) hqt65) (by first | omega | decide)) (fun w96 m97 => ?_)
         have hM98 : Mem [] w w96 (⟨25, 8, (obj b68), 1, [.int .i64 (h60.op), sS (h60.field), sS (h60.text), .int .i64 (h60.edits), .int .i64 (h60.exact), .int .u64 (h60.lo), .int .u64 (h60.hi), u61]⟩ :: (T62 ++ T34)) := Mem.join (R := []) hM94 m97
         refine xfn 2 95 ((checkQ ((parseQ s).1)) = 0) (fun h99p => ?_) (fun h99p => ?_)
         ·
          have hM101 := hM98.sub (sD sR)
          refine xr0 13 (v := .bool false) Tryz.func5 ?_
          rw [hR]
          exfalso
          omega
         ·
          refine xfn 3 98 ((printQ ((parseQ s).1)).2 = 0) (fun h100p => ?_) (fun h100p => ?_)
          ·
           have h100 : ((printQ ((parseQ s).1)).2 != 0) = true := by simpa using h100p
           refine xcn 5 ((printQ ((parseQ s).1)).2 = 4) (fun h102p => ?_) (fun h102p => ?_)
           ·
            have hM103 := hM98.sub (sD sR)
            refine xr0 4 (v := .bool false) Tryz.func5 ?_
            rw [hR]
            exfalso
            omega
           ·
            refine xcn 7 ((printQ ((parseQ s).1)).2 = 0) (fun h104p => ?_) (fun h104p => ?_)
            ·
             have hM105 := hM98.sub (sD sR)
             exact xr 4 Tryz.func5 hR ⟨rfl, hM105.none.below⟩
            ·
             have h104 : ((printQ ((parseQ s).1)).2 != 0) = false := by simpa using h104p
             rw [h100] at h104; cases h104
          ·
           have h100 : ((printQ ((parseQ s).1)).2 != 0) = false := by simpa using h100p
           refine xcn 13 ((printQ ((parseQ s).1)).2 = 0) (fun h106p => ?_) (fun h106p => ?_)
           ·
            have h106 : ((printQ ((parseQ s).1)).2 != 0) = true := by simpa using h106p
            rw [h100] at h106; cases h106
           ·
            refine xcg 4 (synparse_c ((printQ ((parseQ s).1)).1) (by first | omega | (exact Nat.le_trans (print_len _) (by decide))) (hG.kept hM98.kept)) ?_
            rintro _ w110 ⟨h107, u108, T109, rfl, he111, hqt112, m113⟩
            refine ⟨_, rfl, ?_⟩
            have hpb_ := parse_bulk ((printQ ((parseQ s).1)).1)
            have hM114 : Mem [] w w110 (⟨25, 8, (obj b68), 1, [.int .i64 (h60.op), sS (h60.field), sS (h60.text), .int .i64 (h60.edits), .int .i64 (h60.exact), .int .u64 (h60.lo), .int .u64 (h60.hi), u61]⟩ :: ((T109 ++ T62) ++ T34)) := (Mem.joinT (A := [⟨25, 8, (obj b68), 1, [.int .i64 (h60.op), sS (h60.field), sS (h60.text), .int .i64 (h60.edits), .int .i64 (h60.exact), .int .u64 (h60.lo), .int .u64 (h60.hi), u61]⟩]) (T := (T62 ++ T34)) hM98 m113).cast (by rw [List.append_assoc]; rfl)
            refine xx 4 (m_alloc oT25 hM114) (fun b115 w116 hM118 => ?_)
            refine xst 0 (c_stores (ys := [.int .i64 (h107.op), sS (h107.field), sS (h107.text), .int .i64 (h107.edits), .int .i64 (h107.exact), .int .u64 (h107.lo), .int .u64 (h107.hi), u108]) aE25 hM118 0 rfl (cel_obj b115 0) rfl (by decide) (by intro u hu; simp at hu; rcases hu with rfl | rfl | rfl | rfl | rfl | rfl | rfl | rfl <;> first | rfl | exact (QT.rd hM118 (fun r_ h_ => mS (mS (List.mem_append_left _ (List.mem_append_left _ (h_))))) hqt112).one.1)) (fun w120 hM122 => ?_)
            refine xfc 8 113 ((parseQ ((printQ ((parseQ s).1)).1)).2.2 = 0) (fun h125p => ?_) (fun h125p => ?_)
            ·
             refine xv 0 (c_loads (ys := [.int .i64 (h107.op), sS (h107.field), sS (h107.text), .int .i64 (h107.edits), .int .i64 (h107.exact), .int .u64 (h107.lo), .int .u64 (h107.hi), u108]) aE25 (hM122.rd 0 rfl) (cel_obj b115 0) rfl (lq rfl)) ?_
             refine xv 0 (c_loads (ys := [.int .i64 (h60.op), sS (h60.field), sS (h60.text), .int .i64 (h60.edits), .int .i64 (h60.exact), .int .u64 (h60.lo), .int .u64 (h60.hi), u61]) aE25 (hM122.rd 1 rfl) (cel_obj b68 0) rfl (lq rfl)) ?_
             have hM128 := hM122.sub (sD (sD sR))
             refine xk 0 (rsame_c (parseQ ((printQ ((parseQ s).1)).1)).1 h107 he111 u108 (QT.rd hM128 (fun r_ h_ => List.mem_append_left _ (List.mem_append_left _ (h_))) hqt112) (by first | omega | decide) (parseQ s).1 h60 he64 u61 (QT.rd hM128 (fun r_ h_ => List.mem_append_left _ (List.mem_append_right _ (h_))) hqt65) (by first | omega | decide)) (fun w129 m130 => ?_)
             have hM131 : Mem [] w w129 (((T109 ++ T62) ++ T34)) := Mem.join (R := []) hM128 m130
             exact xr 3 (v := .bool (sameQ ((parseQ ((printQ ((parseQ s).1)).1)).1) ((parseQ s).1))) Tryz.func5 hR ⟨ret_bool (by rw [print_back (parse_num _) (by omega)]; exact same_refl _), hM131.none.below⟩
            ·
             have hM132 := hM122.sub (sD (sD sR))
             refine xr0 6 (v := .bool false) Tryz.func5 ?_
             rw [hR]
             exfalso
             omega
     ·
      have hM59 := hM27.sub (sD sR)
      refine xcg 4 (synparse_c s (by first | omega | (exact Nat.le_trans (print_len _) (by decide))) (hG.kept hM59.kept)) ?_
      rintro _ w136 ⟨h133, u134, T135, rfl, he137, hqt138, m139⟩
      refine ⟨_, rfl, ?_⟩
      have hpb_ := parse_bulk s
      have hM140 : Mem [] w w136 (T135) := Mem.join0 (A := []) hM59 m139
      refine xx 4 (m_alloc oT25 hM140) (fun b141 w142 hM144 => ?_)
      refine xst 0 (c_stores (ys := [.int .i64 (h133.op), sS (h133.field), sS (h133.text), .int .i64 (h133.edits), .int .i64 (h133.exact), .int .u64 (h133.lo), .int .u64 (h133.hi), u134]) aE25 hM144 0 rfl (cel_obj b141 0) rfl (by decide) (by intro u hu; simp at hu; rcases hu with rfl | rfl | rfl | rfl | rfl | rfl | rfl | rfl <;> first | rfl | exact (QT.rd hM144 (fun r_ h_ => mS (h_)) hqt138).one.1)) (fun w146 hM148 => ?_)
      refine xcn 9 ((parseQ s).2.2 = 0) (fun h151p => ?_) (fun h151p => ?_)
      ·
       refine xfc 5 68 ((((parseQ s).2.1 : Nat) : Int) ≥ 0) (fun h152p => ?_) (fun h152p => ?_)
       ·
        refine xn 2 s ?_
        refine xfc 3 74 ((((parseQ s).2.1 : Nat) : Int) ≤ ((s.length : Nat) : Int)) (fun h154p => ?_) (fun h154p => ?_)
        ·
         refine xv 0 (c_loads (ys := [.int .i64 (h133.op), sS (h133.field), sS (h133.text), .int .i64 (h133.edits), .int .i64 (h133.exact), .int .u64 (h133.lo), .int .u64 (h133.hi), u134]) aE25 (hM148.rd 0 rfl) (cel_obj b141 0) rfl (lq rfl)) ?_
         have hM156 := hM148.sub (sD sR)
         refine xk 1 (rsame_c (parseQ s).1 h133 he137 u134 (QT.rd hM156 (fun r_ h_ => h_) hqt138) (by first | omega | decide) (Q.mk (opH 0) []) (opH 0) rfl (.slice none 0 0) (RdQ.nil (w146) _) (by first | omega | decide)) (fun w157 m158 => ?_)
         have hM159 : Mem [] w w157 (T135) := Mem.join (R := []) hM156 m158
         refine xf 2 79 (sameQ ((parseQ s).1) (Q.mk (opH 0) [])) (fun h160 => ?_) (fun h160 => ?_)
         ·
          refine xfc 3 82 ((parseQ s).2.2 = 21) (fun h161p => ?_) (fun h161p => ?_)
          ·
           exact xr 6 Tryz.func5 hR ⟨rfl, hM159.none.below⟩
          ·
           exact xr 6 (v := .bool ((((parseQ s).2.1 : Nat) : Int) == 0)) Tryz.func5 hR ⟨ret_bool (by first | (exact decide_eq_true (by omega)) | (simp; omega)), hM159.none.below⟩
         ·
          have e_ : (sameQ ((parseQ s).1) (Q.mk (opH 0) [])) = true := by rw [(parse_fail (by omega)).1]; exact same_refl _
          rw [e_] at h160; exact absurd h160 (by decide)
        ·
         have hM162 := hM148.sub (sD sR)
         refine xr0 14 (v := .bool false) Tryz.func5 ?_
         rw [hR]
         exfalso
         omega
       ·
        have hM163 := hM148.sub (sD sR)
        refine xr0 20 (v := .bool false) Tryz.func5 ?_
        rw [hR]
        exfalso
        omega
      ·
       refine xv 3 (c_loads (ys := [.int .i64 (h133.op), sS (h133.field), sS (h133.text), .int .i64 (h133.edits), .int .i64 (h133.exact), .int .u64 (h133.lo), .int .u64 (h133.hi), u134]) aE25 (hM148.rd 0 rfl) (cel_obj b141 0) rfl (lq rfl)) ?_
       refine xk 0 (print_c (parseQ s).1 h133 he137 u134 (QT.rd hM148 (fun r_ h_ => mS (h_)) hqt138) (by omega) (hG.kept hM148.kept).now.deb (parse_num _)) (fun w165 m166 => ?_)
       have hM167 : Mem [] w w165 (⟨25, 8, (obj b141), 1, [.int .i64 (h133.op), sS (h133.field), sS (h133.text), .int .i64 (h133.edits), .int .i64 (h133.exact), .int .u64 (h133.lo), .int .u64 (h133.hi), u134]⟩ :: T135) := Mem.join (R := []) hM148 m166
       refine xv 9 (c_loads (ys := [.int .i64 (h133.op), sS (h133.field), sS (h133.text), .int .i64 (h133.edits), .int .i64 (h133.exact), .int .u64 (h133.lo), .int .u64 (h133.hi), u134]) aE25 (hM167.rd 0 rfl) (cel_obj b141 0) rfl (lq rfl)) ?_
       refine xk 0 (check_c (parseQ s).1 h133 he137 u134 (QT.rd hM167 (fun r_ h_ => mS (h_)) hqt138) (by first | omega | decide)) (fun w169 m170 => ?_)
       have hM171 : Mem [] w w169 (⟨25, 8, (obj b141), 1, [.int .i64 (h133.op), sS (h133.field), sS (h133.text), .int .i64 (h133.edits), .int .i64 (h133.exact), .int .u64 (h133.lo), .int .u64 (h133.hi), u134]⟩ :: T135) := Mem.join (R := []) hM167 m170
       refine xfn 2 95 ((checkQ ((parseQ s).1)) = 0) (fun h172p => ?_) (fun h172p => ?_)
       ·
        have hM174 := hM171.sub (sD sR)
        refine xr0 13 (v := .bool false) Tryz.func5 ?_
        rw [hR]
        exfalso
        omega
       ·
        refine xfn 3 98 ((printQ ((parseQ s).1)).2 = 0) (fun h173p => ?_) (fun h173p => ?_)
        ·
         have h173 : ((printQ ((parseQ s).1)).2 != 0) = true := by simpa using h173p
         refine xcn 5 ((printQ ((parseQ s).1)).2 = 4) (fun h175p => ?_) (fun h175p => ?_)
         ·
          have hM176 := hM171.sub (sD sR)
          refine xr0 4 (v := .bool false) Tryz.func5 ?_
          rw [hR]
          exfalso
          omega
         ·
          refine xcn 7 ((printQ ((parseQ s).1)).2 = 0) (fun h177p => ?_) (fun h177p => ?_)
          ·
           have hM178 := hM171.sub (sD sR)
           exact xr 4 Tryz.func5 hR ⟨rfl, hM178.none.below⟩
          ·
           have h177 : ((printQ ((parseQ s).1)).2 != 0) = false := by simpa using h177p
           rw [h173] at h177; cases h177
        ·
         have h173 : ((printQ ((parseQ s).1)).2 != 0) = false := by simpa using h173p
         refine xcn 13 ((printQ ((parseQ s).1)).2 = 0) (fun h179p => ?_) (fun h179p => ?_)
         ·
          have h179 : ((printQ ((parseQ s).1)).2 != 0) = true := by simpa using h179p
          rw [h173] at h179; cases h179
         ·
          refine xcg 4 (synparse_c ((printQ ((parseQ s).1)).1) (by first | omega | (exact Nat.le_trans (print_len _) (by decide))) (hG.kept hM171.kept)) ?_
          rintro _ w183 ⟨h180, u181, T182, rfl, he184, hqt185, m186⟩
          refine ⟨_, rfl, ?_⟩
          have hpb_ := parse_bulk ((printQ ((parseQ s).1)).1)
          have hM187 : Mem [] w w183 (⟨25, 8, (obj b141), 1, [.int .i64 (h133.op), sS (h133.field), sS (h133.text), .int .i64 (h133.edits), .int .i64 (h133.exact), .int .u64 (h133.lo), .int .u64 (h133.hi), u134]⟩ :: (T182 ++ T135)) := Mem.joinT (A := [⟨25, 8, (obj b141), 1, [.int .i64 (h133.op), sS (h133.field), sS (h133.text), .int .i64 (h133.edits), .int .i64 (h133.exact), .int .u64 (h133.lo), .int .u64 (h133.hi), u134]⟩]) (T := T135) hM171 m186
          refine xx 4 (m_alloc oT25 hM187) (fun b188 w189 hM191 => ?_)
          refine xst 0 (c_stores (ys := [.int .i64 (h180.op), sS (h180.field), sS (h180.text), .int .i64 (h180.edits), .int .i64 (h180.exact), .int .u64 (h180.lo), .int .u64 (h180.hi), u181]) aE25 hM191 0 rfl (cel_obj b188 0) rfl (by decide) (by intro u hu; simp at hu; rcases hu with rfl | rfl | rfl | rfl | rfl | rfl | rfl | rfl <;> first | rfl | exact (QT.rd hM191 (fun r_ h_ => mS (mS (List.mem_append_left _ (h_)))) hqt185).one.1)) (fun w193 hM195 => ?_)
          refine xfc 8 113 ((parseQ ((printQ ((parseQ s).1)).1)).2.2 = 0) (fun h198p => ?_) (fun h198p => ?_)
          ·
           refine xv 0 (c_loads (ys := [.int .i64 (h180.op), sS (h180.field), sS (h180.text), .int .i64 (h180.edits), .int .i64 (h180.exact), .int .u64 (h180.lo), .int .u64 (h180.hi), u181]) aE25 (hM195.rd 0 rfl) (cel_obj b188 0) rfl (lq rfl)) ?_
           refine xv 0 (c_loads (ys := [.int .i64 (h133.op), sS (h133.field), sS (h133.text), .int .i64 (h133.edits), .int .i64 (h133.exact), .int .u64 (h133.lo), .int .u64 (h133.hi), u134]) aE25 (hM195.rd 1 rfl) (cel_obj b141 0) rfl (lq rfl)) ?_
           have hM201 := hM195.sub (sD (sD sR))
           refine xk 0 (rsame_c (parseQ ((printQ ((parseQ s).1)).1)).1 h180 he184 u181 (QT.rd hM201 (fun r_ h_ => List.mem_append_left _ (h_)) hqt185) (by first | omega | decide) (parseQ s).1 h133 he137 u134 (QT.rd hM201 (fun r_ h_ => List.mem_append_right _ (h_)) hqt138) (by first | omega | decide)) (fun w202 m203 => ?_)
           have hM204 : Mem [] w w202 ((T182 ++ T135)) := Mem.join (R := []) hM201 m203
           exact xr 3 (v := .bool (sameQ ((parseQ ((printQ ((parseQ s).1)).1)).1) ((parseQ s).1))) Tryz.func5 hR ⟨ret_bool (by rw [print_back (parse_num _) (by omega)]; exact same_refl _), hM204.none.below⟩
          ·
           have hM205 := hM195.sub (sD (sD sR))
           refine xr0 6 (v := .bool false) Tryz.func5 ?_
           rw [hR]
           exfalso
           omega
   ·
    refine xc 13 ((printQ q).2 = 0) (fun h206p => ?_) (fun h206p => ?_)
    ·
     refine xcg 3 (synparse_c ((printQ q).1) (by first | omega | (exact Nat.le_trans (print_len _) (by decide))) (hG.kept hM27.kept)) ?_
     rintro _ w210 ⟨h207, u208, T209, rfl, he211, hqt212, m213⟩
     refine ⟨_, rfl, ?_⟩
     have hpb_ := parse_bulk ((printQ q).1)
     have hM214 : Mem [] w w210 (⟨25, 8, (obj b1), 1, [.int .i64 (h.op), sS (h.field), sS (h.text), .int .i64 (h.edits), .int .i64 (h.exact), .int .u64 (h.lo), .int .u64 (h.hi), v]⟩ :: T209) := Mem.join0 (A := [⟨25, 8, (obj b1), 1, [.int .i64 (h.op), sS (h.field), sS (h.text), .int .i64 (h.edits), .int .i64 (h.exact), .int .u64 (h.lo), .int .u64 (h.hi), v]⟩]) hM27 m213
     refine xx 4 (m_alloc oT25 hM214) (fun b215 w216 hM218 => ?_)
     refine xst 0 (c_stores (ys := [.int .i64 (h207.op), sS (h207.field), sS (h207.text), .int .i64 (h207.edits), .int .i64 (h207.exact), .int .u64 (h207.lo), .int .u64 (h207.hi), u208]) aE25 hM218 0 rfl (cel_obj b215 0) rfl (by decide) (by intro u hu; simp at hu; rcases hu with rfl | rfl | rfl | rfl | rfl | rfl | rfl | rfl <;> first | rfl | exact (QT.rd hM218 (fun r_ h_ => mS (mS (h_))) hqt212).one.1)) (fun w220 hM222 => ?_)
     refine xfn 8 52 ((parseQ ((printQ q).1)).2.2 = 0) (fun h225p => ?_) (fun h225p => ?_)
     ·
      have hM226 := hM222.sub (sD (sD sR))
      refine xr0 11 (v := .bool false) Tryz.func5 ?_
      rw [hR]
      exfalso
      omega
     ·
      refine xv 0 (c_loads (ys := [.int .i64 (h207.op), sS (h207.field), sS (h207.text), .int .i64 (h207.edits), .int .i64 (h207.exact), .int .u64 (h207.lo), .int .u64 (h207.hi), u208]) aE25 (hM222.rd 0 rfl) (cel_obj b215 0) rfl (lq rfl)) ?_
      refine xv 0 (c_loads (ys := [.int .i64 (h.op), sS (h.field), sS (h.text), .int .i64 (h.edits), .int .i64 (h.exact), .int .u64 (h.lo), .int .u64 (h.hi), v]) aE25 (hM222.rd 1 rfl) (cel_obj b1 0) rfl (lq rfl)) ?_
      have hM229 := hM222.sub (sD (sD sR))
      refine xk 0 (rsame_c (parseQ ((printQ q).1)).1 h207 he211 u208 (QT.rd hM229 (fun r_ h_ => h_) hqt212) (by first | omega | decide) q h he v (hq.kept hM229.kept) (by first | omega | decide)) (fun w230 m231 => ?_)
      have hM232 : Mem [] w w230 (T209) := Mem.join (R := []) hM229 m231
      refine xb 3 (!(sameQ ((parseQ ((printQ q).1)).1) q)) (fun h233 => ?_) (fun h233 => ?_)
      ·
       have e_ : (sameQ ((parseQ ((printQ q).1)).1) q) = true := by rw [print_back hu (by omega)]; exact same_refl _
       rw [e_] at h233; exact absurd h233 (by decide)
      ·
       refine xcg 4 (synparse_c s (by first | omega | (exact Nat.le_trans (print_len _) (by decide))) (hG.kept hM232.kept)) ?_
       rintro _ w238 ⟨h235, u236, T237, rfl, he239, hqt240, m241⟩
       refine ⟨_, rfl, ?_⟩
       have hpb_ := parse_bulk s
       have hM242 : Mem [] w w238 ((T237 ++ T209)) := Mem.joinT (A := []) (T := T209) hM232 m241
       refine xx 4 (m_alloc oT25 hM242) (fun b243 w244 hM246 => ?_)
       refine xst 0 (c_stores (ys := [.int .i64 (h235.op), sS (h235.field), sS (h235.text), .int .i64 (h235.edits), .int .i64 (h235.exact), .int .u64 (h235.lo), .int .u64 (h235.hi), u236]) aE25 hM246 0 rfl (cel_obj b243 0) rfl (by decide) (by intro u hu; simp at hu; rcases hu with rfl | rfl | rfl | rfl | rfl | rfl | rfl | rfl <;> first | rfl | exact (QT.rd hM246 (fun r_ h_ => mS (List.mem_append_left _ (h_))) hqt240).one.1)) (fun w248 hM250 => ?_)
       refine xcn 9 ((parseQ s).2.2 = 0) (fun h253p => ?_) (fun h253p => ?_)
       ·
        refine xfc 5 68 ((((parseQ s).2.1 : Nat) : Int) ≥ 0) (fun h254p => ?_) (fun h254p => ?_)
        ·
         refine xn 2 s ?_
         refine xfc 3 74 ((((parseQ s).2.1 : Nat) : Int) ≤ ((s.length : Nat) : Int)) (fun h256p => ?_) (fun h256p => ?_)
         ·
          refine xv 0 (c_loads (ys := [.int .i64 (h235.op), sS (h235.field), sS (h235.text), .int .i64 (h235.edits), .int .i64 (h235.exact), .int .u64 (h235.lo), .int .u64 (h235.hi), u236]) aE25 (hM250.rd 0 rfl) (cel_obj b243 0) rfl (lq rfl)) ?_
          have hM258 := hM250.sub (sD sR)
          refine xk 1 (rsame_c (parseQ s).1 h235 he239 u236 (QT.rd hM258 (fun r_ h_ => List.mem_append_left _ (h_)) hqt240) (by first | omega | decide) (Q.mk (opH 0) []) (opH 0) rfl (.slice none 0 0) (RdQ.nil (w248) _) (by first | omega | decide)) (fun w259 m260 => ?_)
          have hM261 : Mem [] w w259 ((T237 ++ T209)) := Mem.join (R := []) hM258 m260
          refine xf 2 79 (sameQ ((parseQ s).1) (Q.mk (opH 0) [])) (fun h262 => ?_) (fun h262 => ?_)
          ·
           refine xfc 3 82 ((parseQ s).2.2 = 21) (fun h263p => ?_) (fun h263p => ?_)
           ·
            exact xr 6 Tryz.func5 hR ⟨rfl, hM261.none.below⟩
           ·
            exact xr 6 (v := .bool ((((parseQ s).2.1 : Nat) : Int) == 0)) Tryz.func5 hR ⟨ret_bool (by first | (exact decide_eq_true (by omega)) | (simp; omega)), hM261.none.below⟩
          ·
           have e_ : (sameQ ((parseQ s).1) (Q.mk (opH 0) [])) = true := by rw [(parse_fail (by omega)).1]; exact same_refl _
           rw [e_] at h262; exact absurd h262 (by decide)
         ·
          have hM264 := hM250.sub (sD sR)
          refine xr0 14 (v := .bool false) Tryz.func5 ?_
          rw [hR]
          exfalso
          omega
        ·
         have hM265 := hM250.sub (sD sR)
         refine xr0 20 (v := .bool false) Tryz.func5 ?_
         rw [hR]
         exfalso
         omega
       ·
        refine xv 3 (c_loads (ys := [.int .i64 (h235.op), sS (h235.field), sS (h235.text), .int .i64 (h235.edits), .int .i64 (h235.exact), .int .u64 (h235.lo), .int .u64 (h235.hi), u236]) aE25 (hM250.rd 0 rfl) (cel_obj b243 0) rfl (lq rfl)) ?_
        refine xk 0 (print_c (parseQ s).1 h235 he239 u236 (QT.rd hM250 (fun r_ h_ => mS (List.mem_append_left _ (h_))) hqt240) (by omega) (hG.kept hM250.kept).now.deb (parse_num _)) (fun w267 m268 => ?_)
        have hM269 : Mem [] w w267 (⟨25, 8, (obj b243), 1, [.int .i64 (h235.op), sS (h235.field), sS (h235.text), .int .i64 (h235.edits), .int .i64 (h235.exact), .int .u64 (h235.lo), .int .u64 (h235.hi), u236]⟩ :: (T237 ++ T209)) := Mem.join (R := []) hM250 m268
        refine xv 9 (c_loads (ys := [.int .i64 (h235.op), sS (h235.field), sS (h235.text), .int .i64 (h235.edits), .int .i64 (h235.exact), .int .u64 (h235.lo), .int .u64 (h235.hi), u236]) aE25 (hM269.rd 0 rfl) (cel_obj b243 0) rfl (lq rfl)) ?_
        refine xk 0 (check_c (parseQ s).1 h235 he239 u236 (QT.rd hM269 (fun r_ h_ => mS (List.mem_append_left _ (h_))) hqt240) (by first | omega | decide)) (fun w271 m272 => ?_)
        have hM273 : Mem [] w w271 (⟨25, 8, (obj b243), 1, [.int .i64 (h235.op), sS (h235.field), sS (h235.text), .int .i64 (h235.edits), .int .i64 (h235.exact), .int .u64 (h235.lo), .int .u64 (h235.hi), u236]⟩ :: (T237 ++ T209)) := Mem.join (R := []) hM269 m272
        refine xfn 2 95 ((checkQ ((parseQ s).1)) = 0) (fun h274p => ?_) (fun h274p => ?_)
        ·
         have hM276 := hM273.sub (sD sR)
         refine xr0 13 (v := .bool false) Tryz.func5 ?_
         rw [hR]
         exfalso
         omega
        ·
         refine xfn 3 98 ((printQ ((parseQ s).1)).2 = 0) (fun h275p => ?_) (fun h275p => ?_)
         ·
          have h275 : ((printQ ((parseQ s).1)).2 != 0) = true := by simpa using h275p
          refine xcn 5 ((printQ ((parseQ s).1)).2 = 4) (fun h277p => ?_) (fun h277p => ?_)
          ·
           have hM278 := hM273.sub (sD sR)
           refine xr0 4 (v := .bool false) Tryz.func5 ?_
           rw [hR]
           exfalso
           omega
          ·
           refine xcn 7 ((printQ ((parseQ s).1)).2 = 0) (fun h279p => ?_) (fun h279p => ?_)
           ·
            have hM280 := hM273.sub (sD sR)
            exact xr 4 Tryz.func5 hR ⟨rfl, hM280.none.below⟩
           ·
            have h279 : ((printQ ((parseQ s).1)).2 != 0) = false := by simpa using h279p
            rw [h275] at h279; cases h279
         ·
          have h275 : ((printQ ((parseQ s).1)).2 != 0) = false := by simpa using h275p
          refine xcn 13 ((printQ ((parseQ s).1)).2 = 0) (fun h281p => ?_) (fun h281p => ?_)
          ·
           have h281 : ((printQ ((parseQ s).1)).2 != 0) = true := by simpa using h281p
           rw [h275] at h281; cases h281
          ·
           refine xcg 4 (synparse_c ((printQ ((parseQ s).1)).1) (by first | omega | (exact Nat.le_trans (print_len _) (by decide))) (hG.kept hM273.kept)) ?_
           rintro _ w285 ⟨h282, u283, T284, rfl, he286, hqt287, m288⟩
           refine ⟨_, rfl, ?_⟩
           have hpb_ := parse_bulk ((printQ ((parseQ s).1)).1)
           have hM289 : Mem [] w w285 (⟨25, 8, (obj b243), 1, [.int .i64 (h235.op), sS (h235.field), sS (h235.text), .int .i64 (h235.edits), .int .i64 (h235.exact), .int .u64 (h235.lo), .int .u64 (h235.hi), u236]⟩ :: ((T284 ++ T237) ++ T209)) := (Mem.joinT (A := [⟨25, 8, (obj b243), 1, [.int .i64 (h235.op), sS (h235.field), sS (h235.text), .int .i64 (h235.edits), .int .i64 (h235.exact), .int .u64 (h235.lo), .int .u64 (h235.hi), u236]⟩]) (T := (T237 ++ T209)) hM273 m288).cast (by rw [List.append_assoc]; rfl)
           refine xx 4 (m_alloc oT25 hM289) (fun b290 w291 hM293 => ?_)
           refine xst 0 (c_stores (ys := [.int .i64 (h282.op), sS (h282.field), sS (h282.text), .int .i64 (h282.edits), .int .i64 (h282.exact), .int .u64 (h282.lo), .int .u64 (h282.hi), u283]) aE25 hM293 0 rfl (cel_obj b290 0) rfl (by decide) (by intro u hu; simp at hu; rcases hu with rfl | rfl | rfl | rfl | rfl | rfl | rfl | rfl <;> first | rfl | exact (QT.rd hM293 (fun r_ h_ => mS (mS (List.mem_append_left _ (List.mem_append_left _ (h_))))) hqt287).one.1)) (fun w295 hM297 => ?_)
           refine xfc 8 113 ((parseQ ((printQ ((parseQ s).1)).1)).2.2 = 0) (fun h300p => ?_) (fun h300p => ?_)
           ·
            refine xv 0 (c_loads (ys := [.int .i64 (h282.op), sS (h282.field), sS (h282.text), .int .i64 (h282.edits), .int .i64 (h282.exact), .int .u64 (h282.lo), .int .u64 (h282.hi), u283]) aE25 (hM297.rd 0 rfl) (cel_obj b290 0) rfl (lq rfl)) ?_
            refine xv 0 (c_loads (ys := [.int .i64 (h235.op), sS (h235.field), sS (h235.text), .int .i64 (h235.edits), .int .i64 (h235.exact), .int .u64 (h235.lo), .int .u64 (h235.hi), u236]) aE25 (hM297.rd 1 rfl) (cel_obj b243 0) rfl (lq rfl)) ?_
            have hM303 := hM297.sub (sD (sD sR))
            refine xk 0 (rsame_c (parseQ ((printQ ((parseQ s).1)).1)).1 h282 he286 u283 (QT.rd hM303 (fun r_ h_ => List.mem_append_left _ (List.mem_append_left _ (h_))) hqt287) (by first | omega | decide) (parseQ s).1 h235 he239 u236 (QT.rd hM303 (fun r_ h_ => List.mem_append_left _ (List.mem_append_right _ (h_))) hqt240) (by first | omega | decide)) (fun w304 m305 => ?_)
            have hM306 : Mem [] w w304 (((T284 ++ T237) ++ T209)) := Mem.join (R := []) hM303 m305
            exact xr 3 (v := .bool (sameQ ((parseQ ((printQ ((parseQ s).1)).1)).1) ((parseQ s).1))) Tryz.func5 hR ⟨ret_bool (by rw [print_back (parse_num _) (by omega)]; exact same_refl _), hM306.none.below⟩
           ·
            have hM307 := hM297.sub (sD (sD sR))
            refine xr0 6 (v := .bool false) Tryz.func5 ?_
            rw [hR]
            exfalso
            omega
    ·
     have hM234 := hM27.sub (sD sR)
     refine xcg 4 (synparse_c s (by first | omega | (exact Nat.le_trans (print_len _) (by decide))) (hG.kept hM234.kept)) ?_
     rintro _ w311 ⟨h308, u309, T310, rfl, he312, hqt313, m314⟩
     refine ⟨_, rfl, ?_⟩
     have hpb_ := parse_bulk s
     have hM315 : Mem [] w w311 (T310) := Mem.join0 (A := []) hM234 m314
     refine xx 4 (m_alloc oT25 hM315) (fun b316 w317 hM319 => ?_)
     refine xst 0 (c_stores (ys := [.int .i64 (h308.op), sS (h308.field), sS (h308.text), .int .i64 (h308.edits), .int .i64 (h308.exact), .int .u64 (h308.lo), .int .u64 (h308.hi), u309]) aE25 hM319 0 rfl (cel_obj b316 0) rfl (by decide) (by intro u hu; simp at hu; rcases hu with rfl | rfl | rfl | rfl | rfl | rfl | rfl | rfl <;> first | rfl | exact (QT.rd hM319 (fun r_ h_ => mS (h_)) hqt313).one.1)) (fun w321 hM323 => ?_)
     refine xcn 9 ((parseQ s).2.2 = 0) (fun h326p => ?_) (fun h326p => ?_)
     ·
      refine xfc 5 68 ((((parseQ s).2.1 : Nat) : Int) ≥ 0) (fun h327p => ?_) (fun h327p => ?_)
      ·
       refine xn 2 s ?_
       refine xfc 3 74 ((((parseQ s).2.1 : Nat) : Int) ≤ ((s.length : Nat) : Int)) (fun h329p => ?_) (fun h329p => ?_)
       ·
        refine xv 0 (c_loads (ys := [.int .i64 (h308.op), sS (h308.field), sS (h308.text), .int .i64 (h308.edits), .int .i64 (h308.exact), .int .u64 (h308.lo), .int .u64 (h308.hi), u309]) aE25 (hM323.rd 0 rfl) (cel_obj b316 0) rfl (lq rfl)) ?_
        have hM331 := hM323.sub (sD sR)
        refine xk 1 (rsame_c (parseQ s).1 h308 he312 u309 (QT.rd hM331 (fun r_ h_ => h_) hqt313) (by first | omega | decide) (Q.mk (opH 0) []) (opH 0) rfl (.slice none 0 0) (RdQ.nil (w321) _) (by first | omega | decide)) (fun w332 m333 => ?_)
        have hM334 : Mem [] w w332 (T310) := Mem.join (R := []) hM331 m333
        refine xf 2 79 (sameQ ((parseQ s).1) (Q.mk (opH 0) [])) (fun h335 => ?_) (fun h335 => ?_)
        ·
         refine xfc 3 82 ((parseQ s).2.2 = 21) (fun h336p => ?_) (fun h336p => ?_)
         ·
          exact xr 6 Tryz.func5 hR ⟨rfl, hM334.none.below⟩
         ·
          exact xr 6 (v := .bool ((((parseQ s).2.1 : Nat) : Int) == 0)) Tryz.func5 hR ⟨ret_bool (by first | (exact decide_eq_true (by omega)) | (simp; omega)), hM334.none.below⟩
        ·
         have e_ : (sameQ ((parseQ s).1) (Q.mk (opH 0) [])) = true := by rw [(parse_fail (by omega)).1]; exact same_refl _
         rw [e_] at h335; exact absurd h335 (by decide)
       ·
        have hM337 := hM323.sub (sD sR)
        refine xr0 14 (v := .bool false) Tryz.func5 ?_
        rw [hR]
        exfalso
        omega
      ·
       have hM338 := hM323.sub (sD sR)
       refine xr0 20 (v := .bool false) Tryz.func5 ?_
       rw [hR]
       exfalso
       omega
     ·
      refine xv 3 (c_loads (ys := [.int .i64 (h308.op), sS (h308.field), sS (h308.text), .int .i64 (h308.edits), .int .i64 (h308.exact), .int .u64 (h308.lo), .int .u64 (h308.hi), u309]) aE25 (hM323.rd 0 rfl) (cel_obj b316 0) rfl (lq rfl)) ?_
      refine xk 0 (print_c (parseQ s).1 h308 he312 u309 (QT.rd hM323 (fun r_ h_ => mS (h_)) hqt313) (by omega) (hG.kept hM323.kept).now.deb (parse_num _)) (fun w340 m341 => ?_)
      have hM342 : Mem [] w w340 (⟨25, 8, (obj b316), 1, [.int .i64 (h308.op), sS (h308.field), sS (h308.text), .int .i64 (h308.edits), .int .i64 (h308.exact), .int .u64 (h308.lo), .int .u64 (h308.hi), u309]⟩ :: T310) := Mem.join (R := []) hM323 m341
      refine xv 9 (c_loads (ys := [.int .i64 (h308.op), sS (h308.field), sS (h308.text), .int .i64 (h308.edits), .int .i64 (h308.exact), .int .u64 (h308.lo), .int .u64 (h308.hi), u309]) aE25 (hM342.rd 0 rfl) (cel_obj b316 0) rfl (lq rfl)) ?_
      refine xk 0 (check_c (parseQ s).1 h308 he312 u309 (QT.rd hM342 (fun r_ h_ => mS (h_)) hqt313) (by first | omega | decide)) (fun w344 m345 => ?_)
      have hM346 : Mem [] w w344 (⟨25, 8, (obj b316), 1, [.int .i64 (h308.op), sS (h308.field), sS (h308.text), .int .i64 (h308.edits), .int .i64 (h308.exact), .int .u64 (h308.lo), .int .u64 (h308.hi), u309]⟩ :: T310) := Mem.join (R := []) hM342 m345
      refine xfn 2 95 ((checkQ ((parseQ s).1)) = 0) (fun h347p => ?_) (fun h347p => ?_)
      ·
       have hM349 := hM346.sub (sD sR)
       refine xr0 13 (v := .bool false) Tryz.func5 ?_
       rw [hR]
       exfalso
       omega
      ·
       refine xfn 3 98 ((printQ ((parseQ s).1)).2 = 0) (fun h348p => ?_) (fun h348p => ?_)
       ·
        have h348 : ((printQ ((parseQ s).1)).2 != 0) = true := by simpa using h348p
        refine xcn 5 ((printQ ((parseQ s).1)).2 = 4) (fun h350p => ?_) (fun h350p => ?_)
        ·
         have hM351 := hM346.sub (sD sR)
         refine xr0 4 (v := .bool false) Tryz.func5 ?_
         rw [hR]
         exfalso
         omega
        ·
         refine xcn 7 ((printQ ((parseQ s).1)).2 = 0) (fun h352p => ?_) (fun h352p => ?_)
         ·
          have hM353 := hM346.sub (sD sR)
          exact xr 4 Tryz.func5 hR ⟨rfl, hM353.none.below⟩
         ·
          have h352 : ((printQ ((parseQ s).1)).2 != 0) = false := by simpa using h352p
          rw [h348] at h352; cases h352
       ·
        have h348 : ((printQ ((parseQ s).1)).2 != 0) = false := by simpa using h348p
        refine xcn 13 ((printQ ((parseQ s).1)).2 = 0) (fun h354p => ?_) (fun h354p => ?_)
        ·
         have h354 : ((printQ ((parseQ s).1)).2 != 0) = true := by simpa using h354p
         rw [h348] at h354; cases h354
        ·
         refine xcg 4 (synparse_c ((printQ ((parseQ s).1)).1) (by first | omega | (exact Nat.le_trans (print_len _) (by decide))) (hG.kept hM346.kept)) ?_
         rintro _ w358 ⟨h355, u356, T357, rfl, he359, hqt360, m361⟩
         refine ⟨_, rfl, ?_⟩
         have hpb_ := parse_bulk ((printQ ((parseQ s).1)).1)
         have hM362 : Mem [] w w358 (⟨25, 8, (obj b316), 1, [.int .i64 (h308.op), sS (h308.field), sS (h308.text), .int .i64 (h308.edits), .int .i64 (h308.exact), .int .u64 (h308.lo), .int .u64 (h308.hi), u309]⟩ :: (T357 ++ T310)) := Mem.joinT (A := [⟨25, 8, (obj b316), 1, [.int .i64 (h308.op), sS (h308.field), sS (h308.text), .int .i64 (h308.edits), .int .i64 (h308.exact), .int .u64 (h308.lo), .int .u64 (h308.hi), u309]⟩]) (T := T310) hM346 m361
         refine xx 4 (m_alloc oT25 hM362) (fun b363 w364 hM366 => ?_)
         refine xst 0 (c_stores (ys := [.int .i64 (h355.op), sS (h355.field), sS (h355.text), .int .i64 (h355.edits), .int .i64 (h355.exact), .int .u64 (h355.lo), .int .u64 (h355.hi), u356]) aE25 hM366 0 rfl (cel_obj b363 0) rfl (by decide) (by intro u hu; simp at hu; rcases hu with rfl | rfl | rfl | rfl | rfl | rfl | rfl | rfl <;> first | rfl | exact (QT.rd hM366 (fun r_ h_ => mS (mS (List.mem_append_left _ (h_)))) hqt360).one.1)) (fun w368 hM370 => ?_)
         refine xfc 8 113 ((parseQ ((printQ ((parseQ s).1)).1)).2.2 = 0) (fun h373p => ?_) (fun h373p => ?_)
         ·
          refine xv 0 (c_loads (ys := [.int .i64 (h355.op), sS (h355.field), sS (h355.text), .int .i64 (h355.edits), .int .i64 (h355.exact), .int .u64 (h355.lo), .int .u64 (h355.hi), u356]) aE25 (hM370.rd 0 rfl) (cel_obj b363 0) rfl (lq rfl)) ?_
          refine xv 0 (c_loads (ys := [.int .i64 (h308.op), sS (h308.field), sS (h308.text), .int .i64 (h308.edits), .int .i64 (h308.exact), .int .u64 (h308.lo), .int .u64 (h308.hi), u309]) aE25 (hM370.rd 1 rfl) (cel_obj b316 0) rfl (lq rfl)) ?_
          have hM376 := hM370.sub (sD (sD sR))
          refine xk 0 (rsame_c (parseQ ((printQ ((parseQ s).1)).1)).1 h355 he359 u356 (QT.rd hM376 (fun r_ h_ => List.mem_append_left _ (h_)) hqt360) (by first | omega | decide) (parseQ s).1 h308 he312 u309 (QT.rd hM376 (fun r_ h_ => List.mem_append_right _ (h_)) hqt313) (by first | omega | decide)) (fun w377 m378 => ?_)
          have hM379 : Mem [] w w377 ((T357 ++ T310)) := Mem.join (R := []) hM376 m378
          exact xr 3 (v := .bool (sameQ ((parseQ ((printQ ((parseQ s).1)).1)).1) ((parseQ s).1))) Tryz.func5 hR ⟨ret_bool (by rw [print_back (parse_num _) (by omega)]; exact same_refl _), hM379.none.below⟩
         ·
          have hM380 := hM370.sub (sD (sD sR))
          refine xr0 6 (v := .bool false) Tryz.func5 ?_
          rw [hR]
          exfalso
          omega
  ·
   refine xc 18 ((printQ q).2 = 0) (fun h381p => ?_) (fun h381p => ?_)
   ·
    refine xcg 3 (synparse_c ((printQ q).1) (by first | omega | (exact Nat.le_trans (print_len _) (by decide))) (hG.kept hM22.kept)) ?_
    rintro _ w385 ⟨h382, u383, T384, rfl, he386, hqt387, m388⟩
    refine ⟨_, rfl, ?_⟩
    have hpb_ := parse_bulk ((printQ q).1)
    have hM389 : Mem [] w w385 (⟨25, 8, (obj b1), 1, [.int .i64 (h.op), sS (h.field), sS (h.text), .int .i64 (h.edits), .int .i64 (h.exact), .int .u64 (h.lo), .int .u64 (h.hi), v]⟩ :: T384) := Mem.join0 (A := [⟨25, 8, (obj b1), 1, [.int .i64 (h.op), sS (h.field), sS (h.text), .int .i64 (h.edits), .int .i64 (h.exact), .int .u64 (h.lo), .int .u64 (h.hi), v]⟩]) hM22 m388
    refine xx 4 (m_alloc oT25 hM389) (fun b390 w391 hM393 => ?_)
    refine xst 0 (c_stores (ys := [.int .i64 (h382.op), sS (h382.field), sS (h382.text), .int .i64 (h382.edits), .int .i64 (h382.exact), .int .u64 (h382.lo), .int .u64 (h382.hi), u383]) aE25 hM393 0 rfl (cel_obj b390 0) rfl (by decide) (by intro u hu; simp at hu; rcases hu with rfl | rfl | rfl | rfl | rfl | rfl | rfl | rfl <;> first | rfl | exact (QT.rd hM393 (fun r_ h_ => mS (mS (h_))) hqt387).one.1)) (fun w395 hM397 => ?_)
    refine xfn 8 52 ((parseQ ((printQ q).1)).2.2 = 0) (fun h400p => ?_) (fun h400p => ?_)
    ·
     have hM401 := hM397.sub (sD (sD sR))
     refine xr0 11 (v := .bool false) Tryz.func5 ?_
     rw [hR]
     exfalso
     omega
    ·
     refine xv 0 (c_loads (ys := [.int .i64 (h382.op), sS (h382.field), sS (h382.text), .int .i64 (h382.edits), .int .i64 (h382.exact), .int .u64 (h382.lo), .int .u64 (h382.hi), u383]) aE25 (hM397.rd 0 rfl) (cel_obj b390 0) rfl (lq rfl)) ?_
     refine xv 0 (c_loads (ys := [.int .i64 (h.op), sS (h.field), sS (h.text), .int .i64 (h.edits), .int .i64 (h.exact), .int .u64 (h.lo), .int .u64 (h.hi), v]) aE25 (hM397.rd 1 rfl) (cel_obj b1 0) rfl (lq rfl)) ?_
     have hM404 := hM397.sub (sD (sD sR))
     refine xk 0 (rsame_c (parseQ ((printQ q).1)).1 h382 he386 u383 (QT.rd hM404 (fun r_ h_ => h_) hqt387) (by first | omega | decide) q h he v (hq.kept hM404.kept) (by first | omega | decide)) (fun w405 m406 => ?_)
     have hM407 : Mem [] w w405 (T384) := Mem.join (R := []) hM404 m406
     refine xb 3 (!(sameQ ((parseQ ((printQ q).1)).1) q)) (fun h408 => ?_) (fun h408 => ?_)
     ·
      have e_ : (sameQ ((parseQ ((printQ q).1)).1) q) = true := by rw [print_back hu (by omega)]; exact same_refl _
      rw [e_] at h408; exact absurd h408 (by decide)
     ·
      refine xcg 4 (synparse_c s (by first | omega | (exact Nat.le_trans (print_len _) (by decide))) (hG.kept hM407.kept)) ?_
      rintro _ w413 ⟨h410, u411, T412, rfl, he414, hqt415, m416⟩
      refine ⟨_, rfl, ?_⟩
      have hpb_ := parse_bulk s
      have hM417 : Mem [] w w413 ((T412 ++ T384)) := Mem.joinT (A := []) (T := T384) hM407 m416
      refine xx 4 (m_alloc oT25 hM417) (fun b418 w419 hM421 => ?_)
      refine xst 0 (c_stores (ys := [.int .i64 (h410.op), sS (h410.field), sS (h410.text), .int .i64 (h410.edits), .int .i64 (h410.exact), .int .u64 (h410.lo), .int .u64 (h410.hi), u411]) aE25 hM421 0 rfl (cel_obj b418 0) rfl (by decide) (by intro u hu; simp at hu; rcases hu with rfl | rfl | rfl | rfl | rfl | rfl | rfl | rfl <;> first | rfl | exact (QT.rd hM421 (fun r_ h_ => mS (List.mem_append_left _ (h_))) hqt415).one.1)) (fun w423 hM425 => ?_)
      refine xcn 9 ((parseQ s).2.2 = 0) (fun h428p => ?_) (fun h428p => ?_)
      ·
       refine xfc 5 68 ((((parseQ s).2.1 : Nat) : Int) ≥ 0) (fun h429p => ?_) (fun h429p => ?_)
       ·
        refine xn 2 s ?_
        refine xfc 3 74 ((((parseQ s).2.1 : Nat) : Int) ≤ ((s.length : Nat) : Int)) (fun h431p => ?_) (fun h431p => ?_)
        ·
         refine xv 0 (c_loads (ys := [.int .i64 (h410.op), sS (h410.field), sS (h410.text), .int .i64 (h410.edits), .int .i64 (h410.exact), .int .u64 (h410.lo), .int .u64 (h410.hi), u411]) aE25 (hM425.rd 0 rfl) (cel_obj b418 0) rfl (lq rfl)) ?_
         have hM433 := hM425.sub (sD sR)
         refine xk 1 (rsame_c (parseQ s).1 h410 he414 u411 (QT.rd hM433 (fun r_ h_ => List.mem_append_left _ (h_)) hqt415) (by first | omega | decide) (Q.mk (opH 0) []) (opH 0) rfl (.slice none 0 0) (RdQ.nil (w423) _) (by first | omega | decide)) (fun w434 m435 => ?_)
         have hM436 : Mem [] w w434 ((T412 ++ T384)) := Mem.join (R := []) hM433 m435
         refine xf 2 79 (sameQ ((parseQ s).1) (Q.mk (opH 0) [])) (fun h437 => ?_) (fun h437 => ?_)
         ·
          refine xfc 3 82 ((parseQ s).2.2 = 21) (fun h438p => ?_) (fun h438p => ?_)
          ·
           exact xr 6 Tryz.func5 hR ⟨rfl, hM436.none.below⟩
          ·
           exact xr 6 (v := .bool ((((parseQ s).2.1 : Nat) : Int) == 0)) Tryz.func5 hR ⟨ret_bool (by first | (exact decide_eq_true (by omega)) | (simp; omega)), hM436.none.below⟩
         ·
          have e_ : (sameQ ((parseQ s).1) (Q.mk (opH 0) [])) = true := by rw [(parse_fail (by omega)).1]; exact same_refl _
          rw [e_] at h437; exact absurd h437 (by decide)
        ·
         have hM439 := hM425.sub (sD sR)
         refine xr0 14 (v := .bool false) Tryz.func5 ?_
         rw [hR]
         exfalso
         omega
       ·
        have hM440 := hM425.sub (sD sR)
        refine xr0 20 (v := .bool false) Tryz.func5 ?_
        rw [hR]
        exfalso
        omega
      ·
       refine xv 3 (c_loads (ys := [.int .i64 (h410.op), sS (h410.field), sS (h410.text), .int .i64 (h410.edits), .int .i64 (h410.exact), .int .u64 (h410.lo), .int .u64 (h410.hi), u411]) aE25 (hM425.rd 0 rfl) (cel_obj b418 0) rfl (lq rfl)) ?_
       refine xk 0 (print_c (parseQ s).1 h410 he414 u411 (QT.rd hM425 (fun r_ h_ => mS (List.mem_append_left _ (h_))) hqt415) (by omega) (hG.kept hM425.kept).now.deb (parse_num _)) (fun w442 m443 => ?_)
       have hM444 : Mem [] w w442 (⟨25, 8, (obj b418), 1, [.int .i64 (h410.op), sS (h410.field), sS (h410.text), .int .i64 (h410.edits), .int .i64 (h410.exact), .int .u64 (h410.lo), .int .u64 (h410.hi), u411]⟩ :: (T412 ++ T384)) := Mem.join (R := []) hM425 m443
       refine xv 9 (c_loads (ys := [.int .i64 (h410.op), sS (h410.field), sS (h410.text), .int .i64 (h410.edits), .int .i64 (h410.exact), .int .u64 (h410.lo), .int .u64 (h410.hi), u411]) aE25 (hM444.rd 0 rfl) (cel_obj b418 0) rfl (lq rfl)) ?_
       refine xk 0 (check_c (parseQ s).1 h410 he414 u411 (QT.rd hM444 (fun r_ h_ => mS (List.mem_append_left _ (h_))) hqt415) (by first | omega | decide)) (fun w446 m447 => ?_)
       have hM448 : Mem [] w w446 (⟨25, 8, (obj b418), 1, [.int .i64 (h410.op), sS (h410.field), sS (h410.text), .int .i64 (h410.edits), .int .i64 (h410.exact), .int .u64 (h410.lo), .int .u64 (h410.hi), u411]⟩ :: (T412 ++ T384)) := Mem.join (R := []) hM444 m447
       refine xfn 2 95 ((checkQ ((parseQ s).1)) = 0) (fun h449p => ?_) (fun h449p => ?_)
       ·
        have hM451 := hM448.sub (sD sR)
        refine xr0 13 (v := .bool false) Tryz.func5 ?_
        rw [hR]
        exfalso
        omega
       ·
        refine xfn 3 98 ((printQ ((parseQ s).1)).2 = 0) (fun h450p => ?_) (fun h450p => ?_)
        ·
         have h450 : ((printQ ((parseQ s).1)).2 != 0) = true := by simpa using h450p
         refine xcn 5 ((printQ ((parseQ s).1)).2 = 4) (fun h452p => ?_) (fun h452p => ?_)
         ·
          have hM453 := hM448.sub (sD sR)
          refine xr0 4 (v := .bool false) Tryz.func5 ?_
          rw [hR]
          exfalso
          omega
         ·
          refine xcn 7 ((printQ ((parseQ s).1)).2 = 0) (fun h454p => ?_) (fun h454p => ?_)
          ·
           have hM455 := hM448.sub (sD sR)
           exact xr 4 Tryz.func5 hR ⟨rfl, hM455.none.below⟩
          ·
           have h454 : ((printQ ((parseQ s).1)).2 != 0) = false := by simpa using h454p
           rw [h450] at h454; cases h454
        ·
         have h450 : ((printQ ((parseQ s).1)).2 != 0) = false := by simpa using h450p
         refine xcn 13 ((printQ ((parseQ s).1)).2 = 0) (fun h456p => ?_) (fun h456p => ?_)
         ·
          have h456 : ((printQ ((parseQ s).1)).2 != 0) = true := by simpa using h456p
          rw [h450] at h456; cases h456
         ·
          refine xcg 4 (synparse_c ((printQ ((parseQ s).1)).1) (by first | omega | (exact Nat.le_trans (print_len _) (by decide))) (hG.kept hM448.kept)) ?_
          rintro _ w460 ⟨h457, u458, T459, rfl, he461, hqt462, m463⟩
          refine ⟨_, rfl, ?_⟩
          have hpb_ := parse_bulk ((printQ ((parseQ s).1)).1)
          have hM464 : Mem [] w w460 (⟨25, 8, (obj b418), 1, [.int .i64 (h410.op), sS (h410.field), sS (h410.text), .int .i64 (h410.edits), .int .i64 (h410.exact), .int .u64 (h410.lo), .int .u64 (h410.hi), u411]⟩ :: ((T459 ++ T412) ++ T384)) := (Mem.joinT (A := [⟨25, 8, (obj b418), 1, [.int .i64 (h410.op), sS (h410.field), sS (h410.text), .int .i64 (h410.edits), .int .i64 (h410.exact), .int .u64 (h410.lo), .int .u64 (h410.hi), u411]⟩]) (T := (T412 ++ T384)) hM448 m463).cast (by rw [List.append_assoc]; rfl)
          refine xx 4 (m_alloc oT25 hM464) (fun b465 w466 hM468 => ?_)
          refine xst 0 (c_stores (ys := [.int .i64 (h457.op), sS (h457.field), sS (h457.text), .int .i64 (h457.edits), .int .i64 (h457.exact), .int .u64 (h457.lo), .int .u64 (h457.hi), u458]) aE25 hM468 0 rfl (cel_obj b465 0) rfl (by decide) (by intro u hu; simp at hu; rcases hu with rfl | rfl | rfl | rfl | rfl | rfl | rfl | rfl <;> first | rfl | exact (QT.rd hM468 (fun r_ h_ => mS (mS (List.mem_append_left _ (List.mem_append_left _ (h_))))) hqt462).one.1)) (fun w470 hM472 => ?_)
          refine xfc 8 113 ((parseQ ((printQ ((parseQ s).1)).1)).2.2 = 0) (fun h475p => ?_) (fun h475p => ?_)
          ·
           refine xv 0 (c_loads (ys := [.int .i64 (h457.op), sS (h457.field), sS (h457.text), .int .i64 (h457.edits), .int .i64 (h457.exact), .int .u64 (h457.lo), .int .u64 (h457.hi), u458]) aE25 (hM472.rd 0 rfl) (cel_obj b465 0) rfl (lq rfl)) ?_
           refine xv 0 (c_loads (ys := [.int .i64 (h410.op), sS (h410.field), sS (h410.text), .int .i64 (h410.edits), .int .i64 (h410.exact), .int .u64 (h410.lo), .int .u64 (h410.hi), u411]) aE25 (hM472.rd 1 rfl) (cel_obj b418 0) rfl (lq rfl)) ?_
           have hM478 := hM472.sub (sD (sD sR))
           refine xk 0 (rsame_c (parseQ ((printQ ((parseQ s).1)).1)).1 h457 he461 u458 (QT.rd hM478 (fun r_ h_ => List.mem_append_left _ (List.mem_append_left _ (h_))) hqt462) (by first | omega | decide) (parseQ s).1 h410 he414 u411 (QT.rd hM478 (fun r_ h_ => List.mem_append_left _ (List.mem_append_right _ (h_))) hqt415) (by first | omega | decide)) (fun w479 m480 => ?_)
           have hM481 : Mem [] w w479 (((T459 ++ T412) ++ T384)) := Mem.join (R := []) hM478 m480
           exact xr 3 (v := .bool (sameQ ((parseQ ((printQ ((parseQ s).1)).1)).1) ((parseQ s).1))) Tryz.func5 hR ⟨ret_bool (by rw [print_back (parse_num _) (by omega)]; exact same_refl _), hM481.none.below⟩
          ·
           have hM482 := hM472.sub (sD (sD sR))
           refine xr0 6 (v := .bool false) Tryz.func5 ?_
           rw [hR]
           exfalso
           omega
   ·
    have hM409 := hM22.sub (sD sR)
    refine xcg 4 (synparse_c s (by first | omega | (exact Nat.le_trans (print_len _) (by decide))) (hG.kept hM409.kept)) ?_
    rintro _ w486 ⟨h483, u484, T485, rfl, he487, hqt488, m489⟩
    refine ⟨_, rfl, ?_⟩
    have hpb_ := parse_bulk s
    have hM490 : Mem [] w w486 (T485) := Mem.join0 (A := []) hM409 m489
    refine xx 4 (m_alloc oT25 hM490) (fun b491 w492 hM494 => ?_)
    refine xst 0 (c_stores (ys := [.int .i64 (h483.op), sS (h483.field), sS (h483.text), .int .i64 (h483.edits), .int .i64 (h483.exact), .int .u64 (h483.lo), .int .u64 (h483.hi), u484]) aE25 hM494 0 rfl (cel_obj b491 0) rfl (by decide) (by intro u hu; simp at hu; rcases hu with rfl | rfl | rfl | rfl | rfl | rfl | rfl | rfl <;> first | rfl | exact (QT.rd hM494 (fun r_ h_ => mS (h_)) hqt488).one.1)) (fun w496 hM498 => ?_)
    refine xcn 9 ((parseQ s).2.2 = 0) (fun h501p => ?_) (fun h501p => ?_)
    ·
     refine xfc 5 68 ((((parseQ s).2.1 : Nat) : Int) ≥ 0) (fun h502p => ?_) (fun h502p => ?_)
     ·
      refine xn 2 s ?_
      refine xfc 3 74 ((((parseQ s).2.1 : Nat) : Int) ≤ ((s.length : Nat) : Int)) (fun h504p => ?_) (fun h504p => ?_)
      ·
       refine xv 0 (c_loads (ys := [.int .i64 (h483.op), sS (h483.field), sS (h483.text), .int .i64 (h483.edits), .int .i64 (h483.exact), .int .u64 (h483.lo), .int .u64 (h483.hi), u484]) aE25 (hM498.rd 0 rfl) (cel_obj b491 0) rfl (lq rfl)) ?_
       have hM506 := hM498.sub (sD sR)
       refine xk 1 (rsame_c (parseQ s).1 h483 he487 u484 (QT.rd hM506 (fun r_ h_ => h_) hqt488) (by first | omega | decide) (Q.mk (opH 0) []) (opH 0) rfl (.slice none 0 0) (RdQ.nil (w496) _) (by first | omega | decide)) (fun w507 m508 => ?_)
       have hM509 : Mem [] w w507 (T485) := Mem.join (R := []) hM506 m508
       refine xf 2 79 (sameQ ((parseQ s).1) (Q.mk (opH 0) [])) (fun h510 => ?_) (fun h510 => ?_)
       ·
        refine xfc 3 82 ((parseQ s).2.2 = 21) (fun h511p => ?_) (fun h511p => ?_)
        ·
         exact xr 6 Tryz.func5 hR ⟨rfl, hM509.none.below⟩
        ·
         exact xr 6 (v := .bool ((((parseQ s).2.1 : Nat) : Int) == 0)) Tryz.func5 hR ⟨ret_bool (by first | (exact decide_eq_true (by omega)) | (simp; omega)), hM509.none.below⟩
       ·
        have e_ : (sameQ ((parseQ s).1) (Q.mk (opH 0) [])) = true := by rw [(parse_fail (by omega)).1]; exact same_refl _
        rw [e_] at h510; exact absurd h510 (by decide)
      ·
       have hM512 := hM498.sub (sD sR)
       refine xr0 14 (v := .bool false) Tryz.func5 ?_
       rw [hR]
       exfalso
       omega
     ·
      have hM513 := hM498.sub (sD sR)
      refine xr0 20 (v := .bool false) Tryz.func5 ?_
      rw [hR]
      exfalso
      omega
    ·
     refine xv 3 (c_loads (ys := [.int .i64 (h483.op), sS (h483.field), sS (h483.text), .int .i64 (h483.edits), .int .i64 (h483.exact), .int .u64 (h483.lo), .int .u64 (h483.hi), u484]) aE25 (hM498.rd 0 rfl) (cel_obj b491 0) rfl (lq rfl)) ?_
     refine xk 0 (print_c (parseQ s).1 h483 he487 u484 (QT.rd hM498 (fun r_ h_ => mS (h_)) hqt488) (by omega) (hG.kept hM498.kept).now.deb (parse_num _)) (fun w515 m516 => ?_)
     have hM517 : Mem [] w w515 (⟨25, 8, (obj b491), 1, [.int .i64 (h483.op), sS (h483.field), sS (h483.text), .int .i64 (h483.edits), .int .i64 (h483.exact), .int .u64 (h483.lo), .int .u64 (h483.hi), u484]⟩ :: T485) := Mem.join (R := []) hM498 m516
     refine xv 9 (c_loads (ys := [.int .i64 (h483.op), sS (h483.field), sS (h483.text), .int .i64 (h483.edits), .int .i64 (h483.exact), .int .u64 (h483.lo), .int .u64 (h483.hi), u484]) aE25 (hM517.rd 0 rfl) (cel_obj b491 0) rfl (lq rfl)) ?_
     refine xk 0 (check_c (parseQ s).1 h483 he487 u484 (QT.rd hM517 (fun r_ h_ => mS (h_)) hqt488) (by first | omega | decide)) (fun w519 m520 => ?_)
     have hM521 : Mem [] w w519 (⟨25, 8, (obj b491), 1, [.int .i64 (h483.op), sS (h483.field), sS (h483.text), .int .i64 (h483.edits), .int .i64 (h483.exact), .int .u64 (h483.lo), .int .u64 (h483.hi), u484]⟩ :: T485) := Mem.join (R := []) hM517 m520
     refine xfn 2 95 ((checkQ ((parseQ s).1)) = 0) (fun h522p => ?_) (fun h522p => ?_)
     ·
      have hM524 := hM521.sub (sD sR)
      refine xr0 13 (v := .bool false) Tryz.func5 ?_
      rw [hR]
      exfalso
      omega
     ·
      refine xfn 3 98 ((printQ ((parseQ s).1)).2 = 0) (fun h523p => ?_) (fun h523p => ?_)
      ·
       have h523 : ((printQ ((parseQ s).1)).2 != 0) = true := by simpa using h523p
       refine xcn 5 ((printQ ((parseQ s).1)).2 = 4) (fun h525p => ?_) (fun h525p => ?_)
       ·
        have hM526 := hM521.sub (sD sR)
        refine xr0 4 (v := .bool false) Tryz.func5 ?_
        rw [hR]
        exfalso
        omega
       ·
        refine xcn 7 ((printQ ((parseQ s).1)).2 = 0) (fun h527p => ?_) (fun h527p => ?_)
        ·
         have hM528 := hM521.sub (sD sR)
         exact xr 4 Tryz.func5 hR ⟨rfl, hM528.none.below⟩
        ·
         have h527 : ((printQ ((parseQ s).1)).2 != 0) = false := by simpa using h527p
         rw [h523] at h527; cases h527
      ·
       have h523 : ((printQ ((parseQ s).1)).2 != 0) = false := by simpa using h523p
       refine xcn 13 ((printQ ((parseQ s).1)).2 = 0) (fun h529p => ?_) (fun h529p => ?_)
       ·
        have h529 : ((printQ ((parseQ s).1)).2 != 0) = true := by simpa using h529p
        rw [h523] at h529; cases h529
       ·
        refine xcg 4 (synparse_c ((printQ ((parseQ s).1)).1) (by first | omega | (exact Nat.le_trans (print_len _) (by decide))) (hG.kept hM521.kept)) ?_
        rintro _ w533 ⟨h530, u531, T532, rfl, he534, hqt535, m536⟩
        refine ⟨_, rfl, ?_⟩
        have hpb_ := parse_bulk ((printQ ((parseQ s).1)).1)
        have hM537 : Mem [] w w533 (⟨25, 8, (obj b491), 1, [.int .i64 (h483.op), sS (h483.field), sS (h483.text), .int .i64 (h483.edits), .int .i64 (h483.exact), .int .u64 (h483.lo), .int .u64 (h483.hi), u484]⟩ :: (T532 ++ T485)) := Mem.joinT (A := [⟨25, 8, (obj b491), 1, [.int .i64 (h483.op), sS (h483.field), sS (h483.text), .int .i64 (h483.edits), .int .i64 (h483.exact), .int .u64 (h483.lo), .int .u64 (h483.hi), u484]⟩]) (T := T485) hM521 m536
        refine xx 4 (m_alloc oT25 hM537) (fun b538 w539 hM541 => ?_)
        refine xst 0 (c_stores (ys := [.int .i64 (h530.op), sS (h530.field), sS (h530.text), .int .i64 (h530.edits), .int .i64 (h530.exact), .int .u64 (h530.lo), .int .u64 (h530.hi), u531]) aE25 hM541 0 rfl (cel_obj b538 0) rfl (by decide) (by intro u hu; simp at hu; rcases hu with rfl | rfl | rfl | rfl | rfl | rfl | rfl | rfl <;> first | rfl | exact (QT.rd hM541 (fun r_ h_ => mS (mS (List.mem_append_left _ (h_)))) hqt535).one.1)) (fun w543 hM545 => ?_)
        refine xfc 8 113 ((parseQ ((printQ ((parseQ s).1)).1)).2.2 = 0) (fun h548p => ?_) (fun h548p => ?_)
        ·
         refine xv 0 (c_loads (ys := [.int .i64 (h530.op), sS (h530.field), sS (h530.text), .int .i64 (h530.edits), .int .i64 (h530.exact), .int .u64 (h530.lo), .int .u64 (h530.hi), u531]) aE25 (hM545.rd 0 rfl) (cel_obj b538 0) rfl (lq rfl)) ?_
         refine xv 0 (c_loads (ys := [.int .i64 (h483.op), sS (h483.field), sS (h483.text), .int .i64 (h483.edits), .int .i64 (h483.exact), .int .u64 (h483.lo), .int .u64 (h483.hi), u484]) aE25 (hM545.rd 1 rfl) (cel_obj b491 0) rfl (lq rfl)) ?_
         have hM551 := hM545.sub (sD (sD sR))
         refine xk 0 (rsame_c (parseQ ((printQ ((parseQ s).1)).1)).1 h530 he534 u531 (QT.rd hM551 (fun r_ h_ => List.mem_append_left _ (h_)) hqt535) (by first | omega | decide) (parseQ s).1 h483 he487 u484 (QT.rd hM551 (fun r_ h_ => List.mem_append_right _ (h_)) hqt488) (by first | omega | decide)) (fun w552 m553 => ?_)
         have hM554 : Mem [] w w552 ((T532 ++ T485)) := Mem.join (R := []) hM551 m553
         exact xr 3 (v := .bool (sameQ ((parseQ ((printQ ((parseQ s).1)).1)).1) ((parseQ s).1))) Tryz.func5 hR ⟨ret_bool (by rw [print_back (parse_num _) (by omega)]; exact same_refl _), hM554.none.below⟩
        ·
         have hM555 := hM545.sub (sD (sD sR))
         refine xr0 6 (v := .bool false) Tryz.func5 ?_
         rw [hR]
         exfalso
         omega


end Go.Proofs.YthpodbngljfdmaaGreatDoor

namespace Go.Gw
set_option linter.unusedVariables false
set_option linter.unusedSimpArgs false
open Go.ChangeShapes Go.WideShapes Go.ChangeAt Go.RowKit
section
variable {H : Type} {enc : TypeId × Value → H}
theorem returns_upto_and {a : Assume} {C : Checked} {os : Os} {f : FuncId} {fn : Func} {s : OpenSpec} {k : (H : Type) → List (DataW H) → Bool} {X : World → Array Value → Prop} (hk : s.cond = some k) {F : Stop.Interp} {conds : List PathCond} {apart fresh handsOn again : Bool}
    (hX : ∀ (w w' : World) (args : Array Value), w.heap = w'.heap → X w args → X w' args)
    (own : ownKnob C.prog.godebug = none) (started : os.Started) (noInit : C.prog.inits.idxOf? f = none) (hfn : C.prog.funcs[f]? = some fn)
    (witness : ∃ (w : World) (tape : Tape) (i : Input), w.os = os ∧ (w.forCall tape i).Shaped C.prog ∧ i.vars = [] ∧ Input.okWide C.prog (w.forCall tape i) .any w.heap.size f i ∧
      ((s.pre enc C.prog fn conds apart (w.forCall tape i).memory i.args ∧ X (w.forCall tape i).memory i.args) ∧ sizedMet enc C.prog fn s apart (w.forCall tape i).memory i.args) ∧ a.holds C.prog (lone (Frame.enter C.prog f i.args .normal) [] (w.forCall tape i)))
    (contract : ∀ (W : World) (base : Nat) (args : Array Value) (ds gs : List (DataW H)) (before : List MemPlace),
      (∀ (j : Nat) t v, fn.params[j]? = some t → args[j]? = some v → Value.okWide C.prog W .any base t v) →
      DataW.Whole enc C.prog fn.params.toList s.vars apart W args.toList ds gs before →
      (DataW.weightsEach C.prog (fn.params.toList ++ s.bare.plain.varTypes C.prog) (ds ++ gs)).all (· ≤ reachBytes) = true →
      k H (ds ++ gs) = true → X W args →
      Calls C.prog f args W fun e W' => ∃ v, e = .returned v ∧ (s.at F).post enc C.prog fn apart fresh handsOn again W args v W') :
    ReturnsInHanded a C os f .any (fun w args => (s.pre enc C.prog fn conds apart w args ∧ X w args) ∧ sizedMet enc C.prog fn s apart w args) ((s.at F).post enc C.prog fn apart fresh handsOn again) := by
  refine returnsInHanded_of_calls own started noInit witness ?_
  intro w tape i _ _ _ hok hpre hholds
  obtain ⟨_, _, _, fn', hfn', _, _, _, _, hval⟩ := hok
  have e : fn' = fn := Option.some.inj (hfn'.symm.trans hfn)
  subst e
  obtain ⟨ds, gs, before, hw, hc, hkk⟩ := (OpenSpec.pre_some hk conds apart _ _).1 hpre.1.1
  have hw' := DataW.Whole.of_heap (w' := w.forCall tape i) (by rfl) hw
  refine (contract (w.forCall tape i) w.heap.size i.args ds gs before hval hw' (hpre.2.weights hw) hkk (hX _ _ _ (by rfl) hpre.1.2)).mono fun e W' ⟨v, he, hp⟩ => ?_
  subst he
  exact ChangeSpec.post_blind hp
theorem witness_upto_and {C : Checked} {os : Os} {f : FuncId} {fn : Func} {s : OpenSpec} {k : (H : Type) → List (DataW H) → Bool} {X : World → Array Value → Prop} (hk : s.cond = some k) {conds : List PathCond} {apart : Bool} (modest : Bool) (w0 : World) (args : Array Value) (fuel : Nat) (hos : w0.os = os)
    (hsh : (w0.forCall (fun _ _ => 0) ⟨#[], args, []⟩).Shaped C.prog)
    (hok : Input.okWideB C.prog (w0.forCall (fun _ _ => 0) ⟨#[], args, []⟩) f ⟨#[], args, []⟩ = true)
    {x : List (DataW H) × List (DataW H) × List MemPlace} (hx : DataW.whole enc C.prog (w0.forCall (fun _ _ => 0) ⟨#[], args, []⟩).memory fn.params.toList s.vars apart args.toList fuel = some x)
    (hconds : conds.all (PathCond.test C.prog ⟨fn.params.toList, x.1, s.bare.plain.varTypes C.prog, x.2.1⟩) = true) (hkk : k H (x.1 ++ x.2.1) = true)
    (hsz : s.bare.sizedB enc C.prog fn apart (w0.forCall (fun _ _ => 0) ⟨#[], args, []⟩).memory args fuel = true)
    (hX : X (w0.forCall (fun _ _ => 0) ⟨#[], args, []⟩).memory args) :
    ∃ (w : World) (tape : Tape) (i : Input), w.os = os ∧ (w.forCall tape i).Shaped C.prog ∧ i.vars = [] ∧ Input.okWide C.prog (w.forCall tape i) .any w.heap.size f i ∧
      ((s.pre enc C.prog fn conds apart (w.forCall tape i).memory i.args ∧ X (w.forCall tape i).memory i.args) ∧ sizedMet enc C.prog fn s apart (w.forCall tape i).memory i.args) ∧ ({ modest := modest } : Assume).holds C.prog (lone (Frame.enter C.prog f i.args .normal) [] (w.forCall tape i)) :=
  ⟨w0, fun _ _ => 0, ⟨#[], args, []⟩, hos, hsh, (Input.okWide_of_okWideB (base := 0) hok).1, (Input.okWide_of_okWideB hok).2,
    ⟨⟨(OpenSpec.pre_some hk conds apart _ _).2 ⟨x.1, x.2.1, x.2.2, DataW.Whole_of_whole hx, hconds, hkk⟩, hX⟩, sizedMet_of_sizedB hsz⟩, by
    simp only [Assume.holds]
    exact ⟨by simp, by simp, fun _ => Modest.zero, by simp, by simp⟩⟩
end
end Go.Gw

namespace Go.Gw
set_option linter.unusedVariables false
set_option linter.unusedSimpArgs false
open Go.ChangeShapes Go.WideShapes Go.ChangeAt Go.RowKit Go.QryP Go.Proofs.YthpodbngljfdmaaGreatDoor
section
variable {H : Type} {enc : TypeId × Value → H} {P : Program} {W : World} {t e : TypeId}
/-- a slice whose elements are k cells each, of whatever weight: the cells of each, and each one's reading -/
theorem slice_rd {k fuel : Nat} {cs : List Value} {x : DataW H × List MemPlace} (hu : P.underlying t = some (.slice e)) (hc : P.cellsOf e = k) (h0 : 0 < k)
    (h : DataW.trod enc P W 0 (fun _ => true) true fuel t cs = some x) :
    ∃ (v : Value) (css : List (List Value)) (els sp : List (DataW H)) (n : Nat), cs = [v] ∧ els.length = css.length ∧ (∀ c ∈ css, c.length = k) ∧ Rd W k v css.length css.flatten ∧
      (x.1 = .nil ∧ css = [] ∨ x.1 = .slice els sp) ∧ ∀ (i : Nat) (c : List Value), css[i]? = some c → n < fuel ∧ ∃ y q, els[i]? = some y ∧ DataW.trod enc P W 0 (fun _ => true) true n e c = some (y, q) := by
  rcases DataW.trod_slice hu h with ⟨hcs, hx⟩ | ⟨x', len, cap, elems, rest, n, hfu, hcs, hx, _, hl, hm, hlen, hel, _⟩
  · subst hcs
    exact ⟨_, [], [], [], 0, rfl, rfl, by simp, by simpa using Rd.nil W k, .inl ⟨by rw [hx], rfl⟩, by simp⟩
  · subst hcs
    rw [hc] at hel
    have hex : ∀ i, i < len → ∃ cs, W.cells? 0 (x'.add (i * k)) k = some cs ∧ ∃ y q, (elems.map (·.1))[i]? = some y ∧ DataW.trod enc P W 0 (fun _ => true) true n e cs = some (y, q) := by
      intro i hi
      have hE := hel i hi
      rw [List.getElem?_eq_getElem (by omega), Option.bind_eq_some_iff] at hE
      obtain ⟨cs, h1, h2⟩ := hE
      exact ⟨cs, h1, elems[i].1, elems[i].2, by rw [List.getElem?_map, List.getElem?_eq_getElem (by omega)]; rfl, h2⟩
    obtain ⟨css, hl1, hat⟩ : ∃ css : List (List Value), css.length = len ∧ ∀ i c, css[i]? = some c → W.cells? 0 (x'.add (i * k)) k = some c ∧ ∃ y q, (elems.map (·.1))[i]? = some y ∧ DataW.trod enc P W 0 (fun _ => true) true n e c = some (y, q) := by
      refine ⟨(List.range len).map fun i => (W.cells? 0 (x'.add (i * k)) k).getD [], by simp, fun i c hi => ?_⟩
      have hi2 : i < len := by
        have := (List.getElem?_eq_some_iff.1 hi).1
        simpa using this
      obtain ⟨cs, h1, h2⟩ := hex i hi2
      have : c = cs := by
        simp [List.getElem?_map, List.getElem?_range hi2, h1] at hi
        exact hi.symm
      subst this
      exact ⟨h1, h2⟩
    have hk : ∀ c ∈ css, c.length = k := by
      intro c hc'
      obtain ⟨i, hi⟩ := List.getElem?_of_mem hc'
      exact (cells_at (hat i c hi).1).1
    obtain ⟨f1, f2⟩ := flat_at hk h0
    refine ⟨_, css, elems.map (·.1), rest.map (·.1), n, rfl, by simp [hlen, hl1], hk, ?_, .inr (by rw [hx]), fun i c hi => ⟨by omega, (hat i c hi).2⟩⟩
    refine ⟨f1, some x', cap, by rw [hl1], by omega, hm, (fun z => by cases z), fun ad z => ?_⟩
    simp only [Option.some.injEq] at z
    subst z
    have each : ∀ j' u, css.flatten[j']? = some u → W.cell? (x'.add j') = some u := by
      intro j' u hj
      obtain ⟨c, h1, h2⟩ := f2 j' u hj
      have h3 := (cells_at (hat _ c h1).1).2 _ u h2
      have e1 : (x'.add (j' / k * k)).add (j' % k) = x'.add j' := by
        have e2 : j' / k * k + j' % k = j' := by rw [Nat.mul_comm]; exact Nat.div_add_mod j' k
        rw [Addr.add_add, e2]
      rwa [e1] at h3
    by_cases hpos : css.flatten = []
    · exact ⟨.inl hpos, fun j' u hj => by rw [hpos] at hj; simp at hj⟩
    · have hsp : x'.spot = none := by
        obtain ⟨u, hu'⟩ : ∃ u, css.flatten[0]? = some u := by
          cases hz : css.flatten with
          | nil => exact absurd hz hpos
          | cons z zs => exact ⟨z, rfl⟩
        have := World.cell?_spot (each 0 u hu')
        simpa [Addr.add] using this
      refine ⟨.inr hsp, fun j' u hj => ?_⟩
      have hadd : x'.add j' = ⟨x'.block, x'.off + j', none⟩ := by obtain ⟨b, o, zz⟩ := x'; simp only at hsp; subst hsp; unfold Addr.add; split <;> simp_all
      rw [← hadd]; exact each j' u hj
/-- the type of queries -/
def QTy (P : Program) (e : TypeId) : Prop := ∃ f0 f1 f2 f3 f4 f5 f6 f7 : Field, P.underlying e = some (.struct #[f0, f1, f2, f3, f4, f5, f6, f7]) ∧ P.cellsOf e = 8 ∧
  (P.underlying f0.type = some (.int .i64) ∧ P.underlying f1.type = some .string ∧ P.underlying f2.type = some .string ∧ P.underlying f3.type = some (.int .i64) ∧ P.underlying f4.type = some (.int .i64) ∧ P.underlying f5.type = some (.int .u64) ∧ P.underlying f6.type = some (.int .u64) ∧ P.underlying f7.type = some (.slice e)) ∧
  (P.cellsOf f0.type = 1 ∧ P.cellsOf f1.type = 1 ∧ P.cellsOf f2.type = 1 ∧ P.cellsOf f3.type = 1 ∧ P.cellsOf f4.type = 1 ∧ P.cellsOf f5.type = 1 ∧ P.cellsOf f6.type = 1 ∧ P.cellsOf f7.type = 1) ∧
  (f0.offset = 0 ∧ f1.offset = 1 ∧ f2.offset = 2 ∧ f3.offset = 3 ∧ f4.offset = 4 ∧ f5.offset = 5 ∧ f6.offset = 6 ∧ f7.offset = 7)
theorem kids_of {els : List (DataW H)} : ∀ {css : List (List Value)}, els.length = css.length → (∀ (i : Nat) (c : List Value), css[i]? = some c → ∃ y, els[i]? = some y ∧ ∃ (z : QN) (q : Q), c = qnC z ∧ z.h = q.h ∧ RdQ W q z.parts ∧ bulkQ q ≤ Rows.uptoBulk y) →
    ∃ (L : List QN) (l : List Q), css.flatten = recs qnC L ∧ L.length = css.length ∧ l.length = css.length ∧ (∀ j, j < l.length → (L.getD j qz).h = (l.getD j q0).h) ∧ (∀ j, j < l.length → RdQ W (l.getD j q0) (L.getD j qz).parts) ∧ bulkL l ≤ Rows.uptoBulkAll els := by
  induction els with
  | nil =>
    intro css hl h
    obtain rfl : css = [] := List.length_eq_zero_iff.1 hl.symm
    exact ⟨[], [], rfl, rfl, rfl, fun j hj => absurd hj (Nat.not_lt_zero _), fun j hj => absurd hj (Nat.not_lt_zero _), Nat.le_refl _⟩
  | cons d els ih =>
    intro css hl h
    match css, hl with
    | c :: css, hl =>
      obtain ⟨y, hy, z, q, hz, hh, hr, hb⟩ := h 0 c rfl
      obtain rfl : d = y := by simpa using hy
      obtain ⟨L, l, h1, h2, h3, h4, h5, h6⟩ := ih (css := css) (by simpa using hl) fun i c hi => by simpa using h (i + 1) c (by simpa using hi)
      refine ⟨z :: L, q :: l, by rw [List.flatten_cons, hz, h1]; rfl, by simp [h2], by simp [h3], fun j hj => ?_, fun j hj => ?_, ?_⟩
      · match j, hj with
        | 0, _ => exact hh
        | j + 1, hj => exact h4 j (by simpa using hj)
      · match j, hj with
        | 0, _ => exact hr
        | j + 1, hj => exact h5 j (by simpa using hj)
      · have e1 : bulkL (q :: l) = bulkQ q + bulkL l := by rw [bulkL]
        rw [e1]; simp only [Rows.uptoBulkAll]; omega
theorem query_cells (hT : QTy P e) : ∀ (fuel : Nat) (cs : List Value) (x : DataW H × List MemPlace), DataW.trod enc P W 0 (fun _ => true) true fuel e cs = some x →
    ∃ (z : QN) (q : Q), cs = qnC z ∧ z.h = q.h ∧ RdQ W q z.parts ∧ bulkQ q + 8 ≤ Rows.uptoBulk x.1 := by
  obtain ⟨f0, f1, f2, f3, f4, f5, f6, f7, he, hc, ⟨u0, u1, u2, u3, u4, u5, u6, u7⟩, ⟨c0, c1, c2, c3, c4, c5, c6, c7⟩, ⟨o0, o1, o2, o3, o4, o5, o6, o7⟩⟩ := hT
  intro fuel
  induction fuel using Nat.strongRecOn with
  | _ fuel ih =>
    intro cs x h
    obtain ⟨xs, n, rfl, rfl, hcl, hxl, hat⟩ := DataW.trod_struct he h
    rw [hc] at hcl
    match cs, hcl with
    | [v0, v1, v2, v3, v4, v5, v6, v7], _ =>
      match xs, hxl with
      | [x0, x1, x2, x3, x4, x5, x6, x7], _ =>
        have t0 := hat 0 f0 rfl
        have t1 := hat 1 f1 rfl
        have t2 := hat 2 f2 rfl
        have t3 := hat 3 f3 rfl
        have t4 := hat 4 f4 rfl
        have t5 := hat 5 f5 rfl
        have t6 := hat 6 f6 rfl
        have t7 := hat 7 f7 rfl
        rw [o0, c0] at t0; rw [o1, c1] at t1; rw [o2, c2] at t2; rw [o3, c3] at t3; rw [o4, c4] at t4; rw [o5, c5] at t5; rw [o6, c6] at t6; rw [o7, c7] at t7
        obtain ⟨n0, e0, g0, _⟩ := DataW.trod_int u0 t0
        obtain ⟨n1, e1, g1, _⟩ := DataW.trod_string u1 t1
        obtain ⟨n2, e2, g2, _⟩ := DataW.trod_string u2 t2
        obtain ⟨n3, e3, g3, _⟩ := DataW.trod_int u3 t3
        obtain ⟨n4, e4, g4, _⟩ := DataW.trod_int u4 t4
        obtain ⟨n5, e5, g5, _⟩ := DataW.trod_int u5 t5
        obtain ⟨n6, e6, g6, _⟩ := DataW.trod_int u6 t6
        obtain ⟨v, css, els, sp, m, e7, hel, hk, hrd, hdd, hea⟩ := slice_rd u7 hc (by decide) t7
        simp at e0 e1 e2 e3 e4 e5 e6 e7
        subst e0; subst e1; subst e2; subst e3; subst e4; subst e5; subst e6; subst e7
        obtain ⟨L, l, h1, h2, h3, h4, h5, h6⟩ := kids_of (W := W) (els := els) hel fun i c hi => by
          obtain ⟨hm, y, q, hy, ht⟩ := hea i c hi
          obtain ⟨z, q', a1, a2, a3, a4⟩ := ih m (by omega) c _ ht
          exact ⟨y, hy, z, q', a1, a2, a3, Nat.le_trans (Nat.le_add_right _ 8) a4⟩
        refine ⟨⟨⟨n0, n1.data.toList, n2.data.toList, n3, n4, n5, n6⟩, v7⟩, .mk ⟨n0, n1.data.toList, n2.data.toList, n3, n4, n5, n6⟩ l, ?_, rfl, .mk _ _ _ L (by rw [← h1, h2]; exact hrd) (h2.trans h3.symm) h4 h5, ?_⟩
        · show _ = [.int .i64 n0, .string (sb n1.data.toList), .string (sb n2.data.toList), .int .i64 n3, .int .i64 n4, .int .u64 n5, .int .u64 n6, v7]
          rw [sb_of, sb_of]
        · rw [bulkQ_mk, g0, g1, g2, g3, g4, g5, g6]
          have h7 : bulkL l + 1 ≤ Rows.uptoBulk x7.1 := by
            rcases hdd with ⟨q1, q2⟩ | q1
            · subst q2
              obtain rfl : l = [] := List.length_eq_zero_iff.1 h3
              rw [q1]; simp [Rows.uptoBulk, bulkL]
            · rw [q1]; simp only [Rows.uptoBulk]; omega
          simp only [List.map_cons, List.map_nil, Rows.uptoBulk, Rows.uptoBulkAll]
          omega
theorem open_query {r : Reach} {b0 : Nat} {v : Value} {d : DataW H} {p : List MemPlace} (hT : QTy P e) (hval : Value.okWide P W r b0 e v) (h : DataW.Trod enc P W 0 (fun _ => true) true e v d p) :
    ∃ (z : QN) (q : Q), v = .agg #[.int .i64 z.h.op, .string (sb z.h.field), .string (sb z.h.text), .int .i64 z.h.edits, .int .i64 z.h.exact, .int .u64 z.h.lo, .int .u64 z.h.hi, z.parts] ∧ z.h = q.h ∧ RdQ W q z.parts ∧ bulkQ q + 8 ≤ Rows.uptoBulk d := by
  obtain ⟨f0, f1, f2, f3, f4, f5, f6, f7, he, hrest⟩ := hT
  obtain ⟨cs, rfl, hsz⟩ := okWide_struct he hval
  obtain ⟨fuel, hf⟩ := h
  obtain ⟨z, q, h1, h2, h3, h4⟩ := query_cells ⟨f0, f1, f2, f3, f4, f5, f6, f7, he, hrest⟩ fuel _ _ hf
  refine ⟨z, q, ?_, h2, h3, h4⟩
  have hcs : (Value.agg cs).cells.toList = cs.toList := rfl
  rw [hcs] at h1
  congr 1; apply Array.toList_inj.1; rw [h1]; rfl
end
end Go.Gw

namespace Go.Gw
set_option linter.unusedVariables false
set_option linter.unusedSimpArgs false
open Go.ChangeShapes Go.WideShapes Go.ChangeAt Go.RowKit Go.QryP Go.SynP Go.Proofs.YthpodbngljfdmaaGreatDoor
section
variable {H : Type} {enc : TypeId × Value → H} {P : Program} {W : World} {t e : TypeId}
theorem u64_wf {n : Int} (h : (Lit.int .u64 n).wf = true) : 0 ≤ n ∧ n < 18446744073709551616 := by have := bounds_u64 h; omega
theorem kids_n {els : List (DataW H)} : ∀ {css : List (List Value)}, els.length = css.length → (∀ (i : Nat) (c : List Value), css[i]? = some c → ∃ y, els[i]? = some y ∧ ∃ (z : QN) (q : Q), c = qnC z ∧ z.h = q.h ∧ RdQ W q z.parts ∧ bulkQ q ≤ Rows.uptoBulk y ∧ numQ q) →
    ∃ (L : List QN) (l : List Q), css.flatten = recs qnC L ∧ L.length = css.length ∧ l.length = css.length ∧ (∀ j, j < l.length → (L.getD j qz).h = (l.getD j q0).h) ∧ (∀ j, j < l.length → RdQ W (l.getD j q0) (L.getD j qz).parts) ∧ bulkL l ≤ Rows.uptoBulkAll els ∧ numL l := by
  induction els with
  | nil =>
    intro css hl h
    obtain rfl : css = [] := List.length_eq_zero_iff.1 hl.symm
    exact ⟨[], [], rfl, rfl, rfl, fun j hj => absurd hj (Nat.not_lt_zero _), fun j hj => absurd hj (Nat.not_lt_zero _), Nat.le_refl _, by rw [numL]; trivial⟩
  | cons d els ih =>
    intro css hl h
    match css, hl with
    | c :: css, hl =>
      obtain ⟨y, hy, z, q, hz, hh, hr, hb, hnn⟩ := h 0 c rfl
      obtain rfl : d = y := by simpa using hy
      obtain ⟨L, l, h1, h2, h3, h4, h5, h6, hnl⟩ := ih (css := css) (by simpa using hl) fun i c hi => by simpa using h (i + 1) c (by simpa using hi)
      refine ⟨z :: L, q :: l, by rw [List.flatten_cons, hz, h1]; rfl, by simp [h2], by simp [h3], fun j hj => ?_, fun j hj => ?_, ?_, by rw [numL]; exact ⟨hnn, hnl⟩⟩
      · match j, hj with
        | 0, _ => exact hh
        | j + 1, hj => exact h4 j (by simpa using hj)
      · match j, hj with
        | 0, _ => exact hr
        | j + 1, hj => exact h5 j (by simpa using hj)
      · have e1 : bulkL (q :: l) = bulkQ q + bulkL l := by rw [bulkL]
        rw [e1]; simp only [Rows.uptoBulkAll]; omega
theorem query_cells_n (hT : QTy P e) : ∀ (fuel : Nat) (cs : List Value) (x : DataW H × List MemPlace), DataW.trod enc P W 0 (fun _ => true) true fuel e cs = some x →
    ∃ (z : QN) (q : Q), cs = qnC z ∧ z.h = q.h ∧ RdQ W q z.parts ∧ bulkQ q + 8 ≤ Rows.uptoBulk x.1 ∧ numQ q := by
  obtain ⟨f0, f1, f2, f3, f4, f5, f6, f7, he, hc, ⟨u0, u1, u2, u3, u4, u5, u6, u7⟩, ⟨c0, c1, c2, c3, c4, c5, c6, c7⟩, ⟨o0, o1, o2, o3, o4, o5, o6, o7⟩⟩ := hT
  intro fuel
  induction fuel using Nat.strongRecOn with
  | _ fuel ih =>
    intro cs x h
    obtain ⟨xs, n, rfl, rfl, hcl, hxl, hat⟩ := DataW.trod_struct he h
    rw [hc] at hcl
    match cs, hcl with
    | [v0, v1, v2, v3, v4, v5, v6, v7], _ =>
      match xs, hxl with
      | [x0, x1, x2, x3, x4, x5, x6, x7], _ =>
        have t0 := hat 0 f0 rfl
        have t1 := hat 1 f1 rfl
        have t2 := hat 2 f2 rfl
        have t3 := hat 3 f3 rfl
        have t4 := hat 4 f4 rfl
        have t5 := hat 5 f5 rfl
        have t6 := hat 6 f6 rfl
        have t7 := hat 7 f7 rfl
        rw [o0, c0] at t0; rw [o1, c1] at t1; rw [o2, c2] at t2; rw [o3, c3] at t3; rw [o4, c4] at t4; rw [o5, c5] at t5; rw [o6, c6] at t6; rw [o7, c7] at t7
        obtain ⟨n0, e0, g0, _⟩ := DataW.trod_int u0 t0
        obtain ⟨n1, e1, g1, _⟩ := DataW.trod_string u1 t1
        obtain ⟨n2, e2, g2, _⟩ := DataW.trod_string u2 t2
        obtain ⟨n3, e3, g3, _⟩ := DataW.trod_int u3 t3
        obtain ⟨n4, e4, g4, _⟩ := DataW.trod_int u4 t4
        obtain ⟨n5, e5, g5, w5⟩ := DataW.trod_int u5 t5
        obtain ⟨n6, e6, g6, w6⟩ := DataW.trod_int u6 t6
        obtain ⟨v, css, els, sp, m, e7, hel, hk, hrd, hdd, hea⟩ := slice_rd u7 hc (by decide) t7
        simp at e0 e1 e2 e3 e4 e5 e6 e7
        subst e0; subst e1; subst e2; subst e3; subst e4; subst e5; subst e6; subst e7
        obtain ⟨L, l, h1, h2, h3, h4, h5, h6, hnl⟩ := kids_n (W := W) (els := els) hel fun i c hi => by
          obtain ⟨hm, y, q, hy, ht⟩ := hea i c hi
          obtain ⟨z, q', a1, a2, a3, a4, a5⟩ := ih m (by omega) c _ ht
          exact ⟨y, hy, z, q', a1, a2, a3, Nat.le_trans (Nat.le_add_right _ 8) a4, a5⟩
        refine ⟨⟨⟨n0, n1.data.toList, n2.data.toList, n3, n4, n5, n6⟩, v7⟩, .mk ⟨n0, n1.data.toList, n2.data.toList, n3, n4, n5, n6⟩ l, ?_, rfl, .mk _ _ _ L (by rw [← h1, h2]; exact hrd) (h2.trans h3.symm) h4 h5, ?_, ?_⟩
        · show _ = [.int .i64 n0, .string (sb n1.data.toList), .string (sb n2.data.toList), .int .i64 n3, .int .i64 n4, .int .u64 n5, .int .u64 n6, v7]
          rw [sb_of, sb_of]
        · rw [bulkQ_mk, g0, g1, g2, g3, g4, g5, g6]
          have h7 : bulkL l + 1 ≤ Rows.uptoBulk x7.1 := by
            rcases hdd with ⟨q1, q2⟩ | q1
            · subst q2
              obtain rfl : l = [] := List.length_eq_zero_iff.1 h3
              rw [q1]; simp [Rows.uptoBulk, bulkL]
            · rw [q1]; simp only [Rows.uptoBulk]; omega
          simp only [List.map_cons, List.map_nil, Rows.uptoBulk, Rows.uptoBulkAll]
          omega
        · rw [numQ_mk]; exact ⟨u64_wf w5, u64_wf w6, hnl⟩
theorem open_query_n {r : Reach} {b0 : Nat} {v : Value} {d : DataW H} {p : List MemPlace} (hT : QTy P e) (hval : Value.okWide P W r b0 e v) (h : DataW.Trod enc P W 0 (fun _ => true) true e v d p) :
    ∃ (z : QN) (q : Q), v = .agg #[.int .i64 z.h.op, .string (sb z.h.field), .string (sb z.h.text), .int .i64 z.h.edits, .int .i64 z.h.exact, .int .u64 z.h.lo, .int .u64 z.h.hi, z.parts] ∧ z.h = q.h ∧ RdQ W q z.parts ∧ bulkQ q + 8 ≤ Rows.uptoBulk d ∧ numQ q := by
  obtain ⟨f0, f1, f2, f3, f4, f5, f6, f7, he, hrest⟩ := hT
  obtain ⟨cs, rfl, hsz⟩ := okWide_struct he hval
  obtain ⟨fuel, hf⟩ := h
  obtain ⟨z, q, h1, h2, h3, h4, h5⟩ := query_cells_n ⟨f0, f1, f2, f3, f4, f5, f6, f7, he, hrest⟩ fuel _ _ hf
  refine ⟨z, q, ?_, h2, h3, h4, h5⟩
  have hcs : (Value.agg cs).cells.toList = cs.toList := rfl
  rw [hcs] at h1
  congr 1; apply Array.toList_inj.1; rw [h1]; rfl
end
end Go.Gw
