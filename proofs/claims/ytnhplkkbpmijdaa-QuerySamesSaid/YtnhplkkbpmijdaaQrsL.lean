/-
  The walk of QuerySames, for trees however great.
-/
import Derived.Test.YtnhplkkbpmijdaaQrsF
namespace Go.Proofs.Ytnhplkkbpmijdaa
open Go Go.Gw Go.UtfP Go.TokP Go.QryP Go.RowKit
set_option linter.unusedVariables false
set_option linter.unusedSimpArgs false


set_option maxHeartbeats 2000000 in
theorem zlsames_c {w : World} (qa : Q) (ha : Hd) (hea : ha = qa.h) (va : Value) (hqa : RdQ w qa va) (hba : True) (qb : Q) (hb : Hd) (heb : hb = qb.h) (vb : Value) (hqb : RdQ w qb vb) (hbb : True) :
    Calls Try.prog 4 #[(qA ha va), (qA hb vb)] w (fun e w' => e = .returned (.bool true) ∧ Below w.heap.size w w') := by
  obtain ⟨La, hra, hla, hha, hsa⟩ := hqa.inv
  have hlna := rd_len hra
  simp only [maxLen] at hlna
  obtain ⟨Lb, hrb, hlb, hhb, hsb⟩ := hqb.inv
  have hlnb := rd_len hrb
  simp only [maxLen] at hlnb
  obtain ⟨R, hR⟩ : ∃ R : Ending → World → Prop, R = (fun e w' => e = .returned (.bool true) ∧ Below w.heap.size w w') := ⟨_, rfl⟩
  rw [← hR]
  refine GoS.enter (n := 30) Try.func4 (by kernel_rfl) rfl [(0, (qA ha va)), (1, (qA hb vb))] (by kernel_rfl) (by kernel_rfl) ?_
  have hM0 := Mem.start w
  obtain ⟨b1, w2, hr3, hM4⟩ := m_box (T := 25) (k := 8) (u := (qA ha va)) rfl rfl hM0
  have hM5 : Mem [] w w2 [⟨25, 8, (obj b1), 1, (qR ha va)⟩] := hM4
  have o11 : (Instr.box 25 ((qA ha va))).run Try.prog w = .ok (pq b1) w2 := hr3
  obtain ⟨b6, w7, hr8, hM9⟩ := m_box (T := 25) (k := 8) (u := (qA hb vb)) rfl rfl hM5
  have hM10 : Mem [] w w7 [⟨25, 8, (obj b6), 1, (qR hb vb)⟩, ⟨25, 8, (obj b1), 1, (qR ha va)⟩] := hM9
  have o12 : (Instr.box 25 ((qA hb vb))).run Try.prog w2 = .ok (pq b6) w7 := hr8
  have o13 : (Instr.loadAt 25 (pq b1)).run Try.prog w7 = .ok ((qA ha va)) w7 := c_loads (ys := (qR ha va)) aE25 (hM10.rd 1 rfl) (cel_obj b1 0) rfl (by intro j u hj; match j, hj with | 0, hj => exact hj | 1, hj => exact hj | 2, hj => exact hj | 3, hj => exact hj | 4, hj => exact hj | 5, hj => exact hj | 6, hj => exact hj | 7, hj => exact hj | n + 8, hj => cases hj)
  refine GoS.run [2, 3, 5] [.n, .n, .u (pq b1) (w2), .u (pq b6) (w7), .n, .n, .n, .n, .n, .h ((qA ha va))] _ [.inRegion (cops (csub (cd Try.f4) [1,0,0])) [1,2,3,4,5,6,7], .code (csub (cd Try.f4) [1,0,1]), .code (csub (cd Try.f4) [1,1])] [(2, pq b1), (3, pq b6), (5, (qA ha va))] w7 (by kernel_rfl) (.cons o11 (.cons o12 (.cons o13 .nil))) ?_
  refine GoS.call [2, 3] 7 #[(qA ha va)] (some 6) [.inRegion (cops (csub (cd Try.f4) [1,0,0])) [2,3,4,5,6,7], .code (csub (cd Try.f4) [1,0,1]), .code (csub (cd Try.f4) [1,1])] [(2, pq b1), (3, pq b6)] (by kernel_rfl) (wfewb_c qa ha hea va (hqa.kept hM10.kept) (by first | trivial | omega)) ?_
  rintro _ w14 ⟨rfl, m15⟩
  refine ⟨_, rfl, ?_⟩
  have hM16 : Mem [] w w14 [⟨25, 8, (obj b6), 1, (qR hb vb)⟩, ⟨25, 8, (obj b1), 1, (qR ha va)⟩] := Mem.join (R := []) hM10 m15
  refine GoS.run [2, 3, 8] [.n, .n] _ [.inRegion (cops (csub (cd Try.f4) [1,0,0])) [4,5,6,7], .code (csub (cd Try.f4) [1,0,1]), .code (csub (cd Try.f4) [1,1])] [(2, pq b1), (3, pq b6), (8, .bool (!(decide (((fewQ qa 0 : Nat) : Int) ≤ 5000))))] w14 (by kernel_rfl) .nil ?_
  refine GoS.fork 8 (!(decide (((fewQ qa 0 : Nat) : Int) ≤ 5000))) (by kernel_rfl) (fun h17 => ?_) (fun h17 => ?_)
  ·
    have h17p : ¬ (((fewQ qa 0 : Nat) : Int) ≤ 5000) := of_decide_eq_false (p_nf h17)
    refine GoS.run [2, 3, 12] [.n, .n, .n, .n] _ [.inRegion (cops (csub (cd Try.f4) [1,0,0])) [], .code (csub (cd Try.f4) [1,0,1]), .code (csub (cd Try.f4) [1,1])] [(2, pq b1), (3, pq b6), (12, .bool true)] w14 (by kernel_rfl) .nil ?_
    have hM22 : Mem [] w w14 [] := hM16.sub (cn (cn (List.Sublist.refl _)))
    refine GoS.run [] [.n, .n, .n, .n] _ [.inRegion (cops (csub (cd Try.f4) [1,0,1,0,0])) [0,1], .code (csub (cd Try.f4) [1,0,1,0,1]), .code (csub (cd Try.f4) [1,1])] [] w14 (by kernel_rfl) .nil ?_
    refine GoS.call [] 8 #[] (some 13) [.inRegion (cops (csub (cd Try.f4) [1,0,1,0,0])) [1], .code (csub (cd Try.f4) [1,0,1,0,1]), .code (csub (cd Try.f4) [1,1])] [] (by kernel_rfl) (awake_c w14) ?_
    rintro _ w23 ⟨rfl, m24⟩
    refine ⟨_, rfl, ?_⟩
    have hM25 := Mem.join hM22 m24
    refine GoS.run [4] [.n, .n] _ [.code (csub (cd Try.f4) [1,0,1,0,1]), .code (csub (cd Try.f4) [1,1])] [(4, .bool true)] w23 (by kernel_rfl) .nil ?_
    refine GoS.ret (fn := Try.f4) (v := (.bool true)) Try.func4 (by kernel_rfl) ?_
    rw [hR]
    exact ⟨rfl, (hM25.sub (List.nil_sublist _)).below⟩
  ·
    have h17p : ((fewQ qa 0 : Nat) : Int) ≤ 5000 := of_decide_eq_true (p_nt h17)
    have hzqa := few_size (q := qa) (by omega)
    have o18 : (Instr.loadAt 25 (pq b6)).run Try.prog w14 = .ok ((qA hb vb)) w14 := c_loads (ys := (qR hb vb)) aE25 (hM16.rd 0 rfl) (cel_obj b6 0) rfl (by intro j u hj; match j, hj with | 0, hj => exact hj | 1, hj => exact hj | 2, hj => exact hj | 3, hj => exact hj | 4, hj => exact hj | 5, hj => exact hj | 6, hj => exact hj | 7, hj => exact hj | n + 8, hj => cases hj)
    refine GoS.run [2, 3, 8, 9] [.h ((qA hb vb))] _ [.inRegion (cops (csub (cd Try.f4) [1,0,0])) [5,6,7], .code (csub (cd Try.f4) [1,0,1]), .code (csub (cd Try.f4) [1,1])] [(2, pq b1), (3, pq b6), (8, .bool false), (9, (qA hb vb))] w14 (by kernel_rfl) (.cons o18 .nil) ?_
    refine GoS.call [2, 3, 8] 7 #[(qA hb vb)] (some 10) [.inRegion (cops (csub (cd Try.f4) [1,0,0])) [6,7], .code (csub (cd Try.f4) [1,0,1]), .code (csub (cd Try.f4) [1,1])] [(2, pq b1), (3, pq b6), (8, .bool false)] (by kernel_rfl) (wfewb_c qb hb heb vb (hqb.kept hM16.kept) (by first | trivial | omega)) ?_
    rintro _ w19 ⟨rfl, m20⟩
    refine ⟨_, rfl, ?_⟩
    have hM21 : Mem [] w w19 [⟨25, 8, (obj b6), 1, (qR hb vb)⟩, ⟨25, 8, (obj b1), 1, (qR ha va)⟩] := Mem.join (R := []) hM16 m20
    refine GoS.run [2, 3, 12] [.n, .n] _ [.inRegion (cops (csub (cd Try.f4) [1,0,0])) [], .code (csub (cd Try.f4) [1,0,1]), .code (csub (cd Try.f4) [1,1])] [(2, pq b1), (3, pq b6), (12, .bool (!(decide (((fewQ qb 0 : Nat) : Int) ≤ 5000))))] w19 (by kernel_rfl) .nil ?_
    refine GoS.run [2, 3, 12] [.n] _ [.code (csub (cd Try.f4) [1,0,1]), .code (csub (cd Try.f4) [1,1])] [(2, pq b1), (3, pq b6), (12, .bool (!(decide (((fewQ qb 0 : Nat) : Int) ≤ 5000))))] w19 (by kernel_rfl) .nil ?_
    refine GoS.cond (!(decide (((fewQ qb 0 : Nat) : Int) ≤ 5000))) [.code (csub (cd Try.f4) [1,0,1,0]), .code (csub (cd Try.f4) [1,1])] [.code (csub (cd Try.f4) [1,0,1,1]), .code (csub (cd Try.f4) [1,1])] (by kernel_rfl) (fun h26 => ?_) (fun h26 => ?_)
    ·
      have h26p : ¬ (((fewQ qb 0 : Nat) : Int) ≤ 5000) := of_decide_eq_false (p_nf h26)
      have hM27 : Mem [] w w19 [] := hM21.sub (cn (cn (List.Sublist.refl _)))
      refine GoS.run [] [.n, .n] _ [.inRegion (cops (csub (cd Try.f4) [1,0,1,0,0])) [0,1], .code (csub (cd Try.f4) [1,0,1,0,1]), .code (csub (cd Try.f4) [1,1])] [] w19 (by kernel_rfl) .nil ?_
      refine GoS.call [] 8 #[] (some 13) [.inRegion (cops (csub (cd Try.f4) [1,0,1,0,0])) [1], .code (csub (cd Try.f4) [1,0,1,0,1]), .code (csub (cd Try.f4) [1,1])] [] (by kernel_rfl) (awake_c w19) ?_
      rintro _ w28 ⟨rfl, m29⟩
      refine ⟨_, rfl, ?_⟩
      have hM30 := Mem.join hM27 m29
      refine GoS.run [4] [.n, .n] _ [.code (csub (cd Try.f4) [1,0,1,0,1]), .code (csub (cd Try.f4) [1,1])] [(4, .bool true)] w28 (by kernel_rfl) .nil ?_
      refine GoS.ret (fn := Try.f4) (v := (.bool true)) Try.func4 (by kernel_rfl) ?_
      rw [hR]
      exact ⟨rfl, (hM30.sub (List.nil_sublist _)).below⟩
    ·
      have h26p : ((fewQ qb 0 : Nat) : Int) ≤ 5000 := of_decide_eq_true (p_nt h26)
      have hzqb := few_size (q := qb) (by omega)
      refine GoS.run [2, 3] [.n] _ [.code (csub (cd Try.f4) [1,1])] [(2, pq b1), (3, pq b6)] w19 (by kernel_rfl) .nil ?_
      refine GoS.run [2, 3] [.n] _ [.code (csub (cd Try.f4) [1,1,0]), .code (csub (cd Try.f4) [1,1,1])] [(2, pq b1), (3, pq b6)] w19 (by kernel_rfl) .nil ?_
      obtain ⟨w31, hw32⟩ : ∃ w_, (w19).drewN 1 = w_ := ⟨_, rfl⟩
      refine GoS.held (fun W_ => Mem [] w W_ [⟨25, 8, (obj b6), 1, (qR hb vb)⟩, ⟨25, 8, (obj b1), 1, (qR ha va)⟩]) [] 3 (by kernel_rfl) (by kernel_rfl) 17 (by kernel_rfl) ?_
      rw [hw32]
      have hM33 : Mem [] w w31 [⟨25, 8, (obj b6), 1, (qR hb vb)⟩, ⟨25, 8, (obj b1), 1, (qR ha va)⟩] := hw32 ▸ hM21.ext (Kept.drewN _ _ 1)
      have hS34 : Mem [] w w31 [⟨25, 8, (obj b6), 1, (qR hb vb)⟩, ⟨25, 8, (obj b1), 1, (qR ha va)⟩] := hM33.sub (cc (cc (List.Sublist.refl _)))
      refine GoH.callF 0 8 #[] (some 14) (by kernel_rfl) (awake_c w31) ?_
      rintro _ w35 ⟨rfl, m36⟩
      have hM37 := Mem.join hM33 m36
      have hS38 : Mem [] w w35 [⟨25, 8, (obj b6), 1, (qR hb vb)⟩, ⟨25, 8, (obj b1), 1, (qR ha va)⟩] := hM37.sub (cc (cc (List.Sublist.refl _)))
      refine ⟨.bool true, rfl, .inr hS38, ?_⟩
      refine GoH.takeV 1 (.bool true) (.bool true) (some 15) (fun W_ => by kernel_rfl) rfl hS38 ?_
      refine GoH.takeF 2 ((qA ha va)) (fun W_ => (Instr.loadAt 25 (pq b1)).run Try.prog W_ = .ok ((qA ha va)) W_) (some 16) (fun W_ => by kernel_rfl) (fun W_ hW_ => c_loads (ys := (qR ha va)) aE25 (hW_.rd 1 rfl) (cel_obj b1 0) rfl (by intro j u hj; match j, hj with | 0, hj => exact hj | 1, hj => exact hj | 2, hj => exact hj | 3, hj => exact hj | 4, hj => exact hj | 5, hj => exact hj | 6, hj => exact hj | 7, hj => exact hj | n + 8, hj => cases hj)) hS38 ?_
      refine GoH.takeF 3 ((qA hb vb)) (fun W_ => (Instr.loadAt 25 (pq b6)).run Try.prog W_ = .ok ((qA hb vb)) W_) (some 17) (fun W_ => by kernel_rfl) (fun W_ hW_ => c_loads (ys := (qR hb vb)) aE25 (hW_.rd 0 rfl) (cel_obj b6 0) rfl (by intro j u hj; match j, hj with | 0, hj => exact hj | 1, hj => exact hj | 2, hj => exact hj | 3, hj => exact hj | 4, hj => exact hj | 5, hj => exact hj | 6, hj => exact hj | 7, hj => exact hj | n + 8, hj => cases hj)) hS38 ?_
      refine GoH.takeF 5 ((qA ha va)) (fun W_ => (Instr.loadAt 25 (pq b1)).run Try.prog W_ = .ok ((qA ha va)) W_) (some 19) (fun W_ => by kernel_rfl) (fun W_ hW_ => c_loads (ys := (qR ha va)) aE25 (hW_.rd 1 rfl) (cel_obj b1 0) rfl (by intro j u hj; match j, hj with | 0, hj => exact hj | 1, hj => exact hj | 2, hj => exact hj | 3, hj => exact hj | 4, hj => exact hj | 5, hj => exact hj | 6, hj => exact hj | 7, hj => exact hj | n + 8, hj => cases hj)) hS38 ?_
      refine GoH.takeF 6 ((qA hb vb)) (fun W_ => (Instr.loadAt 25 (pq b6)).run Try.prog W_ = .ok ((qA hb vb)) W_) (some 20) (fun W_ => by kernel_rfl) (fun W_ hW_ => c_loads (ys := (qR hb vb)) aE25 (hW_.rd 0 rfl) (cel_obj b6 0) rfl (by intro j u hj; match j, hj with | 0, hj => exact hj | 1, hj => exact hj | 2, hj => exact hj | 3, hj => exact hj | 4, hj => exact hj | 5, hj => exact hj | 6, hj => exact hj | 7, hj => exact hj | n + 8, hj => cases hj)) hS38 ?_
      refine GoH.callF 4 16 #[(qA ha va), (qA hb vb)] (some 18) (by kernel_rfl) (zsame_c qa ha hea va (hqa.kept hM37.kept) (by first | trivial | omega) qb hb heb vb (hqb.kept hM37.kept) (by first | trivial | omega)) ?_
      rintro _ w39 ⟨rfl, m40⟩
      have hM41 : Mem [] w w39 [⟨25, 8, (obj b6), 1, (qR hb vb)⟩, ⟨25, 8, (obj b1), 1, (qR ha va)⟩] := Mem.join (R := []) hM37 m40
      have hS42 : Mem [] w w39 [⟨25, 8, (obj b6), 1, (qR hb vb)⟩, ⟨25, 8, (obj b1), 1, (qR ha va)⟩] := hM41.sub (cc (cc (List.Sublist.refl _)))
      refine ⟨.bool (sameQ qa qb), rfl, .inr hS42, ?_⟩
      refine GoH.callF 7 15 #[(qA ha va), (qA hb vb)] (some 21) (by kernel_rfl) (zrsame_c qa ha hea va (hqa.kept hM41.kept) (by first | trivial | omega) qb hb heb vb (hqb.kept hM41.kept) (by first | trivial | omega)) ?_
      rintro _ w43 ⟨rfl, m44⟩
      have hM45 : Mem [] w w43 [⟨25, 8, (obj b6), 1, (qR hb vb)⟩, ⟨25, 8, (obj b1), 1, (qR ha va)⟩] := Mem.join (R := []) hM41 m44
      have hS46 : Mem [] w w43 [⟨25, 8, (obj b6), 1, (qR hb vb)⟩, ⟨25, 8, (obj b1), 1, (qR ha va)⟩] := hM45.sub (cc (cc (List.Sublist.refl _)))
      refine ⟨.bool (sameQ qa qb), rfl, .inr hS46, ?_⟩
      refine GoH.takeF 8 (.bool true) (fun W_ => Try.prog.underlying 4 = some .bool ∧ W_ = W_ ∧ Value.bool true = .bool ((sameQ qa qb) == (sameQ qa qb))) (some 22) (fun W_ => by kernel_rfl) (fun W_ hW_ => ⟨by kernel_rfl, rfl, congrArg Value.bool (Eq.symm (beq_self_eq_true _))⟩) hS46 ?_
      refine GoH.takeV 9 (.bool true) (.bool true) (some 23) (fun W_ => by kernel_rfl) rfl hS46 ?_
      refine GoH.takeV 10 (.bool true) (.bool true) (some 24) (fun W_ => by kernel_rfl) rfl hS46 ?_
      refine GoH.takeF 11 ((qA ha va)) (fun W_ => (Instr.loadAt 25 (pq b1)).run Try.prog W_ = .ok ((qA ha va)) W_) (some 25) (fun W_ => by kernel_rfl) (fun W_ hW_ => c_loads (ys := (qR ha va)) aE25 (hW_.rd 1 rfl) (cel_obj b1 0) rfl (by intro j u hj; match j, hj with | 0, hj => exact hj | 1, hj => exact hj | 2, hj => exact hj | 3, hj => exact hj | 4, hj => exact hj | 5, hj => exact hj | 6, hj => exact hj | 7, hj => exact hj | n + 8, hj => cases hj)) hS46 ?_
      refine GoH.takeF 12 ((qA ha va)) (fun W_ => (Instr.loadAt 25 (pq b1)).run Try.prog W_ = .ok ((qA ha va)) W_) (some 26) (fun W_ => by kernel_rfl) (fun W_ hW_ => c_loads (ys := (qR ha va)) aE25 (hW_.rd 1 rfl) (cel_obj b1 0) rfl (by intro j u hj; match j, hj with | 0, hj => exact hj | 1, hj => exact hj | 2, hj => exact hj | 3, hj => exact hj | 4, hj => exact hj | 5, hj => exact hj | 6, hj => exact hj | 7, hj => exact hj | n + 8, hj => cases hj)) hS46 ?_
      refine GoH.callF 13 9 #[(qA ha va)] (some 27) (by kernel_rfl) (zcopy_c qa ha hea va (hqa.kept hM45.kept) (by first | trivial | omega)) ?_
      rintro _ w47 ⟨u48, M49, T50, rfl, h53, h54, h55, m52⟩
      obtain ⟨T51, hT57⟩ : ∃ T_, T_ = (⟨25, 8, u48, (List.length M49), (recs qnC M49)⟩ :: T50) := ⟨_, rfl⟩
      have hqt56 : QT T51 qa u48 := by rw [hT57]; exact QT.whole h53 h54 h55
      have hM58 : Mem [] w w47 (⟨25, 8, (obj b6), 1, (qR hb vb)⟩ :: ⟨25, 8, (obj b1), 1, (qR ha va)⟩ :: T51) := by rw [hT57]; exact Mem.join0 (A := [⟨25, 8, (obj b6), 1, (qR hb vb)⟩, ⟨25, 8, (obj b1), 1, (qR ha va)⟩]) hM45 m52
      have hS59 : Mem [] w w47 [⟨25, 8, (obj b6), 1, (qR hb vb)⟩, ⟨25, 8, (obj b1), 1, (qR ha va)⟩] := hM58.sub (cc (cc (List.nil_sublist _)))
      refine ⟨(qA ha u48), rfl, .inr hS59, ?_⟩
      refine GoH.callF 14 16 #[(qA ha va), (qA ha u48)] (some 28) (by kernel_rfl) (zsame_c qa ha hea va (hqa.kept hM58.kept) (by first | trivial | omega) qa ha hea u48 (QT.rd hM58 (fun r_ h_ => List.mem_cons_of_mem _ (List.mem_cons_of_mem _ (h_))) hqt56) (by first | trivial | omega)) ?_
      rintro _ w60 ⟨rfl, m61⟩
      have hM62 : Mem [] w w60 (⟨25, 8, (obj b6), 1, (qR hb vb)⟩ :: ⟨25, 8, (obj b1), 1, (qR ha va)⟩ :: T51) := Mem.join (R := []) hM58 m61
      have hS63 : Mem [] w w60 [⟨25, 8, (obj b6), 1, (qR hb vb)⟩, ⟨25, 8, (obj b1), 1, (qR ha va)⟩] := hM62.sub (cc (cc (List.nil_sublist _)))
      refine ⟨.bool (sameQ qa qa), rfl, .inr hS63, ?_⟩
      refine GoH.takeV 15 (.bool (sameQ qa qa)) (.bool (sameQ qa qa)) (some 29) (fun W_ => by kernel_rfl) rfl hS63 ?_
      refine GoH.takeV 16 (.bool (sameQ qa qa)) (.bool (sameQ qa qa)) (some 4) (fun W_ => by kernel_rfl) rfl hS63 ?_
      refine GoH.done [4] [(4, .bool (sameQ qa qa))] (by kernel_rfl) (by kernel_rfl) ?_
      have hM64 : Mem [] w w60 (T51) := hM62.sub (cn (cn (List.Sublist.refl _)))
      refine GoS.ret (fn := Try.f4) (v := (.bool (sameQ qa qa))) Try.func4 (by kernel_rfl) ?_
      rw [hR]
      exact ⟨ret_bool (same_refl _), (hM64.sub (List.nil_sublist _)).below⟩


end Go.Proofs.Ytnhplkkbpmijdaa
