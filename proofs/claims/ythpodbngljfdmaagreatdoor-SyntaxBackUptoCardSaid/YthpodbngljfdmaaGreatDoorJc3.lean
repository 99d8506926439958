/-
  Joined texts. No condition beyond those that each theorem names. What they say:
  The walk of one.
  The walk of right of the reference.
  The walks of Check, of both.
  What the parser of queries reads, as plain functions. No condition.
  What the printer of queries writes, as plain functions. No condition.
  The walks of next and fail.
  The walks of blanks and take.
  The walk of small.
  The walk of quoted.
  Lists of trees in rows; a variable that comes back with a tree. No condition.
  Blanks about a text of a query, and brackets about it, say nothing: plain laws of the reading. No condition.
  What is printed is read as it was: plain laws of the reading. No condition.
  The bounds that a text tells are bits of numbers. No condition.
  The text that the document names is read and printed as it says. No condition.
  What is refused: where, and what is told of it; what is printed is short. No condition.
  The bytes of a text as a slice of the call's own, of which a stretch behind the bytes may be frozen. No condition beyond those that each theorem names.
  Digits of base sixteen as the library reads them (either case), and as the parser asks. No condition.
  What the parser asks of a number's text in base sixteen, and what the library's functions tell of it. No condition.
  The walk of ParseUint at base 16.
  A buffer with room for all that is written into it; the model's entries for bytes. No condition beyond those that each theorem names.
  The walk of number.
-/
import Derived.Lib.Bytealg
import Derived.Lib.Repeat
import Derived.Laws.IdiomStrings
import Derived.Laws.AppendOwn
import Derived.Shelf.Strings.CaseAny
import Derived.Lib.AppendStr
import Derived.Lib.MakeNoZero
import Derived.Test.YthpodbngljfdmaaGreatDoorJc2
namespace Go.Proofs.YthpodbngljfdmaaGreatDoor
open Go Go.Gw Go.UtfP Go.TokP Go.QryP Go.RowKit
set_option linter.unusedVariables false
set_option linter.unusedSimpArgs false
set_option maxRecDepth 20000


set_option maxHeartbeats 4000000 in
theorem rone_c {w : World} (q : Q) (h : Hd) (he : h = q.h) (v : Value) (hq : RdQ w q v) (hb : bulkQ q ≤ 1048576) :
  Calls Tryz.prog 54 #[.agg #[.int .i64 (h.op), sS (h.field), sS (h.text), .int .i64 (h.edits), .int .i64 (h.exact), .int .u64 (h.lo), .int .u64 (h.hi), v]] w (fun e w' => e = .returned (.bool (nodeP h q.l.length)) ∧ Mem [] w w' []) := by
 obtain ⟨L, hr, hl, hh, hs⟩ := hq.inv
 have hbl : bulkL q.l + q.h.field.length + q.h.text.length + 1 = bulkQ q := by cases q; rw [bulkQ_mk]; rfl
 have hln := bulk_len q.l
 refine xe 163 Tryz.func54 (fun R hR => ?_)
 have hM0 := Mem.start w
 refine xx 2 (m_box (T := 25) (k := 8) (u := .agg #[.int .i64 (h.op), sS (h.field), sS (h.text), .int .i64 (h.edits), .int .i64 (h.exact), .int .u64 (h.lo), .int .u64 (h.hi), v]) rfl rfl hM0) (fun b1 w2 hM4 => ?_)
 refine xv 5 (c_load pE23 (hM4.rd 0 rfl) (cel_obj b1 7) rfl) ?_
 refine xv 0 (f_slen sT23 (hr.kept0 hM4.kept) 3 w2) ?_
 refine xv 6 (c_load pE3 (hM4.rd 0 rfl) (cel_obj b1 0) rfl) ?_
 refine xfc 2 15 (h.op = 8) (fun h10p => ?_) (fun h10p => ?_)
 ·
  refine xfc 11 22 ((((List.length L) : Nat) : Int) ≥ 2) (fun h12p => ?_) (fun h12p => ?_)
  ·
   refine xv 1 (c_load pE9 (hM4.rd 0 rfl) (cel_obj b1 1) rfl) ?_
   refine xq 0 (h.field) ([]) ?_
   refine xfc 2 27 (h.field = []) (fun h15p => ?_) (fun h15p => ?_)
   ·
    refine xv 0 (c_loads (ys := [.int .i64 (h.op), sS (h.field), sS (h.text), .int .i64 (h.edits), .int .i64 (h.exact), .int .u64 (h.lo), .int .u64 (h.hi), v]) aE25 (hM4.rd 0 rfl) (cel_obj b1 0) rfl (lq rfl)) ?_
    have hM17 := hM4.sub (sD sR)
    refine xk 0 (noth_c (w := w2) h v false false false) (fun w18 m19 => ?_)
    have hM20 : Mem [] w w18 [] := Mem.join (R := []) hM17 m19
    exact xr 3 (v := .bool (nothP h false false false)) Tryz.func54 hR ⟨ret_bool (by rw [node_join (by omega), (show decide (2 ≤ q.l.length) = true from decide_eq_true (by omega)), (show decide (h.field = []) = true from decide_eq_true h15p)]; rfl), hM20.sub sN⟩
   ·
    have hM21 := hM4.sub (sD sR)
    exact xr 5 (v := .bool false) Tryz.func54 hR ⟨ret_bool (by rw [node_join (by omega), (show decide (h.field = []) = false from decide_eq_false h15p), Bool.and_false]; rfl), hM21.sub sN⟩
  ·
   have hM22 := hM4.sub (sD sR)
   exact xr 10 (v := .bool false) Tryz.func54 hR ⟨ret_bool (by rw [node_join (by omega), (show decide (2 ≤ q.l.length) = false from decide_eq_false (by omega))]; rfl), hM22.sub sN⟩
 ·
  refine xv 1 (c_load pE3 (hM4.rd 0 rfl) (cel_obj b1 0) rfl) ?_
  refine xc 3 (h.op = 7) (fun h23p => ?_) (fun h23p => ?_)
  ·
   refine xfc 5 22 ((((List.length L) : Nat) : Int) ≥ 2) (fun h24p => ?_) (fun h24p => ?_)
   ·
    refine xv 1 (c_load pE9 (hM4.rd 0 rfl) (cel_obj b1 1) rfl) ?_
    refine xq 0 (h.field) ([]) ?_
    refine xfc 2 27 (h.field = []) (fun h27p => ?_) (fun h27p => ?_)
    ·
     refine xv 0 (c_loads (ys := [.int .i64 (h.op), sS (h.field), sS (h.text), .int .i64 (h.edits), .int .i64 (h.exact), .int .u64 (h.lo), .int .u64 (h.hi), v]) aE25 (hM4.rd 0 rfl) (cel_obj b1 0) rfl (lq rfl)) ?_
     have hM29 := hM4.sub (sD sR)
     refine xk 0 (noth_c (w := w2) h v false false false) (fun w30 m31 => ?_)
     have hM32 : Mem [] w w30 [] := Mem.join (R := []) hM29 m31
     exact xr 3 (v := .bool (nothP h false false false)) Tryz.func54 hR ⟨ret_bool (by rw [node_join (by omega), (show decide (2 ≤ q.l.length) = true from decide_eq_true (by omega)), (show decide (h.field = []) = true from decide_eq_true h27p)]; rfl), hM32.sub sN⟩
    ·
     have hM33 := hM4.sub (sD sR)
     exact xr 5 (v := .bool false) Tryz.func54 hR ⟨ret_bool (by rw [node_join (by omega), (show decide (h.field = []) = false from decide_eq_false h27p), Bool.and_false]; rfl), hM33.sub sN⟩
   ·
    have hM34 := hM4.sub (sD sR)
    exact xr 10 (v := .bool false) Tryz.func54 hR ⟨ret_bool (by rw [node_join (by omega), (show decide (2 ≤ q.l.length) = false from decide_eq_false (by omega))]; rfl), hM34.sub sN⟩
  ·
   refine xv 5 (c_load pE3 (hM4.rd 0 rfl) (cel_obj b1 0) rfl) ?_
   refine xc 2 (h.op = 9) (fun h36p => ?_) (fun h36p => ?_)
   ·
    refine xfc 5 36 ((((List.length L) : Nat) : Int) = 1) (fun h37p => ?_) (fun h37p => ?_)
    ·
     refine xv 1 (c_load pE9 (hM4.rd 0 rfl) (cel_obj b1 1) rfl) ?_
     refine xq 0 (h.field) ([]) ?_
     refine xfc 2 41 (h.field = []) (fun h40p => ?_) (fun h40p => ?_)
     ·
      refine xv 0 (c_loads (ys := [.int .i64 (h.op), sS (h.field), sS (h.text), .int .i64 (h.edits), .int .i64 (h.exact), .int .u64 (h.lo), .int .u64 (h.hi), v]) aE25 (hM4.rd 0 rfl) (cel_obj b1 0) rfl (lq rfl)) ?_
      have hM42 := hM4.sub (sD sR)
      refine xk 0 (noth_c (w := w2) h v false false false) (fun w43 m44 => ?_)
      have hM45 : Mem [] w w43 [] := Mem.join (R := []) hM42 m44
      exact xr 3 (v := .bool (nothP h false false false)) Tryz.func54 hR ⟨ret_bool (by rw [node_not (by omega), (show decide (q.l.length = 1) = true from decide_eq_true (by omega)), (show decide (h.field = []) = true from decide_eq_true h40p)]; rfl), hM45.sub sN⟩
     ·
      have hM46 := hM4.sub (sD sR)
      exact xr 5 (v := .bool false) Tryz.func54 hR ⟨ret_bool (by rw [node_not (by omega), (show decide (h.field = []) = false from decide_eq_false h40p), Bool.and_false]; rfl), hM46.sub sN⟩
    ·
     have hM47 := hM4.sub (sD sR)
     exact xr 10 (v := .bool false) Tryz.func54 hR ⟨ret_bool (by rw [node_not (by omega), (show decide (q.l.length = 1) = false from decide_eq_false (by omega))]; rfl), hM47.sub sN⟩
   ·
    refine xv 5 (c_load pE3 (hM4.rd 0 rfl) (cel_obj b1 0) rfl) ?_
    refine xc 2 (h.op = 10) (fun h49p => ?_) (fun h49p => ?_)
    ·
     refine xfc 5 50 ((((List.length L) : Nat) : Int) = 0) (fun h50p => ?_) (fun h50p => ?_)
     ·
      refine xv 1 (c_load pE9 (hM4.rd 0 rfl) (cel_obj b1 1) rfl) ?_
      refine xq 0 (h.field) ([]) ?_
      refine xfc 2 55 (h.field = []) (fun h53p => ?_) (fun h53p => ?_)
      ·
       refine xv 0 (c_loads (ys := [.int .i64 (h.op), sS (h.field), sS (h.text), .int .i64 (h.edits), .int .i64 (h.exact), .int .u64 (h.lo), .int .u64 (h.hi), v]) aE25 (hM4.rd 0 rfl) (cel_obj b1 0) rfl (lq rfl)) ?_
       have hM55 := hM4.sub (sD sR)
       refine xk 0 (noth_c (w := w2) h v false false false) (fun w56 m57 => ?_)
       have hM58 : Mem [] w w56 [] := Mem.join (R := []) hM55 m57
       exact xr 3 (v := .bool (nothP h false false false)) Tryz.func54 hR ⟨ret_bool (by rw [node_all (by omega), (show decide (q.l.length = 0) = true from decide_eq_true (by omega)), (show decide (h.field = []) = true from decide_eq_true h53p)]; rfl), hM58.sub sN⟩
      ·
       have hM59 := hM4.sub (sD sR)
       exact xr 5 (v := .bool false) Tryz.func54 hR ⟨ret_bool (by rw [node_all (by omega), (show decide (h.field = []) = false from decide_eq_false h53p), Bool.and_false]; rfl), hM59.sub sN⟩
     ·
      have hM60 := hM4.sub (sD sR)
      exact xr 10 (v := .bool false) Tryz.func54 hR ⟨ret_bool (by rw [node_all (by omega), (show decide (q.l.length = 0) = false from decide_eq_false (by omega))]; rfl), hM60.sub sN⟩
    ·
     refine xfc 7 61 ((((List.length L) : Nat) : Int) > 0) (fun h61p => ?_) (fun h61p => ?_)
     ·
      have hM63 := hM4.sub (sD sR)
      exact xr 11 (v := .bool false) Tryz.func54 hR ⟨ret_bool (node_out (by omega) (.inl (by omega))).symm, hM63.sub sN⟩
     ·
      refine xv 1 (c_load pE9 (hM4.rd 0 rfl) (cel_obj b1 1) rfl) ?_
      refine xka 0 (rname_c (h.field) (by rw [he]; omega) w2) ?_
      refine xb 3 (!(nameP (h.field))) (fun h64 => ?_) (fun h64 => ?_)
      ·
       have hM65 := hM4.sub (sD sR)
       exact xr 4 (v := .bool false) Tryz.func54 hR ⟨ret_bool (node_out (by omega) (.inr (by have z := h64; simpa using z))).symm, hM65.sub sN⟩
      ·
       refine xv 5 (c_load pE3 (hM4.rd 0 rfl) (cel_obj b1 0) rfl) ?_
       refine xc 7 (h.op = 1) (fun h67p => ?_) (fun h67p => ?_)
       ·
        refine xv 3 (c_load pE9 (hM4.rd 0 rfl) (cel_obj b1 2) rfl) ?_
        refine xk 0 (rterm_c (h.text) w2) (fun w69 m70 => ?_)
        have hM71 := Mem.join hM4 m70
        refine xfc 11 79 ((termE (h.text)) = 0) (fun h72p => ?_) (fun h72p => ?_)
        ·
         refine xv 0 (c_loads (ys := [.int .i64 (h.op), sS (h.field), sS (h.text), .int .i64 (h.edits), .int .i64 (h.exact), .int .u64 (h.lo), .int .u64 (h.hi), v]) aE25 (hM71.rd 0 rfl) (cel_obj b1 0) rfl (lq rfl)) ?_
         have hM74 := hM71.sub (sD sR)
         refine xk 0 (noth_c (w := w69) h v true false false) (fun w75 m76 => ?_)
         have hM77 : Mem [] w w75 [] := Mem.join (R := []) hM74 m76
         exact xr 3 (v := .bool (nothP h true false false)) Tryz.func54 hR ⟨ret_bool (by rw [node_1 (by omega) (by omega) (by have z := h64; simpa using z), (show decide (termE h.text = 0) = true from decide_eq_true (by omega))]; rfl), hM77.sub sN⟩
        ·
         have hM78 := hM71.sub (sD sR)
         exact xr 5 (v := .bool false) Tryz.func54 hR ⟨ret_bool (by rw [node_1 (by omega) (by omega) (by have z := h64; simpa using z), (show decide (termE h.text = 0) = false from decide_eq_false (by omega))]; rfl), hM78.sub sN⟩
       ·
        refine xc 5 (h.op = 2) (fun h79p => ?_) (fun h79p => ?_)
        ·
         refine xv 3 (c_load pE9 (hM4.rd 0 rfl) (cel_obj b1 2) rfl) ?_
         refine xk 0 (letters_c (h.text) ([]) (by rw [he]; omega) (by decide) w2) (fun w81 m82 => ?_)
         have hM83 : Mem [] w w81 [⟨25, 8, (obj b1), 1, [.int .i64 (h.op), sS (h.field), sS (h.text), .int .i64 (h.edits), .int .i64 (h.exact), .int .u64 (h.lo), .int .u64 (h.hi), v]⟩] := Mem.join (R := []) hM4 m82
         refine xfc 2 89 ((((letN (h.text) ([])) : Nat) : Int) > 0) (fun h84p => ?_) (fun h84p => ?_)
         ·
          refine xv 0 (c_loads (ys := [.int .i64 (h.op), sS (h.field), sS (h.text), .int .i64 (h.edits), .int .i64 (h.exact), .int .u64 (h.lo), .int .u64 (h.hi), v]) aE25 (hM83.rd 0 rfl) (cel_obj b1 0) rfl (lq rfl)) ?_
          have hM86 := hM83.sub (sD sR)
          refine xk 0 (noth_c (w := w81) h v true false false) (fun w87 m88 => ?_)
          have hM89 : Mem [] w w87 [] := Mem.join (R := []) hM86 m88
          exact xr 3 (v := .bool (nothP h true false false)) Tryz.func54 hR ⟨ret_bool (by rw [node_2 (by omega) (by omega) (by have z := h64; simpa using z), (show decide (0 < letN h.text []) = true from decide_eq_true (by omega))]; rfl), hM89.sub sN⟩
         ·
          have hM90 := hM83.sub (sD sR)
          exact xr 5 (v := .bool false) Tryz.func54 hR ⟨ret_bool (by rw [node_2 (by omega) (by omega) (by have z := h64; simpa using z), (show decide (0 < letN h.text []) = false from decide_eq_false (by omega))]; rfl), hM90.sub sN⟩
        ·
         refine xc 5 (h.op = 3) (fun h91p => ?_) (fun h91p => ?_)
         ·
          refine xv 3 (c_load pE9 (hM4.rd 0 rfl) (cel_obj b1 2) rfl) ?_
          refine xk 0 (letters_c (h.text) ([42, 63] : List UInt8) (by rw [he]; omega) (by decide) w2) (fun w93 m94 => ?_)
          have hM95 : Mem [] w w93 [⟨25, 8, (obj b1), 1, [.int .i64 (h.op), sS (h.field), sS (h.text), .int .i64 (h.edits), .int .i64 (h.exact), .int .u64 (h.lo), .int .u64 (h.hi), v]⟩] := Mem.join (R := []) hM4 m94
          refine xfc 2 99 ((((letN (h.text) ([42, 63] : List UInt8)) : Nat) : Int) > 0) (fun h96p => ?_) (fun h96p => ?_)
          ·
           refine xv 0 (c_loads (ys := [.int .i64 (h.op), sS (h.field), sS (h.text), .int .i64 (h.edits), .int .i64 (h.exact), .int .u64 (h.lo), .int .u64 (h.hi), v]) aE25 (hM95.rd 0 rfl) (cel_obj b1 0) rfl (lq rfl)) ?_
           have hM98 := hM95.sub (sD sR)
           refine xk 0 (noth_c (w := w93) h v true false false) (fun w99 m100 => ?_)
           have hM101 : Mem [] w w99 [] := Mem.join (R := []) hM98 m100
           exact xr 3 (v := .bool (nothP h true false false)) Tryz.func54 hR ⟨ret_bool (by rw [node_3 (by omega) (by omega) (by have z := h64; simpa using z), (show decide (0 < letN h.text [42, 63]) = true from decide_eq_true (by omega))]; rfl), hM101.sub sN⟩
          ·
           have hM102 := hM95.sub (sD sR)
           exact xr 5 (v := .bool false) Tryz.func54 hR ⟨ret_bool (by rw [node_3 (by omega) (by omega) (by have z := h64; simpa using z), (show decide (0 < letN h.text [42, 63]) = false from decide_eq_false (by omega))]; rfl), hM102.sub sN⟩
         ·
          refine xc 5 (h.op = 4) (fun h103p => ?_) (fun h103p => ?_)
          ·
           refine xv 3 (c_load pE9 (hM4.rd 0 rfl) (cel_obj b1 2) rfl) ?_
           refine xk 0 (letters_c (h.text) ([]) (by rw [he]; omega) (by decide) w2) (fun w105 m106 => ?_)
           have hM107 : Mem [] w w105 [⟨25, 8, (obj b1), 1, [.int .i64 (h.op), sS (h.field), sS (h.text), .int .i64 (h.edits), .int .i64 (h.exact), .int .u64 (h.lo), .int .u64 (h.hi), v]⟩] := Mem.join (R := []) hM4 m106
           refine xfc 7 110 ((((letN (h.text) ([])) : Nat) : Int) > 0) (fun h108p => ?_) (fun h108p => ?_)
           ·
            refine xv 1 (c_load pE3 (hM107.rd 0 rfl) (cel_obj b1 3) rfl) ?_
            refine xfc 3 115 (h.edits ≥ 0) (fun h110p => ?_) (fun h110p => ?_)
            ·
             refine xv 1 (c_load pE3 (hM107.rd 0 rfl) (cel_obj b1 3) rfl) ?_
             refine xfc 3 120 (h.edits ≤ 2) (fun h112p => ?_) (fun h112p => ?_)
             ·
              refine xv 1 (c_load pE3 (hM107.rd 0 rfl) (cel_obj b1 4) rfl) ?_
              refine xfc 3 125 (h.exact ≥ 0) (fun h114p => ?_) (fun h114p => ?_)
              ·
               refine xv 1 (c_load pE3 (hM107.rd 0 rfl) (cel_obj b1 4) rfl) ?_
               refine xfc 4 131 (h.exact ≤ (((letN (h.text) ([])) : Nat) : Int)) (fun h116p => ?_) (fun h116p => ?_)
               ·
                refine xv 0 (c_loads (ys := [.int .i64 (h.op), sS (h.field), sS (h.text), .int .i64 (h.edits), .int .i64 (h.exact), .int .u64 (h.lo), .int .u64 (h.hi), v]) aE25 (hM107.rd 0 rfl) (cel_obj b1 0) rfl (lq rfl)) ?_
                have hM118 := hM107.sub (sD sR)
                refine xk 0 (noth_c (w := w105) h v true true false) (fun w119 m120 => ?_)
                have hM121 : Mem [] w w119 [] := Mem.join (R := []) hM118 m120
                exact xr 3 (v := .bool (nothP h true true false)) Tryz.func54 hR ⟨ret_bool (by rw [node_4 (by omega) (by omega) (by have z := h64; simpa using z), (show decide (0 < letN h.text [] ∧ 0 ≤ h.edits ∧ h.edits ≤ 2 ∧ 0 ≤ h.exact ∧ h.exact ≤ (letN h.text [] : Int)) = true from decide_eq_true (by omega))]; rfl), hM121.sub sN⟩
               ·
                have hM122 := hM107.sub (sD sR)
                exact xr 5 (v := .bool false) Tryz.func54 hR ⟨ret_bool (by rw [node_4 (by omega) (by omega) (by have z := h64; simpa using z), (show decide (0 < letN h.text [] ∧ 0 ≤ h.edits ∧ h.edits ≤ 2 ∧ 0 ≤ h.exact ∧ h.exact ≤ (letN h.text [] : Int)) = false from decide_eq_false (by omega))]; rfl), hM122.sub sN⟩
              ·
               have hM123 := hM107.sub (sD sR)
               exact xr 11 (v := .bool false) Tryz.func54 hR ⟨ret_bool (by rw [node_4 (by omega) (by omega) (by have z := h64; simpa using z), (show decide (0 < letN h.text [] ∧ 0 ≤ h.edits ∧ h.edits ≤ 2 ∧ 0 ≤ h.exact ∧ h.exact ≤ (letN h.text [] : Int)) = false from decide_eq_false (by omega))]; rfl), hM123.sub sN⟩
             ·
              have hM124 := hM107.sub (sD sR)
              exact xr 16 (v := .bool false) Tryz.func54 hR ⟨ret_bool (by rw [node_4 (by omega) (by omega) (by have z := h64; simpa using z), (show decide (0 < letN h.text [] ∧ 0 ≤ h.edits ∧ h.edits ≤ 2 ∧ 0 ≤ h.exact ∧ h.exact ≤ (letN h.text [] : Int)) = false from decide_eq_false (by omega))]; rfl), hM124.sub sN⟩
            ·
             have hM125 := hM107.sub (sD sR)
             exact xr 21 (v := .bool false) Tryz.func54 hR ⟨ret_bool (by rw [node_4 (by omega) (by omega) (by have z := h64; simpa using z), (show decide (0 < letN h.text [] ∧ 0 ≤ h.edits ∧ h.edits ≤ 2 ∧ 0 ≤ h.exact ∧ h.exact ≤ (letN h.text [] : Int)) = false from decide_eq_false (by omega))]; rfl), hM125.sub sN⟩
           ·
            have hM126 := hM107.sub (sD sR)
            exact xr 26 (v := .bool false) Tryz.func54 hR ⟨ret_bool (by rw [node_4 (by omega) (by omega) (by have z := h64; simpa using z), (show decide (0 < letN h.text [] ∧ 0 ≤ h.edits ∧ h.edits ≤ 2 ∧ 0 ≤ h.exact ∧ h.exact ≤ (letN h.text [] : Int)) = false from decide_eq_false (by omega))]; rfl), hM126.sub sN⟩
          ·
           refine xc 5 (h.op = 5) (fun h127p => ?_) (fun h127p => ?_)
           ·
            refine xv 3 (c_load pE9 (hM4.rd 0 rfl) (cel_obj b1 2) rfl) ?_
            refine xkv 0 (rtokens_c (h.text) w2) (fun v132 w129 m130 => ?_)
            have hM131 := Mem.join hM4 m130
            refine xfc 11 145 ((tokE (h.text)) = 0) (fun h133p => ?_) (fun h133p => ?_)
            ·
             refine xv 1 (f_slen sT79 (hM131.rd 0 rfl) 3 w129) ?_
             refine xfc 3 150 ((((List.length (tokL (h.text))) : Nat) : Int) ≥ 1) (fun h135p => ?_) (fun h135p => ?_)
             ·
              refine xv 1 (f_slen sT79 (hM131.rd 0 rfl) 3 w129) ?_
              have hM137 := hM131.sub (sD (sK sR))
              refine xfc 3 155 ((((List.length (tokL (h.text))) : Nat) : Int) ≤ 16) (fun h138p => ?_) (fun h138p => ?_)
              ·
               refine xv 0 (c_loads (ys := [.int .i64 (h.op), sS (h.field), sS (h.text), .int .i64 (h.edits), .int .i64 (h.exact), .int .u64 (h.lo), .int .u64 (h.hi), v]) aE25 (hM137.rd 0 rfl) (cel_obj b1 0) rfl (lq rfl)) ?_
               have hM140 := hM137.sub (sD sR)
               refine xk 0 (noth_c (w := w129) h v true false false) (fun w141 m142 => ?_)
               have hM143 : Mem [] w w141 [] := Mem.join (R := []) hM140 m142
               exact xr 3 (v := .bool (nothP h true false false)) Tryz.func54 hR ⟨ret_bool (by rw [node_5 (by omega) (by omega) (by have z := h64; simpa using z), (show decide (tokE h.text = 0 ∧ 1 ≤ (tokL h.text).length ∧ (tokL h.text).length ≤ 16) = true from decide_eq_true (by omega))]; rfl), hM143.sub sN⟩
              ·
               have hM144 := hM137.sub (sD sR)
               exact xr 5 (v := .bool false) Tryz.func54 hR ⟨ret_bool (by rw [node_5 (by omega) (by omega) (by have z := h64; simpa using z), (show decide (tokE h.text = 0 ∧ 1 ≤ (tokL h.text).length ∧ (tokL h.text).length ≤ 16) = false from decide_eq_false (by omega))]; rfl), hM144.sub sN⟩
             ·
              have hM145 := hM131.sub (sD (sD sR))
              exact xr 10 (v := .bool false) Tryz.func54 hR ⟨ret_bool (by rw [node_5 (by omega) (by omega) (by have z := h64; simpa using z), (show decide (tokE h.text = 0 ∧ 1 ≤ (tokL h.text).length ∧ (tokL h.text).length ≤ 16) = false from decide_eq_false (by omega))]; rfl), hM145.sub sN⟩
            ·
             have hM146 := hM131.sub (sD (sD sR))
             exact xr 15 (v := .bool false) Tryz.func54 hR ⟨ret_bool (by rw [node_5 (by omega) (by omega) (by have z := h64; simpa using z), (show decide (tokE h.text = 0 ∧ 1 ≤ (tokL h.text).length ∧ (tokL h.text).length ≤ 16) = false from decide_eq_false (by omega))]; rfl), hM146.sub sN⟩
           ·
            refine xc 5 (h.op = 6) (fun h147p => ?_) (fun h147p => ?_)
            ·
             refine xv 2 (c_loads (ys := [.int .i64 (h.op), sS (h.field), sS (h.text), .int .i64 (h.edits), .int .i64 (h.exact), .int .u64 (h.lo), .int .u64 (h.hi), v]) aE25 (hM4.rd 0 rfl) (cel_obj b1 0) rfl (lq rfl)) ?_
             have hM149 := hM4.sub (sD sR)
             refine xk 0 (noth_c (w := w2) h v false false true) (fun w150 m151 => ?_)
             have hM152 : Mem [] w w150 [] := Mem.join (R := []) hM149 m151
             exact xr 2 (v := .bool (nothP h false false true)) Tryz.func54 hR ⟨ret_bool (node_range (by omega) (by have z := h64; simpa using z) (by omega)).symm, hM152.sub sN⟩
            ·
             have hM153 := hM4.sub (sD sR)
             exact xr 6 (v := .bool false) Tryz.func54 hR ⟨ret_bool (node_else (by omega)).symm, hM153.sub sN⟩


end Go.Proofs.YthpodbngljfdmaaGreatDoor

namespace Go.Proofs.YthpodbngljfdmaaGreatDoor
open Go Go.Gw Go.UtfP Go.TokP Go.QryP Go.RowKit
set_option linter.unusedVariables false
set_option linter.unusedSimpArgs false
set_option maxRecDepth 20000


set_option maxHeartbeats 1000000 in
theorem rright_L (N : Nat) (ih : ∀ (q : Q), bulkQ q < N → ∀ {w : World} (h : Hd) (he : h = q.h) (v : Value) (hq : RdQ w q v) (hb : bulkQ q ≤ 1048576) , Calls Tryz.prog 36 #[.agg #[.int .i64 (h.op), sS (h.field), sS (h.text), .int .i64 (h.edits), .int .i64 (h.exact), .int .u64 (h.lo), .int .u64 (h.hi), v]] w (fun e w' => e = .returned (.bool (rightQ q)) ∧ Mem [] w w' [])) {w0 : World} (q : Q) (h : Hd) (he : h = q.h) (v : Value) (hq : RdQ w0 q v) (hb : bulkQ q ≤ 1048576) (L : List QN) (hr : Rd w0 8 v L.length (recs qnC L)) (hl : L.length = q.l.length) (hh : ∀ j, j < q.l.length → (L.getD j qz).h = (q.l.getD j q0).h) (hs : ∀ j, j < q.l.length → RdQ w0 (q.l.getD j q0) (L.getD j qz).parts) (b : Nat) (hN : bulkQ q = N) (R : Ending → World → Prop) (hR : R = (fun e w' => e = .returned (.bool (rightQ q)) ∧ Mem [] w0 w' [])) : ∀ (M_ : Nat) (i : Nat) (w : World) (hi : i ≤ L.length) (hRt : rightL (q.l.take i) = true) (hM : Mem [] w0 w [⟨25, 8, (obj b), 1, [.int .i64 (h.op), sS (h.field), sS (h.text), .int .i64 (h.edits), .int .i64 (h.exact), .int .u64 (h.lo), .int .u64 (h.hi), v]⟩]) (hN : L.length - i < M_), GoS Tryz.prog 36 R 20 [iC Tryz.f36 [1,0,1,0,0], iL Tryz.f36 [1,0,1,0,0], .inBlock 0, iC Tryz.f36 [1,1]] [(1, pq b), (3, iN i)] w := by
 intro M_
 induction M_ with
 | zero => intro i w hi hRt hM hN; exact absurd hN (Nat.not_lt_zero _)
 | succ M_ ih_ =>
  intro i w hi hRt hM hN
  have hbl : bulkL q.l + q.h.field.length + q.h.text.length + 1 = bulkQ q := by cases q; rw [bulkQ_mk]; rfl
  have hln := bulk_len q.l
  refine xs ?_
  refine xv 5 (c_load pE23 (hM.rd 0 rfl) (cel_obj b 7) rfl) ?_
  refine xv 0 (f_slen sT23 (hr.kept0 hM.kept) 3 w) ?_
  refine xc 2 (((i : Nat) : Int) < (((List.length L) : Nat) : Int)) (fun h3p => ?_) (fun h3p => ?_)
  ·
   refine xv 6 (c_load pE23 (hM.rd 0 rfl) (cel_obj b 7) rfl) ?_
   refine xat 1 sT23 (hr.kept0 hM.kept) ((i : Nat) : Int) i (fun p9 hp10 => ?_)
   refine xv 0 (r_loads (f := qnC) (l := L) aE25 (hr.kept0 hM.kept) qnC_len hp10 (by first | omega | (dsimp only; omega)) qz) ?_
   have hkb18 := bulk_kid (l := q.l) (i := i) (by omega)
   have hks19 := size_le (List.getD q.l i q0)
   have hbs20 := bulk_step (l := q.l) (i := i) (by omega)
   refine xk 0 (ih (List.getD q.l i q0) (by omega) ((List.getD L i qz).h) (hh i (by omega)) ((List.getD L i qz).parts) ((hs i (by omega)).kept hM.kept) (by omega)) (fun w15 m16 => ?_)
   have hM17 : Mem [] w0 w15 [⟨25, 8, (obj b), 1, [.int .i64 (h.op), sS (h.field), sS (h.text), .int .i64 (h.edits), .int .i64 (h.exact), .int .u64 (h.lo), .int .u64 (h.hi), v]⟩] := Mem.join (R := []) hM m16
   refine xb 2 (!(rightQ (List.getD q.l i q0))) (fun h21 => ?_) (fun h21 => ?_)
   ·
    have hM22 := hM17.sub (sD sR)
    exact xr 4 (v := .bool false) Tryz.func36 hR ⟨ret_bool (right_not (right_bad (show i < q.l.length by omega) (by have z := h21; simpa using z))).symm, hM22.sub sN⟩
   ·
    refine xa 4 ((i : Nat) : Int) 1 (((i + 1) : Nat) : Int) ?_
    exact xl 3 (ih_ (i + 1) _ (by omega) (by rw [right_step (show i < q.l.length by omega), hRt, Bool.true_and]; have z := h21; simpa using z) (hM17.sub (sK sN)) (by omega))
  ·
   refine xv 3 (c_loads (ys := [.int .i64 (h.op), sS (h.field), sS (h.text), .int .i64 (h.edits), .int .i64 (h.exact), .int .u64 (h.lo), .int .u64 (h.hi), v]) aE25 (hM.rd 0 rfl) (cel_obj b 0) rfl (lq rfl)) ?_
   have hM5 := hM.sub (sD sR)
   refine xk 0 (rone_c q h he v (hq.kept hM5.kept) (by omega)) (fun w6 m7 => ?_)
   have hM8 : Mem [] w0 w6 [] := Mem.join (R := []) hM5 m7
   refine xr0 2 (v := .bool (nodeP h q.l.length)) Tryz.func36 ?_
   rw [hR]
   have hall : rightL q.l = true := by rw [← tk_all (l := q.l) (i := i) (by omega)]; exact hRt
   exact ⟨ret_bool (by rw [right_of hall, ← he]), hM8.sub sN⟩

set_option maxHeartbeats 400000 in
theorem rright_s (N : Nat) (ih : ∀ (q : Q), bulkQ q < N → ∀ {w : World} (h : Hd) (he : h = q.h) (v : Value) (hq : RdQ w q v) (hb : bulkQ q ≤ 1048576) , Calls Tryz.prog 36 #[.agg #[.int .i64 (h.op), sS (h.field), sS (h.text), .int .i64 (h.edits), .int .i64 (h.exact), .int .u64 (h.lo), .int .u64 (h.hi), v]] w (fun e w' => e = .returned (.bool (rightQ q)) ∧ Mem [] w w' [])) {w : World} (q : Q) (h : Hd) (he : h = q.h) (v : Value) (hq : RdQ w q v) (hb : bulkQ q ≤ 1048576) (hN : bulkQ q = N) :
  Calls Tryz.prog 36 #[.agg #[.int .i64 (h.op), sS (h.field), sS (h.text), .int .i64 (h.edits), .int .i64 (h.exact), .int .u64 (h.lo), .int .u64 (h.hi), v]] w (fun e w' => e = .returned (.bool (rightQ q)) ∧ Mem [] w w' []) := by
 obtain ⟨L, hr, hl, hh, hs⟩ := hq.inv
 have hbl : bulkL q.l + q.h.field.length + q.h.text.length + 1 = bulkQ q := by cases q; rw [bulkQ_mk]; rfl
 have hln := bulk_len q.l
 refine xe 20 Tryz.func36 (fun R hR => ?_)
 have hM0 := Mem.start w
 refine xx 2 (m_box (T := 25) (k := 8) (u := .agg #[.int .i64 (h.op), sS (h.field), sS (h.text), .int .i64 (h.edits), .int .i64 (h.exact), .int .u64 (h.lo), .int .u64 (h.hi), v]) rfl rfl hM0) (fun b1 w2 hM4 => ?_)
 exact xl 9 (rright_L N ih q h he v hq hb L hr hl hh hs b1 hN R hR (L.length + 1) 0 w2 (Nat.zero_le _) (by rw [List.take_zero, rightL]) (hM4.sub (sK sN)) (by omega))

theorem rright_c_n : ∀ (N : Nat), ∀ (q : Q), bulkQ q ≤ N → ∀ {w : World} (h : Hd) (he : h = q.h) (v : Value) (hq : RdQ w q v) (hb : bulkQ q ≤ 1048576) , Calls Tryz.prog 36 #[.agg #[.int .i64 (h.op), sS (h.field), sS (h.text), .int .i64 (h.edits), .int .i64 (h.exact), .int .u64 (h.lo), .int .u64 (h.hi), v]] w (fun e w' => e = .returned (.bool (rightQ q)) ∧ Mem [] w w' []) := by
 intro N
 induction N with
 | zero => intro q hn; have := bulk_pos q; omega
 | succ N ihn => intro q hn w h he v hq hb; exact rright_s (bulkQ q) (fun c hc => ihn c (by omega)) q h he v hq hb rfl

theorem rright_c {w : World} (q : Q) (h : Hd) (he : h = q.h) (v : Value) (hq : RdQ w q v) (hb : bulkQ q ≤ 1048576)  :
  Calls Tryz.prog 36 #[.agg #[.int .i64 (h.op), sS (h.field), sS (h.text), .int .i64 (h.edits), .int .i64 (h.exact), .int .u64 (h.lo), .int .u64 (h.hi), v]] w (fun e w' => e = .returned (.bool (rightQ q)) ∧ Mem [] w w' []) := rright_c_n (bulkQ q) q (Nat.le_refl _) h he v hq hb


end Go.Proofs.YthpodbngljfdmaaGreatDoor

namespace Go.Proofs.YthpodbngljfdmaaGreatDoor
open Go Go.Gw Go.UtfP Go.TokP Go.QryP Go.RowKit
set_option linter.unusedVariables false
set_option linter.unusedSimpArgs false
set_option maxRecDepth 20000


set_option maxHeartbeats 1000000 in
theorem check_c {w : World} (q : Q) (h : Hd) (he : h = q.h) (v : Value) (hq : RdQ w q v) (hb : bulkQ q ≤ 1048576) :
  Calls Tryz.prog 15 #[.agg #[.int .i64 (h.op), sS (h.field), sS (h.text), .int .i64 (h.edits), .int .i64 (h.exact), .int .u64 (h.lo), .int .u64 (h.hi), v]] w (fun e w' => e = .returned (.int .i64 (checkQ q)) ∧ Mem [] w w' []) := by
 obtain ⟨L, hr, hl, hh, hs⟩ := hq.inv
 have hbl : bulkL q.l + q.h.field.length + q.h.text.length + 1 = bulkQ q := by cases q; rw [bulkQ_mk]; rfl
 have hln := bulk_len q.l
 refine xe 19 Tryz.func15 (fun R hR => ?_)
 have hM0 := Mem.start w
 refine xx 2 (m_box (T := 25) (k := 8) (u := .agg #[.int .i64 (h.op), sS (h.field), sS (h.text), .int .i64 (h.edits), .int .i64 (h.exact), .int .u64 (h.lo), .int .u64 (h.hi), v]) rfl rfl hM0) (fun b1 w2 hM4 => ?_)
 refine xv 5 (c_loads (ys := [.int .i64 (h.op), sS (h.field), sS (h.text), .int .i64 (h.edits), .int .i64 (h.exact), .int .u64 (h.lo), .int .u64 (h.hi), v]) aE25 (hM4.rd 0 rfl) (cel_obj b1 0) rfl (lq rfl)) ?_
 refine xk 0 (size_c q h he v (hq.kept hM4.kept) (by omega)) (fun w8 m9 => ?_)
 have hM10 : Mem [] w w8 [⟨25, 8, (obj b1), 1, [.int .i64 (h.op), sS (h.field), sS (h.text), .int .i64 (h.edits), .int .i64 (h.exact), .int .u64 (h.lo), .int .u64 (h.hi), v]⟩] := Mem.join (R := []) hM4 m9
 refine xfc 11 12 ((((sizeQ q) : Nat) : Int) > 64) (fun h11p => ?_) (fun h11p => ?_)
 ·
  have hM12 := hM10.sub (sD sR)
  exact xr 9 (v := .int .i64 4) Tryz.func15 hR ⟨ret_int (check_big (by omega)).symm, hM12.sub sN⟩
 ·
  refine xc 4 ((((deepQ q) : Nat) : Int) > 8) (fun h13p => ?_) (fun h13p => ?_)
  ·
   have hM14 := hM10.sub (sD sR)
   exact xr 4 (v := .int .i64 4) Tryz.func15 hR ⟨ret_int (check_big (by omega)).symm, hM14.sub sN⟩
  ·
   refine xv 4 (c_loads (ys := [.int .i64 (h.op), sS (h.field), sS (h.text), .int .i64 (h.edits), .int .i64 (h.exact), .int .u64 (h.lo), .int .u64 (h.hi), v]) aE25 (hM10.rd 0 rfl) (cel_obj b1 0) rfl (lq rfl)) ?_
   have hM16 := hM10.sub (sD sR)
   refine xk 0 (right_c q h he v (hq.kept hM16.kept) (by omega)) (fun w17 m18 => ?_)
   have hM19 : Mem [] w w17 [] := Mem.join (R := []) hM16 m18
   refine xb 2 (!(rightQ q)) (fun h20 => ?_) (fun h20 => ?_)
   ·
    exact xr 4 (v := .int .i64 20) Tryz.func15 hR ⟨ret_int (check_bad (by omega) (by have z := h20; simpa using z)).symm, hM19.sub sN⟩
   ·
    exact xr 5 (v := .int .i64 0) Tryz.func15 hR ⟨ret_int (check_good (by omega) (by have z := h20; simpa using z)).symm, hM19.sub sN⟩

set_option maxHeartbeats 1000000 in
theorem rcheck_c {w : World} (q : Q) (h : Hd) (he : h = q.h) (v : Value) (hq : RdQ w q v) (hb : bulkQ q ≤ 1048576) :
  Calls Tryz.prog 18 #[.agg #[.int .i64 (h.op), sS (h.field), sS (h.text), .int .i64 (h.edits), .int .i64 (h.exact), .int .u64 (h.lo), .int .u64 (h.hi), v]] w (fun e w' => e = .returned (.int .i64 (checkQ q)) ∧ Mem [] w w' []) := by
 obtain ⟨L, hr, hl, hh, hs⟩ := hq.inv
 have hbl : bulkL q.l + q.h.field.length + q.h.text.length + 1 = bulkQ q := by cases q; rw [bulkQ_mk]; rfl
 have hln := bulk_len q.l
 refine xe 14 Tryz.func18 (fun R hR => ?_)
 have hM0 := Mem.start w
 refine xx 2 (m_box (T := 25) (k := 8) (u := .agg #[.int .i64 (h.op), sS (h.field), sS (h.text), .int .i64 (h.edits), .int .i64 (h.exact), .int .u64 (h.lo), .int .u64 (h.hi), v]) rfl rfl hM0) (fun b1 w2 hM4 => ?_)
 refine xv 5 (c_loads (ys := [.int .i64 (h.op), sS (h.field), sS (h.text), .int .i64 (h.edits), .int .i64 (h.exact), .int .u64 (h.lo), .int .u64 (h.hi), v]) aE25 (hM4.rd 0 rfl) (cel_obj b1 0) rfl (lq rfl)) ?_
 refine xk 0 (parts_c q h he v (hq.kept hM4.kept) (by omega)) (fun w8 m9 => ?_)
 have hM10 : Mem [] w w8 [⟨25, 8, (obj b1), 1, [.int .i64 (h.op), sS (h.field), sS (h.text), .int .i64 (h.edits), .int .i64 (h.exact), .int .u64 (h.lo), .int .u64 (h.hi), v]⟩] := Mem.join (R := []) hM4 m9
 refine xfc 2 6 ((((sizeQ q) : Nat) : Int) > 64) (fun h11p => ?_) (fun h11p => ?_)
 ·
  have hM16 := hM10.sub (sD sR)
  exact xr 10 (v := .int .i64 4) Tryz.func18 hR ⟨ret_int (check_big (by omega)).symm, hM16.sub sN⟩
 ·
  refine xv 0 (c_loads (ys := [.int .i64 (h.op), sS (h.field), sS (h.text), .int .i64 (h.edits), .int .i64 (h.exact), .int .u64 (h.lo), .int .u64 (h.hi), v]) aE25 (hM10.rd 0 rfl) (cel_obj b1 0) rfl (lq rfl)) ?_
  refine xk 0 (deep_c q h he v (hq.kept hM10.kept) (by omega)) (fun w13 m14 => ?_)
  have hM15 : Mem [] w w13 [⟨25, 8, (obj b1), 1, [.int .i64 (h.op), sS (h.field), sS (h.text), .int .i64 (h.edits), .int .i64 (h.exact), .int .u64 (h.lo), .int .u64 (h.hi), v]⟩] := Mem.join (R := []) hM10 m14
  refine xc 3 ((((deepQ q) : Nat) : Int) > 8) (fun h17p => ?_) (fun h17p => ?_)
  ·
   have hM18 := hM15.sub (sD sR)
   exact xr 4 (v := .int .i64 4) Tryz.func18 hR ⟨ret_int (check_big (by omega)).symm, hM18.sub sN⟩
  ·
   refine xv 4 (c_loads (ys := [.int .i64 (h.op), sS (h.field), sS (h.text), .int .i64 (h.edits), .int .i64 (h.exact), .int .u64 (h.lo), .int .u64 (h.hi), v]) aE25 (hM15.rd 0 rfl) (cel_obj b1 0) rfl (lq rfl)) ?_
   have hM20 := hM15.sub (sD sR)
   refine xk 0 (rright_c q h he v (hq.kept hM20.kept) (by omega)) (fun w21 m22 => ?_)
   have hM23 : Mem [] w w21 [] := Mem.join (R := []) hM20 m22
   refine xb 2 (!(rightQ q)) (fun h24 => ?_) (fun h24 => ?_)
   ·
    exact xr 4 (v := .int .i64 20) Tryz.func18 hR ⟨ret_int (check_bad (by omega) (by have z := h24; simpa using z)).symm, hM23.sub sN⟩
   ·
    exact xr 5 (v := .int .i64 0) Tryz.func18 hR ⟨ret_int (check_good (by omega) (by have z := h24; simpa using z)).symm, hM23.sub sN⟩


end Go.Proofs.YthpodbngljfdmaaGreatDoor

namespace Go.SynP
set_option linter.unusedVariables false
open Go Go.Gw Go.UtfP Go.TokP Go.QryP Go.RealP Go.RealQ

/-- behind blanks -/
def blankP (s : List UInt8) : Nat → Nat → Nat
  | 0, i => i
  | n + 1, i => if i < s.length ∧ bl s i = 32 then blankP s n (i + 1) else i
def skipP (s : List UInt8) (i : Nat) : Nat := blankP s (s.length - i) i
def takeP (s : List UInt8) (c : Int) (i : Nat) : Except Nat Nat := if i < s.length ∧ bl s i = c then .ok (i + 1) else .error i
def letterP (c : Int) : Bool := decide (97 ≤ c ∧ c ≤ 122 ∨ 48 ≤ c ∧ c ≤ 57 ∨ c = 95)
/-- behind a name's letters -/
def nameEnd (s : List UInt8) : Nat → Nat → Nat
  | 0, i => i
  | n + 1, i => if letterP (bl s i) then nameEnd s n (i + 1) else i
def namE (s : List UInt8) (i : Nat) : Nat := nameEnd s (s.length - i) i
/-- a text in quotes, behind the first of them: acc, from a place on -/
def quoteL (s : List UInt8) : Nat → Nat → List UInt8 → Except Nat (List UInt8 × Nat)
  | 0, i, acc => .error i
  | n + 1, i, acc =>
    if ¬ i < s.length then .error i
    else if bl s i = 34 then .ok (acc, i + 1)
    else if bl s i = 92 then
      if bl s (i + 1) = 34 ∨ bl s (i + 1) = 92 then quoteL s n (i + 2) (acc ++ [s.getD (i + 1) 0]) else .error (i + 1)
    else quoteL s n (i + 1) (acc ++ [s.getD i 0])
def quotedP (s : List UInt8) (i : Nat) : Except Nat (List UInt8 × Nat) := match takeP s 34 i with
  | .error k => .error k
  | .ok j => quoteL s (s.length - j + 1) j []
def digitP (c : Int) : Bool := decide (48 ≤ c ∧ c ≤ 57)
/-- one or two digits -/
def smallP (s : List UInt8) (i : Nat) : Except Nat (Int × Nat) :=
  if digitP (bl s i) then
    if digitP (bl s (i + 1)) then .ok (10 * (bl s i - 48) + (bl s (i + 1) - 48), i + 2) else .ok (bl s i - 48, i + 1)
  else .error i
def hexDig (c : Int) : Option Nat := if 48 ≤ c ∧ c ≤ 57 then some (c - 48).toNat else if 97 ≤ c ∧ c ≤ 102 then some (c - 87).toNat else none
def hexL : List UInt8 → Nat → Option Nat
  | [], n => some n
  | c :: r, n => match hexDig (c.toNat : Int) with
    | some d => hexL r (16 * n + d)
    | none => none
/-- sixteen digits behind a mark -/
def hexP (t : List UInt8) : Option Nat := if t.length = 17 ∧ bl t 0 = 35 then hexL (t.drop 1) 0 else none
/-- a number up to a byte that ends it -/
def numberP (s : List UInt8) (e : Int) (i : Nat) : Except Nat (Nat × Nat) :=
  let n := Lib.indexByte (s.drop i) e.toNat.toUInt8
  if n < 0 then .error i else
  let t := (s.take (i + n.toNat)).drop i
  match hexP t with
  | some v => .ok (v, i + n.toNat + 1)
  | none => if parseE t = 0 then .ok (parseV t, i + n.toNat + 1) else .error i
def leafP (s : List UInt8) (i : Nat) : Except Nat (Q × Nat) :=
  let j := namE s i
  if j = i ∨ i + 16 < j then .error i else
  match takeP s 58 j with
  | .error k => .error k
  | .ok a =>
    let nm := (s.take j).drop i
    if bl s a = 91 then
      match numberP s 32 (a + 1) with
      | .error k => .error k
      | .ok (lo, b) => match numberP s 93 b with
        | .error k => .error k
        | .ok (hi, c) => .ok (.mk ⟨6, nm, [], 0, 0, (lo : Int), (hi : Int)⟩ [], c)
    else match quotedP s a with
      | .error k => .error k
      | .ok (tx, b) =>
        if bl s b = 42 then .ok (.mk ⟨2, nm, tx, 0, 0, 0, 0⟩ [], b + 1)
        else if bl s b = 63 then .ok (.mk ⟨3, nm, tx, 0, 0, 0, 0⟩ [], b + 1)
        else if bl s b = 43 then .ok (.mk ⟨5, nm, tx, 0, 0, 0, 0⟩ [], b + 1)
        else if bl s b = 126 then
          match smallP s (b + 1) with
          | .error k => .error k
          | .ok (e, c) => match takeP s 44 c with
            | .error k => .error k
            | .ok d => match smallP s d with
              | .error k => .error k
              | .ok (x, g) => .ok (.mk ⟨4, nm, tx, e, x, 0, 0⟩ [], g)
        else .ok (.mk ⟨1, nm, tx, 0, 0, 0, 0⟩ [], b)
def manyQ (op : Int) : List Q → Q
  | [q] => q
  | l => .mk (opH op) l
/-- what is read: a query, the rest of one, a row, the rest of one, a part -/
inductive Tg where
  | E
  | EL (acc : List Q)
  | B
  | BL (acc : List Q)
  | O
def prs (s : List UInt8) : Nat → Tg → Nat → Except Nat (Q × Nat)
  | 0, _, i => .error i
  | n + 1, .E, i => match prs s n .B i with
    | .error k => .error k
    | .ok (q, j) => prs s n (.EL [q]) j
  | n + 1, .EL acc, i => if bl s (skipP s i) = 124 then
      match prs s n .B (skipP s i + 1) with
      | .error k => .error k
      | .ok (q, j) => prs s n (.EL (acc ++ [q])) j
    else .ok (manyQ 8 acc, skipP s i)
  | n + 1, .B, i => match prs s n .O i with
    | .error k => .error k
    | .ok (q, j) => prs s n (.BL [q]) j
  | n + 1, .BL acc, i => if skipP s i = s.length ∨ bl s (skipP s i) = 124 ∨ bl s (skipP s i) = 41 then .ok (manyQ 7 acc, skipP s i)
    else match prs s n .O (skipP s i) with
      | .error k => .error k
      | .ok (q, j) => prs s n (.BL (acc ++ [q])) j
  | n + 1, .O, i => if bl s (skipP s i) = 45 then
      match prs s n .O (skipP s i + 1) with
      | .error k => .error k
      | .ok (q, j) => .ok (.mk (opH 9) [q], j)
    else if bl s (skipP s i) = 40 then
      match prs s n .E (skipP s i + 1) with
      | .error k => .error k
      | .ok (q, j) => match takeP s 41 j with
        | .error k => .error k
        | .ok m => .ok (q, m)
    else if bl s (skipP s i) = 42 then .ok (.mk (opH 10) [], skipP s i + 1)
    else leafP s (skipP s i)
/-- the fuel that suffices -/
def fuel (s : List UInt8) : Nat := 5 * s.length + 8
/-- a query's text: the query, or an error and where it was seen -/
def parseQ (s : List UInt8) : Q × Nat × Int :=
  if 8192 < s.length then (q0, 0, 4) else
  match prs s (fuel s) .E 0 with
  | .error k => (q0, k, 21)
  | .ok (q, j) => if skipP s j < s.length then (q0, skipP s j, 21) else if checkQ q = 0 then (q, 0, 0) else (q0, 0, checkQ q)

/-! ### laws of the small steps -/
variable {s : List UInt8} {i j : Nat}
theorem bl_out (h : ¬ i < s.length) : bl s i = 0 := by
  unfold bl; rw [List.getD_eq_getElem?_getD, List.getElem?_eq_none (by omega)]; rfl
theorem skip_go (h : i < s.length) (h2 : bl s i = 32) : skipP s i = skipP s (i + 1) := by
  unfold skipP
  obtain ⟨m, hm⟩ : ∃ m, s.length - i = m + 1 := ⟨s.length - i - 1, by omega⟩
  rw [hm, show s.length - (i + 1) = m by omega]
  exact if_pos ⟨h, h2⟩
theorem skip_stop (h : ¬ (i < s.length ∧ bl s i = 32)) : skipP s i = i := by
  unfold skipP
  cases hm : s.length - i with
  | zero => rfl
  | succ m => exact if_neg h
theorem blank_le : ∀ (n i : Nat), i ≤ blankP s n i ∧ (i ≤ s.length → blankP s n i ≤ s.length)
  | 0, i => ⟨Nat.le_refl _, id⟩
  | n + 1, i => by
    unfold blankP
    split
    · have := blank_le n (i + 1)
      exact ⟨by omega, fun _ => this.2 (by omega)⟩
    · exact ⟨Nat.le_refl _, id⟩
theorem skip_le (s : List UInt8) (i : Nat) : i ≤ skipP s i ∧ (i ≤ s.length → skipP s i ≤ s.length) := blank_le _ i
theorem letter_in (h : letterP (bl s i) = true) : i < s.length := by
  rcases Nat.lt_or_ge i s.length with g | g
  · exact g
  · rw [bl_out (by omega)] at h; simp [letterP] at h
theorem nam_go (h : letterP (bl s i) = true) : namE s i = namE s (i + 1) := by
  have hi := letter_in h
  unfold namE
  obtain ⟨m, hm⟩ : ∃ m, s.length - i = m + 1 := ⟨s.length - i - 1, by omega⟩
  rw [hm, show s.length - (i + 1) = m by omega]
  show (if letterP (bl s i) then _ else _) = _
  rw [if_pos h]
theorem nam_stop (h : letterP (bl s i) = false) : namE s i = i := by
  unfold namE
  cases hm : s.length - i with
  | zero => rfl
  | succ m => show (if letterP (bl s i) then _ else _) = _; rw [if_neg (by rw [h]; simp)]
theorem namEnd_le : ∀ (n i : Nat), i ≤ nameEnd s n i ∧ (i ≤ s.length → nameEnd s n i ≤ s.length)
  | 0, i => ⟨Nat.le_refl _, id⟩
  | n + 1, i => by
    unfold nameEnd
    split
    · rename_i h
      have := namEnd_le n (i + 1)
      have := letter_in h
      exact ⟨by omega, fun _ => (namEnd_le n (i + 1)).2 (by omega)⟩
    · exact ⟨Nat.le_refl _, id⟩
theorem nam_le (s : List UInt8) (i : Nat) : i ≤ namE s i ∧ (i ≤ s.length → namE s i ≤ s.length) := namEnd_le _ i
theorem letter_iff (c : Int) : letterP c = true ↔ (97 ≤ c ∧ c ≤ 122 ∨ 48 ≤ c ∧ c ≤ 57 ∨ c = 95) := by unfold letterP; exact decide_eq_true_iff
theorem letter_no (c : Int) : letterP c = false ↔ ¬ (97 ≤ c ∧ c ≤ 122 ∨ 48 ≤ c ∧ c ≤ 57 ∨ c = 95) := by unfold letterP; exact decide_eq_false_iff_not
theorem take_ok (h : i < s.length) {c : Int} (h2 : bl s i = c) : takeP s c i = .ok (i + 1) := if_pos ⟨h, h2⟩
theorem take_err {c : Int} (h : ¬ (i < s.length ∧ bl s i = c)) : takeP s c i = .error i := if_neg h
theorem take_inv {c : Int} {a : Nat} (h : takeP s c i = .ok a) : a = i + 1 ∧ i < s.length ∧ bl s i = c := by
  unfold takeP at h
  split at h
  · rename_i g; simp only [Except.ok.injEq] at h; exact ⟨h.symm, g⟩
  · cases h
end Go.SynP
namespace Go.SynP
open Go Go.Gw Go.UtfP Go.TokP Go.QryP Go.RealP Go.RealQ
variable {s : List UInt8} {i j : Nat}
theorem bl_in (h : ¬ bl s i = 0) : i < s.length := by
  rcases Nat.lt_or_ge i s.length with g | g
  · exact g
  · exact absurd (bl_out (by omega)) h
theorem bl_or (s : List UInt8) (i : Nat) : bl s i = 0 ∨ i < s.length := by
  rcases Nat.lt_or_ge i s.length with g | g
  · exact .inr g
  · exact .inl (bl_out (by omega))
theorem small_two (h1 : 48 ≤ bl s i ∧ bl s i ≤ 57) (h2 : 48 ≤ bl s (i + 1) ∧ bl s (i + 1) ≤ 57) : smallP s i = .ok (10 * (bl s i - 48) + (bl s (i + 1) - 48), i + 2) := by
  unfold smallP digitP
  rw [if_pos (decide_eq_true h1), if_pos (decide_eq_true h2)]
theorem small_one (h1 : 48 ≤ bl s i ∧ bl s i ≤ 57) (h2 : ¬ (48 ≤ bl s (i + 1) ∧ bl s (i + 1) ≤ 57)) : smallP s i = .ok (bl s i - 48, i + 1) := by
  unfold smallP digitP
  rw [if_pos (decide_eq_true h1), if_neg (by simpa using h2)]
theorem small_none (h1 : ¬ (48 ≤ bl s i ∧ bl s i ≤ 57)) : smallP s i = .error i := by
  unfold smallP digitP
  rw [if_neg (by simpa using h1)]
theorem small_inv {x : Int} {k : Nat} (h : smallP s i = .ok (x, k)) : i < k ∧ k ≤ s.length ∧ 0 ≤ x ∧ x ≤ 99 := by
  by_cases h1 : 48 ≤ bl s i ∧ bl s i ≤ 57
  · have hi := bl_in (s := s) (i := i) (by omega)
    by_cases h2 : 48 ≤ bl s (i + 1) ∧ bl s (i + 1) ≤ 57
    · have hi2 := bl_in (s := s) (i := i + 1) (by omega)
      rw [small_two h1 h2] at h; simp only [Except.ok.injEq, Prod.mk.injEq] at h; omega
    · rw [small_one h1 h2] at h; simp only [Except.ok.injEq, Prod.mk.injEq] at h; omega
  · rw [small_none h1] at h; cases h
theorem quote_end {n : Nat} {acc : List UInt8} (h : ¬ j < s.length) : quoteL s (n + 1) j acc = .error j := by unfold quoteL; rw [if_pos h]
theorem quote_close {n : Nat} {acc : List UInt8} (h : bl s j = 34) : quoteL s (n + 1) j acc = .ok (acc, j + 1) := by
  have := bl_in (s := s) (i := j) (by omega)
  unfold quoteL; rw [if_neg (by omega), if_pos h]
theorem quote_bad {n : Nat} {acc : List UInt8} (h : bl s j = 92) (h2 : ¬ bl s (j + 1) = 34) (h3 : ¬ bl s (j + 1) = 92) : quoteL s (n + 1) j acc = .error (j + 1) := by
  have := bl_in (s := s) (i := j) (by omega)
  unfold quoteL; rw [if_neg (by omega), if_neg (by omega), if_pos h, if_neg (by omega)]
theorem quote_esc {n : Nat} {acc : List UInt8} (h : bl s j = 92) (h2 : bl s (j + 1) = 34 ∨ bl s (j + 1) = 92) : quoteL s (n + 1) j acc = quoteL s n (j + 2) (acc ++ [s.getD (j + 1) 0]) := by
  have := bl_in (s := s) (i := j) (by omega)
  conv => lhs; unfold quoteL
  rw [if_neg (by omega), if_neg (by omega), if_pos h, if_pos h2]
theorem quote_byte {n : Nat} {acc : List UInt8} (h0 : j < s.length) (h : ¬ bl s j = 34) (h2 : ¬ bl s j = 92) : quoteL s (n + 1) j acc = quoteL s n (j + 1) (acc ++ [s.getD j 0]) := by
  conv => lhs; unfold quoteL
  rw [if_neg (by omega), if_neg h, if_neg h2]
theorem bytes_snoc (L : List Int) (s : List UInt8) (j : Nat) : bytesOf (L ++ [bl s j]) = bytesOf L ++ [s.getD j 0] := by
  unfold bytesOf bl
  rw [List.map_append]
  simp
theorem quote_le : ∀ (n j : Nat) (acc : List UInt8) (x : List UInt8 × Nat), quoteL s n j acc = .ok x → j < x.2 ∧ x.2 ≤ s.length ∧ x.1.length + j < acc.length + x.2
  | 0, j, acc, x, h => by simp [quoteL] at h
  | n + 1, j, acc, x, h => by
    unfold quoteL at h
    split at h
    · cases h
    · split at h
      · simp only [Except.ok.injEq] at h; subst h; simp only; omega
      · split at h
        · split at h
          · rename_i h3
            have h2 := bl_in (s := s) (i := j + 1) (by omega)
            have := quote_le n (j + 2) _ x h
            simp only [List.length_append, List.length_cons, List.length_nil] at this
            omega
          · cases h
        · have := quote_le n (j + 1) _ x h
          simp only [List.length_append, List.length_cons, List.length_nil] at this
          omega
theorem quoted_inv {x : List UInt8} {k : Nat} (h : quotedP s i = .ok (x, k)) : i < k ∧ k ≤ s.length ∧ x.length ≤ s.length := by
  unfold quotedP at h
  split at h
  · cases h
  · rename_i j hj
    have h1 := take_inv hj
    have h2 := quote_le _ _ _ _ h
    simp only [List.length_nil] at h2
    omega
end Go.SynP
namespace Go.SynP
open Go Go.Gw Go.UtfP Go.TokP Go.QryP Go.RealP Go.RealQ
variable {s : List UInt8} {i m : Nat} {c : Int}
theorem number_none (hx : Lib.indexByte (s.drop i) c.toNat.toUInt8 = -1) : numberP s c i = .error i := by
  unfold numberP; simp only [hx]; rfl
theorem number_eq (hx : Lib.indexByte (s.drop i) c.toNat.toUInt8 = ((m : Nat) : Int)) : numberP s c i = match hexP ((s.take (i + m)).drop i) with
  | some v => .ok (v, i + m + 1)
  | none => if parseE ((s.take (i + m)).drop i) = 0 then .ok (parseV ((s.take (i + m)).drop i), i + m + 1) else .error i := by
  unfold numberP
  simp only [hx, Int.toNat_natCast]
  rw [if_neg (by omega)]
theorem number_hex (hx : Lib.indexByte (s.drop i) c.toNat.toUInt8 = ((m : Nat) : Int)) {v : Nat} (h : hexP ((s.take (i + m)).drop i) = some v) : numberP s c i = .ok (v, i + (m + 1)) := by rw [number_eq hx, h]; rfl
theorem number_real (hx : Lib.indexByte (s.drop i) c.toNat.toUInt8 = ((m : Nat) : Int)) (h : hexP ((s.take (i + m)).drop i) = none) (h2 : parseE ((s.take (i + m)).drop i) = 0) : numberP s c i = .ok (parseV ((s.take (i + m)).drop i), i + (m + 1)) := by
  rw [number_eq hx, h]; simp only; rw [if_pos h2]; rfl
theorem number_bad (hx : Lib.indexByte (s.drop i) c.toNat.toUInt8 = ((m : Nat) : Int)) (h : hexP ((s.take (i + m)).drop i) = none) (h2 : ¬ parseE ((s.take (i + m)).drop i) = 0) : numberP s c i = .error i := by
  rw [number_eq hx, h]; simp only; rw [if_neg h2]
theorem index_lt : ∀ (l : List UInt8) (c : UInt8), Lib.indexByte l c < l.length
  | [], c => by simp [Lib.indexByte]
  | b :: l, c => by
    have := index_lt l c
    unfold Lib.indexByte
    split
    · simp only [List.length_cons]; omega
    · split
      · simp only [List.length_cons]; omega
      · simp only [List.length_cons]; omega
theorem index_cases (l : List UInt8) (c : UInt8) : Lib.indexByte l c = -1 ∨ ∃ m : Nat, Lib.indexByte l c = (m : Int) ∧ m < l.length := by
  have h1 := Lib.indexByte_ge l c
  have h2 := index_lt l c
  by_cases h : Lib.indexByte l c = -1
  · exact .inl h
  · exact .inr ⟨(Lib.indexByte l c).toNat, by omega, by omega⟩
theorem number_inv {x k : Nat} (hi : i ≤ s.length) (h : numberP s c i = .ok (x, k)) : i < k ∧ k ≤ s.length := by
  rcases index_cases (s.drop i) c.toNat.toUInt8 with hx | ⟨m, hx, hm⟩
  · rw [number_none hx] at h; cases h
  · rw [List.length_drop] at hm
    rw [number_eq hx] at h
    split at h
    · simp only [Except.ok.injEq, Prod.mk.injEq] at h; omega
    · split at h
      · simp only [Except.ok.injEq, Prod.mk.injEq] at h; omega
      · cases h
end Go.SynP

namespace Go.SynP
set_option linter.unusedVariables false
open Go Go.Gw Go.UtfP Go.QryP

/-- a digit of base sixteen -/
def hexC (u : Nat) : Int := if u < 10 then ((48 + u : Nat) : Int) else ((87 + u : Nat) : Int)
/-- a number's digits, the greatest first -/
def hexF : Nat → Nat → List Int
  | 0, u => [hexC (u % 16)]
  | n + 1, u => if u < 16 then [hexC u] else hexF n (u / 16) ++ [hexC (u % 16)]
def bitsP (n : Nat) : List UInt8 := 35 :: (List.replicate (16 - (hexF 15 n).length) 48 ++ bytesOf (hexF 15 n))
/-- a byte of a text in quotes -/
def escP (c : UInt8) : List UInt8 := if c = 92 then [92, 92] else if c = 34 then [92, 34] else [c]
def quoteW (s : List UInt8) : List UInt8 := 34 :: (s.flatMap escP ++ [34])
/-- a number below a hundred -/
def decW (n : Int) : List UInt8 := if n < 10 then [(48 + n).toNat.toUInt8] else [(48 + n / 10).toNat.toUInt8, (48 + n % 10).toNat.toUInt8]
def joinW (sep : List UInt8) : List (List UInt8) → List UInt8
  | [] => []
  | [x] => x
  | x :: r => x ++ (sep ++ joinW sep r)
/-- must a part stand in brackets? -/
def brP (op k : Int) : Bool := decide (k = 8 ∨ k = 7 ∧ op ≠ 8)
mutual
def textQ : Q → List UInt8
  | .mk h l =>
    if h.op = 10 then [42]
    else if h.op = 9 then 45 :: (textL h.op l).headD []
    else if h.op = 7 then joinW [32] (textL h.op l)
    else if h.op = 8 then joinW [32, 124, 32] (textL h.op l)
    else if h.op = 6 then h.field ++ ([58, 91] ++ (bitsP h.lo.toNat ++ (32 :: (bitsP h.hi.toNat ++ [93]))))
    else h.field ++ (58 :: (quoteW h.text ++ (if h.op = 2 then [42] else if h.op = 3 then [63] else if h.op = 5 then [43] else if h.op = 4 then 126 :: (decW h.edits ++ (44 :: decW h.exact)) else [])))
def textL (op : Int) : List Q → List (List UInt8)
  | [] => []
  | q :: r => (if brP op q.h.op then 40 :: (textQ q ++ [41]) else textQ q) :: textL op r
end
/-- a query's text, or why there is none -/
def printQ (q : Q) : List UInt8 × Int := if checkQ q = 0 then (if 8192 < (textQ q).length then ([], 4) else (textQ q, 0)) else ([], checkQ q)
theorem hexC_all : ∀ i : Fin 16, (48 ≤ hexC i.val ∧ hexC i.val ≤ 102) ∧ hexDig (hexC i.val) = some i.val := by decide
theorem hexC_bd {u : Nat} (h : u < 16) : 0 ≤ hexC u ∧ hexC u ≤ 255 := by
  have h1 : 48 ≤ hexC u ∧ hexC u ≤ 102 := (hexC_all ⟨u, h⟩).1
  omega
theorem hexF_small {n u : Nat} (h : u < 16) : hexF n u = [hexC u] := by
  cases n with
  | zero => unfold hexF; rw [Nat.mod_eq_of_lt h]
  | succ n => unfold hexF; rw [if_pos h]
theorem hexF_step {n u : Nat} (h : ¬ u < 16) : hexF (n + 1) u = hexF n (u / 16) ++ [hexC (u % 16)] := by
  conv => lhs; unfold hexF
  rw [if_neg h]
theorem hexF_len : ∀ (n u : Nat), 1 ≤ (hexF n u).length ∧ (hexF n u).length ≤ n + 1
  | 0, u => by simp [hexF]
  | n + 1, u => by
    by_cases h : u < 16
    · rw [hexF_small h]; simp
    · have := hexF_len n (u / 16)
      rw [hexF_step h]; simp only [List.length_append, List.length_cons, List.length_nil]; omega
theorem bits_len (n : Nat) : (bytesOf (hexF 15 n)).length ≤ 16 := by
  have := hexF_len 15 n
  rw [show (bytesOf (hexF 15 n)).length = (hexF 15 n).length by unfold bytesOf; simp]; omega
theorem bits_eq {n : Nat} : [35] ++ List.replicate (16 - (bytesOf (hexF 15 n)).length) 48 ++ bytesOf (hexF 15 n) = bitsP n := by
  rw [show (bytesOf (hexF 15 n)).length = (hexF 15 n).length by unfold bytesOf; simp]; rfl
theorem rep_one : ∀ (c : Nat), Lib.repeatL [48] c = List.replicate c 48
  | 0 => rfl
  | c + 1 => by rw [List.replicate_succ, ← rep_one c]; rfl
theorem bitsP_len (n : Nat) : (bitsP n).length = 17 := by
  have := hexF_len 15 n
  unfold bitsP
  simp only [List.length_cons, List.length_append, List.length_replicate]
  rw [show (bytesOf (hexF 15 n)).length = (hexF 15 n).length by unfold bytesOf; simp]
  omega
theorem fb_step {n u : Nat} (hu : u < 16 ^ (n + 1)) (h : ¬ u < 16) : ∃ m, n = m + 1 ∧ u / 16 < 16 ^ (m + 1) := by
  match n, hu with
  | 0, hu => exact absurd hu h
  | m + 1, hu => exact ⟨m, rfl, by rw [Nat.pow_succ] at hu; omega⟩
theorem drop_set {l : List Int} {i : Nat} {d : Int} (h : i < l.length) : (l.set i d).drop i = d :: l.drop (i + 1) := by
  rw [List.drop_eq_getElem_cons (by simpa using h)]
  congr 1
  · simp
  · rw [List.drop_set]; simp
theorem hexC_at : ∀ i : Fin 16, bl [48, 49, 50, 51, 52, 53, 54, 55, 56, 57, 97, 98, 99, 100, 101, 102, 103, 104, 105, 106, 107, 108, 109, 110, 111, 112, 113, 114, 115, 116, 117, 118, 119, 120, 121, 122] i.val = hexC i.val := by decide
theorem hexC_of {u : Nat} (h : u < 16) : bl [48, 49, 50, 51, 52, 53, 54, 55, 56, 57, 97, 98, 99, 100, 101, 102, 103, 104, 105, 106, 107, 108, 109, 110, 111, 112, 113, 114, 115, 116, 117, 118, 119, 120, 121, 122] u = hexC u := hexC_at ⟨u, h⟩
/-- the text of a number is read as that number -/
theorem bytes_one (c : Int) (h : 0 ≤ c ∧ c ≤ 255) : (((bytesOf [c]).getD 0 0).toNat : Int) = c := by
  unfold bytesOf
  simp only [List.map_cons, List.map_nil, List.getD_cons_zero, UInt8.toNat_ofNat']
  omega
theorem hexL_app : ∀ (a b : List UInt8) (n : Nat), hexL (a ++ b) n = (hexL a n).bind (hexL b)
  | [], b, n => rfl
  | c :: a, b, n => by
    simp only [List.cons_append]
    conv => lhs; unfold hexL
    conv => rhs; unfold hexL
    cases hexDig (c.toNat : Int) with
    | none => rfl
    | some d => exact hexL_app a b _
end Go.SynP

namespace Go.Proofs.YthpodbngljfdmaaGreatDoor
open Go Go.Gw Go.UtfP Go.TokP Go.QryP Go.SynP Go.RealQ Go.SynV Go.RowKit
set_option linter.unusedVariables false
set_option linter.unusedSimpArgs false
set_option maxRecDepth 20000


set_option maxHeartbeats 400000 in
theorem next_c (s : List UInt8) (hs : s.length ≤ 8192) (i : Nat) (hi : i ≤ s.length) (b : Nat) {w : World} (hb : Rd w 2 (obj b) 1 [sS s, iN i])  :
  Calls Tryz.prog 41 #[pq b] w (fun e w' => e = .returned (.int .u8 (bl s i)) ∧ Mem [] w w' []) := by
 refine xe 22 Tryz.func41 (fun R hR => ?_)
 have hM0 := Mem.start w
 refine xh 6 [] hM0 sR (fun w1 hM2 hS3 => ?_)
 refine yla [0,1,2] 3 hS3 pE3 hb kp0 (cel_obj b 1) rfl ?_
 refine yla [4,5,6] 7 hS3 pE9 hb kp0 (cel_obj b 0) rfl ?_
 refine yv [] 8 (fun W_ hW_ => (show (Builtin.len_ #[9] 3 #[sS s]).run Tryz.prog W_ = .ok (iN s.length) W_ from f_len (by kernel_rfl))) hS3 ?_
 refine ydp [9] hS3 ?_
 refine xc 0 (((i : Nat) : Int) < ((s.length : Nat) : Int)) (fun h5p => ?_) (fun h5p => ?_)
 ·
  refine xh 1 [] hM2 sR (fun w6 hM7 hS8 => ?_)
  refine yla [0,1,2] 3 hS8 pE9 hb kp0 (cel_obj b 0) rfl ?_
  refine yla [4,5,6] 7 hS8 pE3 hb kp0 (cel_obj b 1) rfl ?_
  have hb10 := bl_bd s i
  refine yv [] 8 (fun W_ hW_ => (show (Instr.index 9 (sS s) (iN i)).run Tryz.prog W_ = .ok (.int .u8 (bl s i)) W_ from f_index i (by kernel_rfl) (by omega) (by omega))) hS8 ?_
  refine ydp [9] hS8 ?_
  exact xr 0 Tryz.func41 hR ⟨rfl, hM7.sub sN⟩
 ·
  exact xr 5 (v := .int .u8 0) Tryz.func41 hR ⟨ret_int (bl_out (by omega)).symm, hM2.sub sN⟩

def flt (t : TypeId) (k : Nat) : List PanicEntry := [{ v := .iface t (.agg #[iN k]), recovered := false }]
set_option maxHeartbeats 400000 in
theorem fail_c (s : List UInt8) (i : Nat) (b : Nat) {w : World} (hb : Rd w 2 (obj b) 1 [sS s, iN i])  :
  Calls Tryz.prog 23 #[pq b] w (fun e w' => e = .panicked (flt 47 i) ∧ Mem [] w w' []) := by
 refine xe 8 Tryz.func23 (fun R hR => ?_)
 have hM0 := Mem.start w
 refine xv 4 (c_load pE3 (hb.kept0 hM0.kept) (cel_obj b 1) rfl) ?_
 refine xpan 2 (v := (.iface 47 (.agg #[iN i]))) Tryz.func23 ?_
 rw [hR]
 exact ⟨rfl, hM0.none⟩


end Go.Proofs.YthpodbngljfdmaaGreatDoor

namespace Go.Proofs.YthpodbngljfdmaaGreatDoor
open Go Go.Gw Go.UtfP Go.TokP Go.QryP Go.SynP Go.RealQ Go.SynV Go.RowKit
set_option linter.unusedVariables false
set_option linter.unusedSimpArgs false
set_option maxRecDepth 20000


set_option maxHeartbeats 400000 in
theorem blanks_L (s : List UInt8) (hs : s.length ≤ 8192) (b : Nat) (i : Nat) {w0 : World} (R : Ending → World → Prop) (hR : R = (fun e w' => e = .returned (.tuple #[]) ∧ Mem [b] w0 w' [⟨51, 2, (obj b), 1, [sS s, iN (skipP s i)]⟩])) : ∀ (N : Nat) (j : Nat) (w : World) (hji : j ≤ s.length) (hj : skipP s j = skipP s i) (hM : Mem [b] w0 w [⟨51, 2, (obj b), 1, [sS s, iN j]⟩]) (hN : s.length - j < N), GoS Tryz.prog 22 R 31 [iC Tryz.f22 [0,0], iL Tryz.f22 [0,0], .inBlock 0] [(0, pq b)] w := by
 intro N
 induction N with
 | zero => intro j w hji hj hM hN; exact absurd hN (Nat.not_lt_zero _)
 | succ N ih =>
  intro j w hji hj hM hN
  refine xs ?_
  refine xh 2 [] hM (sK sR) (fun w1 hM2 hS3 => ?_)
  refine yl [0,1,2] 3 hS3 pE3 0 rfl (cel_obj b 1) rfl ?_
  refine yl [4,5,6] 7 hS3 pE9 0 rfl (cel_obj b 0) rfl ?_
  refine yv [] 8 (fun W_ hW_ => (show (Builtin.len_ #[9] 3 #[sS s]).run Tryz.prog W_ = .ok (iN s.length) W_ from f_len (by kernel_rfl))) hS3 ?_
  rcases Bool.eq_false_or_eq_true (decide (((j : Nat) : Int) < ((s.length : Nat) : Int))) with h5 | h5
  ·
   have h5p : ((j : Nat) : Int) < ((s.length : Nat) : Int) := of_decide_eq_true h5
   refine ye [9] 10 (decide (((j : Nat) : Int) < ((s.length : Nat) : Int))) true h5 hS3 ?_
   refine yl [11,12,13] 14 hS3 pE9 0 rfl (cel_obj b 0) rfl ?_
   refine yl [15,16,17] 18 hS3 pE3 0 rfl (cel_obj b 1) rfl ?_
   have hb6 := bl_bd s j
   refine yv [] 19 (fun W_ hW_ => (show (Instr.index 9 (sS s) (iN j)).run Tryz.prog W_ = .ok (.int .u8 (bl s j)) W_ from f_index j (by kernel_rfl) (by omega) (by omega))) hS3 ?_
   refine ydp [20,21] hS3 ?_
   refine xc 0 ((bl s j) = 32) (fun h7p => ?_) (fun h7p => ?_)
   ·
    refine xv 6 (c_load pE3 (hM2.rd 0 rfl) (cel_obj b 1) rfl) ?_
    refine xa 0 ((j : Nat) : Int) 1 (((j + 1) : Nat) : Int) ?_
    refine xst 2 (c_store (E := 3) (u := iN (j + 1)) (by kernel_rfl) hM2 0 rfl (cel_obj b 1) (by decide) rfl rfl) (fun w8 hM10 => ?_)
    exact xl 3 (ih (j + 1) _ (by omega) ((skip_go (by omega) (by omega)).symm.trans hj) hM10 (by omega))
   ·
    exact xr 1 Tryz.func22 hR ⟨rfl, hM2.cast (by rw [← hj, skip_stop (by omega)])⟩
  ·
   have h5p : ¬ (((j : Nat) : Int) < ((s.length : Nat) : Int)) := of_decide_eq_false h5
   refine ye [9] 10 (decide (((j : Nat) : Int) < ((s.length : Nat) : Int))) false h5 hS3 ?_
   refine ydp [11,12,13,14,15,16,17,18,19,20,21] hS3 ?_
   exact xr 2 Tryz.func22 hR ⟨rfl, hM2.cast (by rw [← hj, skip_stop (by omega)])⟩

set_option maxHeartbeats 400000 in
theorem blanks_c (s : List UInt8) (hs : s.length ≤ 8192) (b : Nat) (i : Nat) (hi : i ≤ s.length) {w : World} (hM : Mem [b] w w [⟨51, 2, (obj b), 1, [sS s, iN i]⟩])  :
  Calls Tryz.prog 22 #[pq b] w (fun e w' => e = .returned (.tuple #[]) ∧ Mem [b] w w' [⟨51, 2, (obj b), 1, [sS s, iN (skipP s i)]⟩]) := by
 refine xe 31 Tryz.func22 (fun R hR => ?_)
 exact xl 2 (blanks_L s hs b i R hR (s.length + 1) i w hi rfl hM (by omega))

set_option maxHeartbeats 400000 in
theorem take_c (s : List UInt8) (hs : s.length ≤ 8192) (c : Int) (b : Nat) (i : Nat) (hi : i ≤ s.length) {w : World} (hM : Mem [b] w w [⟨51, 2, (obj b), 1, [sS s, iN i]⟩])  :
  Calls Tryz.prog 76 #[pq b, .int .u8 c] w (Pst (flt 47) (takeP s c i) (fun j v w' => v = .tuple #[] ∧ Mem [b] w w' [⟨51, 2, (obj b), 1, [sS s, iN j]⟩]) b w) := by
 refine xe 36 Tryz.func76 (fun R hR => ?_)
 refine xh 2 [] hM (sK sR) (fun w1 hM2 hS3 => ?_)
 refine yl [0,1,2] 3 hS3 pE3 0 rfl (cel_obj b 1) rfl ?_
 refine yl [4,5,6] 7 hS3 pE9 0 rfl (cel_obj b 0) rfl ?_
 refine yv [] 8 (fun W_ hW_ => (show (Builtin.len_ #[9] 3 #[sS s]).run Tryz.prog W_ = .ok (iN s.length) W_ from f_len (by kernel_rfl))) hS3 ?_
 rcases Bool.eq_false_or_eq_true (decide (((i : Nat) : Int) ≥ ((s.length : Nat) : Int))) with h5 | h5
 ·
  have h5p : ((i : Nat) : Int) ≥ ((s.length : Nat) : Int) := of_decide_eq_true h5
  refine ye [9] 10 (decide (((i : Nat) : Int) ≥ ((s.length : Nat) : Int))) true h5 hS3 ?_
  refine ydp [11,12,13,14,15,16,17,18,19,20,21,22] hS3 ?_
  refine xkd 3 Tryz.func76 (fail_c s i b (hM2.rd 0 rfl)) (fun w6 m7 => ?_)
  have hM8 := (hM2.j m7).none
  rw [hR]
  exact .inr ⟨_, take_err (by omega), rfl, hM8⟩
 ·
  have h5p : ¬ (((i : Nat) : Int) ≥ ((s.length : Nat) : Int)) := of_decide_eq_false h5
  refine ye [9] 10 (decide (((i : Nat) : Int) ≥ ((s.length : Nat) : Int))) false h5 hS3 ?_
  refine yl [11,12,13] 14 hS3 pE9 0 rfl (cel_obj b 0) rfl ?_
  refine yl [15,16,17] 18 hS3 pE3 0 rfl (cel_obj b 1) rfl ?_
  have hb9 := bl_bd s i
  refine yv [] 19 (fun W_ hW_ => (show (Instr.index 9 (sS s) (iN i)).run Tryz.prog W_ = .ok (.int .u8 (bl s i)) W_ from f_index i (by kernel_rfl) (by omega) (by omega))) hS3 ?_
  refine ydp [20,21,22] hS3 ?_
  refine xcn 0 ((bl s i) = c) (fun h10p => ?_) (fun h10p => ?_)
  ·
   refine xkd 2 Tryz.func76 (fail_c s i b (hM2.rd 0 rfl)) (fun w11 m12 => ?_)
   have hM13 := (hM2.j m12).none
   rw [hR]
   exact .inr ⟨_, take_err (by omega), rfl, hM13⟩
  ·
   refine xv 5 (c_load pE3 (hM2.rd 0 rfl) (cel_obj b 1) rfl) ?_
   refine xa 0 ((i : Nat) : Int) 1 (((i + 1) : Nat) : Int) ?_
   refine xst 2 (c_store (E := 3) (u := iN (i + 1)) (by kernel_rfl) hM2 0 rfl (cel_obj b 1) (by decide) rfl rfl) (fun w14 hM16 => ?_)
   refine xr0 1 (v := .tuple #[]) Tryz.func76 ?_
   rw [hR]
   exact .inl ⟨_, _, take_ok (by omega) (by omega), rfl, rfl, hM16⟩


end Go.Proofs.YthpodbngljfdmaaGreatDoor

namespace Go.Proofs.YthpodbngljfdmaaGreatDoor
open Go Go.Gw Go.UtfP Go.TokP Go.QryP Go.SynP Go.RealQ Go.SynV Go.RowKit
set_option linter.unusedVariables false
set_option linter.unusedSimpArgs false
set_option maxRecDepth 20000


set_option maxHeartbeats 400000 in
theorem small_c (s : List UInt8) (hs : s.length ≤ 8192) (b : Nat) (i : Nat) (hi : i ≤ s.length) {w : World} (hM : Mem [b] w w [⟨51, 2, (obj b), 1, [sS s, iN i]⟩])  :
  Calls Tryz.prog 106 #[pq b] w (Pst (flt 47) (smallP s i) (fun x v w' => v = .int .i64 x.1 ∧ Mem [b] w w' [⟨51, 2, (obj b), 1, [sS s, iN x.2]⟩]) b w) := by
 refine xe 49 Tryz.func106 (fun R hR => ?_)
 refine xh 5 [] hM (sK sR) (fun w1 hM2 hS3 => ?_)
 refine yl [0,1,2] 3 hS3 pE3 0 rfl (cel_obj b 1) rfl ?_
 refine ydp [4,5] hS3 ?_
 refine xv 9 (c_load pE3 (hM2.rd 0 rfl) (cel_obj b 1) rfl) ?_
 refine xa 1 ((i : Nat) : Int) 2 (((i + 2) : Nat) : Int) ?_
 refine xfc 2 16 (((i : Nat) : Int) < (((i + 2) : Nat) : Int)) (fun h7p => ?_) (fun h7p => ?_)
 ·
  have hb11 := bl_bd s i
  have hb12 := bl_or s i
  refine xk 1 (next_c s (by omega) i (by omega) b (hM2.rd 0 rfl)) (fun w8 m9 => ?_)
  have hM10 := hM2.j m9
  refine xfc 3 21 ((bl s i) ≥ 48) (fun h13p => ?_) (fun h13p => ?_)
  ·
   have hb17 := bl_bd s i
   have hb18 := bl_or s i
   refine xk 1 (next_c s (by omega) i (by omega) b (hM10.rd 0 rfl)) (fun w14 m15 => ?_)
   have hM16 := hM10.j m15
   refine xc 3 ((bl s i) ≤ 57) (fun h19p => ?_) (fun h19p => ?_)
   ·
    have hb28 := bl_bd s i
    have hb29 := bl_or s i
    refine xk 7 (next_c s (by omega) i (by omega) b (hM16.rd 0 rfl)) (fun w25 m26 => ?_)
    have hM27 := hM16.j m26
    refine xsub 0 .u8 (bl s i) 48 ((bl s i) - 48) (IntWalk.u8_in _ (by omega)) ?_
    refine xcv 0 .u8 .i64 ((bl s i) - 48) ((bl s i) - 48) (IntWalk.i64_in _ (by omega)) ?_
    refine xa 0 0 ((bl s i) - 48) ((bl s i) - 48) ?_
    refine xv 6 (c_load pE3 (hM27.rd 0 rfl) (cel_obj b 1) rfl) ?_
    refine xa 0 ((i : Nat) : Int) 1 (((i + 1) : Nat) : Int) ?_
    refine xst 2 (c_store (E := 3) (u := iN (i + 1)) (by kernel_rfl) hM27 0 rfl (cel_obj b 1) (by decide) rfl rfl) (fun w30 hM32 => ?_)
    refine xv 9 (c_load pE3 (hM32.rd 0 rfl) (cel_obj b 1) rfl) ?_
    refine xa 1 ((i : Nat) : Int) 2 (((i + 2) : Nat) : Int) ?_
    refine xfc 2 16 ((((i + 1) : Nat) : Int) < (((i + 2) : Nat) : Int)) (fun h42p => ?_) (fun h42p => ?_)
    ·
     have hb46 := bl_bd s (i + 1)
     have hb47 := bl_or s (i + 1)
     refine xk 1 (next_c s (by omega) (i + 1) (by omega) b (hM32.rd 0 rfl)) (fun w43 m44 => ?_)
     have hM45 := hM32.j m44
     refine xfc 3 21 ((bl s (i + 1)) ≥ 48) (fun h48p => ?_) (fun h48p => ?_)
     ·
      have hb52 := bl_bd s (i + 1)
      have hb53 := bl_or s (i + 1)
      refine xk 1 (next_c s (by omega) (i + 1) (by omega) b (hM45.rd 0 rfl)) (fun w49 m50 => ?_)
      have hM51 := hM45.j m50
      refine xc 3 ((bl s (i + 1)) ≤ 57) (fun h54p => ?_) (fun h54p => ?_)
      ·
       refine xt 5 10 ((bl s i) - 48) (10 * ((bl s i) - 48)) ?_
       have hb61 := bl_bd s (i + 1)
       have hb62 := bl_or s (i + 1)
       refine xk 1 (next_c s (by omega) (i + 1) (by omega) b (hM51.rd 0 rfl)) (fun w58 m59 => ?_)
       have hM60 := hM51.j m59
       refine xsub 0 .u8 (bl s (i + 1)) 48 ((bl s (i + 1)) - 48) (IntWalk.u8_in _ (by omega)) ?_
       refine xcv 0 .u8 .i64 ((bl s (i + 1)) - 48) ((bl s (i + 1)) - 48) (IntWalk.i64_in _ (by omega)) ?_
       refine xa 0 (10 * ((bl s i) - 48)) ((bl s (i + 1)) - 48) ((10 * ((bl s i) - 48)) + ((bl s (i + 1)) - 48)) ?_
       refine xv 6 (c_load pE3 (hM60.rd 0 rfl) (cel_obj b 1) rfl) ?_
       refine xa 0 (((i + 1) : Nat) : Int) 1 ((((i + 1) + 1) : Nat) : Int) ?_
       refine xst 2 (c_store (E := 3) (u := iN ((i + 1) + 1)) (by kernel_rfl) hM60 0 rfl (cel_obj b 1) (by decide) rfl rfl) (fun w63 hM65 => ?_)
       refine xv 9 (c_load pE3 (hM65.rd 0 rfl) (cel_obj b 1) rfl) ?_
       refine xa 1 ((i : Nat) : Int) 2 (((i + 2) : Nat) : Int) ?_
       refine xfc 2 16 (((((i + 1) + 1) : Nat) : Int) < (((i + 2) : Nat) : Int)) (fun h75p => ?_) (fun h75p => ?_)
       ·
        omega
       ·
        refine xv 18 (c_load pE3 (hM65.rd 0 rfl) (cel_obj b 1) rfl) ?_
        refine xc 3 (((((i + 1) + 1) : Nat) : Int) = ((i : Nat) : Int)) (fun h77p => ?_) (fun h77p => ?_)
        ·
         omega
        ·
         refine xr0 6 (v := .int .i64 ((10 * ((bl s i) - 48)) + ((bl s (i + 1)) - 48))) Tryz.func106 ?_
         rw [hR]
         exact .inl ⟨_, _, small_two (by omega) (by omega), rfl, rfl, hM65⟩
      ·
       refine xv 7 (c_load pE3 (hM51.rd 0 rfl) (cel_obj b 1) rfl) ?_
       refine xc 3 ((((i + 1) : Nat) : Int) = ((i : Nat) : Int)) (fun h56p => ?_) (fun h56p => ?_)
       ·
        omega
       ·
        refine xr0 6 (v := .int .i64 ((bl s i) - 48)) Tryz.func106 ?_
        rw [hR]
        exact .inl ⟨_, _, small_one (by omega) (by omega), rfl, rfl, hM51⟩
     ·
      refine xv 13 (c_load pE3 (hM45.rd 0 rfl) (cel_obj b 1) rfl) ?_
      refine xc 3 ((((i + 1) : Nat) : Int) = ((i : Nat) : Int)) (fun h79p => ?_) (fun h79p => ?_)
      ·
       omega
      ·
       refine xr0 6 (v := .int .i64 ((bl s i) - 48)) Tryz.func106 ?_
       rw [hR]
       exact .inl ⟨_, _, small_one (by omega) (by omega), rfl, rfl, hM45⟩
    ·
     omega
   ·
    refine xv 7 (c_load pE3 (hM16.rd 0 rfl) (cel_obj b 1) rfl) ?_
    refine xc 3 (((i : Nat) : Int) = ((i : Nat) : Int)) (fun h21p => ?_) (fun h21p => ?_)
    ·
     refine xkd 2 Tryz.func106 (fail_c s i b (hM16.rd 0 rfl)) (fun w22 m23 => ?_)
     have hM24 := (hM16.j m23).none
     rw [hR]
     exact .inr ⟨_, small_none (by omega), rfl, hM24⟩
    ·
     omega
  ·
   refine xv 13 (c_load pE3 (hM10.rd 0 rfl) (cel_obj b 1) rfl) ?_
   refine xc 3 (((i : Nat) : Int) = ((i : Nat) : Int)) (fun h81p => ?_) (fun h81p => ?_)
   ·
    refine xkd 2 Tryz.func106 (fail_c s i b (hM10.rd 0 rfl)) (fun w82 m83 => ?_)
    have hM84 := (hM10.j m83).none
    rw [hR]
    exact .inr ⟨_, small_none (by omega), rfl, hM84⟩
   ·
    omega
 ·
  omega


end Go.Proofs.YthpodbngljfdmaaGreatDoor

namespace Go.Proofs.YthpodbngljfdmaaGreatDoor
open Go Go.Gw Go.UtfP Go.TokP Go.QryP Go.SynP Go.RealQ Go.SynV Go.RowKit
set_option linter.unusedVariables false
set_option linter.unusedSimpArgs false
set_option maxRecDepth 20000


set_option maxHeartbeats 400000 in
theorem quoted_L (s : List UInt8) (hs : s.length ≤ 8192) (b : Nat) (i : Nat) {w : World} (R : Ending → World → Prop) (hR : R = (Pst (flt 47) (quotedP s i) (fun x v w' => v = sS x.1 ∧ Mem [b] w w' [⟨51, 2, (obj b), 1, [sS s, iN x.2]⟩]) b w)) : ∀ (N : Nat) (n j : Nat) (v : Value) (L : List Int) (w1 : World) (hn : s.length - j ≤ n) (hq : quoteL s (n + 1) j (bytesOf L) = quotedP s i) (hl : L.length ≤ j) (hbd : ∀ x ∈ L, 0 ≤ x ∧ x ≤ 255) (hj : j ≤ s.length) (hM : Mem [b] w w1 [⟨51, 2, (obj b), 1, [sS s, iN j]⟩, ⟨5, 1, v, (List.length L), (ivals .u8 L)⟩]) (hN : s.length - j < N), GoS Tryz.prog 105 R 57 [iC Tryz.f105 [1,1,1,0,0], iL Tryz.f105 [1,1,1,0,0], .inBlock 0] [(0, pq b), (3, v)] w1 := by
 intro N
 induction N with
 | zero => intro n j v L w1 hn hq hl hbd hj hM hN; exact absurd hN (Nat.not_lt_zero _)
 | succ N ih =>
  intro n j v L w1 hn hq hl hbd hj hM hN
  refine xs ?_
  have hb4 := bl_bd s j
  have hb5 := bl_or s j
  refine xk 4 (next_c s (by omega) j (by omega) b (hM.rd 0 rfl)) (fun w1 m2 => ?_)
  have hM3 := hM.j m2
  refine xh 4 [] hM3 (sK (sK sR)) (fun w6 hM7 hS8 => ?_)
  refine yl [0,1,2] 3 hS8 pE3 0 rfl (cel_obj b 1) rfl ?_
  refine yl [4,5,6] 7 hS8 pE9 0 rfl (cel_obj b 0) rfl ?_
  refine yv [] 8 (fun W_ hW_ => (show (Builtin.len_ #[9] 3 #[sS s]).run Tryz.prog W_ = .ok (iN s.length) W_ from f_len (by kernel_rfl))) hS8 ?_
  refine ydp [9] hS8 ?_
  refine xc 0 (((j : Nat) : Int) = ((s.length : Nat) : Int)) (fun h10p => ?_) (fun h10p => ?_)
  ·
   refine xkd 2 Tryz.func105 (fail_c s j b (hM7.rd 0 rfl)) (fun w11 m12 => ?_)
   have hM13 := (hM7.j m12).none
   rw [hR]
   exact .inr ⟨_, hq.symm.trans (quote_end (by omega)), rfl, hM13⟩
  ·
   refine xv 6 (c_load pE3 (hM7.rd 0 rfl) (cel_obj b 1) rfl) ?_
   refine xa 0 ((j : Nat) : Int) 1 (((j + 1) : Nat) : Int) ?_
   refine xst 2 (c_store (E := 3) (u := iN (j + 1)) (by kernel_rfl) hM7 0 rfl (cel_obj b 1) (by decide) rfl rfl) (fun w14 hM16 => ?_)
   refine xc 12 ((bl s j) = 34) (fun h21p => ?_) (fun h21p => ?_)
   ·
    refine xv 3 (show (convert 76 9 (v)).run Tryz.prog w14 = .ok (sS (bytesOf L)) w14 from f_string_i sT76 (by kernel_rfl) (by kernel_rfl) (hM16.rd 1 rfl) (by assumption)) ?_
    have hM23 := hM16.sub (sK (sD sR))
    refine xr0 2 (v := sS (bytesOf L)) Tryz.func105 ?_
    rw [hR]
    exact .inl ⟨_, _, hq.symm.trans (quote_close (by omega)), rfl, rfl, (hM23.sub sR)⟩
   ·
    refine xc 5 ((bl s j) = 92) (fun h24p => ?_) (fun h24p => ?_)
    ·
     have hb28 := bl_bd s (j + 1)
     have hb29 := bl_or s (j + 1)
     refine xk 4 (next_c s (by omega) (j + 1) (by omega) b (hM16.rd 0 rfl)) (fun w25 m26 => ?_)
     have hM27 := hM16.j m26
     refine xfn 7 40 ((bl s (j + 1)) = 34) (fun h30p => ?_) (fun h30p => ?_)
     ·
      refine xcn 4 ((bl s (j + 1)) = 92) (fun h31p => ?_) (fun h31p => ?_)
      ·
       refine xkd 2 Tryz.func105 (fail_c s (j + 1) b (hM27.rd 0 rfl)) (fun w32 m33 => ?_)
       have hM34 := (hM27.j m33).none
       rw [hR]
       exact .inr ⟨_, hq.symm.trans (quote_bad (by omega) (by omega) (by omega)), rfl, hM34⟩
      ·
       refine xv 5 (c_load pE3 (hM27.rd 0 rfl) (cel_obj b 1) rfl) ?_
       refine xa 0 (((j + 1) : Nat) : Int) 1 ((((j + 1) + 1) : Nat) : Int) ?_
       refine xst 2 (c_store (E := 3) (u := iN ((j + 1) + 1)) (by kernel_rfl) hM27 0 rfl (cel_obj b 1) (by decide) rfl rfl) (fun w35 hM37 => ?_)
       refine xx 5 (m_lit sT76 hM37 (n := 1) (parts := #[(0, .int .u8 (bl s (j + 1)))]) (cs := [.int .u8 (bl s (j + 1))]) (by decide) (by kernel_rfl) rfl) (fun v49 w50 hM52 => ?_)
       refine xx 0 (m_append sT76 hM52 2 rfl (hM52.rd 0 rfl) (oneL rfl) (by simp only [List.length_append, List.length_cons, List.length_nil] at *; omega) (by simp only [List.length_append, List.length_cons, List.length_nil] at *; omega) 76) (fun v53 w54 hM56 => ?_)
       have hM57 : Mem [b] w w54 [⟨5, 1, v49, 1, [.int .u8 (bl s (j + 1))]⟩, ⟨51, 2, (obj b), 1, [sS s, iN ((j + 1) + 1)]⟩, ⟨5, 1, v53, (List.length (L ++ ([(bl s (j + 1))] : List Int))), (ivals .u8 (L ++ ([(bl s (j + 1))] : List Int)))⟩] := hM56.cast (by simp [ivals, svals, bvals, nvals, u8s, Nat.add_assoc])
       have hM58 := hM57.sub (sD (sK (sK sR)))
       exact xl 4 (ih (n - 1) ((j + 1) + 1) v53 (L ++ ([(bl s (j + 1))] : List Int)) _ (by omega) (by rw [bytes_snoc, show n - 1 + 1 = n by omega]; exact (quote_esc (by omega) (by omega)).symm.trans hq) (by simp only [List.length_append, List.length_cons, List.length_nil]; omega) (by intro x hx; rcases List.mem_append.1 hx with g | g; exact hbd x g; simp at g; omega) (by omega) (hM58.sub (sK (sK sN))) (by omega))
     ·
      refine xv 10 (c_load pE3 (hM27.rd 0 rfl) (cel_obj b 1) rfl) ?_
      refine xa 0 (((j + 1) : Nat) : Int) 1 ((((j + 1) + 1) : Nat) : Int) ?_
      refine xst 2 (c_store (E := 3) (u := iN ((j + 1) + 1)) (by kernel_rfl) hM27 0 rfl (cel_obj b 1) (by decide) rfl rfl) (fun w42 hM44 => ?_)
      refine xx 5 (m_lit sT76 hM44 (n := 1) (parts := #[(0, .int .u8 (bl s (j + 1)))]) (cs := [.int .u8 (bl s (j + 1))]) (by decide) (by kernel_rfl) rfl) (fun v59 w60 hM62 => ?_)
      refine xx 0 (m_append sT76 hM62 2 rfl (hM62.rd 0 rfl) (oneL rfl) (by simp only [List.length_append, List.length_cons, List.length_nil] at *; omega) (by simp only [List.length_append, List.length_cons, List.length_nil] at *; omega) 76) (fun v63 w64 hM66 => ?_)
      have hM67 : Mem [b] w w64 [⟨5, 1, v59, 1, [.int .u8 (bl s (j + 1))]⟩, ⟨51, 2, (obj b), 1, [sS s, iN ((j + 1) + 1)]⟩, ⟨5, 1, v63, (List.length (L ++ ([(bl s (j + 1))] : List Int))), (ivals .u8 (L ++ ([(bl s (j + 1))] : List Int)))⟩] := hM66.cast (by simp [ivals, svals, bvals, nvals, u8s, Nat.add_assoc])
      have hM68 := hM67.sub (sD (sK (sK sR)))
      exact xl 4 (ih (n - 1) ((j + 1) + 1) v63 (L ++ ([(bl s (j + 1))] : List Int)) _ (by omega) (by rw [bytes_snoc, show n - 1 + 1 = n by omega]; exact (quote_esc (by omega) (by omega)).symm.trans hq) (by simp only [List.length_append, List.length_cons, List.length_nil]; omega) (by intro x hx; rcases List.mem_append.1 hx with g | g; exact hbd x g; simp at g; omega) (by omega) (hM68.sub (sK (sK sN))) (by omega))
    ·
     refine xx 5 (m_lit sT76 hM16 (n := 1) (parts := #[(0, .int .u8 (bl s j))]) (cs := [.int .u8 (bl s j)]) (by decide) (by kernel_rfl) rfl) (fun v69 w70 hM72 => ?_)
     refine xx 0 (m_append sT76 hM72 2 rfl (hM72.rd 0 rfl) (oneL rfl) (by simp only [List.length_append, List.length_cons, List.length_nil] at *; omega) (by simp only [List.length_append, List.length_cons, List.length_nil] at *; omega) 76) (fun v73 w74 hM76 => ?_)
     have hM77 : Mem [b] w w74 [⟨5, 1, v69, 1, [.int .u8 (bl s j)]⟩, ⟨51, 2, (obj b), 1, [sS s, iN (j + 1)]⟩, ⟨5, 1, v73, (List.length (L ++ ([(bl s j)] : List Int))), (ivals .u8 (L ++ ([(bl s j)] : List Int)))⟩] := hM76.cast (by simp [ivals, svals, bvals, nvals, u8s, Nat.add_assoc])
     have hM78 := hM77.sub (sD (sK (sK sR)))
     exact xl 4 (ih (n - 1) (j + 1) v73 (L ++ ([(bl s j)] : List Int)) _ (by omega) (by rw [bytes_snoc, show n - 1 + 1 = n by omega]; exact (quote_byte (by omega) (by omega) (by omega)).symm.trans hq) (by simp only [List.length_append, List.length_cons, List.length_nil]; omega) (by intro x hx; rcases List.mem_append.1 hx with g | g; exact hbd x g; simp at g; omega) (by omega) (hM78.sub (sK (sK sN))) (by omega))

set_option maxHeartbeats 400000 in
theorem quoted_c (s : List UInt8) (hs : s.length ≤ 8192) (b : Nat) (i : Nat) (hi : i ≤ s.length) {w : World} (hM : Mem [b] w w [⟨51, 2, (obj b), 1, [sS s, iN i]⟩])  :
  Calls Tryz.prog 105 #[pq b] w (Pst (flt 47) (quotedP s i) (fun x v w' => v = sS x.1 ∧ Mem [b] w w' [⟨51, 2, (obj b), 1, [sS s, iN x.2]⟩]) b w) := by
 refine xe 57 Tryz.func105 (fun R hR => ?_)
 refine xkp 7 Tryz.func105 (take_c s (by omega) 34 b i (by omega) hM.lend1) (fun k1 w2 hs3 m4 => by rw [hR]; exact .inr ⟨_, by unfold quotedP; rw [hs3], rfl, (hM.back1 m4).none⟩) (fun a5 v6 w2 hs3 m4 => ?_)
 obtain ⟨rfl, m7⟩ := m4
 have hx8 := take_inv hs3
 have hM9 := hM.back1 m7
 refine xx 3 (m_lit sT76 hM9 (n := 0) (parts := #[]) (cs := []) (by decide) (by kernel_rfl) rfl) (fun v10 w11 hM13 => ?_)
 have hM14 : Mem [b] w w11 [⟨51, 2, (obj b), 1, [sS s, iN a5]⟩, ⟨5, 1, v10, 0, []⟩] := hM13.perm (pS pR)
 exact xl 4 (quoted_L s hs b i R hR (s.length + 2) (s.length - a5) a5 v10 [] _ (by omega) (by unfold quotedP; rw [hs3]; rfl) (by simp) (by simp) (by omega) ((hM14.sub (sK (sK sN))).cast (by simp [ivals])) (by omega))


end Go.Proofs.YthpodbngljfdmaaGreatDoor

namespace Go.SynP
set_option linter.unusedVariables false
open Go Go.Gw Go.QryP
/-- the rows T hold these trees, by these heads and parts -/
structure QL (T : List Row) (acc : List Q) (M : List QN) : Prop where
  len : M.length = acc.length
  head : ∀ j, j < acc.length → (M.getD j qz).h = (acc.getD j q0).h
  kid : ∀ j, j < acc.length → QT T (acc.getD j q0) (M.getD j qz).parts
theorem QL.one {T : List Row} {q : Q} {h : Hd} {u : Value} (hh : h = q.h) (hq : QT T q u) : QL T [q] [⟨h, u⟩] := by
  refine ⟨rfl, fun j hj => ?_, fun j hj => ?_⟩
  · have : j = 0 := by simp at hj; omega
    subst this; exact hh
  · have : j = 0 := by simp at hj; omega
    subst this; exact hq
theorem q_left {A : List Q} {x : Q} {j : Nat} (h : j < A.length) : (A ++ [x]).getD j q0 = A.getD j q0 := by
  rw [List.getD_eq_getElem?_getD, List.getD_eq_getElem?_getD, List.getElem?_append_left h]
theorem q_right {A : List Q} {x : Q} : (A ++ [x]).getD A.length q0 = x := by simp
theorem QL.snoc {T T1 : List Row} {acc : List Q} {M : List QN} (h : QL T acc M) {q : Q} {g : Hd} {u : Value} (hh : g = q.h) (hq : QT T1 q u) : QL (T1 ++ T) (acc ++ [q]) (M ++ [⟨g, u⟩]) := by
  have hl := h.len
  refine ⟨by simp [hl], fun j hj => ?_, fun j hj => ?_⟩
  · simp only [List.length_append, List.length_cons, List.length_nil] at hj
    rcases Nat.lt_succ_iff_lt_or_eq.1 hj with g | g
    · rw [qn_left (by omega), q_left g]; exact h.head j g
    · subst g; rw [qn_right hl, q_right]; exact hh
  · simp only [List.length_append, List.length_cons, List.length_nil] at hj
    rcases Nat.lt_succ_iff_lt_or_eq.1 hj with g | g
    · rw [qn_left (by omega), q_left g]; exact (h.kid j g).sub (fun r hr => List.mem_append_right _ hr)
    · subst g; rw [qn_right hl, q_right]; exact hq.sub (fun r hr => List.mem_append_left _ hr)
theorem QL.whole {T : List Row} {acc : List Q} {M : List QN} {u : Value} {E : TypeId} (h : QL T acc M) (g : Hd) : QT (⟨E, 8, u, M.length, recs qnC M⟩ :: T) (.mk g acc) u := QT.whole (q := .mk g acc) h.len h.head h.kid
theorem Mem.backT {S : List Nat} {w0 w w' : World} {A T0 T : List Row} {E : TypeId} {k b : Nat} {xs : List Value} {r : Row} (h : Mem S w0 w (⟨E, k, obj b, 1, xs⟩ :: (A ++ T0))) (c : Mem [b] w w' (r :: T)) : Mem S w0 w' (r :: (A ++ (T ++ T0))) :=
  (h.back1 c).perm (List.Perm.cons _ (List.perm_append_comm_assoc _ _ _))
theorem Mem.backT0 {S : List Nat} {w0 w w' : World} {A T : List Row} {E : TypeId} {k b : Nat} {xs : List Value} {r : Row} (h : Mem S w0 w (⟨E, k, obj b, 1, xs⟩ :: A)) (c : Mem [b] w w' (r :: T)) : Mem S w0 w' (r :: (A ++ T)) :=
  (h.back1 c).perm (List.Perm.cons _ List.perm_append_comm)
end Go.SynP
namespace Go.SynP
open Go Go.Gw Go.QryP
theorem calls_imp {P : Program} {g : FuncId} {args : Array Value} {w : World} {A B : Ending → World → Prop} (h : Calls P g args w A) (hi : ∀ e w', A e w' → B e w') : Calls P g args w B := fun cs =>
  let ⟨e, w', fr, h1, h2⟩ := h cs
  ⟨e, w', fr, hi _ _ h1, h2⟩
theorem rd_ones {w : World} {k n : Nat} {v : Value} {xs : List Value} (h : Rd w k v n xs) : v.oneCell' = true ∧ v.cells = #[v] ∧ v.cells.toList = [v] := ⟨rd_one h, rd_cells h, rd_cellsl h⟩
end Go.SynP
namespace Go.SynP
open Go Go.Gw Go.QryP
variable {s : List UInt8} {i k n : Nat} {acc : List Q} {q : Q}
theorem el_err (h : bl s (skipP s i) = 124) (hs : prs s n .B (skipP s i + 1) = .error k) : prs s (n + 1) (.EL acc) i = .error k := by
  show (if _ then _ else _) = _; rw [if_pos h, hs]
theorem el_ok {j : Nat} (h : bl s (skipP s i) = 124) (hs : prs s n .B (skipP s i + 1) = .ok (q, j)) : prs s (n + 1) (.EL acc) i = prs s n (.EL (acc ++ [q])) j := by
  show (if _ then _ else _) = _; rw [if_pos h, hs]
theorem el_end (h : ¬ bl s (skipP s i) = 124) : prs s (n + 1) (.EL acc) i = .ok (manyQ 8 acc, skipP s i) := by
  show (if _ then _ else _) = _; rw [if_neg h]
theorem e_err (hs : prs s n .B i = .error k) : prs s (n + 1) .E i = .error k := by
  show (match prs s n .B i with | .error k => _ | .ok (q, j) => _) = _; rw [hs]
theorem e_ok {j : Nat} (hs : prs s n .B i = .ok (q, j)) : prs s (n + 1) .E i = prs s n (.EL [q]) j := by
  show (match prs s n .B i with | .error k => _ | .ok (q, j) => _) = _; rw [hs]
theorem bl_err (h : ¬ (skipP s i = s.length ∨ bl s (skipP s i) = 124 ∨ bl s (skipP s i) = 41)) (hs : prs s n .O (skipP s i) = .error k) : prs s (n + 1) (.BL acc) i = .error k := by
  show (if _ then _ else _) = _; rw [if_neg h, hs]
theorem bl_ok {j : Nat} (h : ¬ (skipP s i = s.length ∨ bl s (skipP s i) = 124 ∨ bl s (skipP s i) = 41)) (hs : prs s n .O (skipP s i) = .ok (q, j)) : prs s (n + 1) (.BL acc) i = prs s n (.BL (acc ++ [q])) j := by
  show (if _ then _ else _) = _; rw [if_neg h, hs]
theorem bl_end (h : skipP s i = s.length ∨ bl s (skipP s i) = 124 ∨ bl s (skipP s i) = 41) : prs s (n + 1) (.BL acc) i = .ok (manyQ 7 acc, skipP s i) := by
  show (if _ then _ else _) = _; rw [if_pos h]
theorem b_err (hs : prs s n .O i = .error k) : prs s (n + 1) .B i = .error k := by
  show (match prs s n .O i with | .error k => _ | .ok (q, j) => _) = _; rw [hs]
theorem b_ok {j : Nat} (hs : prs s n .O i = .ok (q, j)) : prs s (n + 1) .B i = prs s n (.BL [q]) j := by
  show (match prs s n .O i with | .error k => _ | .ok (q, j) => _) = _; rw [hs]
theorem o_not_err (h : bl s (skipP s i) = 45) (hs : prs s n .O (skipP s i + 1) = .error k) : prs s (n + 1) .O i = .error k := by
  show (if _ then _ else _) = _; rw [if_pos h, hs]
theorem o_not {j : Nat} (h : bl s (skipP s i) = 45) (hs : prs s n .O (skipP s i + 1) = .ok (q, j)) : prs s (n + 1) .O i = .ok (.mk (opH 9) [q], j) := by
  show (if _ then _ else _) = _; rw [if_pos h, hs]
theorem o_par_err (h : bl s (skipP s i) = 40) (hs : prs s n .E (skipP s i + 1) = .error k) : prs s (n + 1) .O i = .error k := by
  show (if _ then _ else _) = _; rw [if_neg (by omega), if_pos h, hs]
theorem o_par_err2 {j : Nat} (h : bl s (skipP s i) = 40) (hs : prs s n .E (skipP s i + 1) = .ok (q, j)) (ht : takeP s 41 j = .error k) : prs s (n + 1) .O i = .error k := by
  show (if _ then _ else _) = _; rw [if_neg (by omega), if_pos h, hs]; simp only [ht]
theorem o_par {j m : Nat} (h : bl s (skipP s i) = 40) (hs : prs s n .E (skipP s i + 1) = .ok (q, j)) (ht : takeP s 41 j = .ok m) : prs s (n + 1) .O i = .ok (q, m) := by
  show (if _ then _ else _) = _; rw [if_neg (by omega), if_pos h, hs]; simp only [ht]
theorem o_all (h : bl s (skipP s i) = 42) : prs s (n + 1) .O i = .ok (.mk (opH 10) [], skipP s i + 1) := by
  show (if _ then _ else _) = _; rw [if_neg (by omega), if_neg (by omega), if_pos h]
theorem o_leaf (h : ¬ bl s (skipP s i) = 45) (h2 : ¬ bl s (skipP s i) = 40) (h3 : ¬ bl s (skipP s i) = 42) : prs s (n + 1) .O i = leafP s (skipP s i) := by
  show (if _ then _ else _) = _; rw [if_neg h, if_neg h2, if_neg h3]
theorem manyQ_n {op : Int} (h : ¬ acc.length = 1) : manyQ op acc = .mk (opH op) acc := by
  match acc, h with
  | [], _ => rfl
  | [_], h => exact absurd rfl h
  | _ :: _ :: _, _ => rfl
/-- what is read lies behind where it began, and in the text -/
theorem leaf_inv {x : Q × Nat} (_ : i ≤ s.length) (h : leafP s i = .ok x) : i < x.2 ∧ x.2 ≤ s.length := by
  have hn := nam_le s i
  unfold leafP at h
  simp only at h
  split at h
  · cases h
  · split at h
    · cases h
    · rename_i a ha
      have h1 := take_inv ha
      have hora := bl_or s a
      split at h
      · split at h
        · cases h
        · rename_i lo b hb
          have h2 := number_inv (by omega) hb
          split at h
          · cases h
          · rename_i hi' c hc
            have h3 := number_inv (by omega) hc
            simp only [Except.ok.injEq] at h; subst h; simp only; omega
      · split at h
        · cases h
        · rename_i tx b hb
          have h2 := quoted_inv hb
          have hor := bl_or s b
          split at h
          · simp only [Except.ok.injEq] at h; subst h; simp only; omega
          · split at h
            · simp only [Except.ok.injEq] at h; subst h; simp only; omega
            · split at h
              · simp only [Except.ok.injEq] at h; subst h; simp only; omega
              · split at h
                · split at h
                  · cases h
                  · rename_i e c hc
                    have h3 := small_inv hc
                    split at h
                    · cases h
                    · rename_i d hd
                      have h4 := take_inv hd
                      split at h
                      · cases h
                      · rename_i x g hg
                        have h5 := small_inv hg
                        simp only [Except.ok.injEq] at h; subst h; simp only; omega
                · simp only [Except.ok.injEq] at h; subst h; simp only; omega
def below : Tg → Nat → Nat → Prop
  | .EL _, i, j => i ≤ j
  | .BL _, i, j => i ≤ j
  | _, i, j => i < j
theorem prs_inv : ∀ (n : Nat) (t : Tg) (i : Nat) (q : Q) (j : Nat), i ≤ s.length → prs s n t i = .ok (q, j) → below t i j ∧ j ≤ s.length
  | 0, t, i, q, j, hi, h => by simp [prs] at h
  | n + 1, .E, i, q, j, hi, h => by
    cases hb : prs s n .B i with
    | error k => rw [e_err hb] at h; cases h
    | ok x =>
      obtain ⟨a, m⟩ := x
      rw [e_ok hb] at h
      have h1 := prs_inv n .B i a m hi hb
      have h2 := prs_inv n (.EL [a]) m q j h1.2 h
      simp only [below] at *; omega
  | n + 1, .EL acc, i, q, j, hi, h => by
    have hk := skip_le s i
    have hor := bl_or s (skipP s i)
    by_cases hc : bl s (skipP s i) = 124
    · cases hb : prs s n .B (skipP s i + 1) with
      | error k => rw [el_err hc hb] at h; cases h
      | ok x =>
        obtain ⟨a, m⟩ := x
        rw [el_ok hc hb] at h
        have h1 := prs_inv n .B _ a m (by omega) hb
        have h2 := prs_inv n (.EL (acc ++ [a])) m q j h1.2 h
        simp only [below] at *; omega
    · rw [el_end hc] at h
      simp only [Except.ok.injEq, Prod.mk.injEq] at h
      simp only [below]; omega
  | n + 1, .B, i, q, j, hi, h => by
    cases hb : prs s n .O i with
    | error k => rw [b_err hb] at h; cases h
    | ok x =>
      obtain ⟨a, m⟩ := x
      rw [b_ok hb] at h
      have h1 := prs_inv n .O i a m hi hb
      have h2 := prs_inv n (.BL [a]) m q j h1.2 h
      simp only [below] at *; omega
  | n + 1, .BL acc, i, q, j, hi, h => by
    have hk := skip_le s i
    by_cases hc : skipP s i = s.length ∨ bl s (skipP s i) = 124 ∨ bl s (skipP s i) = 41
    · rw [bl_end hc] at h
      simp only [Except.ok.injEq, Prod.mk.injEq] at h
      simp only [below]; omega
    · cases hb : prs s n .O (skipP s i) with
      | error k => rw [bl_err hc hb] at h; cases h
      | ok x =>
        obtain ⟨a, m⟩ := x
        rw [bl_ok hc hb] at h
        have h1 := prs_inv n .O _ a m (by omega) hb
        have h2 := prs_inv n (.BL (acc ++ [a])) m q j h1.2 h
        simp only [below] at *; omega
  | n + 1, .O, i, q, j, hi, h => by
    have hk := skip_le s i
    have hor := bl_or s (skipP s i)
    by_cases h45 : bl s (skipP s i) = 45
    · cases hb : prs s n .O (skipP s i + 1) with
      | error k => rw [o_not_err h45 hb] at h; cases h
      | ok x =>
        obtain ⟨a, m⟩ := x
        rw [o_not h45 hb] at h
        have h1 := prs_inv n .O _ a m (by omega) hb
        simp only [Except.ok.injEq, Prod.mk.injEq] at h
        simp only [below] at *; omega
    · by_cases h40 : bl s (skipP s i) = 40
      · cases hb : prs s n .E (skipP s i + 1) with
        | error k => rw [o_par_err h40 hb] at h; cases h
        | ok x =>
          obtain ⟨a, m⟩ := x
          have h1 := prs_inv n .E _ a m (by omega) hb
          cases ht : takeP s 41 m with
          | error k => rw [o_par_err2 h40 hb ht] at h; cases h
          | ok m2 =>
            rw [o_par h40 hb ht] at h
            have h2 := take_inv ht
            simp only [Except.ok.injEq, Prod.mk.injEq] at h
            simp only [below] at *; omega
      · by_cases h42 : bl s (skipP s i) = 42
        · rw [o_all h42] at h
          simp only [Except.ok.injEq, Prod.mk.injEq] at h
          simp only [below]; omega
        · rw [o_leaf h45 h40 h42] at h
          have := leaf_inv (by omega) h
          simp only [below] at *; omega
/-- what is read is small -/
theorem quoted_len {x : List UInt8} {k : Nat} (h : quotedP s i = .ok (x, k)) : x.length + i + 1 < k := by
  unfold quotedP at h
  split at h
  · cases h
  · rename_i j hj
    have h1 := take_inv hj
    have h2 := quote_le _ _ _ _ h
    simp only [List.length_nil] at h2
    omega
theorem leaf_bulk {x : Q × Nat} (h : leafP s i = .ok x) : bulkQ x.1 ≤ x.2 - i := by
  have hn := nam_le s i
  have hnm : ∀ h : Hd, bulkQ (.mk h []) = h.field.length + h.text.length + 1 := fun h => by rw [bulkQ_mk]; simp [bulkL]
  have hl : ((s.take (namE s i)).drop i).length ≤ namE s i - i := by rw [List.length_drop, List.length_take]; omega
  unfold leafP at h
  simp only at h
  split at h
  · cases h
  · split at h
    · cases h
    · rename_i a ha
      have h1 := take_inv ha
      have hora := bl_or s a
      split at h
      · split at h
        · cases h
        · rename_i lo b hb
          have h2 := number_inv (by omega) hb
          split at h
          · cases h
          · rename_i hi' c hc
            have h3 := number_inv (by omega) hc
            simp only [Except.ok.injEq] at h; subst h; simp only [hnm, List.length_nil]; omega
      · split at h
        · cases h
        · rename_i tx b hb
          have h2 := quoted_len hb
          split at h
          · simp only [Except.ok.injEq] at h; subst h; simp only [hnm]; omega
          · split at h
            · simp only [Except.ok.injEq] at h; subst h; simp only [hnm]; omega
            · split at h
              · simp only [Except.ok.injEq] at h; subst h; simp only [hnm]; omega
              · split at h
                · split at h
                  · cases h
                  · rename_i e c hc
                    have h3 := small_inv hc
                    split at h
                    · cases h
                    · rename_i d hd
                      have h4 := take_inv hd
                      split at h
                      · cases h
                      · rename_i x g hg
                        have h5 := small_inv hg
                        simp only [Except.ok.injEq] at h; subst h; simp only [hnm]; omega
                · simp only [Except.ok.injEq] at h; subst h; simp only [hnm]; omega
theorem many_bulk {op : Int} (h : acc ≠ []) : bulkQ (manyQ op acc) + 1 ≤ bulkL acc + acc.length := by
  match acc, h with
  | [q], _ => simp [manyQ, bulkL]
  | _ :: _ :: _, _ => rw [manyQ_n (by simp), bulkQ_mk]; show bulkL _ + 0 + 0 + 1 + 1 ≤ _; simp only [List.length_cons]; omega
theorem bulk_snoc (acc : List Q) (q : Q) : bulkL (acc ++ [q]) + (acc ++ [q]).length = bulkL acc + acc.length + (bulkQ q + 1) := by rw [bulkL_app]; simp [bulkL]; omega
def bulkB : Tg → Nat → Nat → Nat
  | .EL acc, i, j => bulkL acc + acc.length + 2 * (j - i)
  | .BL acc, i, j => bulkL acc + acc.length + 2 * (j - i)
  | _, i, j => 2 * (j - i)
def filled : Tg → Prop
  | .EL acc => acc ≠ []
  | .BL acc => acc ≠ []
  | _ => True
theorem prs_bulk : ∀ (n : Nat) (t : Tg) (i : Nat) (q : Q) (j : Nat), i ≤ s.length → filled t → prs s n t i = .ok (q, j) → bulkQ q + 1 ≤ bulkB t i j
  | 0, t, i, q, j, hi, _, h => by simp [prs] at h
  | n + 1, .E, i, q, j, hi, _, h => by
    cases hb : prs s n .B i with
    | error k => rw [e_err hb] at h; cases h
    | ok x =>
      obtain ⟨a, m⟩ := x
      rw [e_ok hb] at h
      have g1 := prs_inv n .B i a m hi hb
      have g2 := prs_inv n (.EL [a]) m q j g1.2 h
      have h1 := prs_bulk n .B i a m hi trivial hb
      have h2 := prs_bulk n (.EL [a]) m q j g1.2 (by simp [filled]) h
      simp only [below, bulkB, bulkL, List.length_cons, List.length_nil] at *; omega
  | n + 1, .EL acc, i, q, j, hi, hf, h => by
    have hk := skip_le s i
    have hor := bl_or s (skipP s i)
    by_cases hc : bl s (skipP s i) = 124
    · cases hb : prs s n .B (skipP s i + 1) with
      | error k => rw [el_err hc hb] at h; cases h
      | ok x =>
        obtain ⟨a, m⟩ := x
        rw [el_ok hc hb] at h
        have g1 := prs_inv n .B _ a m (by omega) hb
        have g2 := prs_inv n (.EL (acc ++ [a])) m q j g1.2 h
        have h1 := prs_bulk n .B _ a m (by omega) trivial hb
        have h2 := prs_bulk n (.EL (acc ++ [a])) m q j g1.2 (by simp [filled]) h
        have h3 := bulk_snoc acc a
        simp only [below, bulkB] at *; omega
    · rw [el_end hc] at h
      simp only [Except.ok.injEq, Prod.mk.injEq] at h
      have := many_bulk (op := 8) hf
      simp only [bulkB]; rw [← h.1]; omega
  | n + 1, .B, i, q, j, hi, _, h => by
    cases hb : prs s n .O i with
    | error k => rw [b_err hb] at h; cases h
    | ok x =>
      obtain ⟨a, m⟩ := x
      rw [b_ok hb] at h
      have g1 := prs_inv n .O i a m hi hb
      have g2 := prs_inv n (.BL [a]) m q j g1.2 h
      have h1 := prs_bulk n .O i a m hi trivial hb
      have h2 := prs_bulk n (.BL [a]) m q j g1.2 (by simp [filled]) h
      simp only [below, bulkB, bulkL, List.length_cons, List.length_nil] at *; omega
  | n + 1, .BL acc, i, q, j, hi, hf, h => by
    have hk := skip_le s i
    by_cases hc : skipP s i = s.length ∨ bl s (skipP s i) = 124 ∨ bl s (skipP s i) = 41
    · rw [bl_end hc] at h
      simp only [Except.ok.injEq, Prod.mk.injEq] at h
      have := many_bulk (op := 7) hf
      simp only [bulkB]; rw [← h.1]; omega
    · cases hb : prs s n .O (skipP s i) with
      | error k => rw [bl_err hc hb] at h; cases h
      | ok x =>
        obtain ⟨a, m⟩ := x
        rw [bl_ok hc hb] at h
        have g1 := prs_inv n .O _ a m (by omega) hb
        have g2 := prs_inv n (.BL (acc ++ [a])) m q j g1.2 h
        have h1 := prs_bulk n .O _ a m (by omega) trivial hb
        have h2 := prs_bulk n (.BL (acc ++ [a])) m q j g1.2 (by simp [filled]) h
        have h3 := bulk_snoc acc a
        simp only [below, bulkB] at *; omega
  | n + 1, .O, i, q, j, hi, _, h => by
    have hk := skip_le s i
    have hor := bl_or s (skipP s i)
    by_cases h45 : bl s (skipP s i) = 45
    · cases hb : prs s n .O (skipP s i + 1) with
      | error k => rw [o_not_err h45 hb] at h; cases h
      | ok x =>
        obtain ⟨a, m⟩ := x
        rw [o_not h45 hb] at h
        have g1 := prs_inv n .O _ a m (by omega) hb
        have h1 := prs_bulk n .O _ a m (by omega) trivial hb
        simp only [Except.ok.injEq, Prod.mk.injEq] at h
        rw [← h.1, bulkQ_mk]
        simp only [below, bulkB, bulkL, opH, List.length_nil] at *; omega
    · by_cases h40 : bl s (skipP s i) = 40
      · cases hb : prs s n .E (skipP s i + 1) with
        | error k => rw [o_par_err h40 hb] at h; cases h
        | ok x =>
          obtain ⟨a, m⟩ := x
          have g1 := prs_inv n .E _ a m (by omega) hb
          have h1 := prs_bulk n .E _ a m (by omega) trivial hb
          cases ht : takeP s 41 m with
          | error k => rw [o_par_err2 h40 hb ht] at h; cases h
          | ok m2 =>
            rw [o_par h40 hb ht] at h
            have h2 := take_inv ht
            simp only [Except.ok.injEq, Prod.mk.injEq] at h
            rw [← h.1]
            simp only [below, bulkB] at *; omega
      · by_cases h42 : bl s (skipP s i) = 42
        · rw [o_all h42] at h
          simp only [Except.ok.injEq, Prod.mk.injEq] at h
          rw [← h.1, bulkQ_mk]
          simp only [bulkB, bulkL, List.length_nil]; omega
        · rw [o_leaf h45 h40 h42] at h
          have g1 := leaf_inv (by omega) h
          have := leaf_bulk h
          simp only [bulkB] at *; omega
/-- the ways a query's text goes -/
theorem parse_long (h : 8192 < s.length) : parseQ s = (q0, 0, 4) := by unfold parseQ; rw [if_pos h]
theorem parse_err (h : ¬ 8192 < s.length) (hp : prs s (fuel s) .E 0 = .error k) : parseQ s = (q0, k, 21) := by unfold parseQ; rw [if_neg h, hp]
theorem parse_more {j : Nat} (h : ¬ 8192 < s.length) (hp : prs s (fuel s) .E 0 = .ok (q, j)) (hm : skipP s j < s.length) : parseQ s = (q0, skipP s j, 21) := by unfold parseQ; rw [if_neg h, hp]; simp only; rw [if_pos hm]
theorem parse_bad {j : Nat} (h : ¬ 8192 < s.length) (hp : prs s (fuel s) .E 0 = .ok (q, j)) (hm : ¬ skipP s j < s.length) (hc : ¬ checkQ q = 0) : parseQ s = (q0, 0, checkQ q) := by unfold parseQ; rw [if_neg h, hp]; simp only; rw [if_neg hm, if_neg hc]
theorem parse_ok {j : Nat} (h : ¬ 8192 < s.length) (hp : prs s (fuel s) .E 0 = .ok (q, j)) (hm : ¬ skipP s j < s.length) (hc : checkQ q = 0) : parseQ s = (q, 0, 0) := by unfold parseQ; rw [if_neg h, hp]; simp only; rw [if_neg hm, if_pos hc]
end Go.SynP

namespace Go.SynP
set_option linter.unusedVariables false
open Go Go.Gw Go.UtfP Go.TokP Go.QryP Go.RealP Go.RealQ

/-- s stands in t from p on; behind it stands nothing, a blank or a bracket; behind blanks nothing or a bracket -/
structure Emb (s t : List UInt8) (p : Nat) : Prop where
  tail : ∀ i, i ≤ s.length → ∃ b, t.drop (i + p) = s.drop i ++ b
  behind : bl t (s.length + p) = 0 ∨ bl t (s.length + p) = 32 ∨ bl t (s.length + p) = 41
  stop : skipP t (s.length + p) = t.length ∨ bl t (skipP t (s.length + p)) = 41
  len : s.length + p ≤ t.length

theorem getD_drop (l : List UInt8) (i k : Nat) : (l.drop i).getD k 0 = l.getD (i + k) 0 := by
  rw [List.getD_eq_getElem?_getD, List.getD_eq_getElem?_getD, List.getElem?_drop]
theorem skip_at (s : List UInt8) : ∀ (n i : Nat), s.length - i ≤ n → ¬ (skipP s i < s.length ∧ bl s (skipP s i) = 32)
  | 0, i, h => by
    rw [skip_stop (by omega)]; omega
  | n + 1, i, h => by
    by_cases hc : i < s.length ∧ bl s i = 32
    · rw [skip_go hc.1 hc.2]; exact skip_at s n (i + 1) (by omega)
    · rw [skip_stop hc]; exact hc
theorem skip_idem (s : List UInt8) (i : Nat) : skipP s (skipP s i) = skipP s i := skip_stop (skip_at s _ i (Nat.le_refl _))

variable {s t : List UInt8} {p : Nat}
theorem Emb.get (E : Emb s t p) {i : Nat} (h : i < s.length) : t.getD (i + p) 0 = s.getD i 0 := by
  obtain ⟨b, hb⟩ := E.tail i (by omega)
  have h1 : (t.drop (i + p)).getD 0 0 = (s.drop i ++ b).getD 0 0 := by rw [hb]
  rw [getD_drop, Nat.add_zero] at h1
  rw [h1, List.getD_eq_getElem?_getD, List.getElem?_append_left (by simp; omega), ← List.getD_eq_getElem?_getD, getD_drop, Nat.add_zero]
theorem Emb.bl (E : Emb s t p) {i : Nat} (h : i < s.length) : Gw.bl t (i + p) = Gw.bl s i := by
  unfold Gw.bl; rw [E.get h]
theorem Emb.sub (E : Emb s t p) {i j : Nat} (h : j ≤ s.length) (hi : i ≤ j) : (t.take (j + p)).drop (i + p) = (s.take j).drop i := by
  obtain ⟨b, hb⟩ := E.tail i (by omega)
  rw [List.drop_take, List.drop_take, hb, show j + p - (i + p) = j - i by omega, List.take_append_of_le_length (by simp; omega)]
theorem Emb.skip (E : Emb s t p) : ∀ (n i : Nat), s.length - i ≤ n → i ≤ s.length → (skipP s i < s.length ∧ skipP t (i + p) = skipP s i + p) ∨ (skipP s i = s.length ∧ skipP t (i + p) = skipP t (s.length + p))
  | 0, i, h, hi => by
    have e : i = s.length := by omega
    subst e
    exact .inr ⟨skip_stop (by omega), rfl⟩
  | n + 1, i, h, hi => by
    have hl := E.len
    rcases Nat.lt_or_ge i s.length with g | g
    · by_cases hb : Gw.bl s i = 32
      · rw [skip_go g hb, skip_go (s := t) (i := i + p) (by omega) ((E.bl g).trans hb), show i + p + 1 = i + 1 + p by omega]
        exact E.skip n (i + 1) (by omega) (by omega)
      · rw [skip_stop (s := s) (by omega), skip_stop (s := t) (by rw [E.bl g]; omega)]
        exact .inl ⟨g, rfl⟩
    · exact E.skip 0 i (by omega) hi
/-- a place in s, and the place in t that says the same -/
def Rel (s t : List UInt8) (p j k : Nat) : Prop := k = j + p ∨ (j = s.length ∧ k = skipP t (s.length + p))
theorem Emb.to (E : Emb s t p) {i k : Nat} (hi : i ≤ s.length) (h : Rel s t p i k) : (skipP s i < s.length ∧ skipP t k = skipP s i + p) ∨ (skipP s i = s.length ∧ skipP t k = skipP t (s.length + p)) := by
  rcases h with rfl | ⟨rfl, rfl⟩
  · exact E.skip _ i (Nat.le_refl _) hi
  · exact .inr ⟨skip_stop (by omega), skip_idem _ _⟩
theorem Emb.stop0 (E : Emb s t p) : Gw.bl t (skipP t (s.length + p)) = 0 ∨ Gw.bl t (skipP t (s.length + p)) = 41 := by
  rcases E.stop with h | h
  · rw [h]; exact .inl (bl_out (by omega))
  · exact .inr h
theorem Emb.take (E : Emb s t p) {c : Int} {i a : Nat} (h : takeP s c i = .ok a) : takeP t c (i + p) = .ok (a + p) := by
  obtain ⟨rfl, h1, h2⟩ := take_inv h
  have := E.len
  rw [take_ok (s := t) (i := i + p) (by omega) ((E.bl h1).trans h2), show i + p + 1 = i + 1 + p by omega]
theorem Emb.nam (E : Emb s t p) : ∀ (n i : Nat), s.length - i ≤ n → i ≤ s.length → namE t (i + p) = namE s i + p
  | 0, i, h, hi => by
    have e : i = s.length := by omega
    subst e
    rw [nam_stop (s := s) (by rw [bl_out (by omega)]; rfl), nam_stop]
    rcases E.behind with h | h | h <;> rw [h] <;> rfl
  | n + 1, i, h, hi => by
    rcases Nat.lt_or_ge i s.length with g | g
    · cases hl : letterP (Gw.bl s i) with
      | true => rw [nam_go hl, nam_go (s := t) (i := i + p) (by rw [E.bl g]; exact hl), show i + p + 1 = i + 1 + p by omega]; exact E.nam n (i + 1) (by omega) (by omega)
      | false => rw [nam_stop hl, nam_stop (s := t) (by rw [E.bl g]; exact hl)]
    · exact E.nam 0 i (by omega) hi
theorem Emb.quote (E : Emb s t p) : ∀ (n m j : Nat) (acc x : List UInt8) (k : Nat), n ≤ m → quoteL s n j acc = .ok (x, k) → quoteL t m (j + p) acc = .ok (x, k + p)
  | 0, m, j, acc, x, k, _, h => by simp [quoteL] at h
  | n + 1, m, j, acc, x, k, hm, h => by
    obtain ⟨m, rfl⟩ : ∃ m', m = m' + 1 := ⟨m - 1, by omega⟩
    have hl := E.len
    by_cases h0 : j < s.length
    · by_cases h1 : Gw.bl s j = 34
      · rw [quote_close h1] at h
        simp only [Except.ok.injEq, Prod.mk.injEq] at h
        rw [quote_close (by rw [E.bl h0]; exact h1), ← h.1, ← h.2, show j + p + 1 = j + 1 + p by omega]
      · by_cases h2 : Gw.bl s j = 92
        · by_cases h3 : Gw.bl s (j + 1) = 34 ∨ Gw.bl s (j + 1) = 92
          · have h4 := bl_in (s := s) (i := j + 1) (by omega)
            rw [quote_esc h2 h3] at h
            rw [quote_esc (by rw [E.bl h0]; exact h2) (by rw [show j + p + 1 = j + 1 + p by omega, E.bl h4]; exact h3), show j + p + 1 = j + 1 + p by omega, E.get h4, show j + p + 2 = j + 2 + p by omega]
            exact E.quote n m _ _ _ _ (by omega) h
          · rw [quote_bad h2 (fun g => h3 (.inl g)) (fun g => h3 (.inr g))] at h; cases h
        · rw [quote_byte h0 h1 h2] at h
          rw [quote_byte (by omega) (by rw [E.bl h0]; exact h1) (by rw [E.bl h0]; exact h2), E.get h0, show j + p + 1 = j + 1 + p by omega]
          exact E.quote n m _ _ _ _ (by omega) h
    · rw [quote_end h0] at h; cases h
theorem Emb.quoted (E : Emb s t p) {i k : Nat} {x : List UInt8} (h : quotedP s i = .ok (x, k)) : quotedP t (i + p) = .ok (x, k + p) := by
  unfold quotedP at h ⊢
  split at h
  · cases h
  · rename_i j hj
    rw [E.take hj]
    have := E.len
    exact E.quote _ _ _ _ _ _ (by omega) h
theorem Emb.small (E : Emb s t p) {i k : Nat} {x : Int} (h : smallP s i = .ok (x, k)) : smallP t (i + p) = .ok (x, k + p) := by
  by_cases h1 : 48 ≤ Gw.bl s i ∧ Gw.bl s i ≤ 57
  · have hi := bl_in (s := s) (i := i) (by omega)
    have e1 := E.bl hi
    by_cases h2 : 48 ≤ Gw.bl s (i + 1) ∧ Gw.bl s (i + 1) ≤ 57
    · have e2 := E.bl (bl_in (s := s) (i := i + 1) (by omega))
      rw [show i + 1 + p = i + p + 1 by omega] at e2
      rw [small_two h1 h2] at h; simp only [Except.ok.injEq, Prod.mk.injEq] at h
      rw [small_two (by rw [e1]; exact h1) (by rw [e2]; exact h2), e1, e2, h.1, ← h.2, show i + p + 2 = i + 2 + p by omega]
    · rw [small_one h1 h2] at h; simp only [Except.ok.injEq, Prod.mk.injEq] at h
      rw [small_one (by rw [e1]; exact h1) (by
        rcases Nat.lt_or_ge (i + 1) s.length with g | g
        · have e2 := E.bl g; rw [show i + 1 + p = i + p + 1 by omega] at e2; rw [e2]; exact h2
        · have hb := E.behind; rw [show s.length + p = i + p + 1 by omega] at hb; omega), e1, h.1, ← h.2, show i + p + 1 = i + 1 + p by omega]
  · rw [small_none h1] at h; cases h
theorem index_app : ∀ (l b : List UInt8) (c : UInt8) (m : Nat), Lib.indexByte l c = (m : Int) → Lib.indexByte (l ++ b) c = (m : Int)
  | [], b, c, m, h => by simp [Lib.indexByte] at h
  | x :: l, b, c, m, h => by
    unfold Lib.indexByte at h
    rw [List.cons_append]
    unfold Lib.indexByte
    split at h
    · rename_i g; rw [if_pos g]; exact h
    · rename_i g
      rw [if_neg g]
      split at h
      · omega
      · rename_i g2
        have g3 := Lib.indexByte_ge l c
        have g4 : ¬ Lib.indexByte l c = -1 := fun e => g2 (by simp [e])
        have ih := index_app l b c (Lib.indexByte l c).toNat (by omega)
        rw [ih, if_neg (by simp; omega)]; omega
theorem Emb.number (E : Emb s t p) {i k v : Nat} {c : Int} (hi : i ≤ s.length) (h : numberP s c i = .ok (v, k)) : numberP t c (i + p) = .ok (v, k + p) := by
  rcases index_cases (s.drop i) c.toNat.toUInt8 with hx | ⟨m, hx, hm⟩
  · rw [number_none hx] at h; cases h
  · rw [List.length_drop] at hm
    obtain ⟨b, hb⟩ := E.tail i hi
    have hy : Lib.indexByte (t.drop (i + p)) c.toNat.toUInt8 = ((m : Nat) : Int) := by rw [hb]; exact index_app _ _ _ _ hx
    rw [number_eq hx] at h
    rw [number_eq hy, show i + p + m = i + m + p by omega, E.sub (by omega) (by omega), show i + m + p + 1 = i + m + 1 + p by omega]
    split at h
    · rename_i g; simp only [Except.ok.injEq, Prod.mk.injEq] at h; rw [h.1, ← h.2]
    · rename_i g
      split at h
      · rename_i g2; simp only [Except.ok.injEq, Prod.mk.injEq] at h; simp only [if_pos g2, h.1, ← h.2]
      · cases h
end Go.SynP
namespace Go.SynP
open Go Go.Gw Go.UtfP Go.TokP Go.QryP Go.RealP Go.RealQ
variable {s t : List UInt8} {p : Nat}
theorem Emb.same (E : Emb s t p) {i : Nat} (h : i ≤ s.length) {c : Int} (h0 : c ≠ 0) (h1 : c ≠ 32) (h2 : c ≠ 41) : Gw.bl t (i + p) = c ↔ Gw.bl s i = c := by
  rcases Nat.lt_or_ge i s.length with g | g
  · rw [E.bl g]
  · have e : i = s.length := by omega
    subst e
    have hb := E.behind
    rw [bl_out (s := s) (i := s.length) (by omega)]
    constructor <;> intro hh <;> omega
theorem Emb.leaf (E : Emb s t p) {i : Nat} {x : Q × Nat} (hi : i ≤ s.length) (h : leafP s i = .ok x) : leafP t (i + p) = .ok (x.1, x.2 + p) := by
  unfold leafP at h ⊢
  simp only at h ⊢
  rw [E.nam _ i (Nat.le_refl _) hi]
  have hn := nam_le s i
  have hn2 := hn.2 hi
  split at h
  · cases h
  · rename_i g
    rw [if_neg (by omega)]
    split at h
    · cases h
    · rename_i a ha
      have h1 := take_inv ha
      rw [E.take ha]
      simp only
      rw [E.sub hn2 hn.1]
      have s91 := E.same (i := a) (c := 91) (by omega) (by decide) (by decide) (by decide)
      split at h
      · rename_i h91
        rw [if_pos (s91.2 h91)]
        have ha2 := bl_in (s := s) (i := a) (by omega)
        split at h
        · cases h
        · rename_i lo b hb
          have hb2 := number_inv (i := a + 1) (by omega) hb
          rw [show a + p + 1 = a + 1 + p by omega, E.number (by omega) hb]
          simp only
          split at h
          · cases h
          · rename_i hi_ c hc
            simp only [Except.ok.injEq] at h
            rw [E.number (by omega) hc, ← h]
      · rename_i h91
        rw [if_neg (fun g => h91 (s91.1 g))]
        split at h
        · cases h
        · rename_i tx b hb
          have hb2 := quoted_inv hb
          rw [E.quoted hb]
          simp only
          have s1 := E.same (i := b) (c := 42) (by omega) (by decide) (by decide) (by decide)
          have s2 := E.same (i := b) (c := 63) (by omega) (by decide) (by decide) (by decide)
          have s3 := E.same (i := b) (c := 43) (by omega) (by decide) (by decide) (by decide)
          have s4 := E.same (i := b) (c := 126) (by omega) (by decide) (by decide) (by decide)
          split at h
          · rename_i g1; simp only [Except.ok.injEq] at h; rw [if_pos (s1.2 g1), ← h, show b + p + 1 = b + 1 + p by omega]
          · rename_i g1; rw [if_neg (fun z => g1 (s1.1 z))]
            split at h
            · rename_i g2; simp only [Except.ok.injEq] at h; rw [if_pos (s2.2 g2), ← h, show b + p + 1 = b + 1 + p by omega]
            · rename_i g2; rw [if_neg (fun z => g2 (s2.1 z))]
              split at h
              · rename_i g3; simp only [Except.ok.injEq] at h; rw [if_pos (s3.2 g3), ← h, show b + p + 1 = b + 1 + p by omega]
              · rename_i g3; rw [if_neg (fun z => g3 (s3.1 z))]
                split at h
                · rename_i g4; rw [if_pos (s4.2 g4)]
                  split at h
                  · cases h
                  · rename_i e c hc
                    rw [show b + p + 1 = b + 1 + p by omega, E.small hc]
                    simp only
                    split at h
                    · cases h
                    · rename_i d hd
                      rw [E.take hd]
                      simp only
                      split at h
                      · cases h
                      · rename_i x g hg
                        simp only [Except.ok.injEq] at h
                        rw [E.small hg, ← h]
                · rename_i g4; simp only [Except.ok.injEq] at h; rw [if_neg (fun z => g4 (s4.1 z)), ← h]
/-- what s is read as, t is read as -/
theorem Emb.prs (E : Emb s t p) : ∀ (n m : Nat) (g : Tg) (i k : Nat) (q : Q) (j : Nat), n ≤ m → i ≤ s.length → Rel s t p i k → prs s n g i = .ok (q, j) → ∃ l, SynP.prs t m g k = .ok (q, l) ∧ Rel s t p j l
  | 0, m, g, i, k, q, j, _, _, _, h => by simp [SynP.prs] at h
  | n + 1, m, g, i, k, q, j, hm, hi, hr, h => by
    obtain ⟨m, rfl⟩ : ∃ m', m = m' + 1 := ⟨m - 1, by omega⟩
    have hk := skip_le s i
    have hor := bl_or s (skipP s i)
    have hl := E.len
    have hst := E.stop
    have hst0 := E.stop0
    have hto := E.to hi hr
    have hin : ∀ c, c ≠ 0 → c ≠ 41 → (Gw.bl t (skipP t k) = c ↔ Gw.bl s (skipP s i) = c) := by
      intro c c0 c1
      rcases hto with ⟨g1, g2⟩ | ⟨g1, g2⟩
      · rw [g2, E.bl g1]
      · rw [g1, g2, bl_out (s := s) (i := s.length) (by omega)]; constructor <;> intro hh <;> omega
    match g with
    | .E =>
      cases hb : SynP.prs s n .B i with
      | error k => rw [e_err hb] at h; cases h
      | ok x =>
        obtain ⟨a, b⟩ := x
        rw [e_ok hb] at h
        have h1 := prs_inv n .B i a b hi hb
        obtain ⟨l1, h2, h3⟩ := E.prs n m .B i k a b (by omega) hi hr hb
        rw [e_ok h2]
        exact E.prs n m (.EL [a]) b l1 q j (by omega) h1.2 h3 h
    | .EL acc =>
      by_cases hc : Gw.bl s (skipP s i) = 124
      · cases hb : SynP.prs s n .B (skipP s i + 1) with
        | error k => rw [el_err hc hb] at h; cases h
        | ok x =>
          obtain ⟨a, b⟩ := x
          rw [el_ok hc hb] at h
          have h1 := prs_inv n .B _ a b (by omega) hb
          obtain ⟨l1, h2, h3⟩ := E.prs n m .B _ (skipP t k + 1) a b (by omega) (by omega) (.inl (by omega)) hb
          rw [el_ok ((hin 124 (by decide) (by decide)).2 hc) h2]
          exact E.prs n m (.EL (acc ++ [a])) b l1 q j (by omega) h1.2 h3 h
      · rw [el_end hc] at h
        simp only [Except.ok.injEq, Prod.mk.injEq] at h
        rw [el_end (fun g => hc ((hin 124 (by decide) (by decide)).1 g)), ← h.1, ← h.2]
        exact ⟨_, rfl, by rcases hto with g | g; exact .inl g.2; exact .inr g⟩
    | .B =>
      cases hb : SynP.prs s n .O i with
      | error k => rw [b_err hb] at h; cases h
      | ok x =>
        obtain ⟨a, b⟩ := x
        rw [b_ok hb] at h
        have h1 := prs_inv n .O i a b hi hb
        obtain ⟨l1, h2, h3⟩ := E.prs n m .O i k a b (by omega) hi hr hb
        rw [b_ok h2]
        exact E.prs n m (.BL [a]) b l1 q j (by omega) h1.2 h3 h
    | .BL acc =>
      by_cases hc : skipP s i = s.length ∨ Gw.bl s (skipP s i) = 124 ∨ Gw.bl s (skipP s i) = 41
      · rw [bl_end hc] at h
        simp only [Except.ok.injEq, Prod.mk.injEq] at h
        rw [bl_end, ← h.1, ← h.2]
        · exact ⟨_, rfl, by rcases hto with g | g; exact .inl g.2; exact .inr g⟩
        · rcases hto with ⟨g1, g2⟩ | ⟨g1, g2⟩
          · rw [g2, E.bl g1]
            rcases hc with hc | hc | hc
            · omega
            · exact .inr (.inl hc)
            · exact .inr (.inr hc)
          · rw [g2]; rcases hst with hh | hh
            · exact .inl hh
            · exact .inr (.inr hh)
      · have hlt : skipP s i < s.length := by omega
        have g2 : skipP t k = skipP s i + p := by rcases hto with g | g; exact g.2; omega
        cases hb : SynP.prs s n .O (skipP s i) with
        | error k => rw [bl_err hc hb] at h; cases h
        | ok x =>
          obtain ⟨a, b⟩ := x
          rw [bl_ok hc hb] at h
          have h1 := prs_inv n .O _ a b (by omega) hb
          obtain ⟨l1, h2, h3⟩ := E.prs n m .O _ (skipP t k) a b (by omega) (by omega) (.inl g2) hb
          rw [bl_ok (by rw [g2, E.bl hlt]; omega) h2]
          exact E.prs n m (.BL (acc ++ [a])) b l1 q j (by omega) h1.2 h3 h
    | .O =>
      by_cases h45 : Gw.bl s (skipP s i) = 45
      · cases hb : SynP.prs s n .O (skipP s i + 1) with
        | error k => rw [o_not_err h45 hb] at h; cases h
        | ok x =>
          obtain ⟨a, b⟩ := x
          rw [o_not h45 hb] at h
          simp only [Except.ok.injEq, Prod.mk.injEq] at h
          obtain ⟨l1, h2, h3⟩ := E.prs n m .O _ (skipP t k + 1) a b (by omega) (by omega) (.inl (by omega)) hb
          rw [o_not ((hin 45 (by decide) (by decide)).2 h45) h2, ← h.1, ← h.2]
          exact ⟨_, rfl, h3⟩
      · have t45 := fun g => h45 ((hin 45 (by decide) (by decide)).1 g)
        by_cases h40 : Gw.bl s (skipP s i) = 40
        · have t40 := (hin 40 (by decide) (by decide)).2 h40
          cases hb : SynP.prs s n .E (skipP s i + 1) with
          | error k => rw [o_par_err h40 hb] at h; cases h
          | ok x =>
            obtain ⟨a, b⟩ := x
            have h1 := prs_inv n .E _ a b (by omega) hb
            obtain ⟨l1, h2, h3⟩ := E.prs n m .E _ (skipP t k + 1) a b (by omega) (by omega) (.inl (by omega)) hb
            cases ht : takeP s 41 b with
            | error k => rw [o_par_err2 h40 hb ht] at h; cases h
            | ok m2 =>
              rw [o_par h40 hb ht] at h
              simp only [Except.ok.injEq, Prod.mk.injEq] at h
              have h4 := take_inv ht
              have e : l1 = b + p := by rcases h3 with g | g; exact g; omega
              rw [e] at h2
              rw [o_par t40 h2 (E.take ht), ← h.1, ← h.2]
              exact ⟨_, rfl, .inl rfl⟩
        · have t40 := fun g => h40 ((hin 40 (by decide) (by decide)).1 g)
          by_cases h42 : Gw.bl s (skipP s i) = 42
          · rw [o_all h42] at h
            simp only [Except.ok.injEq, Prod.mk.injEq] at h
            rw [o_all ((hin 42 (by decide) (by decide)).2 h42), ← h.1, ← h.2]
            exact ⟨_, rfl, .inl (by omega)⟩
          · have t42 := fun g => h42 ((hin 42 (by decide) (by decide)).1 g)
            rw [o_leaf h45 h40 h42] at h
            have h1 := leaf_inv (by omega) h
            have g2 : skipP t k = skipP s i + p := by rcases hto with g | g; exact g.2; omega
            rw [o_leaf t45 t40 t42, g2, E.leaf (by omega) h]
            exact ⟨_, rfl, .inl rfl⟩
end Go.SynP
namespace Go.SynP
open Go Go.Gw Go.UtfP Go.TokP Go.QryP Go.RealP Go.RealQ
theorem app_drop (a s b : List UInt8) (i : Nat) (hi : i ≤ s.length) : (a ++ (s ++ b)).drop (i + a.length) = s.drop i ++ b := by
  rw [Nat.add_comm, ← List.drop_drop, List.drop_left, List.drop_append_of_le_length hi]
theorem app_bl (a s b : List UInt8) (k : Nat) : bl (a ++ (s ++ b)) (s.length + a.length + k) = bl b k := by
  unfold bl
  rw [← getD_drop, app_drop a s b _ (Nat.le_refl _), List.drop_length, List.nil_append]
theorem skip_many {t : List UInt8} : ∀ (c i : Nat), (∀ k, k < c → i + k < t.length ∧ bl t (i + k) = 32) → skipP t i = skipP t (i + c)
  | 0, i, h => rfl
  | c + 1, i, h => by
    have h0 := h 0 (by omega)
    rw [skip_go (i := i) h0.1 h0.2, skip_many c (i + 1) (fun k hk => by have := h (k + 1) (by omega); rw [show i + 1 + k = i + (k + 1) by omega]; exact this), show i + 1 + c = i + (c + 1) by omega]
theorem rep_bl (c k : Nat) (h : k < c) : bl (List.replicate c 32) k = 32 := by
  unfold bl; rw [List.getD_eq_getElem?_getD, List.getElem?_replicate, if_pos h]; rfl
theorem app_left (a r : List UInt8) (k : Nat) (h : k < a.length) : bl (a ++ r) k = bl a k := by
  unfold bl; rw [List.getD_eq_getElem?_getD, List.getElem?_append_left h, ← List.getD_eq_getElem?_getD]
theorem skip_rep_end (a s : List UInt8) (c : Nat) : skipP (a ++ (s ++ List.replicate c 32)) (s.length + a.length) = (a ++ (s ++ List.replicate c 32)).length := by
  rw [skip_many c (s.length + a.length) (fun k hk => ⟨by simp; omega, by rw [app_bl]; exact rep_bl c k hk⟩), skip_stop (by simp; omega)]
  simp; omega
theorem prs_o {t : List UInt8} {n i k : Nat} {r : Q × Nat} (e : skipP t i = skipP t k) (h : prs t n .O i = .ok r) : prs t n .O k = .ok r := by
  match n, h with
  | n + 1, h =>
    rw [← h]
    by_cases h45 : bl t (skipP t i) = 45
    · cases hb : prs t n .O (skipP t i + 1) with
      | error x => rw [o_not_err h45 hb, o_not_err (by rw [← e]; exact h45) (by rw [← e]; exact hb)]
      | ok x => rw [o_not h45 hb, o_not (by rw [← e]; exact h45) (by rw [← e]; exact hb)]
    · by_cases h40 : bl t (skipP t i) = 40
      · cases hb : prs t n .E (skipP t i + 1) with
        | error x => rw [o_par_err h40 hb, o_par_err (by rw [← e]; exact h40) (by rw [← e]; exact hb)]
        | ok x => cases ht : takeP t 41 x.2 with
          | error y => rw [o_par_err2 h40 hb ht, o_par_err2 (by rw [← e]; exact h40) (by rw [← e]; exact hb) ht]
          | ok y => rw [o_par h40 hb ht, o_par (by rw [← e]; exact h40) (by rw [← e]; exact hb) ht]
      · by_cases h42 : bl t (skipP t i) = 42
        · rw [o_all h42, o_all (by rw [← e]; exact h42), e]
        · rw [o_leaf h45 h40 h42, o_leaf (by rw [← e]; exact h45) (by rw [← e]; exact h40) (by rw [← e]; exact h42), e]
theorem prs_e {t : List UInt8} {n i k : Nat} {r : Q × Nat} (e : skipP t i = skipP t k) (h : prs t n .E i = .ok r) : prs t n .E k = .ok r := by
  match n, h with
  | 1, h => simp [prs] at h
  | n + 2, h =>
    cases ho : prs t n .O i with
    | error x => rw [e_err (b_err ho)] at h; cases h
    | ok x =>
      have ho2 := prs_o e ho
      cases hb : prs t (n + 1) .B i with
      | error y => rw [e_err hb] at h; cases h
      | ok y =>
        have hb2 : prs t (n + 1) .B k = .ok y := by rw [← hb, b_ok ho, b_ok ho2]
        rw [← h, e_ok hb, e_ok hb2]
theorem parse_zero {s : List UInt8} {q : Q} {n : Nat} (h : parseQ s = (q, n, 0)) : ¬ 8192 < s.length ∧ checkQ q = 0 ∧ n = 0 ∧ ∃ j, prs s (fuel s) .E 0 = .ok (q, j) ∧ ¬ skipP s j < s.length := by
  by_cases hl : 8192 < s.length
  · rw [parse_long hl] at h; simp at h
  · cases hp : prs s (fuel s) .E 0 with
    | error k => rw [parse_err hl hp] at h; simp at h
    | ok x =>
      obtain ⟨a, j⟩ := x
      by_cases hm : skipP s j < s.length
      · rw [parse_more hl hp hm] at h; simp at h
      · by_cases hc : checkQ a = 0
        · rw [parse_ok hl hp hm hc] at h
          simp only [Prod.mk.injEq] at h
          exact ⟨hl, by rw [← h.1]; exact hc, h.2.1.symm, j, by rw [h.1], hm⟩
        · rw [parse_bad hl hp hm hc] at h; simp only [Prod.mk.injEq] at h; exact absurd h.2.2 hc
/-- what a query's reading ends at is no blank -/
theorem prs_skip (s : List UInt8) : ∀ (n : Nat) (g : Tg) (i : Nat) (q : Q) (j : Nat), (g = .E ∨ ∃ a, g = .EL a) → prs s n g i = .ok (q, j) → skipP s j = j
  | 0, g, i, q, j, _, h => by simp [prs] at h
  | n + 1, .E, i, q, j, _, h => by
    cases hb : prs s n .B i with
    | error k => rw [e_err hb] at h; cases h
    | ok x => obtain ⟨a, m⟩ := x; rw [e_ok hb] at h; exact prs_skip s n _ m q j (.inr ⟨_, rfl⟩) h
  | n + 1, .EL acc, i, q, j, _, h => by
    by_cases hc : bl s (skipP s i) = 124
    · cases hb : prs s n .B (skipP s i + 1) with
      | error k => rw [el_err hc hb] at h; cases h
      | ok x => obtain ⟨a, m⟩ := x; rw [el_ok hc hb] at h; exact prs_skip s n _ m q j (.inr ⟨_, rfl⟩) h
    · rw [el_end hc] at h; simp only [Except.ok.injEq, Prod.mk.injEq] at h; rw [← h.2]; exact skip_idem _ _
  | n + 1, .B, i, q, j, h0, _ => by rcases h0 with h0 | ⟨_, h0⟩ <;> cases h0
  | n + 1, .BL _, i, q, j, h0, _ => by rcases h0 with h0 | ⟨_, h0⟩ <;> cases h0
  | n + 1, .O, i, q, j, h0, _ => by rcases h0 with h0 | ⟨_, h0⟩ <;> cases h0
theorem blank_about {s : List UInt8} {q : Q} {n : Nat} (h : parseQ s = (q, n, 0)) (hs : s.length ≤ 8000) (c : Nat) (hc : c ≤ 40) : parseQ (List.replicate c 32 ++ (s ++ List.replicate c 32)) = (q, 0, 0) := by
  obtain ⟨h0, h1, -, j, hp, hm⟩ := parse_zero h
  have E : Emb s (List.replicate c 32 ++ (s ++ List.replicate c 32)) c := by
    have ha : (List.replicate c (32 : UInt8)).length = c := by simp
    have e1 := app_drop (List.replicate c 32) s (List.replicate c 32)
    have e2 := app_bl (List.replicate c 32) s (List.replicate c 32) 0
    have e3 := skip_rep_end (List.replicate c 32) s c
    rw [ha] at e1 e2 e3
    refine ⟨fun i hi => ⟨_, e1 i hi⟩, ?_, .inl e3, by simp⟩
    rw [show s.length + c = s.length + c + 0 from rfl, e2]
    cases c with
    | zero => exact .inl rfl
    | succ c => exact .inr (.inl (rep_bl _ 0 (by omega)))
  have hlen : (List.replicate c (32 : UInt8) ++ (s ++ List.replicate c 32)).length = c + (s.length + c) := by simp
  obtain ⟨l, h2, h3⟩ := E.prs (fuel s) (fuel (List.replicate c 32 ++ (s ++ List.replicate c 32))) .E 0 (0 + c) q j (by unfold fuel; rw [hlen]; omega) (by omega) (.inl rfl) hp
  have h4 := prs_inv _ _ _ _ _ (by omega) hp
  have h5 := skip_le s j
  have hto := E.to h4.2 h3
  have he := skip_rep_end (List.replicate c 32) s c
  rw [show (List.replicate c (32 : UInt8)).length = c by simp] at he
  refine parse_ok (by omega) (prs_e (k := 0) (skip_many c 0 (fun k hk => ⟨by omega, by rw [Nat.zero_add, app_left _ _ _ (by simpa using hk)]; exact rep_bl c k hk⟩)).symm h2) ?_ h1
  rcases hto with g | g
  · omega
  · rw [g.2, he]; omega
theorem paren_about {s : List UInt8} {q : Q} {n : Nat} (h : parseQ s = (q, n, 0)) (hs : s.length ≤ 8000) (c : Nat) (hc : c ≤ 40) : parseQ ((40 :: List.replicate c 32) ++ (s ++ 41 :: List.replicate c 32)) = (q, 0, 0) := by
  obtain ⟨h0, h1, -, j, hp, hm⟩ := parse_zero h
  generalize ht : (40 :: List.replicate c 32) ++ (s ++ 41 :: List.replicate c 32) = t
  have ha : ((40 : UInt8) :: List.replicate c 32).length = c + 1 := by simp
  have hlen : t.length = c + 1 + (s.length + (c + 1)) := by rw [← ht]; simp; omega
  have e1 := app_drop (40 :: List.replicate c 32) s (41 :: List.replicate c 32)
  have e2 := app_bl (40 :: List.replicate c 32) s (41 :: List.replicate c 32)
  rw [ha, ht] at e1 e2
  have e41 : bl t (s.length + (c + 1)) = 41 := e2 0
  have est : skipP t (s.length + (c + 1)) = s.length + (c + 1) := skip_stop (by omega)
  have E : Emb s t (c + 1) := ⟨fun i hi => ⟨_, e1 i hi⟩, .inr (.inr e41), .inr (by rw [est]; exact e41), by omega⟩
  obtain ⟨l, h2, h3⟩ := E.prs (fuel s) (fuel s) .E 0 (0 + (c + 1)) q j (Nat.le_refl _) (by omega) (.inl rfl) hp
  have h4 := prs_inv _ _ _ _ _ (by omega) hp
  have hj := prs_skip s _ _ _ _ _ (.inl rfl) hp
  have h5 := skip_le s j
  have el : l = s.length + (c + 1) := by rcases h3 with g | g; omega; rw [g.2, est]
  subst el
  have hE : ∀ m, fuel s ≤ m → prs t m .E 1 = .ok (q, s.length + (c + 1)) := by
    intro m hm2
    obtain ⟨l, h6, h7⟩ := E.prs (fuel s) m .E 0 (0 + (c + 1)) q j hm2 (by omega) (.inl rfl) hp
    have el : l = s.length + (c + 1) := by rcases h7 with g | g; omega; rw [g.2, est]
    rw [el] at h6
    refine prs_e ?_ h6
    rw [Nat.zero_add, Nat.add_comm c 1]
    refine (skip_many c 1 (fun k hk => ⟨by omega, ?_⟩)).symm
    rw [← ht, app_left _ _ _ (by simp; omega)]
    rw [Nat.add_comm 1 k]; exact rep_bl c k hk
  have hz : bl t 0 = 40 := by rw [← ht]; rfl
  have hs0 : skipP t 0 = 0 := skip_stop (by omega)
  have hend : skipP t (s.length + (c + 1) + 1) = t.length := by
    rw [skip_many c _ (fun k hk => ⟨by omega, by rw [Nat.add_assoc, e2, Nat.add_comm 1 k]; exact rep_bl c k hk⟩), skip_stop (by omega)]; omega
  obtain ⟨m, hm2⟩ : ∃ m, fuel t = m + 4 := ⟨fuel t - 4, by unfold fuel; omega⟩
  have hfm : fuel s ≤ m + 1 := by unfold fuel at hm2 ⊢; omega
  have hO : prs t (m + 2) .O 0 = .ok (q, s.length + (c + 1) + 1) := o_par (by rw [hs0]; exact hz) (by rw [hs0]; exact hE (m + 1) hfm) (take_ok (by omega) e41)
  have hB : prs t (m + 3) .B 0 = .ok (q, t.length) := by
    rw [b_ok hO, bl_end (.inl hend), hend]; rfl
  have hst : skipP t t.length = t.length := skip_stop (by omega)
  refine parse_ok (j := t.length) (by omega) ?_ (by omega) h1
  rw [hm2, e_ok hB, el_end (by rw [hst, bl_out (by omega)]; decide), hst]; rfl
end Go.SynP

set_option linter.unusedVariables false
set_option linter.unusedSimpArgs false
namespace Go.SynP
open Go Go.Gw Go.UtfP Go.TokP Go.QryP Go.RealP Go.RealQ

/-- s stands in t from i on -/
def At (t : List UInt8) (i : Nat) (s : List UInt8) : Prop := ∃ b, t.drop i = s ++ b
variable {t a r s : List UInt8} {i j n m : Nat} {q : Q}
theorem At.left (h : At t i (a ++ r)) : At t i a := let ⟨c, e⟩ := h; ⟨r ++ c, by rw [e, List.append_assoc]⟩
theorem At.right (h : At t i (a ++ r)) : At t (i + a.length) r := let ⟨c, e⟩ := h; ⟨c, by rw [← List.drop_drop, e, List.append_assoc, List.drop_left]⟩
theorem At.tail {x : UInt8} (h : At t i (x :: s)) : At t (i + 1) s := At.right (a := [x]) h
theorem At.len (h : At t i s) (hs : 0 < s.length) : i + s.length ≤ t.length := by
  obtain ⟨b, e⟩ := h
  have := congrArg List.length e
  rw [List.length_drop, List.length_append] at this; omega
theorem At.get (h : At t i s) {k : Nat} (hk : k < s.length) : t.getD (i + k) 0 = s.getD k 0 := by
  obtain ⟨b, e⟩ := h
  rw [← getD_drop, e, List.getD_eq_getElem?_getD, List.getElem?_append_left hk, ← List.getD_eq_getElem?_getD]
theorem At.bl (h : At t i s) {k : Nat} (hk : k < s.length) : Gw.bl t (i + k) = Gw.bl s k := by unfold Gw.bl; rw [h.get hk]
theorem At.get0 {x : UInt8} (h : At t i (x :: s)) : t.getD i 0 = x := h.get (k := 0) (by simp)
theorem At.bl0 {x : UInt8} (h : At t i (x :: s)) : Gw.bl t i = (x.toNat : Int) := h.bl (k := 0) (by simp)
theorem At.in0 {x : UInt8} (h : At t i (x :: s)) : i < t.length := by have := h.len (by simp); simp at this; omega
theorem At.cut (h : At t i s) : (t.take (i + s.length)).drop i = s := by
  obtain ⟨b, e⟩ := h
  rw [List.drop_take, e, Nat.add_sub_cancel_left, List.take_left]

/-! ### how much fuel suffices -/
theorem emb_self (t : List UInt8) : Emb t t 0 := ⟨fun i _ => ⟨[], by simp⟩, .inl (bl_out (by omega)), .inl (skip_stop (by omega)), by omega⟩
theorem prs_mono {g : Tg} (hi : i ≤ t.length) (h : prs t n g i = .ok (q, j)) (hm : n ≤ m) : prs t m g i = .ok (q, j) := by
  obtain ⟨l, h1, h2⟩ := (emb_self t).prs n m g i i q j hm hi (.inl rfl) h
  rcases h2 with rfl | ⟨rfl, rfl⟩
  · exact h1
  · rw [h1, skip_stop (by omega)]; rfl
def cc_ : Tg → Nat
  | .E => 5
  | .EL _ => 1
  | .B => 4
  | .BL _ => 4
  | .O => 3
theorem fuel_step (t : List UInt8) : ∀ (n : Nat) (g : Tg) (i : Nat), i ≤ t.length → 5 * (t.length - i) + cc_ g ≤ n → prs t (n + 1) g i = prs t n g i
  | 0, g, i, hi, h => by cases g <;> simp [cc_] at h
  | n + 1, .E, i, hi, h => by
    simp only [cc_] at h
    have h1 := fuel_step t n .B i hi (by simp only [cc_]; omega)
    cases hb : prs t n .B i with
    | error k => rw [e_err (h1.trans hb), e_err hb]
    | ok x =>
      obtain ⟨a, m⟩ := x
      have h2 := prs_inv n .B i a m hi hb
      simp only [below] at h2
      rw [e_ok (h1.trans hb), e_ok hb]; exact fuel_step t n (.EL [a]) m h2.2 (by simp only [cc_]; omega)
  | n + 1, .EL acc, i, hi, h => by
    simp only [cc_] at h
    have hk := skip_le t i
    have hor := bl_or t (skipP t i)
    by_cases hc : Gw.bl t (skipP t i) = 124
    · have h1 := fuel_step t n .B (skipP t i + 1) (by omega) (by simp only [cc_]; omega)
      cases hb : prs t n .B (skipP t i + 1) with
      | error k => rw [el_err hc (h1.trans hb), el_err hc hb]
      | ok x =>
        obtain ⟨a, m⟩ := x
        have h2 := prs_inv n .B _ a m (by omega) hb
        simp only [below] at h2
        rw [el_ok hc (h1.trans hb), el_ok hc hb]; exact fuel_step t n _ m h2.2 (by simp only [cc_]; omega)
    · rw [el_end hc, el_end hc]
  | n + 1, .B, i, hi, h => by
    simp only [cc_] at h
    have h1 := fuel_step t n .O i hi (by simp only [cc_]; omega)
    cases hb : prs t n .O i with
    | error k => rw [b_err (h1.trans hb), b_err hb]
    | ok x =>
      obtain ⟨a, m⟩ := x
      have h2 := prs_inv n .O i a m hi hb
      simp only [below] at h2
      rw [b_ok (h1.trans hb), b_ok hb]; exact fuel_step t n (.BL [a]) m h2.2 (by simp only [cc_]; omega)
  | n + 1, .BL acc, i, hi, h => by
    simp only [cc_] at h
    have hk := skip_le t i
    have hor := bl_or t (skipP t i)
    by_cases hc : skipP t i = t.length ∨ Gw.bl t (skipP t i) = 124 ∨ Gw.bl t (skipP t i) = 41
    · rw [bl_end hc, bl_end hc]
    · have h1 := fuel_step t n .O (skipP t i) (by omega) (by simp only [cc_]; omega)
      cases hb : prs t n .O (skipP t i) with
      | error k => rw [bl_err hc (h1.trans hb), bl_err hc hb]
      | ok x =>
        obtain ⟨a, m⟩ := x
        have h2 := prs_inv n .O _ a m (by omega) hb
        simp only [below] at h2
        rw [bl_ok hc (h1.trans hb), bl_ok hc hb]; exact fuel_step t n _ m h2.2 (by simp only [cc_]; omega)
  | n + 1, .O, i, hi, h => by
    simp only [cc_] at h
    have hk := skip_le t i
    have hor := bl_or t (skipP t i)
    by_cases h45 : Gw.bl t (skipP t i) = 45
    · have h1 := fuel_step t n .O (skipP t i + 1) (by omega) (by simp only [cc_]; omega)
      cases hb : prs t n .O (skipP t i + 1) with
      | error k => rw [o_not_err h45 (h1.trans hb), o_not_err h45 hb]
      | ok x => rw [o_not h45 (h1.trans hb), o_not h45 hb]
    · by_cases h40 : Gw.bl t (skipP t i) = 40
      · have h1 := fuel_step t n .E (skipP t i + 1) (by omega) (by simp only [cc_]; omega)
        cases hb : prs t n .E (skipP t i + 1) with
        | error k => rw [o_par_err h40 (h1.trans hb), o_par_err h40 hb]
        | ok x => cases ht : takeP t 41 x.2 with
          | error y => rw [o_par_err2 h40 (h1.trans hb) ht, o_par_err2 h40 hb ht]
          | ok y => rw [o_par h40 (h1.trans hb) ht, o_par h40 hb ht]
      · by_cases h42 : Gw.bl t (skipP t i) = 42
        · rw [o_all h42, o_all h42]
        · rw [o_leaf h45 h40 h42, o_leaf h45 h40 h42]
theorem fuel_up (t : List UInt8) (g : Tg) (i n : Nat) (hi : i ≤ t.length) (h : 5 * (t.length - i) + cc_ g ≤ n) : ∀ k, prs t (n + k) g i = prs t n g i
  | 0 => rfl
  | k + 1 => by rw [← Nat.add_assoc, fuel_step t (n + k) g i hi (by omega), fuel_up t g i n hi h k]
/-- read so, with enough fuel -/
def Rds (t : List UInt8) (g : Tg) (i : Nat) (q : Q) (j : Nat) : Prop := ∃ n, prs t n g i = .ok (q, j)
theorem Rds.fuel {g : Tg} (h : Rds t g i q j) (hi : i ≤ t.length) (hm : 5 * (t.length - i) + cc_ g ≤ m) : prs t m g i = .ok (q, j) := by
  obtain ⟨n, hn⟩ := h
  rw [← fuel_up t g i m hi hm n]
  exact prs_mono hi hn (by omega)
section
variable {q p : Q} {acc : List Q} {k : Nat}
theorem Rds.two {g g' : Tg} {i' : Nat} (h : Rds t g i q j) (h' : Rds t g' i' p k) (hi : i ≤ t.length) (hi' : i' ≤ t.length) : ∃ n, prs t n g i = .ok (q, j) ∧ prs t n g' i' = .ok (p, k) := by
  obtain ⟨n, hn⟩ := h
  obtain ⟨n', hn'⟩ := h'
  exact ⟨n + n', prs_mono hi hn (by omega), prs_mono hi' hn' (by omega)⟩
theorem Rds.out {g : Tg} (h : Rds t g i q j) (hi : i ≤ t.length) : j ≤ t.length := by
  obtain ⟨n, hn⟩ := h
  exact (prs_inv n g i q j hi hn).2
theorem Rds.e (hi : i ≤ t.length) (h : Rds t .B i p k) (h2 : Rds t (.EL [p]) k q j) : Rds t .E i q j := by
  obtain ⟨n, h3, h4⟩ := h.two h2 hi (h.out hi)
  exact ⟨n + 1, (e_ok h3).trans h4⟩
theorem Rds.b (hi : i ≤ t.length) (h : Rds t .O i p k) (h2 : Rds t (.BL [p]) k q j) : Rds t .B i q j := by
  obtain ⟨n, h3, h4⟩ := h.two h2 hi (h.out hi)
  exact ⟨n + 1, (b_ok h3).trans h4⟩
theorem Rds.el (hc : Gw.bl t (skipP t i) = 124) (h : Rds t .B (skipP t i + 1) p k) (h2 : Rds t (.EL (acc ++ [p])) k q j) : Rds t (.EL acc) i q j := by
  have hi := bl_in (s := t) (i := skipP t i) (by omega)
  obtain ⟨n, h3, h4⟩ := h.two h2 (by omega) (h.out (by omega))
  exact ⟨n + 1, (el_ok hc h3).trans h4⟩
theorem Rds.el0 (hc : ¬ Gw.bl t (skipP t i) = 124) : Rds t (.EL acc) i (manyQ 8 acc) (skipP t i) := ⟨1, el_end hc⟩
theorem Rds.bl (hc : ¬ (skipP t i = t.length ∨ Gw.bl t (skipP t i) = 124 ∨ Gw.bl t (skipP t i) = 41)) (hi : skipP t i ≤ t.length) (h : Rds t .O (skipP t i) p k) (h2 : Rds t (.BL (acc ++ [p])) k q j) : Rds t (.BL acc) i q j := by
  obtain ⟨n, h3, h4⟩ := h.two h2 hi (h.out hi)
  exact ⟨n + 1, (bl_ok hc h3).trans h4⟩
theorem Rds.bl0 (hc : skipP t i = t.length ∨ Gw.bl t (skipP t i) = 124 ∨ Gw.bl t (skipP t i) = 41) : Rds t (.BL acc) i (manyQ 7 acc) (skipP t i) := ⟨1, bl_end hc⟩
theorem Rds.not (h : Gw.bl t (skipP t i) = 45) (hs : Rds t .O (skipP t i + 1) q j) : Rds t .O i (.mk (opH 9) [q]) j := by
  obtain ⟨n, hn⟩ := hs
  exact ⟨n + 1, o_not h hn⟩
theorem Rds.par (h : Gw.bl t (skipP t i) = 40) (hs : Rds t .E (skipP t i + 1) q j) (ht : takeP t 41 j = .ok m) : Rds t .O i q m := by
  obtain ⟨n, hn⟩ := hs
  exact ⟨n + 1, o_par h hn ht⟩
theorem Rds.all (h : Gw.bl t (skipP t i) = 42) : Rds t .O i (.mk (opH 10) []) (skipP t i + 1) := ⟨1, o_all h⟩
theorem Rds.leaf (h : ¬ Gw.bl t (skipP t i) = 45) (h2 : ¬ Gw.bl t (skipP t i) = 40) (h3 : ¬ Gw.bl t (skipP t i) = 42) (hl : leafP t (skipP t i) = .ok (q, j)) : Rds t .O i q j := ⟨1, (o_leaf h h2 h3).trans hl⟩
end
end Go.SynP
namespace Go.SynP
open Go Go.Gw Go.UtfP Go.TokP Go.QryP Go.RealP Go.RealQ
variable {t : List UInt8} {i j : Nat}
/-! ### leaves -/
theorem nam_at : ∀ (f : List UInt8) (i : Nat) (c : UInt8) (b : List UInt8), At t i (f ++ c :: b) → (∀ x ∈ f, letterP (x.toNat : Int) = true) → letterP (c.toNat : Int) = false → namE t i = i + f.length
  | [], i, c, b, h, _, hc => nam_stop (by rw [At.bl0 h]; exact hc)
  | x :: f, i, c, b, h, hf, hc => by
    rw [nam_go (by rw [At.bl0 h]; exact hf x (List.mem_cons_self ..)), nam_at f (i + 1) c b h.tail (fun y hy => hf y (List.mem_cons_of_mem _ hy)) hc, List.length_cons]; omega
theorem quote_at : ∀ (s : List UInt8) (n j : Nat) (acc : List UInt8), At t j (s.flatMap escP ++ [34]) → s.length < n → quoteL t n j acc = .ok (acc ++ s, j + (s.flatMap escP).length + 1)
  | [], n, j, acc, h, hn => by
    obtain ⟨n, rfl⟩ : ∃ m, n = m + 1 := ⟨n - 1, by omega⟩
    rw [quote_close (At.bl0 h), List.append_nil]; rfl
  | c :: s, n, j, acc, h, hn => by
    obtain ⟨n, rfl⟩ : ∃ m, n = m + 1 := ⟨n - 1, by omega⟩
    rw [List.length_cons] at hn
    rw [List.flatMap_cons] at h ⊢
    rw [List.append_assoc] at h
    by_cases h92 : c = 92
    · subst h92
      have e : escP 92 = [92, 92] := rfl
      rw [e] at h ⊢
      have h2 := At.tail h
      rw [quote_esc (At.bl0 h) (.inr (At.bl0 h2)), At.get0 h2, quote_at s n (j + 2) _ (At.tail h2) (by omega)]
      simp only [List.append_assoc, List.length_append, List.length_cons, List.length_nil, List.cons_append, List.nil_append]
      congr 2; omega
    · by_cases h34 : c = 34
      · subst h34
        have e : escP 34 = [92, 34] := rfl
        rw [e] at h ⊢
        have h2 := At.tail h
        rw [quote_esc (At.bl0 h) (.inl (At.bl0 h2)), At.get0 h2, quote_at s n (j + 2) _ (At.tail h2) (by omega)]
        simp only [List.append_assoc, List.length_append, List.length_cons, List.length_nil, List.cons_append, List.nil_append]
        congr 2; omega
      · have e : escP c = [c] := by unfold escP; rw [if_neg h92, if_neg h34]
        rw [e] at h ⊢
        have hb := At.bl0 (x := c) h
        have n34 : ¬ c.toNat = 34 := fun g => h34 (UInt8.toNat_inj.1 g)
        have n92 : ¬ c.toNat = 92 := fun g => h92 (UInt8.toNat_inj.1 g)
        rw [quote_byte (At.in0 (x := c) h) (by rw [hb]; omega) (by rw [hb]; omega), At.get0 (x := c) h, quote_at s n (j + 1) _ (At.tail (x := c) h) (by omega)]
        simp only [List.append_assoc, List.length_append, List.length_cons, List.length_nil, List.cons_append, List.nil_append]
        congr 2; omega
theorem esc_len (s : List UInt8) : s.length ≤ (s.flatMap escP).length := by
  induction s with
  | nil => simp
  | cons c s ih =>
    rw [List.flatMap_cons, List.length_append, List.length_cons]
    have : 1 ≤ (escP c).length := by unfold escP; split; simp; split <;> simp
    omega
theorem quoted_at {s : List UInt8} (h : At t i (quoteW s)) : quotedP t i = .ok (s, i + (quoteW s).length) := by
  unfold quoteW at h ⊢
  have h2 := At.tail h
  have hl := esc_len s
  have h3 := h.len (by simp)
  simp only [List.length_cons, List.length_append, List.length_nil] at h3 ⊢
  unfold quotedP
  rw [take_ok (c := 34) h.in0 (At.bl0 h)]
  simp only
  rw [quote_at s _ _ [] h2 (by omega), List.nil_append]
  congr 2; omega
theorem dec_byte {x : Int} (h : 0 ≤ x ∧ x ≤ 255) : ((x.toNat.toUInt8).toNat : Int) = x := by
  rw [show x.toNat.toUInt8 = UInt8.ofNat x.toNat from rfl, UInt8.toNat_ofNat']; omega
theorem small_at {n : Int} (h0 : 0 ≤ n ∧ n ≤ 99) (h : At t i (decW n)) (hn : ¬ (48 ≤ bl t (i + (decW n).length) ∧ bl t (i + (decW n).length) ≤ 57)) : smallP t i = .ok (n, i + (decW n).length) := by
  by_cases hs : n < 10
  · have e : decW n = [(48 + n).toNat.toUInt8] := by unfold decW; rw [if_pos hs]
    rw [e] at h hn ⊢
    have hb := At.bl0 h
    rw [dec_byte (by omega)] at hb
    rw [small_one (by omega) hn, hb]
    simp only [List.length_cons, List.length_nil]
    congr 2; omega
  · have e : decW n = [(48 + n / 10).toNat.toUInt8, (48 + n % 10).toNat.toUInt8] := by unfold decW; rw [if_neg hs]
    rw [e] at h hn ⊢
    have hb := At.bl0 h
    have hb2 := At.bl0 (At.tail h)
    rw [dec_byte (by omega)] at hb hb2
    rw [small_two (by omega) (by omega), hb, hb2]
    simp only [List.length_cons, List.length_nil]
    congr 2; omega
theorem index_at : ∀ (l b : List UInt8) (c : UInt8), (∀ x ∈ l, x ≠ c) → Lib.indexByte (l ++ c :: b) c = (l.length : Int)
  | [], b, c, _ => by rw [List.nil_append]; unfold Lib.indexByte; rw [if_pos (by simp)]; rfl
  | x :: l, b, c, h => by
    have ih := index_at l b c fun y hy => h y (List.mem_cons_of_mem _ hy)
    rw [List.cons_append]
    unfold Lib.indexByte
    rw [if_neg (by simpa using h x (List.mem_cons_self ..)), ih, if_neg (by simp <;> omega), List.length_cons]; rfl
theorem hexC_u {u : Nat} (h : u < 16) : hexDig (((UInt8.ofNat (hexC u).toNat).toNat : Nat) : Int) = some u ∧ UInt8.ofNat (hexC u).toNat ≠ 32 ∧ UInt8.ofNat (hexC u).toNat ≠ 93 := by
  have : ∀ u : Fin 16, hexDig (((UInt8.ofNat (hexC u.val).toNat).toNat : Nat) : Int) = some u.val ∧ UInt8.ofNat (hexC u.val).toNat ≠ 32 ∧ UInt8.ofNat (hexC u.val).toNat ≠ 93 := by decide
  exact this ⟨u, h⟩
theorem bytes_app (a b : List Int) : bytesOf (a ++ b) = bytesOf a ++ bytesOf b := by unfold bytesOf; rw [List.map_append]
theorem hexL_at : ∀ (n u : Nat), u < 16 ^ (n + 1) → hexL (bytesOf (hexF n u)) 0 = some u ∧ ∀ x ∈ bytesOf (hexF n u), x ≠ 32 ∧ x ≠ 93
  | 0, u, h => by
    have hu : u < 16 := h
    rw [hexF_small hu]
    have := hexC_u hu
    refine ⟨?_, ?_⟩
    · show hexL [UInt8.ofNat (hexC u).toNat] 0 = _
      unfold hexL; rw [this.1]; simp only [hexL]; congr 1; omega
    · intro x hx
      have : x = UInt8.ofNat (hexC u).toNat := by simpa [bytesOf] using hx
      subst this; exact (hexC_u hu).2
  | n + 1, u, h => by
    by_cases hu : u < 16
    · have := hexL_at 0 u hu
      rw [hexF_small hu] at this ⊢; exact this
    · have ih := hexL_at n (u / 16) (by rw [Nat.pow_succ] at h; omega)
      have hd := hexC_u (Nat.mod_lt u (by decide : 0 < 16))
      rw [hexF_step hu, bytes_app]
      refine ⟨?_, ?_⟩
      · rw [hexL_app, ih.1]
        show hexL [UInt8.ofNat (hexC (u % 16)).toNat] (u / 16) = _
        unfold hexL; rw [hd.1]; simp only [hexL]; congr 1; omega
      · intro x hx
        rcases List.mem_append.1 hx with g | g
        · exact ih.2 x g
        · have : x = UInt8.ofNat (hexC (u % 16)).toNat := by simpa [bytesOf] using g
          subst this; exact hd.2
theorem hexL_zeros : ∀ (z : Nat) (b : List UInt8), hexL (List.replicate z 48 ++ b) 0 = hexL b 0
  | 0, b => rfl
  | z + 1, b => by
    rw [List.replicate_succ, List.cons_append]
    conv => lhs; unfold hexL
    rw [show hexDig (((48 : UInt8).toNat : Nat) : Int) = some 0 by decide]
    exact hexL_zeros z b
theorem bits_at {v : Nat} (hv : v < 18446744073709551616) : hexP (bitsP v) = some v ∧ ∀ x ∈ bitsP v, x ≠ 32 ∧ x ≠ 93 := by
  have h := hexL_at 15 v hv
  refine ⟨?_, ?_⟩
  · unfold hexP
    rw [if_pos ⟨bitsP_len v, rfl⟩]
    show hexL (List.replicate _ 48 ++ _) 0 = _
    rw [hexL_zeros]; exact h.1
  · intro x hx
    unfold bitsP at hx
    rcases List.mem_cons.1 hx with rfl | g
    · decide
    · rcases List.mem_append.1 g with g | g
      · have := List.eq_of_mem_replicate g; subst this; decide
      · exact h.2 x g
theorem number_at {v : Nat} {e : UInt8} (he : e = 32 ∨ e = 93) (hv : v < 18446744073709551616) (h : At t i (bitsP v ++ [e])) : numberP t (e.toNat : Int) i = .ok (v, i + 18) := by
  have hb := bits_at hv
  have hl := bitsP_len v
  have e1 : ((e.toNat : Int)).toNat.toUInt8 = e := by rcases he with rfl | rfl <;> rfl
  obtain ⟨b, hd⟩ := h
  have hx : Lib.indexByte (t.drop i) ((e.toNat : Int)).toNat.toUInt8 = ((17 : Nat) : Int) := by
    rw [hd, e1, List.append_assoc]
    have := index_at (bitsP v) b e (fun x hx => by rcases he with rfl | rfl; exact (hb.2 x hx).1; exact (hb.2 x hx).2)
    rw [hl] at this; exact this
  have hc := At.cut (At.left (⟨b, hd⟩ : At t i (bitsP v ++ [e])))
  rw [hl] at hc
  exact number_hex hx (by rw [hc]; exact hb.1)
end Go.SynP
namespace Go.SynP
open Go Go.Gw Go.UtfP Go.TokP Go.QryP Go.RealP Go.RealQ
variable {t : List UInt8} {i j : Nat}
mutual
/-- the bounds of a range are bits -/
def numQ : Q → Prop
  | .mk h l => (0 ≤ h.lo ∧ h.lo < 18446744073709551616) ∧ (0 ≤ h.hi ∧ h.hi < 18446744073709551616) ∧ numL l
def numL : List Q → Prop
  | [] => True
  | q :: r => numQ q ∧ numL r
end
theorem numQ_mk (h : Hd) (l : List Q) : numQ (.mk h l) = ((0 ≤ h.lo ∧ h.lo < 18446744073709551616) ∧ (0 ≤ h.hi ∧ h.hi < 18446744073709551616) ∧ numL l) := by rw [numQ]
theorem num_mem : ∀ {l : List Q}, numL l → ∀ q ∈ l, numQ q
  | [], _, q, h => by cases h
  | p :: l, h, q, hq => by
    rw [numL] at h
    rcases List.mem_cons.1 hq with rfl | g
    · exact h.1
    · exact num_mem h.2 q g
theorem right_mem : ∀ {l : List Q}, rightL l = true → ∀ q ∈ l, rightQ q = true
  | [], _, q, h => by cases h
  | p :: l, h, q, hq => by
    rw [rightL, Bool.and_eq_true] at h
    rcases List.mem_cons.1 hq with rfl | g
    · exact h.1
    · exact right_mem h.2 q g
/-- what may stand behind a part: nothing, a blank, a bracket -/
def Sep (t : List UInt8) (e : Nat) : Prop := bl t e = 0 ∨ bl t e = 32 ∨ bl t e = 41
/-- the text of what follows the field and the colon of a word -/
def sufW (h : Hd) : List UInt8 := if h.op = 2 then [42] else if h.op = 3 then [63] else if h.op = 5 then [43] else if h.op = 4 then 126 :: (decW h.edits ++ (44 :: decW h.exact)) else []
theorem textQ_mk (h : Hd) (l : List Q) : textQ (.mk h l) =
    (if h.op = 10 then [42]
    else if h.op = 9 then 45 :: (textL h.op l).headD []
    else if h.op = 7 then joinW [32] (textL h.op l)
    else if h.op = 8 then joinW [32, 124, 32] (textL h.op l)
    else if h.op = 6 then h.field ++ ([58, 91] ++ (bitsP h.lo.toNat ++ (32 :: (bitsP h.hi.toNat ++ [93]))))
    else h.field ++ (58 :: (quoteW h.text ++ sufW h))) := by rw [textQ]; rfl
theorem name_inv {f : List UInt8} (h : nameP f = true) : (1 ≤ f.length ∧ f.length ≤ 16) ∧ ∀ x ∈ f, letterP (x.toNat : Int) = true := by
  unfold nameP at h
  rw [Bool.and_eq_true, List.all_eq_true] at h
  refine ⟨of_decide_eq_true h.1, fun x hx => ?_⟩
  have := of_decide_eq_true (h.2 x hx)
  rw [letter_iff]; omega
/-- a word or a range that may be -/
structure Lf (h : Hd) : Prop where
  op : 1 ≤ h.op ∧ h.op ≤ 6
  name : nameP h.field = true
  zero : (¬ h.op = 4 → h.edits = 0 ∧ h.exact = 0) ∧ (¬ h.op = 6 → h.lo = 0 ∧ h.hi = 0) ∧ (h.op = 6 → h.text = [])
  fuzzy : h.op = 4 → (0 ≤ h.edits ∧ h.edits ≤ 99) ∧ (0 ≤ h.exact ∧ h.exact ≤ 99)
theorem noth_inv {h : Hd} {t e n : Bool} (hn : nothP h t e n = true) : (t = false → h.text = []) ∧ (e = false → h.edits = 0 ∧ h.exact = 0) ∧ (n = false → h.lo = 0 ∧ h.hi = 0) := by
  unfold nothP at hn
  simp only [Bool.and_eq_true, Bool.or_eq_true, decide_eq_true_eq] at hn
  refine ⟨fun e => ?_, fun e => ?_, fun e => ?_⟩ <;> subst e <;> simp at hn
  · exact hn.1.1
  · exact hn.1.2
  · exact hn.2
theorem let_len {s m : List UInt8} (h : letP s m = 0) : (foldL s).length ≤ 16 := by
  unfold letP at h
  split at h
  · contradiction
  · split at h
    · cases h
    · omega
theorem node_leaf {h : Hd} {n : Nat} (hn : nodeP h n = true) (h7 : ¬ h.op = 7) (h8 : ¬ h.op = 8) (h9 : ¬ h.op = 9) (h10 : ¬ h.op = 10) : Lf h ∧ n = 0 := by
  have ho : 1 ≤ h.op ∧ h.op ≤ 6 := by
    by_cases g : 1 ≤ h.op ∧ h.op ≤ 10
    · omega
    · rw [node_else g] at hn; cases hn
  have h0 : n = 0 := by
    rcases Nat.eq_zero_or_pos n with g | g
    · exact g
    · rw [node_many ho g] at hn; cases hn
  have hname : nameP h.field = true := by
    cases g : nameP h.field with
    | true => rfl
    | false => rw [node_name ho g] at hn; cases hn
  refine ⟨⟨ho, hname, ?_, ?_⟩, h0⟩
  · rcases (by omega : h.op = 1 ∨ h.op = 2 ∨ h.op = 3 ∨ h.op = 4 ∨ h.op = 5 ∨ h.op = 6) with g | g | g | g | g | g
    · rw [node_1 g h0 hname, Bool.and_eq_true] at hn; have z := noth_inv hn.2; exact ⟨fun _ => z.2.1 rfl, fun _ => z.2.2 rfl, fun _ => by omega⟩
    · rw [node_2 g h0 hname, Bool.and_eq_true] at hn; have z := noth_inv hn.2; exact ⟨fun _ => z.2.1 rfl, fun _ => z.2.2 rfl, fun _ => by omega⟩
    · rw [node_3 g h0 hname, Bool.and_eq_true] at hn; have z := noth_inv hn.2; exact ⟨fun _ => z.2.1 rfl, fun _ => z.2.2 rfl, fun _ => by omega⟩
    · rw [node_4 g h0 hname, Bool.and_eq_true] at hn; have z := noth_inv hn.2; exact ⟨fun x => absurd g x, fun _ => z.2.2 rfl, fun _ => by omega⟩
    · rw [node_5 g h0 hname, Bool.and_eq_true] at hn; have z := noth_inv hn.2; exact ⟨fun _ => z.2.1 rfl, fun _ => z.2.2 rfl, fun _ => by omega⟩
    · rw [node_range g hname h0] at hn; have z := noth_inv hn; exact ⟨fun _ => z.2.1 rfl, fun x => absurd g x, fun _ => z.1 rfl⟩
  · intro g
    rw [node_4 g h0 hname, Bool.and_eq_true] at hn
    have z := of_decide_eq_true hn.1
    have hz := letN_iff.1 z.1
    have hp := let_pos hz
    have := let_len hz
    rw [hp.2.1] at z
    omega
theorem Sep.no {e : Nat} (h : Sep t e) {c : Int} (h0 : c ≠ 0) (h1 : c ≠ 32) (h2 : c ≠ 41) : ¬ bl t e = c := by
  rcases h with h | h | h <;> rw [h] <;> exact fun g => by omega
theorem hd_eq {h : Hd} {a b c d e : Int} (h1 : h.op = a) (h2 : h.edits = b) (h3 : h.exact = c) (h4 : h.lo = d) (h5 : h.hi = e) : Q.mk h [] = Q.mk ⟨a, h.field, h.text, b, c, d, e⟩ [] := by cases h; simp only at *; rw [h1, h2, h3, h4, h5]
theorem leaf_at {h : Hd} (H : Lf h) (hlo : 0 ≤ h.lo ∧ h.lo < 18446744073709551616) (hhi : 0 ≤ h.hi ∧ h.hi < 18446744073709551616) (ha : At t i (textQ (.mk h []))) (hs : Sep t (i + (textQ (.mk h [])).length)) : leafP t i = .ok (.mk h [], i + (textQ (.mk h [])).length) := by
  have ho := H.op
  have hn := name_inv H.name
  have hzero := H.zero
  rw [textQ_mk, if_neg (by omega), if_neg (by omega), if_neg (by omega), if_neg (by omega)] at ha hs ⊢
  by_cases h6 : h.op = 6
  · rw [if_pos h6] at ha hs ⊢
    have e58 : namE t i = i + h.field.length := nam_at h.field i 58 _ ha hn.2 (by decide)
    have hc := At.cut (At.left ha)
    have a1 := At.right ha
    have a2 : At t (i + h.field.length + 1) (91 :: (bitsP h.lo.toNat ++ (32 :: (bitsP h.hi.toNat ++ [93])))) := At.tail (x := 58) a1
    have a3 := At.tail a2
    rw [show bitsP h.lo.toNat ++ (32 :: (bitsP h.hi.toNat ++ [93])) = (bitsP h.lo.toNat ++ [32]) ++ (bitsP h.hi.toNat ++ [93]) by simp] at a3
    have n1 : numberP t 32 _ = _ := number_at (.inl rfl) (by omega) (At.left a3)
    have a4 := At.right a3
    have e18 : (bitsP h.lo.toNat ++ [32]).length = 18 := by simp [bitsP_len]
    rw [e18] at a4
    have n2 : numberP t 93 _ = _ := number_at (.inr rfl) (by omega) a4
    unfold leafP
    simp only
    rw [e58, if_neg (by omega), take_ok (c := 58) (At.in0 (x := 58) a1) (At.bl0 (x := 58) a1)]
    simp only
    rw [if_pos (show bl t _ = 91 from At.bl0 a2), n1]
    simp only
    rw [n2, hc]
    simp only [List.length_append, List.length_cons, List.length_nil, bitsP_len]
    refine congrArg Except.ok (Prod.ext ?_ (by simp only; omega))
    have z1 := hzero.1 (by omega)
    have z2 := hzero.2.2 h6
    have b1 : ((h.lo.toNat : Nat) : Int) = h.lo := by omega
    have b2 : ((h.hi.toNat : Nat) : Int) = h.hi := by omega
    simp only [b1, b2]
    congr 1
    cases h with
    | mk op field text edits exact lo hi => simp only at *; rw [h6, z1.1, z1.2, z2]
  · rw [if_neg h6] at ha hs ⊢
    have e58 : namE t i = i + h.field.length := nam_at h.field i 58 _ ha hn.2 (by decide)
    have hc := At.cut (At.left ha)
    have a1 := At.right ha
    have a2 := At.tail a1
    have a3 := At.right a2
    have hq := quoted_at (At.left a2)
    have b91 : ¬ bl t (i + h.field.length + 1) = 91 := by
      have : At t (i + h.field.length + 1) (34 :: (h.text.flatMap escP ++ [34] ++ sufW h)) := a2
      rw [At.bl0 this]; decide
    have z2 := hzero.2.1 h6
    have el : i + (h.field ++ 58 :: (quoteW h.text ++ sufW h)).length = i + h.field.length + 1 + (quoteW h.text).length + (sufW h).length := by
      simp only [List.length_append, List.length_cons]; omega
    rw [el] at hs ⊢
    unfold leafP
    simp only
    rw [e58, if_neg (by omega), take_ok (c := 58) (At.in0 a1) (At.bl0 a1)]
    simp only
    rw [if_neg b91, hq]
    simp only
    rw [hc]
    rcases (by omega : h.op = 1 ∨ h.op = 2 ∨ h.op = 3 ∨ h.op = 4 ∨ h.op = 5) with g | g | g | g | g
    · have es : sufW h = [] := by unfold sufW; rw [if_neg (by omega), if_neg (by omega), if_neg (by omega), if_neg (by omega)]
      rw [es, List.length_nil, Nat.add_zero] at hs ⊢
      rw [if_neg (hs.no (by decide) (by decide) (by decide)), if_neg (hs.no (by decide) (by decide) (by decide)), if_neg (hs.no (by decide) (by decide) (by decide)), if_neg (hs.no (by decide) (by decide) (by decide))]
      have z1 := hzero.1 (by omega)
      rw [hd_eq g z1.1 z1.2 z2.1 z2.2]; rfl
    · have es : sufW h = [42] := by unfold sufW; rw [if_pos g]
      rw [es] at a3 ⊢
      rw [if_pos (show bl t _ = 42 from At.bl0 a3)]
      have z1 := hzero.1 (by omega)
      rw [hd_eq g z1.1 z1.2 z2.1 z2.2]; rfl
    · have es : sufW h = [63] := by unfold sufW; rw [if_neg (by omega), if_pos g]
      rw [es] at a3 ⊢
      rw [if_neg (by rw [At.bl0 a3]; decide), if_pos (show bl t _ = 63 from At.bl0 a3)]
      have z1 := hzero.1 (by omega)
      rw [hd_eq g z1.1 z1.2 z2.1 z2.2]; rfl
    · have es : sufW h = 126 :: (decW h.edits ++ (44 :: decW h.exact)) := by unfold sufW; rw [if_neg (by omega), if_neg (by omega), if_neg (by omega), if_pos g]
      rw [es] at a3 hs ⊢
      have hf := H.fuzzy g
      have a4 := At.tail a3
      have a5 := At.right a4
      have a6 := At.tail a5
      have s1 := small_at hf.1 (At.left a4) (by rw [At.bl0 a5]; decide)
      have el2 : i + h.field.length + 1 + (quoteW h.text).length + (126 :: (decW h.edits ++ (44 :: decW h.exact))).length = i + h.field.length + 1 + (quoteW h.text).length + 1 + (decW h.edits).length + 1 + (decW h.exact).length := by
        simp only [List.length_append, List.length_cons]; omega
      rw [el2] at hs ⊢
      have s2 := small_at hf.2 a6 (by rcases hs with g | g | g <;> omega)
      rw [if_neg (by rw [At.bl0 a3]; decide), if_neg (by rw [At.bl0 a3]; decide), if_neg (by rw [At.bl0 a3]; decide), if_pos (show bl t _ = 126 from At.bl0 a3), s1]
      simp only
      rw [take_ok (c := 44) (At.in0 a5) (At.bl0 a5)]
      simp only
      rw [s2]
      rw [hd_eq g rfl rfl z2.1 z2.2]
    · have es : sufW h = [43] := by unfold sufW; rw [if_neg (by omega), if_neg (by omega), if_pos g]
      rw [es] at a3 ⊢
      rw [if_neg (by rw [At.bl0 a3]; decide), if_neg (by rw [At.bl0 a3]; decide), if_pos (show bl t _ = 43 from At.bl0 a3)]
      have z1 := hzero.1 (by omega)
      rw [hd_eq g z1.1 z1.2 z2.1 z2.2]; rfl
end Go.SynP
namespace Go.SynP
open Go Go.Gw Go.UtfP Go.TokP Go.QryP Go.RealP Go.RealQ
variable {t : List UInt8} {i j : Nat}
/-! ### trees -/
def tailW (sep : List UInt8) : List (List UInt8) → List UInt8
  | [] => []
  | x :: r => sep ++ (x ++ tailW sep r)
theorem joinW_eq (sep x : List UInt8) : ∀ (r : List (List UInt8)), joinW sep (x :: r) = x ++ tailW sep r
  | [] => by unfold joinW tailW; simp
  | y :: r => by
    show x ++ (sep ++ joinW sep (y :: r)) = x ++ (sep ++ (y ++ tailW sep r))
    rw [joinW_eq sep y r]
def ptext (op : Int) (q : Q) : List UInt8 := if brP op q.h.op then 40 :: (textQ q ++ [41]) else textQ q
theorem textL_map (op : Int) : ∀ (l : List Q), textL op l = l.map (ptext op)
  | [] => by rw [textL]; rfl
  | q :: r => by rw [textL, textL_map op r]; rfl
theorem br_row (k : Int) {op : Int} (h : ¬ op = 8) : brP op k = decide (k = 7 ∨ k = 8) := by
  unfold brP; apply decide_eq_decide.2; omega
theorem br_or (k : Int) : brP 8 k = decide (k = 8) := by unfold brP; apply decide_eq_decide.2; omega
/-- a text that a part begins by -/
def Hed (s : List UInt8) : Prop := ∃ c r, s = c :: r ∧ c ≠ 32 ∧ c ≠ 124 ∧ c ≠ 41
theorem right_inv {h : Hd} {l : List Q} (hr : rightQ (.mk h l) = true) : rightL l = true ∧ nodeP h l.length = true := by
  rw [rightQ_mk, Bool.and_eq_true] at hr; exact hr
theorem hd_all {h : Hd} {o : Int} (h0 : h.op = o) (h1 : h.field = []) (h2 : h.text = []) (h3 : h.edits = 0 ∧ h.exact = 0) (h4 : h.lo = 0 ∧ h.hi = 0) : h = opH o := by cases h; simp only at *; rw [h0, h1, h2, h3.1, h3.2, h4.1, h4.2]
theorem join_inv {h : Hd} {n : Nat} (hn : nodeP h n = true) (ho : h.op = 8 ∨ h.op = 7) : 2 ≤ n ∧ h = opH h.op := by
  rw [node_join ho, Bool.and_eq_true, Bool.and_eq_true] at hn
  have z := noth_inv hn.2
  refine ⟨of_decide_eq_true hn.1.1, ?_⟩
  exact hd_all rfl (of_decide_eq_true hn.1.2) (z.1 rfl) (z.2.1 rfl) (z.2.2 rfl)
theorem not_inv {h : Hd} {n : Nat} (hn : nodeP h n = true) (ho : h.op = 9) : n = 1 ∧ h = opH 9 := by
  rw [node_not ho, Bool.and_eq_true, Bool.and_eq_true] at hn
  have z := noth_inv hn.2
  refine ⟨of_decide_eq_true hn.1.1, ?_⟩
  exact hd_all ho (of_decide_eq_true hn.1.2) (z.1 rfl) (z.2.1 rfl) (z.2.2 rfl)
theorem all_inv {h : Hd} {n : Nat} (hn : nodeP h n = true) (ho : h.op = 10) : n = 0 ∧ h = opH 10 := by
  rw [node_all ho, Bool.and_eq_true, Bool.and_eq_true] at hn
  have z := noth_inv hn.2
  refine ⟨of_decide_eq_true hn.1.1, ?_⟩
  exact hd_all ho (of_decide_eq_true hn.1.2) (z.1 rfl) (z.2.1 rfl) (z.2.2 rfl)
theorem letter_head {f : List UInt8} (h : nameP f = true) (r : List UInt8) : Hed (f ++ r) := by
  have hn := name_inv h
  cases f with
  | nil => simp at hn
  | cons c f =>
    have := hn.2 c (List.mem_cons_self ..)
    refine ⟨c, f ++ r, rfl, ?_, ?_, ?_⟩ <;> (rintro rfl; revert this; decide)
theorem Hed.left {a : List UInt8} (h : Hed a) (b : List UInt8) : Hed (a ++ b) := by
  obtain ⟨c, r, rfl, h1⟩ := h
  exact ⟨c, r ++ b, rfl, h1⟩
theorem hed_p (op : Int) {q : Q} (h : Hed (textQ q)) : Hed (ptext op q) := by
  unfold ptext; split
  · exact ⟨40, _, rfl, by decide, by decide, by decide⟩
  · exact h
theorem hed_all : ∀ (N : Nat) (q : Q), bulkQ q ≤ N → rightQ q = true → Hed (textQ q)
  | 0, q, h, _ => by have := bulk_pos q; omega
  | N + 1, .mk h l, hN, hr => by
    have ⟨hl, hn⟩ := right_inv hr
    rw [bulkQ_mk] at hN
    rw [textQ_mk]
    by_cases h10 : h.op = 10
    · rw [if_pos h10]; exact ⟨42, _, rfl, by decide, by decide, by decide⟩
    rw [if_neg h10]
    by_cases h9 : h.op = 9
    · rw [if_pos h9]; exact ⟨45, _, rfl, by decide, by decide, by decide⟩
    rw [if_neg h9]
    have join : (h.op = 8 ∨ h.op = 7) → ∀ sep, Hed (joinW sep (textL h.op l)) := by
      intro ho sep
      have hj := join_inv hn ho
      cases l with
      | nil => simp at hj
      | cons p l =>
        rw [bulkL] at hN
        rw [rightL, Bool.and_eq_true] at hl
        rw [textL_map, List.map_cons, joinW_eq]
        exact (hed_p _ (hed_all N p (by omega) hl.1)).left _
    by_cases h7 : h.op = 7
    · rw [if_pos h7]; exact join (.inr h7) _
    rw [if_neg h7]
    by_cases h8 : h.op = 8
    · rw [if_pos h8]; exact join (.inl h8) _
    rw [if_neg h8]
    have H := (node_leaf hn h7 h8 h9 h10).1
    by_cases h6 : h.op = 6
    · rw [if_pos h6]; exact letter_head H.name _
    · rw [if_neg h6]; exact letter_head H.name _
theorem Hed.at {s : List UInt8} (h : Hed s) (ha : At t i s) : i < t.length ∧ bl t i ≠ 32 ∧ bl t i ≠ 124 ∧ bl t i ≠ 41 := by
  obtain ⟨c, r, rfl, h1, h2, h3⟩ := h
  have hb := ha.bl0
  have nn (x : UInt8) (hx : c ≠ x) : ¬ c.toNat = x.toNat := fun g => hx (UInt8.toNat_inj.1 g)
  have a1 := nn 32 h1
  have a2 := nn 124 h2
  have a3 := nn 41 h3
  simp only [UInt8.reduceToNat] at a1 a2 a3
  exact ⟨ha.in0, by omega, by omega, by omega⟩
/-- behind blanks nothing or a bracket -/
def Stp (t : List UInt8) (e : Nat) : Prop := skipP t e = t.length ∨ bl t (skipP t e) = 41
/-- .. or a bar -/
def StB (t : List UInt8) (e : Nat) : Prop := skipP t e = t.length ∨ bl t (skipP t e) = 124 ∨ bl t (skipP t e) = 41
theorem Stp.b {e : Nat} (h : Stp t e) : StB t e := h.elim .inl fun g => .inr (.inr g)
theorem skip_in {i0 : Nat} (h0 : skipP t i0 = i) (hi : i < t.length) : i0 ≤ t.length := by have := skip_le t i0; omega
def OkO (q : Q) : Prop := ∀ (t : List UInt8) (i i0 : Nat), skipP t i0 = i → At t i (ptext 7 q) → Sep t (i + (ptext 7 q).length) → Rds t .O i0 q (i + (ptext 7 q).length)
def OkB (q : Q) : Prop := ∀ (t : List UInt8) (i i0 : Nat), skipP t i0 = i → At t i (ptext 8 q) → Sep t (i + (ptext 8 q).length) → StB t (i + (ptext 8 q).length) → Rds t .B i0 q (skipP t (i + (ptext 8 q).length))
def OkE (q : Q) : Prop := ∀ (t : List UInt8) (i i0 : Nat), skipP t i0 = i → At t i (textQ q) → Sep t (i + (textQ q).length) → Stp t (i + (textQ q).length) → Rds t .E i0 q (skipP t (i + (textQ q).length))
theorem many_list {op : Int} {acc : List Q} (h : 2 ≤ acc.length) : manyQ op acc = .mk (opH op) acc := manyQ_n (by omega)
theorem and_list : ∀ (l acc : List Q) (e : Nat), (∀ p ∈ l, OkO p ∧ Hed (ptext 7 p)) → At t e (tailW [32] (l.map (ptext 7))) → Sep t (e + (tailW [32] (l.map (ptext 7))).length) → StB t (e + (tailW [32] (l.map (ptext 7))).length) → 2 ≤ acc.length + l.length → Rds t (.BL acc) e (.mk (opH 7) (acc ++ l)) (skipP t (e + (tailW [32] (l.map (ptext 7))).length))
  | [], acc, e, _, _, _, hst, h2 => by
    rw [List.append_nil, ← many_list (by simpa using h2)]
    exact Rds.bl0 hst
  | p :: l, acc, e, hp, ha, hs, hst, h2 => by
    rw [List.map_cons] at ha hs hst ⊢
    unfold tailW at ha hs hst ⊢
    have a1 : At t (e + 1) (ptext 7 p ++ tailW [32] (l.map (ptext 7))) := At.tail ha
    have a2 := At.left a1
    have a3 := At.right a1
    have ⟨ho, hh⟩ := hp p (List.mem_cons_self ..)
    have hd := hh.at a2
    have hsk : skipP t e = e + 1 := by rw [skip_go ha.in0 (ha.bl0 (x := 32)), skip_stop (by omega)]
    have el : e + ([32] ++ (ptext 7 p ++ tailW [32] (l.map (ptext 7)))).length = e + 1 + (ptext 7 p).length + (tailW [32] (l.map (ptext 7))).length := by simp only [List.length_append, List.length_cons, List.length_nil]; omega
    rw [el] at hs hst ⊢
    have hsep : Sep t (e + 1 + (ptext 7 p).length) := by
      cases l with
      | nil => simpa [tailW] using hs
      | cons p' l => rw [List.map_cons] at a3; unfold tailW at a3; exact .inr (.inl (a3.bl0 (x := 32)))
    have ih := and_list l (acc ++ [p]) (e + 1 + (ptext 7 p).length) (fun q hq => hp q (List.mem_cons_of_mem _ hq)) a3 hs hst (by simp only [List.length_append, List.length_cons, List.length_nil] at h2 ⊢; omega)
    rw [List.append_assoc] at ih
    have hO := ho t (e + 1) (e + 1) (skip_stop (by omega)) a2 hsep
    refine Rds.bl (by rw [hsk]; omega) (by rw [hsk]; omega) ?_ ih
    rw [hsk]; exact hO
theorem or_list : ∀ (l acc : List Q) (e : Nat), (∀ p ∈ l, OkB p ∧ Hed (ptext 8 p)) → At t e (tailW [32, 124, 32] (l.map (ptext 8))) → Sep t (e + (tailW [32, 124, 32] (l.map (ptext 8))).length) → Stp t (e + (tailW [32, 124, 32] (l.map (ptext 8))).length) → 2 ≤ acc.length + l.length → Rds t (.EL acc) (skipP t e) (.mk (opH 8) (acc ++ l)) (skipP t (e + (tailW [32, 124, 32] (l.map (ptext 8))).length))
  | [], acc, e, _, _, _, hst, h2 => by
    rw [List.append_nil, ← many_list (by simpa using h2)]
    have := Rds.el0 (t := t) (i := skipP t e) (acc := acc) (by
      rw [skip_idem]
      rcases hst with g | g
      · rw [show skipP t e = t.length from g, bl_out (by omega)]; decide
      · rw [show bl t (skipP t e) = 41 from g]; decide)
    rw [skip_idem] at this
    exact this
  | p :: l, acc, e, hp, ha, hs, hst, h2 => by
    rw [List.map_cons] at ha hs hst ⊢
    unfold tailW at ha hs hst ⊢
    have a0 : At t (e + 1) (124 :: (32 :: (ptext 8 p ++ tailW [32, 124, 32] (l.map (ptext 8))))) := At.tail ha
    have a01 := At.tail a0
    have a1 := At.tail a01
    have a2 := At.left a1
    have a3 := At.right a1
    have ⟨ho, hh⟩ := hp p (List.mem_cons_self ..)
    have hd := hh.at a2
    have b0 : bl t (e + 1) = 124 := a0.bl0
    have b01 : bl t (e + 1 + 1) = 32 := a01.bl0
    have hsk : skipP t e = e + 1 := by rw [skip_go ha.in0 (ha.bl0 (x := 32)), skip_stop (by omega)]
    have hsk2 : skipP t (e + 1 + 1) = e + 1 + 1 + 1 := by rw [skip_go a01.in0 b01, skip_stop (by omega)]
    have el : e + ([32, 124, 32] ++ (ptext 8 p ++ tailW [32, 124, 32] (l.map (ptext 8)))).length = e + 1 + 1 + 1 + (ptext 8 p).length + (tailW [32, 124, 32] (l.map (ptext 8))).length := by simp only [List.length_append, List.length_cons, List.length_nil]; omega
    rw [el] at hs hst ⊢
    have hsep : Sep t (e + 1 + 1 + 1 + (ptext 8 p).length) ∧ StB t (e + 1 + 1 + 1 + (ptext 8 p).length) := by
      cases l with
      | nil => exact ⟨by simpa [tailW] using hs, Stp.b (by simpa [tailW] using hst)⟩
      | cons p' l =>
        rw [List.map_cons] at a3; unfold tailW at a3
        have c1 : At t (e + 1 + 1 + 1 + (ptext 8 p).length + 1) (124 :: (32 :: (ptext 8 p' ++ tailW [32, 124, 32] (l.map (ptext 8))))) := At.tail a3
        have c2 : bl t (_ + 1) = 124 := c1.bl0
        refine ⟨.inr (.inl (a3.bl0 (x := 32))), .inr (.inl ?_)⟩
        rw [skip_go a3.in0 (a3.bl0 (x := 32)), skip_stop (by omega)]; exact c2
    have ih := or_list l (acc ++ [p]) (e + 1 + 1 + 1 + (ptext 8 p).length) (fun q hq => hp q (List.mem_cons_of_mem _ hq)) a3 hs hst (by simp only [List.length_append, List.length_cons, List.length_nil] at h2 ⊢; omega)
    rw [List.append_assoc] at ih
    have hB := ho t (e + 1 + 1 + 1) (e + 1 + 1) hsk2 a2 hsep.1 hsep.2
    have hk : skipP t (skipP t e) = e + 1 := by rw [skip_idem, hsk]
    refine Rds.el (by rw [hk]; exact b0) ?_ ih
    rw [hk]; exact hB
theorem back_all : ∀ (N : Nat) (q : Q), bulkQ q ≤ N → rightQ q = true → numQ q → OkO q ∧ OkB q ∧ OkE q
  | 0, q, h, _, _ => by have := bulk_pos q; omega
  | N + 1, .mk h l, hN, hr, hu => by
    have ⟨hl, hn⟩ := right_inv hr
    have hhed := hed_all _ _ (Nat.le_refl _) hr
    rw [bulkQ_mk] at hN
    rw [numQ_mk] at hu
    have kids : ∀ p ∈ l, (OkO p ∧ OkB p ∧ OkE p) ∧ Hed (textQ p) := fun p hp => by
      have hb : bulkQ p ≤ N := by
        obtain ⟨j, hj, rfl⟩ := List.getElem_of_mem hp
        have h1 := bulk_kid (l := l) hj
        rw [List.getD_eq_getElem?_getD, List.getElem?_eq_getElem hj] at h1
        have h2 : bulkQ l[j] ≤ bulkL l := h1
        omega
      exact ⟨back_all N p hb (right_mem hl p hp) (num_mem hu.2.2 p hp), hed_all _ _ (Nat.le_refl _) (right_mem hl p hp)⟩
    -- a part that is no row: as it stands
    have single : ¬ (h.op = 7 ∨ h.op = 8) → ∀ (t : List UInt8) (i i0 : Nat), skipP t i0 = i → At t i (textQ (.mk h l)) → Sep t (i + (textQ (.mk h l)).length) → Rds t .O i0 (.mk h l) (i + (textQ (.mk h l)).length) := by
      intro hno t i i0 h0 ha hs
      have hd := hhed.at ha
      by_cases h10 : h.op = 10
      · have ⟨z1, z2⟩ := all_inv hn h10
        have e : textQ (.mk h l) = [42] := by rw [textQ_mk, if_pos h10]
        rw [e] at ha hs ⊢
        have : l = [] := List.length_eq_zero_iff.1 z1
        subst this
        have := Rds.all (t := t) (i := i0) (by rw [h0]; exact ha.bl0)
        rw [h0] at this; rw [z2]; exact this
      by_cases h9 : h.op = 9
      · have ⟨z1, z2⟩ := not_inv hn h9
        match l, z1 with
        | [p], _ =>
          have e : textQ (.mk h [p]) = 45 :: ptext 7 p := by
            rw [textQ_mk, if_neg h10, if_pos h9, textL_map, h9]
            show 45 :: ptext 9 p = _
            unfold ptext; rw [br_row _ (by decide), br_row _ (by decide)]
          rw [e] at ha hs ⊢
          have ⟨⟨ho, _, _⟩, hh⟩ := kids p (List.mem_cons_self ..)
          have a1 := At.tail ha
          have hd1 := (hed_p 7 hh).at a1
          rw [List.length_cons, show i + ((ptext 7 p).length + 1) = i + 1 + (ptext 7 p).length by omega] at hs ⊢
          have h1 := ho t (i + 1) (i + 1) (skip_stop (by omega)) a1 hs
          rw [z2]
          exact Rds.not (by rw [h0]; exact ha.bl0) (by rw [h0]; exact h1)
      have ⟨H, z0⟩ := node_leaf hn (fun g => hno (.inl g)) (fun g => hno (.inr g)) h9 h10
      have : l = [] := List.length_eq_zero_iff.1 z0
      subst this
      have hlf := leaf_at H hu.1 hu.2.1 ha hs
      have hnm := name_inv H.name
      have hb : letterP (bl t i) = true := by
        have : ∃ r, textQ (.mk h []) = h.field ++ r := by
          rw [textQ_mk, if_neg h10, if_neg h9, if_neg (fun g => hno (.inl g)), if_neg (fun g => hno (.inr g))]
          split
          · exact ⟨_, rfl⟩
          · exact ⟨_, rfl⟩
        obtain ⟨r, e⟩ := this
        rw [e] at ha
        cases hf : h.field with
        | nil => rw [hf] at hnm; simp at hnm
        | cons c f =>
          rw [hf] at ha hnm
          rw [ha.bl0]; exact hnm.2 c (List.mem_cons_self ..)
      rw [letter_iff] at hb
      exact Rds.leaf (by rw [h0]; omega) (by rw [h0]; omega) (by rw [h0]; omega) (by rw [h0]; exact hlf)
    -- a row of parts, or one
    have row : ¬ h.op = 8 → ∀ (t : List UInt8) (i i0 : Nat), skipP t i0 = i → At t i (textQ (.mk h l)) → Sep t (i + (textQ (.mk h l)).length) → StB t (i + (textQ (.mk h l)).length) → Rds t .B i0 (.mk h l) (skipP t (i + (textQ (.mk h l)).length)) := by
      intro hno t i i0 h0 ha hs hst
      have hd := hhed.at ha
      by_cases h7 : h.op = 7
      · have ⟨z1, z2⟩ := join_inv hn (.inr h7)
        match l, z1 with
        | p :: l, z1 =>
          have e : textQ (.mk h (p :: l)) = ptext 7 p ++ tailW [32] (l.map (ptext 7)) := by
            rw [textQ_mk, if_neg (by omega), if_neg (by omega), if_pos h7, textL_map, h7, List.map_cons, joinW_eq]
          rw [e] at ha hs hst ⊢
          have ⟨⟨ho, _, _⟩, hh⟩ := kids p (List.mem_cons_self ..)
          have a2 := At.left ha
          have a3 := At.right ha
          rw [List.length_append, ← Nat.add_assoc] at hs hst ⊢
          have hsep : Sep t (i + (ptext 7 p).length) := by
            cases l with
            | nil => simp at z1
            | cons p' l => rw [List.map_cons] at a3; unfold tailW at a3; exact .inr (.inl (a3.bl0 (x := 32)))
          have h1 := ho t i i0 h0 a2 hsep
          have h2 := and_list l [p] (i + (ptext 7 p).length) (fun q hq => ⟨(kids q (List.mem_cons_of_mem _ hq)).1.1, hed_p 7 (kids q (List.mem_cons_of_mem _ hq)).2⟩) a3 hs hst (by simp only [List.length_cons, List.length_nil] at z1 ⊢; omega)
          rw [z2, h7]
          exact Rds.b (skip_in h0 hd.1) h1 h2
      · have h1 := single (by omega) t i i0 h0 ha hs
        exact Rds.b (skip_in h0 hd.1) h1 (Rds.bl0 (acc := [Q.mk h l]) hst)
    -- a whole query
    have whole : OkE (.mk h l) := by
      intro t i i0 h0 ha hs hst
      have hd := hhed.at ha
      by_cases h8 : h.op = 8
      · have ⟨z1, z2⟩ := join_inv hn (.inl h8)
        match l, z1 with
        | p :: l, z1 =>
          have e : textQ (.mk h (p :: l)) = ptext 8 p ++ tailW [32, 124, 32] (l.map (ptext 8)) := by
            rw [textQ_mk, if_neg (by omega), if_neg (by omega), if_neg (by omega), if_pos h8, textL_map, h8, List.map_cons, joinW_eq]
          rw [e] at ha hs hst ⊢
          have ⟨⟨_, ho, _⟩, hh⟩ := kids p (List.mem_cons_self ..)
          have a2 := At.left ha
          have a3 := At.right ha
          rw [List.length_append, ← Nat.add_assoc] at hs hst ⊢
          have hsep : Sep t (i + (ptext 8 p).length) ∧ StB t (i + (ptext 8 p).length) := by
            cases l with
            | nil => simp at z1
            | cons p' l =>
              rw [List.map_cons] at a3; unfold tailW at a3
              have c1 : At t (i + (ptext 8 p).length + 1) (124 :: (32 :: (ptext 8 p' ++ tailW [32, 124, 32] (l.map (ptext 8))))) := At.tail a3
              have c2 : bl t (_ + 1) = 124 := c1.bl0
              refine ⟨.inr (.inl (a3.bl0 (x := 32))), .inr (.inl ?_)⟩
              rw [skip_go a3.in0 (a3.bl0 (x := 32)), skip_stop (by omega)]; exact c2
          have h1 := ho t i i0 h0 a2 hsep.1 hsep.2
          have h2 := or_list l [p] (i + (ptext 8 p).length) (fun q hq => ⟨(kids q (List.mem_cons_of_mem _ hq)).1.2.1, hed_p 8 (kids q (List.mem_cons_of_mem _ hq)).2⟩) a3 hs hst (by simp only [List.length_cons, List.length_nil] at z1 ⊢; omega)
          rw [z2, h8]
          exact Rds.e (skip_in h0 hd.1) h1 h2
      · have h1 := row h8 t i i0 h0 ha hs hst.b
        have h2 := Rds.el0 (t := t) (i := skipP t (i + (textQ (.mk h l)).length)) (acc := [Q.mk h l]) (by
          rw [skip_idem]
          rcases hst with g | g
          · rw [g, bl_out (by omega)]; decide
          · rw [g]; decide)
        rw [skip_idem] at h2
        exact Rds.e (skip_in h0 hd.1) h1 h2
    have paren : (∀ (t : List UInt8) (i i0 : Nat), skipP t i0 = i → At t i (40 :: (textQ (.mk h l) ++ [41])) → Rds t .O i0 (.mk h l) (i + (40 :: (textQ (.mk h l) ++ [41])).length)) := by
      intro t i i0 h0 ha
      have a1 := At.tail ha
      have a2 := At.left a1
      have a3 := At.right a1
      have b3 : bl t (_ + _ + _) = 41 := a3.bl0
      have i3 := a3.in0
      have hd := hhed.at a2
      have hsk : skipP t (i + 1 + (textQ (.mk h l)).length) = i + 1 + (textQ (.mk h l)).length := skip_stop (fun g => by omega)
      have h1 := whole t (i + 1) (i + 1) (skip_stop (by omega)) a2 (.inr (.inr b3)) (.inr (by rw [hsk]; exact b3))
      rw [hsk] at h1
      have h2 := Rds.par (t := t) (i := i0) (by rw [h0]; exact ha.bl0) (by rw [h0]; exact h1) (take_ok (c := 41) i3 b3)
      rw [show i + (40 :: (textQ (.mk h l) ++ [41])).length = i + 1 + (textQ (.mk h l)).length + 1 by simp only [List.length_append, List.length_cons, List.length_nil]; omega]
      exact h2
    refine ⟨?_, ?_, whole⟩
    · intro t i i0 h0 ha hs
      by_cases hb : h.op = 7 ∨ h.op = 8
      · have e : ptext 7 (.mk h l) = 40 :: (textQ (.mk h l) ++ [41]) := by unfold ptext; rw [br_row _ (by decide)]; exact if_pos (decide_eq_true hb)
        rw [e] at ha hs ⊢
        exact paren t i i0 h0 ha
      · have e : ptext 7 (.mk h l) = textQ (.mk h l) := by unfold ptext; rw [br_row _ (by decide)]; exact if_neg (fun g => hb (of_decide_eq_true g))
        rw [e] at ha hs ⊢
        exact single hb t i i0 h0 ha hs
    · intro t i i0 h0 ha hs hst
      by_cases h8 : h.op = 8
      · have e : ptext 8 (.mk h l) = 40 :: (textQ (.mk h l) ++ [41]) := by unfold ptext; rw [br_or]; exact if_pos (decide_eq_true h8)
        rw [e] at ha hs hst ⊢
        exact Rds.b (skip_in h0 ha.in0) (paren t i i0 h0 ha) (Rds.bl0 (acc := [Q.mk h l]) hst)
      · have e : ptext 8 (.mk h l) = textQ (.mk h l) := by unfold ptext; rw [br_or]; exact if_neg (fun g => h8 (of_decide_eq_true g))
        rw [e] at ha hs hst ⊢
        exact row h8 t i i0 h0 ha hs hst
/-- what is printed is read as it was -/
theorem parse_print {q : Q} (hc : checkQ q = 0) (hu : numQ q) (hl : (textQ q).length ≤ 8192) : parseQ (textQ q) = (q, 0, 0) := by
  have hr : rightQ q = true := by
    unfold checkQ at hc
    split at hc
    · cases hc
    · split at hc
      · assumption
      · cases hc
  have ha : At (textQ q) 0 (textQ q) := ⟨[], by simp⟩
  have hd := (hed_all _ _ (Nat.le_refl _) hr).at ha
  have he : skipP (textQ q) (0 + (textQ q).length) = (textQ q).length := by rw [Nat.zero_add]; exact skip_stop (by omega)
  have h1 := (back_all _ q (Nat.le_refl _) hr hu).2.2 (textQ q) 0 0 (skip_stop (by omega)) ha (.inl (bl_out (by omega))) (.inl he)
  rw [he] at h1
  exact parse_ok (by omega) (h1.fuel (by omega) (by unfold fuel; simp only [cc_]; omega)) (by rw [skip_stop (by omega)]; omega) hc
end Go.SynP

set_option linter.unusedVariables false
set_option linter.unusedSimpArgs false
namespace Go.SynP
open Go Go.Gw Go.UtfP Go.TokP Go.QryP Go.RealP Go.RealQ
def topP (p : Bool) (d : Nat) : Nat := (bif p then 1000000000000 else 1) * 10 ^ d
theorem top_step (p : Bool) (d : Nat) : topP p (d + 1) = 10 * topP p d := by unfold topP; rw [Nat.pow_succ]; rw [Nat.mul_comm 10, Nat.mul_assoc]
theorem scan_b : ∀ (l : List UInt8) (p : Bool) (n d m j : Nat), d ≤ most p → n < topP p d → scan p n d l = some (m, j) → m < 1000000000000000 ∧ j ≤ 3
  | [], p, n, d, m, j, hd, hn, h => by
    rw [scan] at h
    split at h
    · cases h
    · simp only [Option.some.injEq, Prod.mk.injEq] at h
      obtain ⟨rfl, rfl⟩ := h
      cases p with
      | false =>
        have hd : d ≤ 12 := hd
        have h1 : (10 : Nat) ^ d ≤ 10 ^ 12 := Nat.pow_le_pow_right (by decide) hd
        unfold topP at hn
        simp only [cond_false] at hn ⊢
        omega
      | true =>
        have hd : d ≤ 3 := hd
        have h1 : (10 : Nat) ^ d ≤ 10 ^ 3 := Nat.pow_le_pow_right (by decide) hd
        unfold topP at hn
        simp only [cond_true] at hn ⊢
        omega
  | c :: t, p, n, d, m, j, hd, hn, h => by
    rw [scan] at h
    split at h
    · rename_i g
      obtain ⟨_, rfl, g3⟩ := g
      refine scan_b t true n 0 m j (Nat.zero_le _) ?_ h
      have hd : d ≤ 12 := hd
      have h1 : (10 : Nat) ^ d ≤ 10 ^ 12 := Nat.pow_le_pow_right (by decide) hd
      unfold topP at hn ⊢
      simp only [cond_true, cond_false] at hn ⊢
      omega
    · split at h
      · rename_i g
        exact scan_b t p _ (d + 1) m j (by omega) (by rw [top_step]; omega) h
      · cases h
theorem val_lt (l : List UInt8) (neg : Bool) : valP (scan false 0 0 l) neg < 18446744073709551616 := by
  cases h : scan false 0 0 l with
  | none => exact (by decide : 0 < 18446744073709551616)
  | some x =>
    obtain ⟨m, j⟩ := x
    have hb := scan_b l false 0 0 m j (Nat.zero_le _) (by decide) h
    have hj : (10 : Nat) ^ j ≤ 10 ^ 3 := Nat.pow_le_pow_right (by decide) hb.2
    have hj0 : 0 < (10 : Nat) ^ j := Nat.pow_pos (by decide)
    have := ratN_lt (a := m) (b := 10 ^ j) (by omega) hj0 (by omega)
    show ratN m (10 ^ j) + (bif neg then 9223372036854775808 else 0) < _
    cases neg <;> simp only [cond_true, cond_false] <;> omega
theorem parseV_lt (t : List UInt8) : parseV t < 18446744073709551616 := by
  unfold parseV
  split
  · decide
  · split
    · decide
    · split
      · decide
      · exact val_lt _ _
theorem hexDig_lt {c : Int} {d : Nat} (h : hexDig c = some d) : d < 16 := by
  unfold hexDig at h
  split at h
  · simp only [Option.some.injEq] at h; omega
  · split at h
    · simp only [Option.some.injEq] at h; omega
    · cases h
theorem hexL_lt : ∀ (l : List UInt8) (n v : Nat), hexL l n = some v → v < (n + 1) * 16 ^ l.length
  | [], n, v, h => by simp only [hexL, Option.some.injEq] at h; subst h; simp
  | c :: r, n, v, h => by
    unfold hexL at h
    split at h
    · rename_i d hd
      have h1 := hexDig_lt hd
      have h2 := hexL_lt r _ v h
      have h3 : (16 * n + d + 1) * 16 ^ r.length ≤ (n + 1) * 16 * 16 ^ r.length := Nat.mul_le_mul_right _ (by omega)
      rw [List.length_cons, Nat.pow_succ, Nat.mul_comm (16 ^ r.length) 16, ← Nat.mul_assoc]
      omega
    · cases h
theorem hexP_lt {t : List UInt8} {v : Nat} (h : hexP t = some v) : v < 18446744073709551616 := by
  unfold hexP at h
  split at h
  · rename_i g
    have := hexL_lt _ _ _ h
    rw [List.length_drop, g.1] at this
    simpa using this
  · cases h
section
variable {s : List UInt8}
theorem number_lt {i v k : Nat} {c : Int} (h : numberP s c i = .ok (v, k)) : v < 18446744073709551616 := by
  rcases index_cases (s.drop i) c.toNat.toUInt8 with hx | ⟨m, hx, hm⟩
  · rw [number_none hx] at h; cases h
  · rw [number_eq hx] at h
    split at h
    · rename_i g; simp only [Except.ok.injEq, Prod.mk.injEq] at h; rw [← h.1]; exact hexP_lt g
    · split at h
      · simp only [Except.ok.injEq, Prod.mk.injEq] at h; rw [← h.1]; exact parseV_lt _
      · cases h
theorem num_lf (h : Hd) (h1 : 0 ≤ h.lo ∧ h.lo < 18446744073709551616) (h2 : 0 ≤ h.hi ∧ h.hi < 18446744073709551616) : numQ (.mk h []) := by rw [numQ_mk]; exact ⟨h1, h2, by rw [numL]; trivial⟩
theorem num_zero (h : Hd) (h1 : h.lo = 0) (h2 : h.hi = 0) : numQ (.mk h []) := num_lf h (by omega) (by omega)
theorem leaf_num {i : Nat} {x : Q × Nat} (h : leafP s i = .ok x) : numQ x.1 := by
  unfold leafP at h
  simp only at h
  split at h
  · cases h
  · split at h
    · cases h
    · split at h
      · split at h
        · cases h
        · rename_i lo b hb
          split at h
          · cases h
          · rename_i hi c hc
            have h1 := number_lt hb
            have h2 := number_lt hc
            simp only [Except.ok.injEq] at h; subst h
            exact num_lf _ (by simp only; omega) (by simp only; omega)
      · split at h
        · cases h
        · repeat' split at h
          all_goals first | (cases h; done) | (simp only [Except.ok.injEq] at h; subst h; exact num_zero _ rfl rfl)
theorem many_num {op : Int} {acc : List Q} (h : numL acc) : numQ (manyQ op acc) := by
  match acc, h with
  | [], h => rw [show manyQ op [] = .mk (opH op) [] from rfl]; exact num_zero _ rfl rfl
  | [q], h => rw [numL] at h; exact h.1
  | a :: b :: l, h =>
    rw [show manyQ op (a :: b :: l) = .mk (opH op) (a :: b :: l) from rfl, numQ_mk]
    exact ⟨⟨Int.le_refl _, by show (0 : Int) < _; decide⟩, ⟨Int.le_refl _, by show (0 : Int) < _; decide⟩, h⟩
theorem num_app : ∀ {a b : List Q}, numL a → numL b → numL (a ++ b)
  | [], b, _, h => h
  | q :: a, b, h1, h2 => by rw [numL] at h1; rw [List.cons_append, numL]; exact ⟨h1.1, num_app h1.2 h2⟩
theorem num_one {q : Q} (h : numQ q) : numL [q] := by rw [numL, numL]; exact ⟨h, trivial⟩
def accN : Tg → Prop
  | .EL acc => numL acc
  | .BL acc => numL acc
  | _ => True
theorem prs_num : ∀ (n : Nat) (g : Tg) (i : Nat) (q : Q) (j : Nat), accN g → prs s n g i = .ok (q, j) → numQ q
  | 0, g, i, q, j, _, h => by simp [prs] at h
  | n + 1, .E, i, q, j, _, h => by
    cases hb : prs s n .B i with
    | error k => rw [e_err hb] at h; cases h
    | ok x => obtain ⟨a, m⟩ := x; rw [e_ok hb] at h; exact prs_num n (.EL [a]) m q j (num_one (prs_num n .B i a m trivial hb)) h
  | n + 1, .EL acc, i, q, j, ha, h => by
    by_cases hc : bl s (skipP s i) = 124
    · cases hb : prs s n .B (skipP s i + 1) with
      | error k => rw [el_err hc hb] at h; cases h
      | ok x => obtain ⟨a, m⟩ := x; rw [el_ok hc hb] at h; exact prs_num n (.EL (acc ++ [a])) m q j (num_app ha (num_one (prs_num n .B _ a m trivial hb))) h
    · rw [el_end hc] at h; simp only [Except.ok.injEq, Prod.mk.injEq] at h; rw [← h.1]; exact many_num ha
  | n + 1, .B, i, q, j, _, h => by
    cases hb : prs s n .O i with
    | error k => rw [b_err hb] at h; cases h
    | ok x => obtain ⟨a, m⟩ := x; rw [b_ok hb] at h; exact prs_num n (.BL [a]) m q j (num_one (prs_num n .O i a m trivial hb)) h
  | n + 1, .BL acc, i, q, j, ha, h => by
    by_cases hc : skipP s i = s.length ∨ bl s (skipP s i) = 124 ∨ bl s (skipP s i) = 41
    · rw [bl_end hc] at h; simp only [Except.ok.injEq, Prod.mk.injEq] at h; rw [← h.1]; exact many_num ha
    · cases hb : prs s n .O (skipP s i) with
      | error k => rw [bl_err hc hb] at h; cases h
      | ok x => obtain ⟨a, m⟩ := x; rw [bl_ok hc hb] at h; exact prs_num n (.BL (acc ++ [a])) m q j (num_app ha (num_one (prs_num n .O _ a m trivial hb))) h
  | n + 1, .O, i, q, j, _, h => by
    by_cases h45 : bl s (skipP s i) = 45
    · cases hb : prs s n .O (skipP s i + 1) with
      | error k => rw [o_not_err h45 hb] at h; cases h
      | ok x =>
        obtain ⟨a, m⟩ := x
        rw [o_not h45 hb] at h
        simp only [Except.ok.injEq, Prod.mk.injEq] at h
        rw [← h.1, numQ_mk]
        exact ⟨⟨Int.le_refl _, by decide⟩, ⟨Int.le_refl _, by decide⟩, num_one (prs_num n .O _ a m trivial hb)⟩
    · by_cases h40 : bl s (skipP s i) = 40
      · cases hb : prs s n .E (skipP s i + 1) with
        | error k => rw [o_par_err h40 hb] at h; cases h
        | ok x => cases ht : takeP s 41 x.2 with
          | error y => rw [o_par_err2 h40 hb ht] at h; cases h
          | ok y =>
            rw [o_par h40 hb ht] at h
            simp only [Except.ok.injEq, Prod.mk.injEq] at h
            rw [← h.1]; exact prs_num n .E _ x.1 x.2 trivial hb
      · by_cases h42 : bl s (skipP s i) = 42
        · rw [o_all h42] at h; simp only [Except.ok.injEq, Prod.mk.injEq] at h; rw [← h.1]; exact num_zero _ rfl rfl
        · rw [o_leaf h45 h40 h42] at h; exact leaf_num h
theorem parse_num (s : List UInt8) : numQ (parseQ s).1 := by
  by_cases hl : 8192 < s.length
  · rw [parse_long hl]; exact num_zero _ rfl rfl
  · cases hp : prs s (fuel s) .E 0 with
    | error k => rw [parse_err hl hp]; exact num_zero _ rfl rfl
    | ok x =>
      obtain ⟨a, j⟩ := x
      by_cases hm : skipP s j < s.length
      · rw [parse_more hl hp hm]; exact num_zero _ rfl rfl
      · by_cases hc : checkQ a = 0
        · rw [parse_ok hl hp hm hc]; exact prs_num _ .E _ _ _ trivial hp
        · rw [parse_bad hl hp hm hc]; exact num_zero _ rfl rfl
theorem parse_bulk (s : List UInt8) : bulkQ (parseQ s).1 ≤ 16400 := by
  have h0 : bulkQ q0 ≤ 16400 := by decide
  by_cases hl : 8192 < s.length
  · rw [parse_long hl]; exact h0
  · cases hp : prs s (fuel s) .E 0 with
    | error k => rw [parse_err hl hp]; exact h0
    | ok x =>
      obtain ⟨a, j⟩ := x
      by_cases hm : skipP s j < s.length
      · rw [parse_more hl hp hm]; exact h0
      · by_cases hc : checkQ a = 0
        · rw [parse_ok hl hp hm hc]
          have h1 := prs_inv _ _ _ _ _ (Nat.zero_le _) hp
          have := prs_bulk (s := s) _ .E 0 _ _ (Nat.zero_le _) trivial hp
          simp only [bulkB] at this
          show bulkQ a ≤ 16400
          omega
        · rw [parse_bad hl hp hm hc]; exact h0
end
end Go.SynP
namespace Go.SynP
open Go Go.Gw Go.UtfP Go.TokP Go.QryP
theorem check_right {q : Q} (h : checkQ q = 0) : rightQ q = true := by
  unfold checkQ at h
  split at h
  · cases h
  · split at h
    · assumption
    · cases h
theorem print_bad {q : Q} (h : ¬ checkQ q = 0) : printQ q = ([], checkQ q) := by unfold printQ; rw [if_neg h]
theorem print_long {q : Q} (h : checkQ q = 0) (h2 : 8192 < (textQ q).length) : printQ q = ([], 4) := by unfold printQ; rw [if_pos h, if_pos h2]
theorem print_ok {q : Q} (h : checkQ q = 0) (h2 : ¬ 8192 < (textQ q).length) : printQ q = (textQ q, 0) := by unfold printQ; rw [if_pos h, if_neg h2]
end Go.SynP

set_option maxRecDepth 100000
namespace Go.SynP
open Go Go.Gw Go.UtfP Go.TokP Go.QryP Go.RealP Go.RealQ
def awkI : List UInt8 := [116, 58, 34, 102, 111, 120, 34, 32, 45, 40, 110, 58, 91, 49, 46, 53, 32, 105, 110, 102, 93, 32, 124, 32, 116, 58, 34, 97, 34, 42, 41]
def awkO : List UInt8 := [116, 58, 34, 102, 111, 120, 34, 32, 45, 40, 110, 58, 91, 35, 51, 102, 102, 56, 48, 48, 48, 48, 48, 48, 48, 48, 48, 48, 48, 48, 32, 35, 55, 102, 102, 48, 48, 48, 48, 48, 48, 48, 48, 48, 48, 48, 48, 48, 93, 32, 124, 32, 116, 58, 34, 97, 34, 42, 41]
theorem awk_read : (parseQ awkI).2.2 = 0 := by decide +kernel
theorem awk_print : printQ (parseQ awkI).1 = (awkO, 0) := by decide +kernel
end Go.SynP

set_option linter.unusedVariables false
set_option linter.unusedSimpArgs false
namespace Go.SynP
open Go Go.Gw Go.UtfP Go.TokP Go.QryP Go.RealP Go.RealQ
variable {s : List UInt8}
theorem take_er {c : Int} {i k : Nat} (hi : i ≤ s.length) (h : takeP s c i = .error k) : k ≤ s.length := by
  unfold takeP at h; split at h
  · cases h
  · simp only [Except.error.injEq] at h; omega
theorem quoteL_er : ∀ (n j : Nat) (acc : List UInt8) (k : Nat), j ≤ s.length → quoteL s n j acc = .error k → k ≤ s.length
  | 0, j, acc, k, hj, h => by simp only [quoteL, Except.error.injEq] at h; omega
  | n + 1, j, acc, k, hj, h => by
    by_cases h0 : j < s.length
    · by_cases h1 : bl s j = 34
      · rw [quote_close h1] at h; cases h
      · by_cases h2 : bl s j = 92
        · by_cases h3 : bl s (j + 1) = 34 ∨ bl s (j + 1) = 92
          · have := bl_in (s := s) (i := j + 1) (by omega)
            rw [quote_esc h2 h3] at h; exact quoteL_er n _ _ _ (by omega) h
          · rw [quote_bad h2 (fun g => h3 (.inl g)) (fun g => h3 (.inr g))] at h
            simp only [Except.error.injEq] at h; omega
        · rw [quote_byte h0 h1 h2] at h; exact quoteL_er n _ _ _ (by omega) h
    · rw [quote_end h0] at h; simp only [Except.error.injEq] at h; omega
theorem quoted_er {i k : Nat} (hi : i ≤ s.length) (h : quotedP s i = .error k) : k ≤ s.length := by
  unfold quotedP at h
  split at h
  · rename_i g; simp only [Except.error.injEq] at h; rw [← h]; exact take_er hi g
  · rename_i j hj; have := take_inv hj; exact quoteL_er _ _ _ _ (by omega) h
theorem small_er {i k : Nat} (hi : i ≤ s.length) (h : smallP s i = .error k) : k ≤ s.length := by
  by_cases h1 : 48 ≤ bl s i ∧ bl s i ≤ 57
  · by_cases h2 : 48 ≤ bl s (i + 1) ∧ bl s (i + 1) ≤ 57
    · rw [small_two h1 h2] at h; cases h
    · rw [small_one h1 h2] at h; cases h
  · rw [small_none h1] at h; simp only [Except.error.injEq] at h; omega
theorem number_er {c : Int} {i k : Nat} (hi : i ≤ s.length) (h : numberP s c i = .error k) : k ≤ s.length := by
  rcases index_cases (s.drop i) c.toNat.toUInt8 with hx | ⟨m, hx, hm⟩
  · rw [number_none hx] at h; simp only [Except.error.injEq] at h; omega
  · rw [number_eq hx] at h
    split at h
    · cases h
    · split at h
      · cases h
      · simp only [Except.error.injEq] at h; omega
theorem leaf_er {i k : Nat} (hi : i ≤ s.length) (h : leafP s i = .error k) : k ≤ s.length := by
  have hn := (nam_le s i).2 hi
  unfold leafP at h
  simp only at h
  split at h
  · simp only [Except.error.injEq] at h; omega
  · split at h
    · rename_i g; simp only [Except.error.injEq] at h; rw [← h]; exact take_er hn g
    · rename_i a ha
      have h1 := take_inv ha
      split at h
      · rename_i h91
        have h2 := bl_in (s := s) (i := a) (by omega)
        split at h
        · rename_i g; simp only [Except.error.injEq] at h; rw [← h]; exact number_er (by omega) g
        · rename_i lo b hb
          have h3 := number_inv (i := a + 1) (by omega) hb
          split at h
          · rename_i g; simp only [Except.error.injEq] at h; rw [← h]; exact number_er (by omega) g
          · cases h
      · split at h
        · rename_i g; simp only [Except.error.injEq] at h; rw [← h]; exact quoted_er (by omega) g
        · rename_i tx b hb
          have h2 := quoted_inv hb
          split at h
          · cases h
          · split at h
            · cases h
            · split at h
              · cases h
              · split at h
                · rename_i h126
                  have h3 := bl_in (s := s) (i := b) (by omega)
                  split at h
                  · rename_i g; simp only [Except.error.injEq] at h; rw [← h]; exact small_er (by omega) g
                  · rename_i e c hc
                    have h4 := small_inv hc
                    split at h
                    · rename_i g; simp only [Except.error.injEq] at h; rw [← h]; exact take_er (by omega) g
                    · rename_i d hd
                      have h5 := take_inv hd
                      split at h
                      · rename_i g; simp only [Except.error.injEq] at h; rw [← h]; exact small_er (by omega) g
                      · cases h
                · cases h
theorem prs_er : ∀ (n : Nat) (g : Tg) (i k : Nat), i ≤ s.length → prs s n g i = .error k → k ≤ s.length
  | 0, g, i, k, hi, h => by simp only [prs, Except.error.injEq] at h; omega
  | n + 1, .E, i, k, hi, h => by
    cases hb : prs s n .B i with
    | error k' => rw [e_err hb] at h; simp only [Except.error.injEq] at h; rw [← h]; exact prs_er n .B i k' hi hb
    | ok x => obtain ⟨a, m⟩ := x; have := prs_inv n .B i a m hi hb; rw [e_ok hb] at h; exact prs_er n (.EL [a]) m k this.2 h
  | n + 1, .EL acc, i, k, hi, h => by
    have hk := skip_le s i
    by_cases hc : bl s (skipP s i) = 124
    · have hin := bl_in (s := s) (i := skipP s i) (by omega)
      cases hb : prs s n .B (skipP s i + 1) with
      | error k' => rw [el_err hc hb] at h; simp only [Except.error.injEq] at h; rw [← h]; exact prs_er n .B _ k' (by omega) hb
      | ok x => obtain ⟨a, m⟩ := x; have := prs_inv n .B _ a m (by omega) hb; rw [el_ok hc hb] at h; exact prs_er n (.EL (acc ++ [a])) m k this.2 h
    · rw [el_end hc] at h; cases h
  | n + 1, .B, i, k, hi, h => by
    cases hb : prs s n .O i with
    | error k' => rw [b_err hb] at h; simp only [Except.error.injEq] at h; rw [← h]; exact prs_er n .O i k' hi hb
    | ok x => obtain ⟨a, m⟩ := x; have := prs_inv n .O i a m hi hb; rw [b_ok hb] at h; exact prs_er n (.BL [a]) m k this.2 h
  | n + 1, .BL acc, i, k, hi, h => by
    have hk := skip_le s i
    by_cases hc : skipP s i = s.length ∨ bl s (skipP s i) = 124 ∨ bl s (skipP s i) = 41
    · rw [bl_end hc] at h; cases h
    · cases hb : prs s n .O (skipP s i) with
      | error k' => rw [bl_err hc hb] at h; simp only [Except.error.injEq] at h; rw [← h]; exact prs_er n .O _ k' (by omega) hb
      | ok x => obtain ⟨a, m⟩ := x; have := prs_inv n .O _ a m (by omega) hb; rw [bl_ok hc hb] at h; exact prs_er n (.BL (acc ++ [a])) m k this.2 h
  | n + 1, .O, i, k, hi, h => by
    have hk := skip_le s i
    have hor := bl_or s (skipP s i)
    by_cases h45 : bl s (skipP s i) = 45
    · cases hb : prs s n .O (skipP s i + 1) with
      | error k' => rw [o_not_err h45 hb] at h; simp only [Except.error.injEq] at h; rw [← h]; exact prs_er n .O _ k' (by omega) hb
      | ok x => rw [o_not h45 hb] at h; cases h
    · by_cases h40 : bl s (skipP s i) = 40
      · cases hb : prs s n .E (skipP s i + 1) with
        | error k' => rw [o_par_err h40 hb] at h; simp only [Except.error.injEq] at h; rw [← h]; exact prs_er n .E _ k' (by omega) hb
        | ok x =>
          have := prs_inv n .E _ x.1 x.2 (by omega) hb
          cases ht : takeP s 41 x.2 with
          | error y => rw [o_par_err2 h40 hb ht] at h; simp only [Except.error.injEq] at h; rw [← h]; exact take_er this.2 ht
          | ok y => rw [o_par h40 hb ht] at h; cases h
      · by_cases h42 : bl s (skipP s i) = 42
        · rw [o_all h42] at h; cases h
        · rw [o_leaf h45 h40 h42] at h; exact leaf_er (by omega) h
theorem check_vals (q : Q) : checkQ q = 0 ∨ checkQ q = 4 ∨ checkQ q = 20 := by
  unfold checkQ; split
  · exact .inr (.inl rfl)
  · split
    · exact .inl rfl
    · exact .inr (.inr rfl)
/-- a text that is refused -/
theorem parse_fail (h : ¬ (parseQ s).2.2 = 0) : (parseQ s).1 = q0 ∧ (parseQ s).2.1 ≤ s.length ∧ (¬ (parseQ s).2.2 = 21 → (parseQ s).2.1 = 0) := by
  by_cases hl : 8192 < s.length
  · rw [parse_long hl]; exact ⟨rfl, Nat.zero_le _, fun _ => rfl⟩
  · cases hp : prs s (fuel s) .E 0 with
    | error k => rw [parse_err hl hp]; exact ⟨rfl, prs_er _ _ _ _ (Nat.zero_le _) hp, fun g => absurd rfl g⟩
    | ok x =>
      obtain ⟨a, j⟩ := x
      by_cases hm : skipP s j < s.length
      · rw [parse_more hl hp hm]; exact ⟨rfl, Nat.le_of_lt hm, fun g => absurd rfl g⟩
      · by_cases hc : checkQ a = 0
        · rw [parse_ok hl hp hm hc] at h; exact absurd rfl h
        · rw [parse_bad hl hp hm hc]; exact ⟨rfl, Nat.zero_le _, fun _ => rfl⟩
theorem parse_check (h : (parseQ s).2.2 = 0) : checkQ (parseQ s).1 = 0 := (parse_zero (s := s) (q := (parseQ s).1) (n := (parseQ s).2.1) (by rw [← h])).2.1
theorem print_len (q : Q) : (printQ q).1.length ≤ 8192 := by
  unfold printQ; split
  · split
    · exact Nat.zero_le _
    · show (textQ q).length ≤ 8192; omega
  · exact Nat.zero_le _
theorem print_lim {q : Q} (h : checkQ q = 0) : (printQ q).2 = 0 ∨ (printQ q).2 = 4 := by
  unfold printQ; rw [if_pos h]; split
  · exact .inr rfl
  · exact .inl rfl
theorem print_back {q : Q} (hu : numQ q) (h : (printQ q).2 = 0) : parseQ (printQ q).1 = (q, 0, 0) := by
  have hc : checkQ q = 0 := by
    by_cases g : checkQ q = 0
    · exact g
    · rw [print_bad g] at h; exact absurd h g
  by_cases hl : 8192 < (textQ q).length
  · rw [print_long hc hl] at h; cases h
  · rw [print_ok hc hl]; exact parse_print hc hu (by omega)
end Go.SynP

namespace Go.Gw
set_option linter.unusedVariables false
set_option linter.unusedSimpArgs false
open Go.RowKit
section
variable {P : Program} {w w0 : World}
/-- bytes in a block that is new since w0 -/
def Bts (w0 w : World) (v : Value) (l : List Int) : Prop :=
  Kept [] w0 w ∧ ∃ g cap cur e fz, v = .slice (some ⟨g, 0, none⟩) l.length cap ∧ w0.heap.size ≤ g ∧ w.heap[g]? = some (.cells cur e fz) ∧ l.length ≤ fz.1 ∧ l.length ≤ cap ∧ cap ≤ maxLen ∧ l.length ≤ cur.size ∧ cur.toList.take l.length = ivals .u8 l
def numsOf (l : List UInt8) : List Int := l.map fun c => (c.toNat : Int)
theorem numsOf_len (l : List UInt8) : (numsOf l).length = l.length := by simp [numsOf]
theorem numsOf_bytes (l : List UInt8) : bytesOf (numsOf l) = l := by
  unfold bytesOf numsOf
  rw [List.map_map]
  have : (fun x : Int => UInt8.ofNat x.toNat) ∘ (fun c : UInt8 => (c.toNat : Int)) = id := by funext c; simp
  rw [this, List.map_id]
theorem numsOf_bd (l : List UInt8) : ∀ x ∈ numsOf l, 0 ≤ x ∧ x ≤ 255 := by
  intro x hx
  obtain ⟨c, _, rfl⟩ := List.mem_map.1 hx
  have := c.toNat_lt; omega
theorem numsOf_get (l : List UInt8) (j : Nat) : (numsOf l).getD j 0 = bl l j := by
  unfold numsOf bl
  rw [List.getD_eq_getElem?_getD, List.getD_eq_getElem?_getD, List.getElem?_map]
  cases l[j]? <;> simp
theorem Bts.rd {v : Value} {l : List Int} (h : Bts w0 w v l) : Rd w 1 v l.length (ivals .u8 l) := by
  obtain ⟨_, g, cap, cur, e, fz, rfl, h1, h2, h3, h4, h5, h6, h7⟩ := h
  refine ⟨by simp [ivals], some ⟨g, 0, none⟩, cap, rfl, h4, h5, (fun e => by cases e), fun ad e => ?_⟩
  simp only [Option.some.injEq] at e
  subst e
  refine ⟨.inr rfl, fun j u hu => ?_⟩
  have hj : j < l.length := by have := (List.getElem?_eq_some_iff.1 hu).1; simpa [ivals] using this
  rw [← h7, List.getElem?_take_of_lt hj] at hu
  simp only [Nat.zero_add]
  unfold World.cell?
  simp only [h2]
  simpa using hu
theorem bts_store {E : TypeId} (hE1 : P.cellsOf E = 1) {v : Value} {l : List Int} (h : Bts w0 w v l) {j : Nat} {p : Addr} (hp : At v 1 j p) (hj : j < l.length) (x : Int) :
    ∃ w', (Instr.storeAt E (.pointer (some p)) (.int .u8 x)).run P w = .ok () w' ∧ Bts w0 w' v (l.set j x) := by
  have hrd := h.rd
  obtain ⟨hk, g, cap, cur, e, fz, rfl, h1, h2, h3, h4, h5, h6, h7⟩ := h
  obtain ⟨bl, off, n, c, e1, rfl⟩ := hp
  simp only [Value.slice.injEq, Option.some.injEq, Addr.mk.injEq, and_true] at e1
  obtain ⟨⟨rfl, rfl⟩, rfl, rfl⟩ := e1
  have hcell : w.cell? ⟨g, j, none⟩ = some ((ivals .u8 l)[j]'(by simpa [ivals] using hj)) := by
    obtain ⟨_, a, c, e, _, _, _, hc⟩ := hrd
    simp only [Value.slice.injEq] at e
    obtain ⟨rfl, _, _⟩ := e
    have := (hc _ rfl).2 j _ (List.getElem?_eq_getElem (by simpa [ivals] using hj))
    simpa using this
  have hfr : w.frozen? ⟨g, j, none⟩ = false := by
    unfold World.frozen?
    simp only [h2]
    simp; omega
  refine ⟨w.setCell ⟨g, j, none⟩ (.int .u8 x), ?_, ?_, g, cap, cur.setIfInBounds j (.int .u8 x), e, fz, ?_, h1, ?_, by simpa using h3, by simpa using h4, h5, by simpa using h6, ?_⟩
  · have hc1 : (Value.int .u8 x).cells = #[.int .u8 x] := rfl
    simp only [Nat.mul_one, Nat.zero_add]
    simp [Instr.storeAt, Instr.sureAddr, storeVar, size_one hE1, hc1, storeCells, Addr.add]
    rw [run_store _ _ _ _ _ rfl, hcell]
    simp [hfr]
  · refine ⟨hk.os, hk.tape, hk.output, ?_, fun b hb _ => ?_⟩
    · simpa [World.setCell] using hk.size
    · have := hk.block b hb (by simp)
      rw [← this]
      unfold World.setCell
      simp only [Array.getElem?_modify]
      rw [if_neg (by omega)]
  · simp
  · unfold World.setCell
    simp only [Array.getElem?_modify]
    rw [h2]; simp
  · rw [List.length_set, Array.toList_setIfInBounds, List.take_set, h7]
    simp [ivals, List.map_set]
theorem bts_of {src dst e : TypeId} (hs : P.underlying src = some .string) (hd : P.underlying dst = some (.slice e)) (he : P.underlying e = some (.int .u8)) {L : List Row} (hM : Mem [] w0 w L) (l : List UInt8) (hl : l.length ≤ 140737488355328) :
    ∃ v w', (convert src dst (.string (sb l))).run P w = .ok v w' ∧ Mem [] w0 w' L ∧ Bts w0 w' v (numsOf l) := by
  have hrun := run_bytes_of_string (P := P) w src dst e (sb l) hs hd he
  rw [sb_size] at hrun
  refine ⟨_, _, hrun, ?_, ?_⟩
  · refine hM.same ⟨rfl, rfl, rfl, ?_, fun k hk _ => ?_⟩
    · show w.heap.size ≤ (w.heap.push _).size
      simp
    · show (w.heap.push _)[k]? = w.heap[k]?
      rw [Array.getElem?_push_lt hk, Array.getElem?_eq_getElem hk]
  · have hge := grownCap_ge w l.length 0 e
    have hmx := grownCap_le_maxLen w l.length 0 e (by simp only [maxLen]; omega)
    have hsz : (bytesRow (sb l) (grownCap w l.length 0 e)).size = grownCap w l.length 0 e := by
      have h1 : (sb l).data.size = l.length := by simp [sb]
      simp only [bytesRow, Array.size_append, Array.size_map, Array.size_replicate, sb_size, h1]; omega
    refine ⟨hM.kept.trans ⟨rfl, rfl, rfl, ?_, fun k hk _ => ?_⟩, w.heap.size, grownCap w l.length 0 e, bytesRow (sb l) (grownCap w l.length 0 e), e, ((bytesRow (sb l) (grownCap w l.length 0 e)).size, (bytesRow (sb l) (grownCap w l.length 0 e)).size + 1), by rw [numsOf_len], hM.kept.size, ?_, ?_, by rw [numsOf_len]; exact hge, hmx, ?_, ?_⟩
    · show w.heap.size ≤ (w.heap.push _).size
      simp
    · show (w.heap.push _)[k]? = w.heap[k]?
      rw [Array.getElem?_push_lt hk, Array.getElem?_eq_getElem hk]
    · show (w.heap.push _)[w.heap.size]? = _
      exact Array.getElem?_push_size
    · show (numsOf l).length ≤ (bytesRow (sb l) _).size
      rw [numsOf_len, hsz]; exact hge
    · rw [numsOf_len, hsz]; exact hge
    · rw [numsOf_len]
      simp only [bytesRow, Array.toList_append, Array.toList_map]
      rw [List.take_append_of_le_length (by simp [sb])]
      rw [List.take_of_length_le (by simp [sb])]
      simp [sb, ivals, numsOf]
theorem Bts.mem {v : Value} {l : List Int} (h : Bts w0 w v l) : Mem [] w0 w [] := ⟨h.1, (fun _ h => by cases h), trivial, (fun _ h => by cases h)⟩
end
end Go.Gw

namespace Go.SynP
set_option linter.unusedVariables false
open Go Go.Gw Go.UtfP
/-- a letter's bit of case set -/
def lowI (c : Int) : Int := IntKind.wrap .u8 ((BitVec.ofInt (IntKind.bits .u8) c ||| BitVec.ofInt (IntKind.bits .u8) 32).toNat : Int)
def digU (c : Int) : Option Nat := if 48 ≤ c ∧ c ≤ 57 then some (c - 48).toNat else if 97 ≤ lowI c ∧ lowI c ≤ 102 then some (lowI c - 87).toNat else none
def hexU : List UInt8 → Nat → Option Nat
  | [], n => some n
  | c :: r, n => match digU (c.toNat : Int) with
    | some d => hexU r (16 * n + d)
    | none => none
set_option maxRecDepth 100000 in
theorem low_all : ∀ i : Fin 256, (lowI (i.val : Int) < 256 ∧ 32 ≤ lowI (i.val : Int)) ∧ (i.val < 128 → ¬ (65 ≤ i.val ∧ i.val ≤ 90) → digU (i.val : Int) = hexDig (i.val : Int)) ∧ (128 ≤ i.val → digU (i.val : Int) = none ∧ hexDig (i.val : Int) = none) ∧ ((65 ≤ i.val ∧ i.val ≤ 90) → hexDig (i.val : Int) = none) := by decide
theorem low_bd {c : Int} (h : 0 ≤ c ∧ c ≤ 255) : lowI c < 256 ∧ 32 ≤ lowI c := by
  have := (low_all ⟨c.toNat, by omega⟩).1
  rwa [show ((c.toNat : Nat) : Int) = c by omega] at this
theorem dig_lt {c : Int} {d : Nat} (h : digU c = some d) : d < 16 := by
  unfold digU at h
  split at h
  · simp only [Option.some.injEq] at h; omega
  · split at h
    · simp only [Option.some.injEq] at h; omega
    · cases h
theorem hexU_step {t : List UInt8} {j n : Nat} (h : j < t.length) : hexU (t.drop j) n = match digU (bl t j) with
  | some d => hexU (t.drop (j + 1)) (16 * n + d)
  | none => none := by
  rw [List.drop_eq_getElem_cons h]
  have : bl t j = ((t[j].toNat : Nat) : Int) := by unfold bl; rw [List.getD_eq_getElem?_getD, List.getElem?_eq_getElem h]; rfl
  rw [this]; rfl
theorem hexU_at {t : List UInt8} {j n : Nat} (h : j < t.length) : hexU (t.drop j) n = match digU (List.getD (numsOf t) j 0) with
  | some d => hexU (t.drop (j + 1)) (16 * n + d)
  | none => none := by rw [numsOf_get]; exact hexU_step h
theorem hexU_end {t : List UInt8} {j n : Nat} (h : ¬ j < t.length) : hexU (t.drop j) n = some n := by rw [List.drop_eq_nil_of_le (by omega)]; rfl
theorem dig_num {c : Int} (h : 48 ≤ c ∧ c ≤ 57) : digU c = some (c - 48).toNat := if_pos h
theorem dig_let {c : Int} (h : ¬ (48 ≤ c ∧ c ≤ 57)) (h2 : 97 ≤ lowI c ∧ lowI c ≤ 102) : digU c = some (lowI c - 87).toNat := by unfold digU; rw [if_neg h, if_pos h2]
theorem dig_no {c : Int} (h : ¬ (48 ≤ c ∧ c ≤ 57)) (h2 : ¬ (97 ≤ lowI c ∧ lowI c ≤ 102)) : digU c = none := by unfold digU; rw [if_neg h, if_neg h2]
/-- room: a number of j digits -/
theorem pow_room {j n : Nat} (hj : j < 16) (h : n < 16 ^ j) : n < 1152921504606846976 :=
  Nat.lt_of_lt_of_le h (Nat.le_trans (Nat.pow_le_pow_right (by omega) (show j ≤ 15 by omega)) (by decide))
theorem pow_step {j n d : Nat} (h : n < 16 ^ j) (hd : d < 16) : 16 * n + d < 16 ^ (j + 1) := by rw [Nat.pow_succ]; omega
/-- where no capital stands, and all is ASCII, both read alike -/
theorem hexU_same : ∀ (t : List UInt8) (n : Nat), (∀ b ∈ t, b.toNat < 128 → ¬ (65 ≤ b.toNat ∧ b.toNat ≤ 90)) → hexU t n = hexL t n
  | [], n, _ => rfl
  | c :: r, n, h => by
    have hc : c.toNat < 256 := c.toNat_lt
    have g := low_all ⟨c.toNat, hc⟩
    have e : digU (c.toNat : Int) = hexDig (c.toNat : Int) := by
      by_cases h1 : c.toNat < 128
      · exact g.2.1 h1 (h c List.mem_cons_self h1)
      · rw [(g.2.2.1 (by simp only; omega)).1, (g.2.2.1 (by simp only; omega)).2]
    unfold hexU hexL
    rw [e]
    cases hexDig (c.toNat : Int) with
    | none => rfl
    | some d => exact hexU_same r _ (fun b hb => h b (List.mem_cons_of_mem _ hb))
/-- what the parser reads has no capital and is ASCII -/
theorem hexL_small : ∀ (t : List UInt8) (n : Nat) (v : Nat), hexL t n = some v → ∀ b ∈ t, b.toNat < 128 ∧ ¬ (65 ≤ b.toNat ∧ b.toNat ≤ 90) ∧ b.toNat ≠ 95 ∧ b.toNat ≠ 43 ∧ b.toNat ≠ 45
  | [], _, _, _, b, hb => by cases hb
  | c :: r, n, v, h, b, hb => by
    unfold hexL at h
    split at h
    · rename_i d hd
      rcases List.mem_cons.1 hb with rfl | hb
      · unfold hexDig at hd
        split at hd
        · omega
        · split at hd
          · omega
          · cases hd
      · exact hexL_small r _ _ h b hb
    · cases h
end Go.SynP

namespace Go.SynP
set_option linter.unusedVariables false
open Go Go.Gw Go.UtfP
variable {t : List UInt8}
set_option maxRecDepth 100000 in
theorem lowerB_all : ∀ i : Fin 256, Lib.lowerB (UInt8.ofNat i.val) = UInt8.ofNat i.val ↔ ¬ (65 ≤ i.val ∧ i.val ≤ 90) := by decide
theorem lowerB_iff (b : UInt8) : Lib.lowerB b = b ↔ ¬ (65 ≤ b.toNat ∧ b.toNat ≤ 90) := by
  have := lowerB_all ⟨b.toNat, b.toNat_lt⟩
  simpa using this
theorem lowerA_iff : ∀ (l : List UInt8), Lib.toLowerA l = l ↔ ∀ b ∈ l, ¬ (65 ≤ b.toNat ∧ b.toNat ≤ 90)
  | [] => by simp [Lib.toLowerA]
  | b :: l => by
    have ih := lowerA_iff l
    unfold Lib.toLowerA at *
    simp only [List.map_cons, List.cons.injEq, List.mem_cons, forall_eq_or_imp]
    rw [ih, lowerB_iff]
theorem hexU_ascii : ∀ (l : List UInt8) (n v : Nat), hexU l n = some v → ∀ b ∈ l, b.toNat < 128
  | [], _, _, _, b, hb => by cases hb
  | c :: r, n, v, h, b, hb => by
    unfold hexU at h
    split at h
    · rename_i d hd
      rcases List.mem_cons.1 hb with rfl | hb
      · have := (low_all ⟨b.toNat, b.toNat_lt⟩).2.2.1
        rcases Nat.lt_or_ge b.toNat 128 with g | g
        · exact g
        · rw [(this g).1] at hd; cases hd
      · exact hexU_ascii r _ _ h b hb
    · cases h
theorem mem_drop {b : UInt8} (h : b ∈ t) : b = t.getD 0 0 ∨ b ∈ t.drop 1 := by
  match t, h with
  | c :: r, h => rcases List.mem_cons.1 h with rfl | h
                 · exact .inl rfl
                 · exact .inr h
theorem first_byte (h : bl t 0 = 35) : t.getD 0 0 = 35 := by
  unfold bl at h
  have h2 : (t.getD 0 0).toNat = 35 := by omega
  exact UInt8.toNat_inj.1 h2
theorem hexP_none (h : ¬ (t.length = 17 ∧ bl t 0 = 35)) : hexP t = none := if_neg h
theorem hexP_small {v : Nat} (h : hexP t = some v) : t.length = 17 ∧ bl t 0 = 35 ∧ hexL (t.drop 1) 0 = some v ∧ ∀ b ∈ t, b.toNat < 128 ∧ ¬ (65 ≤ b.toNat ∧ b.toNat ≤ 90) ∧ b.toNat ≠ 95 ∧ b.toNat ≠ 43 ∧ b.toNat ≠ 45 := by
  unfold hexP at h
  split at h
  · rename_i g
    refine ⟨g.1, g.2, h, fun b hb => ?_⟩
    rcases mem_drop hb with rfl | hb
    · rw [first_byte g.2]; decide
    · exact hexL_small _ _ _ h b hb
  · cases h
theorem hexP_low (h : ¬ Lib.toLowerD t = t) : hexP t = none := by
  cases hp : hexP t with
  | none => rfl
  | some v =>
    have g := (hexP_small hp).2.2.2
    exact absurd ((Lib.toLowerD_ascii t (fun b hb => (g b hb).1)).trans ((lowerA_iff t).2 (fun b hb => (g b hb).2.1))) h
theorem hexP_sign (hl : t.length = 17) (h : bl t 1 = 43 ∨ bl t 1 = 45) : hexP t = none := by
  cases hp : hexP t with
  | none => rfl
  | some v =>
    have g := (hexP_small hp).2.2.2 (t.getD 1 0) (by rw [List.getD_eq_getElem?_getD, List.getElem?_eq_getElem (show 1 < t.length by omega)]; exact List.getElem_mem _)
    unfold bl at h
    omega
theorem index_mem : ∀ (l : List UInt8) (c : UInt8), 0 ≤ Lib.indexByte l c → c ∈ l
  | [], c, h => by simp [Lib.indexByte] at h
  | b :: l, c, h => by
    unfold Lib.indexByte at h
    split at h
    · rename_i g
      simp only [beq_iff_eq] at g
      rw [g]; exact List.mem_cons_self
    · split at h
      · omega
      · rename_i g2
        simp only [beq_iff_eq] at g2
        have g3 := Lib.indexByte_ge l c
        exact List.mem_cons_of_mem _ (index_mem l c (by omega))
theorem hexP_under (h : 0 ≤ Lib.indexByte t 95) : hexP t = none := by
  cases hp : hexP t with
  | none => rfl
  | some v => exact absurd rfl ((hexP_small hp).2.2.2 95 (index_mem _ _ h)).2.2.1
theorem hexP_bad (h : hexU (t.drop 1) 0 = none) : hexP t = none := by
  cases hp : hexP t with
  | none => rfl
  | some v =>
    obtain ⟨g1, g2, g3, g4⟩ := hexP_small hp
    rw [hexU_same _ _ (fun b hb _ => (g4 b (List.mem_of_mem_drop hb)).2.1), g3] at h
    cases h
theorem hexP_yes {v : Nat} (hl : t.length = 17) (h0 : bl t 0 = 35) (hd : Lib.toLowerD t = t) (h : hexU (t.drop 1) 0 = some v) : hexP t = some v := by
  have ha : ∀ b ∈ t, b.toNat < 128 := fun b hb => by
    rcases mem_drop hb with rfl | hb
    · rw [first_byte h0]; decide
    · exact hexU_ascii _ _ _ h b hb
  have hs := (lowerA_iff t).1 ((Lib.toLowerD_ascii t ha).symm.trans hd)
  unfold hexP
  rw [if_pos ⟨hl, h0⟩, ← hexU_same _ _ (fun b hb _ => hs b (List.mem_of_mem_drop hb)), h]
end Go.SynP

namespace Go.Proofs.YthpodbngljfdmaaGreatDoor
open Go Go.Gw Go.UtfP Go.TokP Go.QryP Go.SynP Go.RealQ Go.SynV Go.RowKit
set_option linter.unusedVariables false
set_option linter.unusedSimpArgs false
set_option maxRecDepth 20000
theorem pE5 : Plain Tryz.prog 5 := ⟨.int .u8, by kernel_rfl, (fun _ h => by cases h), (fun _ _ h => by cases h)⟩
theorem pE89 : Plain Tryz.prog 89 := ⟨.interface #[("Error", 92)], by kernel_rfl, (fun _ h => by cases h), (fun _ _ h => by cases h)⟩


set_option maxHeartbeats 400000 in
theorem low_c (c : Int) (hc : 0 ≤ c ∧ c ≤ 255) (w : World) :
  Calls Tryz.prog 179 #[.int .u8 c] w (fun e w' => e = .returned (.int .u8 (lowI c)) ∧ w = w') := by
 refine xe 5 Tryz.func179 (fun R hR => ?_)
 exact xr 10 Tryz.func179 hR ⟨rfl, rfl⟩

set_option maxHeartbeats 1000000 in
theorem pu16_L (t : List UInt8) (ht : t.length = 16) (v : Value) {w0 : World} (w : World) (hm : Mem [] w0 w []) (hv : Rd w 1 v (List.length (numsOf t)) (ivals .u8 (numsOf t))) (R : Ending → World → Prop) (hR : R = (fun e w' => e = (match hexU t 0 with | some v => (.returned (.tuple #[.int .u64 ((v : Nat) : Int), .nilIface]) : Ending) | none => .returned (.tuple #[.int .u64 0, (.iface 226 (.int .i64 2))])) ∧ Mem [] w0 w' [])) : ∀ (N : Nat) (j n : Nat) (hj : j ≤ 16) (hX : hexU (t.drop j) n = hexU t 0) (hn : n < 16 ^ j) (hN : 16 - j < N), GoS Tryz.prog 163 R 172 [iC Tryz.f163 [1,1,1,1,1,1,1,1,1,1,1,0,1,0,0], iL Tryz.f163 [1,1,1,1,1,1,1,1,1,1,1,0,1,0,0], .inBlock 3, iC Tryz.f163 [1,1,1,1,1,1,1,1,1,1,1,1]] [(1, .int .i64 16), (8, .bool false), (9, sS t), (10, .int .u64 1152921504606846976), (11, .int .u64 18446744073709551615), (12, .bool false), (13, .int .u64 ((n : Nat) : Int)), (99, v), (100, iN (List.length (numsOf t))), (101, iN j)] w := by
 intro N
 induction N with
 | zero => intro j n hj hX hn hN; exact absurd hN (Nat.not_lt_zero _)
 | succ N ih =>
  intro j n hj hX hn hN
  have hM := Mem.start w
  have hnl := numsOf_len t
  have hr : n < 1152921504606846976 ∨ ¬ j < 16 := (Nat.lt_or_ge j 16).elim (fun h => .inl (pow_room h hn)) (fun h => .inr (by omega))
  have hb0 := numsOf_get t j
  have hb1 := bl_bd t j
  have hlw := low_bd (c := (List.getD (numsOf t) j 0)) (by omega)
  refine xs ?_
  refine xc 5 (((j : Nat) : Int) < (((List.length (numsOf t)) : Nat) : Int)) (fun h1p => ?_) (fun h1p => ?_)
  ·
   refine xat 5 sT76 (hv.kept0 hM.kept) ((j : Nat) : Int) j (fun p2 hp3 => ?_) (hj := (by first | omega | (rw [numsOf_len]; omega)))
   refine xv 0 (at_load pE5 (hv.kept0 hM.kept) hp3 (ivals_at (by first | omega | (rw [numsOf_len]; omega)))) ?_
   refine xfc 13 109 ((List.getD (numsOf t) j 0) = 95) (fun h7p => ?_) (fun h7p => ?_)
   ·
    refine xfc 10 115 (48 ≤ (List.getD (numsOf t) j 0)) (fun h8p => ?_) (fun h8p => ?_)
    ·
     refine xc 5 ((List.getD (numsOf t) j 0) ≤ 57) (fun h9p => ?_) (fun h9p => ?_)
     ·
      refine xsub 2 .u8 (List.getD (numsOf t) j 0) 48 ((List.getD (numsOf t) j 0) - 48) (IntWalk.u8_in _ (by omega)) ?_
      refine xc 11 (((List.getD (numsOf t) j 0) - 48) ≥ 16) (fun h18p => ?_) (fun h18p => ?_)
      ·
       exact xr 6 (v := .tuple #[.int .u64 0, (.iface 226 (.int .i64 2))]) Tryz.func163 hR ⟨by rw [← hX, hexU_at (by omega), dig_no (by omega) (by omega)], (hm.j hM).none⟩
      ·
       refine xc 8 (((n : Nat) : Int) ≥ 1152921504606846976) (fun h19p => ?_) (fun h19p => ?_)
       ·
        omega
       ·
        refine xmul 6 .u64 ((n : Nat) : Int) 16 (((n * 16) : Nat) : Int) (by rw [show ((n : Nat) : Int) * 16 = (((n * 16) : Nat) : Int) by omega]; exact IntWalk.u64_in _ (by omega)) ?_
        refine xcv 6 .u8 .u64 ((List.getD (numsOf t) j 0) - 48) ((List.getD (numsOf t) j 0) - 48) (IntWalk.u64_in _ (by omega)) ?_
        refine xadd 0 .u64 (((n * 16) : Nat) : Int) ((List.getD (numsOf t) j 0) - 48) ((((n * 16) : Nat) : Int) + ((List.getD (numsOf t) j 0) - 48)) (IntWalk.u64_in _ (by omega)) ?_
        refine xfc 9 155 (((((n * 16) : Nat) : Int) + ((List.getD (numsOf t) j 0) - 48)) < (((n * 16) : Nat) : Int)) (fun h23p => ?_) (fun h23p => ?_)
        ·
         omega
        ·
         refine xc 5 (((((n * 16) : Nat) : Int) + ((List.getD (numsOf t) j 0) - 48)) > 18446744073709551615) (fun h24p => ?_) (fun h24p => ?_)
         ·
          omega
         ·
          refine xadd 7 .i64 ((j : Nat) : Int) 1 (((j + 1) : Nat) : Int) (by rw [show ((j : Nat) : Int) + 1 = (((j + 1) : Nat) : Int) by omega]; exact IntWalk.i64_in _ (by omega)) ?_
          exact xl 3 (l := [(1, .int .i64 16), (8, .bool false), (9, sS t), (10, .int .u64 1152921504606846976), (11, .int .u64 18446744073709551615), (12, .bool false), (13, .int .u64 ((((n * 16) : Nat) : Int) + ((List.getD (numsOf t) j 0) - 48))), (99, v), (100, iN (List.length (numsOf t))), (101, iN (j + 1))]) (GoS.cast (by rw [show (((16 * n + (Int.toNat ((List.getD (numsOf t) j 0) - 48)) : Nat)) : Int) = ((((n * 16) : Nat) : Int) + ((List.getD (numsOf t) j 0) - 48)) by omega]) (ih (j + 1) (16 * n + (Int.toNat ((List.getD (numsOf t) j 0) - 48))) (by omega) (by rw [← hX, hexU_at (n := n) (by omega), dig_num (by omega)]) (pow_step hn (by omega)) (by omega)))
     ·
      have hb11 := low_bd (c := (List.getD (numsOf t) j 0)) (by omega)
      refine xka 3 (low_c (List.getD (numsOf t) j 0) (by omega) w) ?_
      refine xfc 2 125 (97 ≤ (lowI (List.getD (numsOf t) j 0))) (fun h12p => ?_) (fun h12p => ?_)
      ·
       have hb13 := low_bd (c := (List.getD (numsOf t) j 0)) (by omega)
       refine xka 1 (low_c (List.getD (numsOf t) j 0) (by omega) w) ?_
       refine xc 4 ((lowI (List.getD (numsOf t) j 0)) ≤ 122) (fun h14p => ?_) (fun h14p => ?_)
       ·
        have hb15 := low_bd (c := (List.getD (numsOf t) j 0)) (by omega)
        refine xka 2 (low_c (List.getD (numsOf t) j 0) (by omega) w) ?_
        refine xsub 0 .u8 (lowI (List.getD (numsOf t) j 0)) 97 ((lowI (List.getD (numsOf t) j 0)) - 97) (IntWalk.u8_in _ (by omega)) ?_
        refine xadd 0 .u8 ((lowI (List.getD (numsOf t) j 0)) - 97) 10 (((lowI (List.getD (numsOf t) j 0)) - 97) + 10) (IntWalk.u8_in _ (by omega)) ?_
        refine xc 11 ((((lowI (List.getD (numsOf t) j 0)) - 97) + 10) ≥ 16) (fun h26p => ?_) (fun h26p => ?_)
        ·
         exact xr 6 (v := .tuple #[.int .u64 0, (.iface 226 (.int .i64 2))]) Tryz.func163 hR ⟨by rw [← hX, hexU_at (by omega), dig_no (by omega) (by omega)], (hm.j hM).none⟩
        ·
         refine xc 8 (((n : Nat) : Int) ≥ 1152921504606846976) (fun h27p => ?_) (fun h27p => ?_)
         ·
          omega
         ·
          refine xmul 6 .u64 ((n : Nat) : Int) 16 (((n * 16) : Nat) : Int) (by rw [show ((n : Nat) : Int) * 16 = (((n * 16) : Nat) : Int) by omega]; exact IntWalk.u64_in _ (by omega)) ?_
          refine xcv 6 .u8 .u64 (((lowI (List.getD (numsOf t) j 0)) - 97) + 10) (((lowI (List.getD (numsOf t) j 0)) - 97) + 10) (IntWalk.u64_in _ (by omega)) ?_
          refine xadd 0 .u64 (((n * 16) : Nat) : Int) (((lowI (List.getD (numsOf t) j 0)) - 97) + 10) ((((n * 16) : Nat) : Int) + (((lowI (List.getD (numsOf t) j 0)) - 97) + 10)) (IntWalk.u64_in _ (by omega)) ?_
          refine xfc 9 155 (((((n * 16) : Nat) : Int) + (((lowI (List.getD (numsOf t) j 0)) - 97) + 10)) < (((n * 16) : Nat) : Int)) (fun h31p => ?_) (fun h31p => ?_)
          ·
           refine xr0 13 (v := .tuple #[.int .u64 18446744073709551615, (.iface 226 (.int .i64 1))]) Tryz.func163 ?_
           rw [hR]
           exfalso
           omega
          ·
           refine xc 5 (((((n * 16) : Nat) : Int) + (((lowI (List.getD (numsOf t) j 0)) - 97) + 10)) > 18446744073709551615) (fun h32p => ?_) (fun h32p => ?_)
           ·
            omega
           ·
            refine xadd 7 .i64 ((j : Nat) : Int) 1 (((j + 1) : Nat) : Int) (by rw [show ((j : Nat) : Int) + 1 = (((j + 1) : Nat) : Int) by omega]; exact IntWalk.i64_in _ (by omega)) ?_
            exact xl 3 (l := [(1, .int .i64 16), (8, .bool false), (9, sS t), (10, .int .u64 1152921504606846976), (11, .int .u64 18446744073709551615), (12, .bool false), (13, .int .u64 ((((n * 16) : Nat) : Int) + (((lowI (List.getD (numsOf t) j 0)) - 97) + 10))), (99, v), (100, iN (List.length (numsOf t))), (101, iN (j + 1))]) (GoS.cast (by rw [show (((16 * n + (Int.toNat (lowI (List.getD (numsOf t) j 0) - 87)) : Nat)) : Int) = ((((n * 16) : Nat) : Int) + (((lowI (List.getD (numsOf t) j 0)) - 97) + 10)) by omega]) (ih (j + 1) (16 * n + (Int.toNat (lowI (List.getD (numsOf t) j 0) - 87))) (by omega) (by rw [← hX, hexU_at (n := n) (by omega), dig_let (by omega) (by omega)]) (pow_step hn (by omega)) (by omega)))
       ·
        exact xr 6 (v := .tuple #[.int .u64 0, (.iface 226 (.int .i64 2))]) Tryz.func163 hR ⟨by rw [← hX, hexU_at (by omega), dig_no (by omega) (by omega)], (hm.j hM).none⟩
      ·
       exact xr 13 (v := .tuple #[.int .u64 0, (.iface 226 (.int .i64 2))]) Tryz.func163 hR ⟨by rw [← hX, hexU_at (by omega), dig_no (by omega) (by omega)], (hm.j hM).none⟩
    ·
     have hb34 := low_bd (c := (List.getD (numsOf t) j 0)) (by omega)
     refine xka 9 (low_c (List.getD (numsOf t) j 0) (by omega) w) ?_
     refine xfc 2 125 (97 ≤ (lowI (List.getD (numsOf t) j 0))) (fun h35p => ?_) (fun h35p => ?_)
     ·
      have hb36 := low_bd (c := (List.getD (numsOf t) j 0)) (by omega)
      refine xka 1 (low_c (List.getD (numsOf t) j 0) (by omega) w) ?_
      refine xc 4 ((lowI (List.getD (numsOf t) j 0)) ≤ 122) (fun h37p => ?_) (fun h37p => ?_)
      ·
       have hb38 := low_bd (c := (List.getD (numsOf t) j 0)) (by omega)
       refine xka 2 (low_c (List.getD (numsOf t) j 0) (by omega) w) ?_
       refine xsub 0 .u8 (lowI (List.getD (numsOf t) j 0)) 97 ((lowI (List.getD (numsOf t) j 0)) - 97) (IntWalk.u8_in _ (by omega)) ?_
       refine xadd 0 .u8 ((lowI (List.getD (numsOf t) j 0)) - 97) 10 (((lowI (List.getD (numsOf t) j 0)) - 97) + 10) (IntWalk.u8_in _ (by omega)) ?_
       refine xc 11 ((((lowI (List.getD (numsOf t) j 0)) - 97) + 10) ≥ 16) (fun h41p => ?_) (fun h41p => ?_)
       ·
        exact xr 6 (v := .tuple #[.int .u64 0, (.iface 226 (.int .i64 2))]) Tryz.func163 hR ⟨by rw [← hX, hexU_at (by omega), dig_no (by omega) (by omega)], (hm.j hM).none⟩
       ·
        refine xc 8 (((n : Nat) : Int) ≥ 1152921504606846976) (fun h42p => ?_) (fun h42p => ?_)
        ·
         omega
        ·
         refine xmul 6 .u64 ((n : Nat) : Int) 16 (((n * 16) : Nat) : Int) (by rw [show ((n : Nat) : Int) * 16 = (((n * 16) : Nat) : Int) by omega]; exact IntWalk.u64_in _ (by omega)) ?_
         refine xcv 6 .u8 .u64 (((lowI (List.getD (numsOf t) j 0)) - 97) + 10) (((lowI (List.getD (numsOf t) j 0)) - 97) + 10) (IntWalk.u64_in _ (by omega)) ?_
         refine xadd 0 .u64 (((n * 16) : Nat) : Int) (((lowI (List.getD (numsOf t) j 0)) - 97) + 10) ((((n * 16) : Nat) : Int) + (((lowI (List.getD (numsOf t) j 0)) - 97) + 10)) (IntWalk.u64_in _ (by omega)) ?_
         refine xfc 9 155 (((((n * 16) : Nat) : Int) + (((lowI (List.getD (numsOf t) j 0)) - 97) + 10)) < (((n * 16) : Nat) : Int)) (fun h46p => ?_) (fun h46p => ?_)
         ·
          refine xr0 13 (v := .tuple #[.int .u64 18446744073709551615, (.iface 226 (.int .i64 1))]) Tryz.func163 ?_
          rw [hR]
          exfalso
          omega
         ·
          refine xc 5 (((((n * 16) : Nat) : Int) + (((lowI (List.getD (numsOf t) j 0)) - 97) + 10)) > 18446744073709551615) (fun h47p => ?_) (fun h47p => ?_)
          ·
           omega
          ·
           refine xadd 7 .i64 ((j : Nat) : Int) 1 (((j + 1) : Nat) : Int) (by rw [show ((j : Nat) : Int) + 1 = (((j + 1) : Nat) : Int) by omega]; exact IntWalk.i64_in _ (by omega)) ?_
           exact xl 3 (l := [(1, .int .i64 16), (8, .bool false), (9, sS t), (10, .int .u64 1152921504606846976), (11, .int .u64 18446744073709551615), (12, .bool false), (13, .int .u64 ((((n * 16) : Nat) : Int) + (((lowI (List.getD (numsOf t) j 0)) - 97) + 10))), (99, v), (100, iN (List.length (numsOf t))), (101, iN (j + 1))]) (GoS.cast (by rw [show (((16 * n + (Int.toNat (lowI (List.getD (numsOf t) j 0) - 87)) : Nat)) : Int) = ((((n * 16) : Nat) : Int) + (((lowI (List.getD (numsOf t) j 0)) - 97) + 10)) by omega]) (ih (j + 1) (16 * n + (Int.toNat (lowI (List.getD (numsOf t) j 0) - 87))) (by omega) (by rw [← hX, hexU_at (n := n) (by omega), dig_let (by omega) (by omega)]) (pow_step hn (by omega)) (by omega)))
      ·
       exact xr 6 (v := .tuple #[.int .u64 0, (.iface 226 (.int .i64 2))]) Tryz.func163 hR ⟨by rw [← hX, hexU_at (by omega), dig_no (by omega) (by omega)], (hm.j hM).none⟩
     ·
      exact xr 13 (v := .tuple #[.int .u64 0, (.iface 226 (.int .i64 2))]) Tryz.func163 hR ⟨by rw [← hX, hexU_at (by omega), dig_no (by omega) (by omega)], (hm.j hM).none⟩
   ·
    refine xfc 10 115 (48 ≤ (List.getD (numsOf t) j 0)) (fun h49p => ?_) (fun h49p => ?_)
    ·
     refine xc 5 ((List.getD (numsOf t) j 0) ≤ 57) (fun h50p => ?_) (fun h50p => ?_)
     ·
      refine xsub 2 .u8 (List.getD (numsOf t) j 0) 48 ((List.getD (numsOf t) j 0) - 48) (IntWalk.u8_in _ (by omega)) ?_
      refine xc 11 (((List.getD (numsOf t) j 0) - 48) ≥ 16) (fun h59p => ?_) (fun h59p => ?_)
      ·
       exact xr 6 (v := .tuple #[.int .u64 0, (.iface 226 (.int .i64 2))]) Tryz.func163 hR ⟨by rw [← hX, hexU_at (by omega), dig_no (by omega) (by omega)], (hm.j hM).none⟩
      ·
       refine xc 8 (((n : Nat) : Int) ≥ 1152921504606846976) (fun h60p => ?_) (fun h60p => ?_)
       ·
        omega
       ·
        refine xmul 6 .u64 ((n : Nat) : Int) 16 (((n * 16) : Nat) : Int) (by rw [show ((n : Nat) : Int) * 16 = (((n * 16) : Nat) : Int) by omega]; exact IntWalk.u64_in _ (by omega)) ?_
        refine xcv 6 .u8 .u64 ((List.getD (numsOf t) j 0) - 48) ((List.getD (numsOf t) j 0) - 48) (IntWalk.u64_in _ (by omega)) ?_
        refine xadd 0 .u64 (((n * 16) : Nat) : Int) ((List.getD (numsOf t) j 0) - 48) ((((n * 16) : Nat) : Int) + ((List.getD (numsOf t) j 0) - 48)) (IntWalk.u64_in _ (by omega)) ?_
        refine xfc 9 155 (((((n * 16) : Nat) : Int) + ((List.getD (numsOf t) j 0) - 48)) < (((n * 16) : Nat) : Int)) (fun h64p => ?_) (fun h64p => ?_)
        ·
         omega
        ·
         refine xc 5 (((((n * 16) : Nat) : Int) + ((List.getD (numsOf t) j 0) - 48)) > 18446744073709551615) (fun h65p => ?_) (fun h65p => ?_)
         ·
          omega
         ·
          refine xadd 7 .i64 ((j : Nat) : Int) 1 (((j + 1) : Nat) : Int) (by rw [show ((j : Nat) : Int) + 1 = (((j + 1) : Nat) : Int) by omega]; exact IntWalk.i64_in _ (by omega)) ?_
          exact xl 3 (l := [(1, .int .i64 16), (8, .bool false), (9, sS t), (10, .int .u64 1152921504606846976), (11, .int .u64 18446744073709551615), (12, .bool false), (13, .int .u64 ((((n * 16) : Nat) : Int) + ((List.getD (numsOf t) j 0) - 48))), (99, v), (100, iN (List.length (numsOf t))), (101, iN (j + 1))]) (GoS.cast (by rw [show (((16 * n + (Int.toNat ((List.getD (numsOf t) j 0) - 48)) : Nat)) : Int) = ((((n * 16) : Nat) : Int) + ((List.getD (numsOf t) j 0) - 48)) by omega]) (ih (j + 1) (16 * n + (Int.toNat ((List.getD (numsOf t) j 0) - 48))) (by omega) (by rw [← hX, hexU_at (n := n) (by omega), dig_num (by omega)]) (pow_step hn (by omega)) (by omega)))
     ·
      have hb52 := low_bd (c := (List.getD (numsOf t) j 0)) (by omega)
      refine xka 3 (low_c (List.getD (numsOf t) j 0) (by omega) w) ?_
      refine xfc 2 125 (97 ≤ (lowI (List.getD (numsOf t) j 0))) (fun h53p => ?_) (fun h53p => ?_)
      ·
       have hb54 := low_bd (c := (List.getD (numsOf t) j 0)) (by omega)
       refine xka 1 (low_c (List.getD (numsOf t) j 0) (by omega) w) ?_
       refine xc 4 ((lowI (List.getD (numsOf t) j 0)) ≤ 122) (fun h55p => ?_) (fun h55p => ?_)
       ·
        have hb56 := low_bd (c := (List.getD (numsOf t) j 0)) (by omega)
        refine xka 2 (low_c (List.getD (numsOf t) j 0) (by omega) w) ?_
        refine xsub 0 .u8 (lowI (List.getD (numsOf t) j 0)) 97 ((lowI (List.getD (numsOf t) j 0)) - 97) (IntWalk.u8_in _ (by omega)) ?_
        refine xadd 0 .u8 ((lowI (List.getD (numsOf t) j 0)) - 97) 10 (((lowI (List.getD (numsOf t) j 0)) - 97) + 10) (IntWalk.u8_in _ (by omega)) ?_
        refine xc 11 ((((lowI (List.getD (numsOf t) j 0)) - 97) + 10) ≥ 16) (fun h67p => ?_) (fun h67p => ?_)
        ·
         exact xr 6 (v := .tuple #[.int .u64 0, (.iface 226 (.int .i64 2))]) Tryz.func163 hR ⟨by rw [← hX, hexU_at (by omega), dig_no (by omega) (by omega)], (hm.j hM).none⟩
        ·
         refine xc 8 (((n : Nat) : Int) ≥ 1152921504606846976) (fun h68p => ?_) (fun h68p => ?_)
         ·
          omega
         ·
          refine xmul 6 .u64 ((n : Nat) : Int) 16 (((n * 16) : Nat) : Int) (by rw [show ((n : Nat) : Int) * 16 = (((n * 16) : Nat) : Int) by omega]; exact IntWalk.u64_in _ (by omega)) ?_
          refine xcv 6 .u8 .u64 (((lowI (List.getD (numsOf t) j 0)) - 97) + 10) (((lowI (List.getD (numsOf t) j 0)) - 97) + 10) (IntWalk.u64_in _ (by omega)) ?_
          refine xadd 0 .u64 (((n * 16) : Nat) : Int) (((lowI (List.getD (numsOf t) j 0)) - 97) + 10) ((((n * 16) : Nat) : Int) + (((lowI (List.getD (numsOf t) j 0)) - 97) + 10)) (IntWalk.u64_in _ (by omega)) ?_
          refine xfc 9 155 (((((n * 16) : Nat) : Int) + (((lowI (List.getD (numsOf t) j 0)) - 97) + 10)) < (((n * 16) : Nat) : Int)) (fun h72p => ?_) (fun h72p => ?_)
          ·
           refine xr0 13 (v := .tuple #[.int .u64 18446744073709551615, (.iface 226 (.int .i64 1))]) Tryz.func163 ?_
           rw [hR]
           exfalso
           omega
          ·
           refine xc 5 (((((n * 16) : Nat) : Int) + (((lowI (List.getD (numsOf t) j 0)) - 97) + 10)) > 18446744073709551615) (fun h73p => ?_) (fun h73p => ?_)
           ·
            omega
           ·
            refine xadd 7 .i64 ((j : Nat) : Int) 1 (((j + 1) : Nat) : Int) (by rw [show ((j : Nat) : Int) + 1 = (((j + 1) : Nat) : Int) by omega]; exact IntWalk.i64_in _ (by omega)) ?_
            exact xl 3 (l := [(1, .int .i64 16), (8, .bool false), (9, sS t), (10, .int .u64 1152921504606846976), (11, .int .u64 18446744073709551615), (12, .bool false), (13, .int .u64 ((((n * 16) : Nat) : Int) + (((lowI (List.getD (numsOf t) j 0)) - 97) + 10))), (99, v), (100, iN (List.length (numsOf t))), (101, iN (j + 1))]) (GoS.cast (by rw [show (((16 * n + (Int.toNat (lowI (List.getD (numsOf t) j 0) - 87)) : Nat)) : Int) = ((((n * 16) : Nat) : Int) + (((lowI (List.getD (numsOf t) j 0)) - 97) + 10)) by omega]) (ih (j + 1) (16 * n + (Int.toNat (lowI (List.getD (numsOf t) j 0) - 87))) (by omega) (by rw [← hX, hexU_at (n := n) (by omega), dig_let (by omega) (by omega)]) (pow_step hn (by omega)) (by omega)))
       ·
        exact xr 6 (v := .tuple #[.int .u64 0, (.iface 226 (.int .i64 2))]) Tryz.func163 hR ⟨by rw [← hX, hexU_at (by omega), dig_no (by omega) (by omega)], (hm.j hM).none⟩
      ·
       exact xr 13 (v := .tuple #[.int .u64 0, (.iface 226 (.int .i64 2))]) Tryz.func163 hR ⟨by rw [← hX, hexU_at (by omega), dig_no (by omega) (by omega)], (hm.j hM).none⟩
    ·
     have hb75 := low_bd (c := (List.getD (numsOf t) j 0)) (by omega)
     refine xka 9 (low_c (List.getD (numsOf t) j 0) (by omega) w) ?_
     refine xfc 2 125 (97 ≤ (lowI (List.getD (numsOf t) j 0))) (fun h76p => ?_) (fun h76p => ?_)
     ·
      have hb77 := low_bd (c := (List.getD (numsOf t) j 0)) (by omega)
      refine xka 1 (low_c (List.getD (numsOf t) j 0) (by omega) w) ?_
      refine xc 4 ((lowI (List.getD (numsOf t) j 0)) ≤ 122) (fun h78p => ?_) (fun h78p => ?_)
      ·
       have hb79 := low_bd (c := (List.getD (numsOf t) j 0)) (by omega)
       refine xka 2 (low_c (List.getD (numsOf t) j 0) (by omega) w) ?_
       refine xsub 0 .u8 (lowI (List.getD (numsOf t) j 0)) 97 ((lowI (List.getD (numsOf t) j 0)) - 97) (IntWalk.u8_in _ (by omega)) ?_
       refine xadd 0 .u8 ((lowI (List.getD (numsOf t) j 0)) - 97) 10 (((lowI (List.getD (numsOf t) j 0)) - 97) + 10) (IntWalk.u8_in _ (by omega)) ?_
       refine xc 11 ((((lowI (List.getD (numsOf t) j 0)) - 97) + 10) ≥ 16) (fun h82p => ?_) (fun h82p => ?_)
       ·
        exact xr 6 (v := .tuple #[.int .u64 0, (.iface 226 (.int .i64 2))]) Tryz.func163 hR ⟨by rw [← hX, hexU_at (by omega), dig_no (by omega) (by omega)], (hm.j hM).none⟩
       ·
        refine xc 8 (((n : Nat) : Int) ≥ 1152921504606846976) (fun h83p => ?_) (fun h83p => ?_)
        ·
         omega
        ·
         refine xmul 6 .u64 ((n : Nat) : Int) 16 (((n * 16) : Nat) : Int) (by rw [show ((n : Nat) : Int) * 16 = (((n * 16) : Nat) : Int) by omega]; exact IntWalk.u64_in _ (by omega)) ?_
         refine xcv 6 .u8 .u64 (((lowI (List.getD (numsOf t) j 0)) - 97) + 10) (((lowI (List.getD (numsOf t) j 0)) - 97) + 10) (IntWalk.u64_in _ (by omega)) ?_
         refine xadd 0 .u64 (((n * 16) : Nat) : Int) (((lowI (List.getD (numsOf t) j 0)) - 97) + 10) ((((n * 16) : Nat) : Int) + (((lowI (List.getD (numsOf t) j 0)) - 97) + 10)) (IntWalk.u64_in _ (by omega)) ?_
         refine xfc 9 155 (((((n * 16) : Nat) : Int) + (((lowI (List.getD (numsOf t) j 0)) - 97) + 10)) < (((n * 16) : Nat) : Int)) (fun h87p => ?_) (fun h87p => ?_)
         ·
          refine xr0 13 (v := .tuple #[.int .u64 18446744073709551615, (.iface 226 (.int .i64 1))]) Tryz.func163 ?_
          rw [hR]
          exfalso
          omega
         ·
          refine xc 5 (((((n * 16) : Nat) : Int) + (((lowI (List.getD (numsOf t) j 0)) - 97) + 10)) > 18446744073709551615) (fun h88p => ?_) (fun h88p => ?_)
          ·
           omega
          ·
           refine xadd 7 .i64 ((j : Nat) : Int) 1 (((j + 1) : Nat) : Int) (by rw [show ((j : Nat) : Int) + 1 = (((j + 1) : Nat) : Int) by omega]; exact IntWalk.i64_in _ (by omega)) ?_
           exact xl 3 (l := [(1, .int .i64 16), (8, .bool false), (9, sS t), (10, .int .u64 1152921504606846976), (11, .int .u64 18446744073709551615), (12, .bool false), (13, .int .u64 ((((n * 16) : Nat) : Int) + (((lowI (List.getD (numsOf t) j 0)) - 97) + 10))), (99, v), (100, iN (List.length (numsOf t))), (101, iN (j + 1))]) (GoS.cast (by rw [show (((16 * n + (Int.toNat (lowI (List.getD (numsOf t) j 0) - 87)) : Nat)) : Int) = ((((n * 16) : Nat) : Int) + (((lowI (List.getD (numsOf t) j 0)) - 97) + 10)) by omega]) (ih (j + 1) (16 * n + (Int.toNat (lowI (List.getD (numsOf t) j 0) - 87))) (by omega) (by rw [← hX, hexU_at (n := n) (by omega), dig_let (by omega) (by omega)]) (pow_step hn (by omega)) (by omega)))
      ·
       exact xr 6 (v := .tuple #[.int .u64 0, (.iface 226 (.int .i64 2))]) Tryz.func163 hR ⟨by rw [← hX, hexU_at (by omega), dig_no (by omega) (by omega)], (hm.j hM).none⟩
     ·
      exact xr 13 (v := .tuple #[.int .u64 0, (.iface 226 (.int .i64 2))]) Tryz.func163 hR ⟨by rw [← hX, hexU_at (by omega), dig_no (by omega) (by omega)], (hm.j hM).none⟩
  ·
   exact xr 19 (v := .tuple #[.int .u64 ((n : Nat) : Int), .nilIface]) Tryz.func163 hR ⟨by rw [← hX, hexU_end (by omega)], (hm.j hM).none⟩

set_option maxHeartbeats 1000000 in
theorem pu16_c (t : List UInt8) (ht : t.length = 16) {w : World} :
  Calls Tryz.prog 163 #[sS t, .int .i64 16, .int .i64 64] w (fun e w' => e = (match hexU t 0 with | some v => (.returned (.tuple #[.int .u64 ((v : Nat) : Int), .nilIface]) : Ending) | none => .returned (.tuple #[.int .u64 0, (.iface 226 (.int .i64 2))])) ∧ Mem [] w w' []) := by
 refine xe 172 Tryz.func163 (fun R hR => ?_)
 have hM0 := Mem.start w
 refine xq 9 t ([]) ?_
 refine xc 1 (t = []) (fun h2p => ?_) (fun h2p => ?_)
 ·
  exact absurd (congrArg List.length h2p) (by rw [ht]; decide)
 ·
  refine xo 75 .shl (.int .u64 1) (.int .u64 64) (v := .int .u64 0) (fun _ => f_shl (by decide) (by decide)) ?_
  refine xx 15 (bts_of (src := 9) (dst := 76) (e := 5) (by kernel_rfl) (by kernel_rfl) (by kernel_rfl) hM0 t (by omega)) (fun v3 w4 ⟨hM6, hB7⟩ => ?_)
  refine xv 0 (f_slen sT76 hB7.rd 3 w4) ?_
  exact xl 4 (pu16_L t ht v3 w4 (hM6.none) hB7.rd R hR (t.length + 1) 0 0 (by omega) rfl (by decide) (by omega))

theorem clone_c (t : List UInt8) (ht : t.length ≤ 8192) (w : World) : Calls Tryz.prog 191 #[sS t] w (fun e w' => e = .returned (sS t) ∧ Mem [] w w' []) :=
 calls_imp (Go.Proofs.Any.stringslite_Clone laysM316 (sb t) w (by show t.toArray.size ≤ _; simp; omega)) (fun e w' h => ⟨h.1, Mem.bare (Kept.of_below h.2)⟩)

set_option maxHeartbeats 400000 in
theorem synerr_c (f t : List UInt8) (ht : t.length ≤ 8192) (eT : TypeId) (ex : Value) {w : World} (hev : w.cell? ⟨6, 0, none⟩ = some (.iface eT ex)) :
  Calls Tryz.prog 181 #[sS f, sS t] w (fun e w' => ∃ p, e = .returned (.pointer (some p)) ∧ Mem [] w w' []) := by
 refine xe 11 Tryz.func181 (fun R hR => ?_)
 have hM0 := Mem.start w
 refine xh 5 [] hM0 sR (fun w1 hM2 hS3 => ?_)
 refine yv [0,1] 3 (fun W_ hW_ => (show (Instr.loadAt 89 (pq 6)).run Tryz.prog W_ = .ok ((.iface eT ex)) W_ from cell_load pE89 (cell_kept hev hW_.kept))) hS3 ?_
 refine yck [] 2 (clone_c t (by omega) w1) hS3 (fun w5 m6 => ?_)
 have hM7 : Mem [] w w5 [] := Mem.join (R := []) hM2 m6
 have hS8 := hM7.sub sR
 refine ⟨hS8, ?_⟩
 refine yx [4] 5 (m_box (T := 236) (k := 3) (u := .agg #[sS f, sS t, (.iface eT ex)]) rfl rfl hM7) hS8 (fun _ _ h_ => h_.sub (sD sR)) (fun b9 w10 hM12 hS14 => ?_)
 refine ydp [6] hS14 ?_
 exact xr 0 (v := pq b9) Tryz.func181 hR ⟨_, rfl, hM12.none⟩

set_option maxHeartbeats 400000 in
theorem toerr_c (f t : List UInt8) (ht : t.length ≤ 8192) (eT : TypeId) (ex : Value) {w : World} (hev : w.cell? ⟨6, 0, none⟩ = some (.iface eT ex)) :
  Calls Tryz.prog 164 #[sS f, sS t, .int .i64 16, .int .i64 64, (.iface 226 (.int .i64 2))] w (fun e w' => ∃ p, e = .returned (.iface 228 (.pointer (some p))) ∧ Mem [] w w' []) := by
 refine xe 43 Tryz.func164 (fun R hR => ?_)
 have hM0 := Mem.start w
 refine xkv 21 (synerr_c f t (by omega) eT ex (cell_kept hev hM0.kept)) (fun p2 w1 m3 => ?_)
 have hM4 := hM0.j m3
 exact xr 3 (v := (.iface 228 (.pointer (some p2)))) Tryz.func164 hR ⟨_, rfl, hM4.none⟩

theorem pu16_or (t : List UInt8) (ht : t.length = 16) {w : World} : Calls Tryz.prog 163 #[sS t, .int .i64 16, .int .i64 64] w (fun e w' => (∃ v : Nat, hexU t 0 = some v ∧ e = .returned (.tuple #[.int .u64 (v : Int), .nilIface]) ∧ Mem [] w w' []) ∨ (hexU t 0 = none ∧ e = .returned (.tuple #[.int .u64 0, .iface 226 (.int .i64 2)]) ∧ Mem [] w w' [])) := by
 refine calls_imp (pu16_c t ht) ?_
 rintro e w' ⟨rfl, m⟩
 cases hexU t 0 with
 | some v => exact .inl ⟨v, rfl, rfl, m⟩
 | none => exact .inr ⟨rfl, rfl, m⟩

set_option maxHeartbeats 400000 in
theorem spu_c (t : List UInt8) (ht : t.length = 16) (eT : TypeId) (ex : Value) {w : World} (hev : w.cell? ⟨6, 0, none⟩ = some (.iface eT ex)) :
  Calls Tryz.prog 145 #[sS t, .int .i64 16, .int .i64 64] w (fun e w' => (∃ v : Nat, hexU t 0 = some v ∧ e = .returned (.tuple #[.int .u64 (v : Int), .nilIface]) ∧ Mem [] w w' []) ∨ (hexU t 0 = none ∧ ∃ p, e = .returned (.tuple #[.int .u64 0, .iface 228 (.pointer (some p))]) ∧ Mem [] w w' [])) := by
 refine xe 26 Tryz.func145 (fun R hR => ?_)
 have hM0 := Mem.start w
 refine xcg 10 (pu16_or t ht) ?_
 rintro _ w1 (⟨v2, hv3, rfl, m4⟩ | ⟨hv3, rfl, m4⟩)
 ·
  refine ⟨_, rfl, ?_⟩
  have hM5 := hM0.j m4
  refine xr0 20 (v := .tuple #[.int .u64 ((v2 : Nat) : Int), .nilIface]) Tryz.func145 ?_
  rw [hR]
  exact .inl ⟨_, hv3, rfl, hM5.none⟩
 ·
  refine ⟨_, rfl, ?_⟩
  have hM5 := hM0.j m4
  refine xkv 20 (toerr_c ([80, 97, 114, 115, 101, 85, 105, 110, 116] : List UInt8) t (by omega) eT ex (cell_kept hev hM5.kept)) (fun p10 w7 m8 => ?_)
  have hM9 := hM5.j m8
  refine xr0 3 (v := .tuple #[.int .u64 0, (.iface 228 (.pointer (some p10)))]) Tryz.func145 ?_
  rw [hR]
  exact .inr ⟨hv3, _, rfl, hM9.none⟩

theorem tolow_c (t : List UInt8) (ht : t.length ≤ 8192) {w : World} (hG : GS [] w) : Calls Tryz.prog 143 #[sS t] w (fun e w' => e = .returned (sS (Lib.toLowerD t)) ∧ Mem [] w w' []) :=
 calls_imp (Go.Proofs.Any.strings_ToLower_any lays159 bldX (sb t) w (by show t.toArray.size < _; simp; omega) hG.now.case hG.now.tabs) (fun e w' h => ⟨h.1, Mem.bare (Kept.of_below h.2)⟩)
theorem has_c (t : List UInt8) (w : World) : Calls Tryz.prog 144 #[sS t, sS [95]] w (fun e w' => e = .returned (.bool (decide (0 ≤ Lib.indexByte t 95))) ∧ w = w') :=
 calls_imp (Go.Proofs.Any.strings_Contains_one lays144 (sb t) 95 w) (fun e w' h => ⟨h.1, h.2.symm⟩)

set_option maxHeartbeats 1000000 in
theorem hexed_c (t : List UInt8) (ht : t.length ≤ 8192) {w : World} (hG : GS [] w) :
  Calls Tryz.prog 130 #[sS t] w (fun e w' => ∃ n : Int, e = .returned (.tuple #[.int .u64 n, .bool (Option.isSome (hexP t))]) ∧ (∀ v, hexP t = some v → n = (v : Int)) ∧ Mem [] w w' []) := by
 obtain ⟨eT, ex, hev⟩ := hG.now.syn
 have hev : w.cell? ⟨6, 0, none⟩ = some (.iface eT ex) := hev
 have hbd0 := bl_bd t 0
 have hbd1 := bl_bd t 1
 refine xe 43 Tryz.func130 (fun R hR => ?_)
 have hM0 := Mem.start w
 refine xn 9 t ?_
 refine xfn 2 9 (((t.length : Nat) : Int) = 17) (fun h2p => ?_) (fun h2p => ?_)
 ·
  have hz : hexP t = none := hexP_none (by omega)
  exact xr 31 (v := .tuple #[.int .u64 0, .bool false]) Tryz.func130 hR ⟨0, by rw [hz]; rfl, fun v_ h_ => (by rw [hz] at h_; cases h_), hM0.none⟩
 ·
  have hb3 := bl_bd t 0
  refine xi 1 t 0 0 ?_
  refine xfn 3 14 ((bl t 0) = 35) (fun h5p => ?_) (fun h5p => ?_)
  ·
   have hz : hexP t = none := hexP_none (by omega)
   exact xr 26 (v := .tuple #[.int .u64 0, .bool false]) Tryz.func130 hR ⟨0, by rw [hz]; rfl, fun v_ h_ => (by rw [hz] at h_; cases h_), hM0.none⟩
  ·
   refine xk 1 (tolow_c t (by omega) (hG.kept hM0.kept)) (fun w6 m7 => ?_)
   have hM8 := hM0.j m7
   refine xqn 1 (Lib.toLowerD t) t ?_
   refine xfn 2 20 ((Lib.toLowerD t) = t) (fun h10p => ?_) (fun h10p => ?_)
   ·
    have h10 : (!(decide ((Lib.toLowerD t) = t))) = true := by simpa using h10p
    have hz : hexP t = none := hexP_low (by simpa using h10)
    exact xr 20 (v := .tuple #[.int .u64 0, .bool false]) Tryz.func130 hR ⟨0, by rw [hz]; rfl, fun v_ h_ => (by rw [hz] at h_; cases h_), hM8.none⟩
   ·
    have h10 : (!(decide ((Lib.toLowerD t) = t))) = false := by simpa using h10p
    have hb11 := bl_bd t 1
    refine xi 1 t 1 1 ?_
    refine xfc 3 25 ((bl t 1) = 43) (fun h13p => ?_) (fun h13p => ?_)
    ·
     have hz : hexP t = none := hexP_sign (by omega) (by omega)
     exact xr 15 (v := .tuple #[.int .u64 0, .bool false]) Tryz.func130 hR ⟨0, by rw [hz]; rfl, fun v_ h_ => (by rw [hz] at h_; cases h_), hM8.none⟩
    ·
     have hb14 := bl_bd t 1
     refine xi 1 t 1 1 ?_
     refine xfc 3 30 ((bl t 1) = 45) (fun h16p => ?_) (fun h16p => ?_)
     ·
      have hz : hexP t = none := hexP_sign (by omega) (by omega)
      exact xr 10 (v := .tuple #[.int .u64 0, .bool false]) Tryz.func130 hR ⟨0, by rw [hz]; rfl, fun v_ h_ => (by rw [hz] at h_; cases h_), hM8.none⟩
     ·
      refine xka 1 (has_c t w6) ?_
      refine xc 2 (0 ≤ Lib.indexByte t 95) (fun h17p => ?_) (fun h17p => ?_)
      ·
       have hz : hexP t = none := hexP_under (by omega)
       exact xr 5 (v := .tuple #[.int .u64 0, .bool false]) Tryz.func130 hR ⟨0, by rw [hz]; rfl, fun v_ h_ => (by rw [hz] at h_; cases h_), hM8.none⟩
      ·
       refine xsl 4 t 1 1 ?_
       refine xcg 0 (spu_c (List.drop 1 t) (by rw [List.length_drop]; omega) eT ex (cell_kept hev hM8.kept)) ?_
       rintro _ w19 (⟨v20, hv21, rfl, m22⟩ | ⟨hv21, p24, rfl, m22⟩)
       ·
        refine ⟨_, rfl, ?_⟩
        have hM23 := hM8.j m22
        refine xh 7 [] hM23 sR (fun w25 hM26 hS27 => ?_)
        refine ydp [0,1,2,3,4] hS27 ?_
        have hz : hexP t = some v20 := hexP_yes (by omega) (by omega) (by simpa using h10) hv21
        exact xr 0 (v := .tuple #[.int .u64 ((v20 : Nat) : Int), .bool true]) Tryz.func130 hR ⟨v20, by rw [hz]; rfl, fun v_ h_ => (by rw [hz] at h_; cases h_; rfl), hM26.none⟩
       ·
        refine ⟨_, rfl, ?_⟩
        have hM23 := hM8.j m22
        refine xh 7 [] hM23 sR (fun w29 hM30 hS31 => ?_)
        refine ydp [0,1,2,3,4] hS31 ?_
        have hz : hexP t = none := hexP_bad hv21
        exact xr 0 (v := .tuple #[.int .u64 0, .bool false]) Tryz.func130 hR ⟨0, by rw [hz]; rfl, fun v_ h_ => (by rw [hz] at h_; cases h_), hM30.none⟩


end Go.Proofs.YthpodbngljfdmaaGreatDoor

namespace Go.Gw
set_option linter.unusedVariables false
set_option linter.unusedSimpArgs false
section
variable {P : Program} {t u E : TypeId} {k n N : Nat} {w w0 : World} {S : List Nat} {L : List Row} {xs : List Value}
theorem cut_one {v : Value} {w : World} (h : w.ownsRow 0 E k v n xs) (m : Nat) : (cut v m).oneCell' = true ∧ (cut v m).cells = #[cut v m] ∧ (cut v m).cells.toList = [cut v m] := by
  rcases h.2 with ⟨rfl, _⟩ | ⟨g, cap, cur, rfl, _⟩
  · exact ⟨rfl, rfl, rfl⟩
  · exact ⟨rfl, rfl, rfl⟩
theorem strCells_sb (s : List UInt8) : Lib.strCells (sb s) = u8s s := by simp [Lib.strCells, sb, u8s]
/-- what stands in the buffer behind a write -/
def gapp (xs : List Value) (m : Nat) (s : List UInt8) : List Value := xs.take m ++ u8s s ++ xs.drop (m + s.length)
theorem gapp_take {xs : List Value} {acc s : List UInt8} {N : Nat} (hx : xs.take acc.length = u8s acc) (hl : xs.length = N) (h : acc.length + s.length ≤ N) : (gapp xs acc.length s).take (acc ++ s).length = u8s (acc ++ s) ∧ (gapp xs acc.length s).length = N := by
  unfold gapp
  refine ⟨?_, by simp [u8s_len]; omega⟩
  rw [hx, u8s_app, List.take_append_of_le_length (by rw [u8s_len]; exact Nat.le_refl _), List.take_of_length_le (by rw [u8s_len]; exact Nat.le_refl _)]
/-- a string written behind the first m places, where there is room -/
theorem m_approom {b : Nat} {z : Value} (hT : SliceT P t E 1 b z) (hu : P.underlying u = some .string) (hM : Mem S w0 w L) (i : Nat) {v : Value} (hr : L[i]? = some ⟨E, 1, v, N, xs⟩) (m : Nat) (s : List UInt8) (hfit : m + s.length ≤ N) (h0 : 0 < N) (ty : TypeId) :
    ∃ w', (Builtin.append_ #[t, u] ty #[cut v m, .string (sb s)]).run P w = .ok (cut v (m + s.length)) w' ∧ Mem S w0 w' (L.set i ⟨E, 1, v, N, gapp xs m s⟩) := by
  have hown : w.ownsRow 0 E 1 v N xs := hM.get i hr
  obtain ⟨ti, hi, _, hs1, _⟩ := hT.info
  have ht := hT.under
  rcases hown.2 with ⟨_, e⟩ | ⟨g, cap, cur, rfl, hb, hg, hn, hcm, hcs, htk⟩
  · omega
  · have hcs' : cur.size = cap := by simpa using hcs
    have hr2 := Lib.run_append_room_string (P := P) w t u ty E ti ht hu hi hs1 g m cap cur hg (sb s) (by rw [sb_size]; omega) (by rw [sb_size]; omega)
    rw [sb_size] at hr2
    refine ⟨_, hr2, ?_⟩
    have hg2 : w.grownBy (w.setRow g (cur.toList.take m ++ Lib.strCells (sb s) ++ cur.toList.drop (m + s.length)).toArray) (some g) := ⟨rfl, rfl, rfl, by simp, fun k _ hk => setRow_other w g k _ (fun e => hk (by rw [e]))⟩
    refine hM.grow i hr (.inr rfl) (by exact hg2) _ _ _ ?_ (fun b hb => .inl hb)
    have htk' : cur.toList.take N = xs := by simpa using htk
    have hxl : xs.length = N := by simpa using hown.1
    have hcl : cur.toList.length = cap := by simpa using hcs'
    refine ⟨by unfold gapp; simp [u8s_len]; omega, .inr ⟨g, cap, _, rfl, hb, setRow_heap w g cur _ E _ hg, hn, hcm, ?_, ?_⟩⟩
    · rw [strCells_sb]; simp [u8s_len]; omega
    · rw [strCells_sb, Nat.mul_one]
      show List.take N (cur.toList.take m ++ u8s s ++ cur.toList.drop (m + s.length)) = gapp xs m s
      unfold gapp
      rw [← htk', List.take_append, List.take_of_length_le (by simp [u8s_len]; omega)]
      have e1 : (cur.toList.take N).take m = cur.toList.take m := by rw [List.take_take, Nat.min_eq_left (by omega)]
      rw [e1, List.drop_take]
      congr 2
      simp [u8s_len]; omega
/-- n bytes of memory, whatever stands there -/
theorem m_mnz {f : FuncId} {fn : Func} {ps : Array TypeId} (hf : P.funcs[f]? = some fn) (hname : (fn.name == "runtime.NumGoroutine") = false) (hb : fn.body.isNone = true) (hn : Extern.findNext fn = none) (he : Extern.find fn = some (Extern.BytealgMakeNoZero.makeNoZero ps #[t]))
    (ht : P.underlying t = some (.slice E)) (hM : Mem S w0 w L) (n : Nat) (h : n ≤ 281474976710656) :
    ∃ v w' xs, (callFunc f #[.int .i64 ((n : Nat) : Int)]).run P w = .ok (.value v) w' ∧ xs.length = n ∧ Mem S w0 w' (⟨E, 1, v, n, xs⟩ :: L) := by
  obtain ⟨cs, hrun, h1, h2⟩ := Lib.run_makeNoZero (P := P) w ps t E ht n h
  have hcm := h2 (by unfold maxLen; omega)
  refine ⟨.slice (some ⟨w.heap.size, 0, none⟩) n cs.size, w.drew.drew.alloc (.cells cs E), cs.toList.take n, ?_, by simp; omega, ?_⟩
  · rw [run_callFunc_extern hf hname hb hn he, hrun]; rfl
  · have hg : w.grownBy (w.drew.drew.alloc (.cells cs E)) none := ⟨rfl, rfl, rfl, by simp, fun k hk _ => heap_alloc_old w.drew.drew _ hk⟩
    refine hM.push hg ⟨E, 1, _, n, _⟩ ?_ (fun b hb => ?_)
    · exact ⟨by simp; omega, .inr ⟨w.heap.size, cs.size, cs, rfl, Nat.zero_le _, heap_alloc_new w.drew.drew _, h1, hcm, by simp, by rw [Nat.mul_one]⟩⟩
    · simp [Value.ownBlock] at hb; omega
theorem f_copy0 {v : Value} {w : World} {m : Nat} {b : Nat} {z : Value} (hT : SliceT P t E k b z) (h : w.ownsRow 0 E k v n xs) (t2 ty : TypeId) :
    (Builtin.copy_ #[t, t2] ty #[cut v m, .slice none 0 0]).run P w = .ok (.int .i64 0) w := by
  obtain ⟨ti, hi, _⟩ := hT.info
  rcases h.2 with ⟨rfl, _⟩ | ⟨g, cap, cur, rfl, _⟩
  · simp [Builtin.copy_, cut, run_underlying hT.under, sizeOf, typeInfo, hi, Builtin.lenOf, Builtin.firstCells]; rfl
  · simp [Builtin.copy_, cut, run_underlying hT.under, sizeOf, typeInfo, hi, Builtin.lenOf, Builtin.firstCells, storeCells]; rfl
theorem u8_of (c : UInt8) : ((c.toNat : Int)).toNat.toUInt8 = c := by simp
/-- the entries for bytes of strings -/
theorem x_count {f : FuncId} {fn : Func} (hf : P.funcs[f]? = some fn) (hname : (fn.name == "runtime.NumGoroutine") = false) (hb : fn.body.isNone = true) (hn : Extern.findNext fn = none) (he : Extern.find fn = some Extern.BytealgCount.count) (s : List UInt8) (c : Int) (w : World) :
    (callFunc f #[.string (sb s), .int .u8 c]).run P w = .ok (.value (.int .i64 ((List.count c.toNat.toUInt8 s : Nat) : Int))) w := by
  rw [run_callFunc_extern hf hname hb hn he, Lib.run_countString, sb_data]; rfl
theorem x_index {f : FuncId} {fn : Func} (hf : P.funcs[f]? = some fn) (hname : (fn.name == "runtime.NumGoroutine") = false) (hb : fn.body.isNone = true) (hn : Extern.findNext fn = none) (he : Extern.find fn = some Extern.BytealgIndexByte.indexByte) (s : List UInt8) (c : Int) (w : World) :
    (callFunc f #[.string (sb s), .int .u8 c]).run P w = .ok (.value (.int .i64 (Lib.indexByte s c.toNat.toUInt8))) w := by
  rw [run_callFunc_extern hf hname hb hn he, Lib.run_indexByteString, sb_data]; rfl
end
theorem gt_less : ∀ a b : List UInt8, (!Op.bytesLess a b && !a == b) = Op.bytesLess b a
  | [], [] => rfl
  | [], _ :: _ => rfl
  | _ :: _, [] => rfl
  | c :: a, d :: b => by
    have ih := gt_less a b
    have e1 : Op.bytesLess (c :: a) (d :: b) = (decide (c < d) || (c == d && Op.bytesLess a b)) := rfl
    have e2 : Op.bytesLess (d :: b) (c :: a) = (decide (d < c) || (d == c && Op.bytesLess b a)) := rfl
    have e3 : ((c :: a) == (d :: b)) = (c == d && a == b) := rfl
    rw [e1, e2, e3, ← ih]
    by_cases h : c = d
    · subst h
      have h1 : ¬ c < c := by rw [UInt8.lt_iff_toNat_lt]; omega
      rw [decide_eq_false h1]; simp
    · have h2 : (c == d) = false := beq_eq_false_iff_ne.2 h
      have h3 : (d == c) = false := beq_eq_false_iff_ne.2 (fun z => h z.symm)
      rw [h2, h3]
      have h4 : c.toNat ≠ d.toNat := fun z => h (UInt8.toNat.inj z)
      simp only [Bool.false_and, Bool.or_false, Bool.not_false, Bool.and_true]
      by_cases g : c < d
      · rw [decide_eq_true g, decide_eq_false (by rw [UInt8.lt_iff_toNat_lt] at *; omega)]; rfl
      · rw [decide_eq_false g, decide_eq_true (by rw [UInt8.lt_iff_toNat_lt] at *; omega)]; rfl
/-- the owed run of 'a > b' at texts -/
theorem f_strgt {P : Program} {t : TypeId} (a b : List UInt8) (w : World) : Sem.run P (do pure (Next.value (← binOp .gtr t (.string (sb a)) (.string (sb b))))) w = .ok (.value (.bool (Op.bytesLess b a))) w := by
  simp [binOp, Op.stringOp, sb_toList]
  exact gt_less a b
end Go.Gw

namespace Go.Proofs.YthpodbngljfdmaaGreatDoor
open Go Go.Gw Go.UtfP Go.TokP Go.QryP Go.SynP Go.RealQ Go.SynV Go.RowKit
set_option linter.unusedVariables false
set_option linter.unusedSimpArgs false
set_option maxRecDepth 20000


set_option maxHeartbeats 400000 in
theorem sixb_c (s : List UInt8) (c : Int) (w : World) :
  Calls Tryz.prog 142 #[sS s, .int .u8 c] w (fun e w' => e = .returned (.int .i64 (Lib.indexByte s c.toNat.toUInt8)) ∧ w = w') := by
 refine xe 8 Tryz.func142 (fun R hR => ?_)
 refine xp 8 (.int .i64 (Lib.indexByte s (Int.toNat c).toUInt8)) (w' := w) (show (callFunc 158 #[sS s, .int .u8 c]).run Tryz.prog w = .ok (.value (.int .i64 (Lib.indexByte s (Int.toNat c).toUInt8))) w from x_index Tryz.func158 (by kernel_rfl) (by kernel_rfl) (by kernel_rfl) (by kernel_rfl) s c w) ?_
 exact xr 2 Tryz.func142 hR ⟨rfl, rfl⟩

set_option maxHeartbeats 400000 in
theorem ixb_c (s : List UInt8) (c : Int) (w : World) :
  Calls Tryz.prog 129 #[sS s, .int .u8 c] w (fun e w' => e = .returned (.int .i64 (Lib.indexByte s c.toNat.toUInt8)) ∧ w = w') := by
 refine xe 8 Tryz.func129 (fun R hR => ?_)
 refine xka 8 (sixb_c s c w) ?_
 exact xr 2 Tryz.func129 hR ⟨rfl, rfl⟩

theorem ixb_m (s : List UInt8) (c v : Int) (hx : Lib.indexByte s c.toNat.toUInt8 = v) (w : World) : Calls Tryz.prog 129 #[sS s, .int .u8 c] w (fun e w' => e = .returned (.int .i64 v) ∧ w = w') := hx ▸ ixb_c s c w

set_option maxHeartbeats 400000 in
theorem numb_none (s : List UInt8) (hs : s.length ≤ 8192) (c : Int) (b : Nat) (i : Nat) (hi : i ≤ s.length) {w : World} (hG : GS [b] w) (hM : Mem [b] w w [⟨51, 2, (obj b), 1, [sS s, iN i]⟩]) (hx : Lib.indexByte (s.drop i) c.toNat.toUInt8 = -1) :
  Calls Tryz.prog 104 #[pq b, .int .u8 c] w (Pst (flt 47) (numberP s c i) (fun x v w' => v = .int .u64 ((x.1 : Nat) : Int) ∧ Mem [b] w w' [⟨51, 2, (obj b), 1, [sS s, iN x.2]⟩]) b w) := by
 refine xe 76 Tryz.func104 (fun R hR => ?_)
 refine xh 5 [] hM (sK sR) (fun w1 hM2 hS3 => ?_)
 refine yl [0,1,2] 3 hS3 pE9 0 rfl (cel_obj b 0) rfl ?_
 refine yl [4,5,6] 7 hS3 pE3 0 rfl (cel_obj b 1) rfl ?_
 refine yv [] 8 (fun W_ hW_ => (show (Instr.sliceAt 9 (sS s) (some (iN i)) none none).run Tryz.prog W_ = .ok (sS (List.drop i s)) W_ from f_slice_lo i (by kernel_rfl) (by omega) (by omega))) hS3 ?_
 refine yca [9] 10 (ixb_m (List.drop i s) c (-1) hx w1) hS3 ?_
 refine ydp [11] hS3 ?_
 refine xkd 9 Tryz.func104 (fail_c s i b (hM2.rd 0 rfl)) (fun w5 m6 => ?_)
 have hM7 := (hM2.j m6).none
 rw [hR]
 exact .inr ⟨_, number_none hx, rfl, hM7⟩

set_option maxHeartbeats 400000 in
theorem numb_some (s : List UInt8) (hs : s.length ≤ 8192) (c : Int) (b : Nat) (i : Nat) (hi : i ≤ s.length) (m : Nat) (hm : i + m < s.length) {w : World} (hG : GS [b] w) (hM : Mem [b] w w [⟨51, 2, (obj b), 1, [sS s, iN i]⟩]) (hx : Lib.indexByte (s.drop i) c.toNat.toUInt8 = ((m : Nat) : Int)) :
  Calls Tryz.prog 104 #[pq b, .int .u8 c] w (Pst (flt 47) (numberP s c i) (fun x v w' => v = .int .u64 ((x.1 : Nat) : Int) ∧ Mem [b] w w' [⟨51, 2, (obj b), 1, [sS s, iN x.2]⟩]) b w) := by
 refine xe 76 Tryz.func104 (fun R hR => ?_)
 refine xh 5 [] hM (sK sR) (fun w1 hM2 hS3 => ?_)
 refine yl [0,1,2] 3 hS3 pE9 0 rfl (cel_obj b 0) rfl ?_
 refine yl [4,5,6] 7 hS3 pE3 0 rfl (cel_obj b 1) rfl ?_
 refine yv [] 8 (fun W_ hW_ => (show (Instr.sliceAt 9 (sS s) (some (iN i)) none none).run Tryz.prog W_ = .ok (sS (List.drop i s)) W_ from f_slice_lo i (by kernel_rfl) (by omega) (by omega))) hS3 ?_
 refine yca [9] 10 (ixb_m (List.drop i s) c ((m : Nat) : Int) hx w1) hS3 ?_
 refine ydp [11] hS3 ?_
 refine xc 6 (((m : Nat) : Int) < 0) (fun h5p => ?_) (fun h5p => ?_)
 ·
  omega
 ·
  refine xh 2 [] hM2 (sK sR) (fun w6 hM7 hS8 => ?_)
  refine yl [0,1,2] 3 hS8 pE9 0 rfl (cel_obj b 0) rfl ?_
  refine yl [4,5,6] 7 hS8 pE3 0 rfl (cel_obj b 1) rfl ?_
  refine yl [8,9,10] 11 hS8 pE3 0 rfl (cel_obj b 1) rfl ?_
  refine yv [12] 13 (fun W_ hW_ => (show (binOp .add 3 (iN i) (iN m)).run Tryz.prog W_ = .ok (iN (i + m)) W_ from f_add (by rw [show ((i : Nat) : Int) + ((m : Nat) : Int) = (((i + m) : Nat) : Int) by omega]; exact IntWalk.i64_in _ (by omega)))) hS8 ?_
  refine yv [] 14 (fun W_ hW_ => (show (Instr.sliceAt 9 (sS s) (some (iN i)) (some (iN (i + m))) none).run Tryz.prog W_ = .ok (sS (List.drop i (List.take (i + m) s))) W_ from f_slice_lohi i (i + m) (by kernel_rfl) (by omega) (by omega) (by omega) (by omega))) hS8 ?_
  refine ydp [15] hS8 ?_
  refine xcg 4 (hexed_c (List.drop i (List.take (i + m) s)) (by rw [List.length_drop, List.length_take]; omega) (hG.kept hM7.kept).nil) ?_
  rintro _ w10 ⟨n12, rfl, hn13, m11⟩
  refine ⟨_, rfl, ?_⟩
  have hM14 := hM7.j m11
  refine xb 10 (Option.isSome (hexP (List.drop i (List.take (i + m) s)))) (fun h15 => ?_) (fun h15 => ?_)
  ·
   refine xv 5 (c_load pE3 (hM14.rd 0 rfl) (cel_obj b 1) rfl) ?_
   refine xa 1 ((m : Nat) : Int) 1 (((m + 1) : Nat) : Int) ?_
   refine xa 0 ((i : Nat) : Int) (((m + 1) : Nat) : Int) (((i + (m + 1)) : Nat) : Int) ?_
   refine xst 2 (c_store (E := 3) (u := iN (i + (m + 1))) (by kernel_rfl) hM14 0 rfl (cel_obj b 1) (by decide) rfl rfl) (fun w16 hM18 => ?_)
   refine xr0 6 (v := .int .u64 n12) Tryz.func104 ?_
   rw [hR]
   obtain ⟨v_, hv_⟩ := Option.isSome_iff_exists.1 h15
   have hn_ := hn13 _ hv_
   exact .inl ⟨_, _, number_hex hx hv_, rfl, by rw [hn_], hM18⟩
  ·
   refine xka 4 (parse_c (List.drop i (List.take (i + m) s)) (by rw [List.length_drop, List.length_take]; omega) w10) ?_
   refine xcn 12 ((parseE (List.drop i (List.take (i + m) s))) = 0) (fun h24p => ?_) (fun h24p => ?_)
   ·
    refine xkd 2 Tryz.func104 (fail_c s i b (hM14.rd 0 rfl)) (fun w25 m26 => ?_)
    have hM27 := (hM14.j m26).none
    rw [hR]
    exact .inr ⟨_, number_bad hx (by simpa using h15) (by omega), rfl, hM27⟩
   ·
    refine xv 6 (c_load pE3 (hM14.rd 0 rfl) (cel_obj b 1) rfl) ?_
    refine xa 1 ((m : Nat) : Int) 1 (((m + 1) : Nat) : Int) ?_
    refine xa 0 ((i : Nat) : Int) (((m + 1) : Nat) : Int) (((i + (m + 1)) : Nat) : Int) ?_
    refine xst 2 (c_store (E := 3) (u := iN (i + (m + 1))) (by kernel_rfl) hM14 0 rfl (cel_obj b 1) (by decide) rfl rfl) (fun w28 hM30 => ?_)
    refine xr0 6 (v := .int .u64 (((parseV (List.drop i (List.take (i + m) s))) : Nat) : Int)) Tryz.func104 ?_
    rw [hR]
    exact .inl ⟨_, _, number_real hx (by simpa using h15) (by omega), rfl, rfl, hM30⟩

theorem number_c (s : List UInt8) (hs : s.length ≤ 8192) (c : Int) (b : Nat) (i : Nat) (hi : i ≤ s.length) {w : World} (hG : GS [b] w) (hM : Mem [b] w w [⟨51, 2, (obj b), 1, [sS s, iN i]⟩]) :
  Calls Tryz.prog 104 #[pq b, .int .u8 c] w (Pst (flt 47) (numberP s c i) (fun x v w' => v = .int .u64 ((x.1 : Nat) : Int) ∧ Mem [b] w w' [⟨51, 2, (obj b), 1, [sS s, iN x.2]⟩]) b w) := by
 rcases index_cases (s.drop i) c.toNat.toUInt8 with hx | ⟨m, hx, hm⟩
 · exact numb_none s hs c b i hi hG hM hx
 · rw [List.length_drop] at hm; exact numb_some s hs c b i hi m (by omega) hG hM hx


end Go.Proofs.YthpodbngljfdmaaGreatDoor
