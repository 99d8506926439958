/-
  The walks of the classes of characters: Whole, Letter, Fold of the program, Whole of the reference. For every number.
-/
import Derived.Test.YtnhplkkbpmijdaaUtfP
import Derived.Test.YtnhplkkbpmijdaaTokP
import Derived.Test.YtnhplkkbpmijdaaChecked
namespace Go.Proofs.Ytnhplkkbpmijdaa
open Go Go.Gw Go.UtfP Go.TokP Go.RowKit
set_option linter.unusedVariables false
set_option linter.unusedSimpArgs false


set_option maxHeartbeats 400000 in
theorem whole_c (c : Int) (w : World) :
    Calls Try.prog 44 #[.int .i64 c] w (fun e w' => e = .returned (.bool (whole c)) ∧ w = w') := by
  obtain ⟨R, hR⟩ : ∃ R : Ending → World → Prop, R = (fun e w' => e = .returned (.bool (whole c)) ∧ w = w') := ⟨_, rfl⟩
  rw [← hR]
  refine GoS.enter (n := 17) Try.func44 (by kernel_rfl) rfl [(0, .int .i64 c)] (by kernel_rfl) (by kernel_rfl) ?_
  refine GoS.run [0, 5] [.n, .n, .n, .n, .n, .n, .n, .n, .n] _ [.inRegion (cops (csub (cd Try.f44) [1,0])) [3,4,5,6,7,8,9,10,11,12,13,14], .code (csub (cd Try.f44) [1,1])] [(0, .int .i64 c), (5, .bool (decide (c ≥ 0)))] w (by kernel_rfl) .nil ?_
  refine GoS.fork 5 (decide (c ≥ 0)) (by kernel_rfl) (fun h1 => ?_) (fun h1 => ?_)
  ·
    have h1p : c ≥ 0 := of_decide_eq_true h1
    refine GoS.run [0, 9] [.n, .n, .n, .n] _ [.inRegion (cops (csub (cd Try.f44) [1,0])) [7,8,9,10,11,12,13,14], .code (csub (cd Try.f44) [1,1])] [(0, .int .i64 c), (9, .bool (decide (c ≤ 1114111)))] w (by kernel_rfl) .nil ?_
    refine GoS.fork 9 (decide (c ≤ 1114111)) (by kernel_rfl) (fun h2 => ?_) (fun h2 => ?_)
    ·
      have h2p : c ≤ 1114111 := of_decide_eq_true h2
      refine GoS.run [0, 9, 12] [.n, .n, .n] _ [.inRegion (cops (csub (cd Try.f44) [1,0])) [10,11,12,13,14], .code (csub (cd Try.f44) [1,1])] [(0, .int .i64 c), (9, .bool true), (12, .bool (decide (c < 55296)))] w (by kernel_rfl) .nil ?_
      refine GoS.fork 12 (decide (c < 55296)) (by kernel_rfl) (fun h3 => ?_) (fun h3 => ?_)
      ·
        have h3p : c < 55296 := of_decide_eq_true h3
        refine GoS.run [2] [.n, .n, .n, .n, .n] _ [.inRegion (cops (csub (cd Try.f44) [1,0])) [], .code (csub (cd Try.f44) [1,1])] [(2, .bool true)] w (by kernel_rfl) .nil ?_
        refine GoS.run [2] [.n] _ [.code (csub (cd Try.f44) [1,1])] [(2, .bool true)] w (by kernel_rfl) .nil ?_
        refine GoS.ret (fn := Try.f44) (v := (.bool true)) Try.func44 (by kernel_rfl) ?_
        rw [hR]
        exact ⟨ret_bool (by rw [Bool.eq_iff_iff]; simp [whole]; try omega), rfl⟩
      ·
        have h3p : ¬ (c < 55296) := of_decide_eq_false h3
        refine GoS.run [2] [.n, .n, .n, .n, .n] _ [.inRegion (cops (csub (cd Try.f44) [1,0])) [], .code (csub (cd Try.f44) [1,1])] [(2, .bool (decide (c > 57343)))] w (by kernel_rfl) .nil ?_
        refine GoS.run [2] [.n] _ [.code (csub (cd Try.f44) [1,1])] [(2, .bool (decide (c > 57343)))] w (by kernel_rfl) .nil ?_
        refine GoS.ret (fn := Try.f44) (v := (.bool (decide (c > 57343)))) Try.func44 (by kernel_rfl) ?_
        rw [hR]
        exact ⟨ret_bool (by rw [Bool.eq_iff_iff]; simp [whole]; try omega), rfl⟩
    ·
      have h2p : ¬ (c ≤ 1114111) := of_decide_eq_false h2
      refine GoS.run [2] [.n, .n, .n, .n, .n, .n, .n, .n] _ [.inRegion (cops (csub (cd Try.f44) [1,0])) [], .code (csub (cd Try.f44) [1,1])] [(2, .bool false)] w (by kernel_rfl) .nil ?_
      refine GoS.run [2] [.n] _ [.code (csub (cd Try.f44) [1,1])] [(2, .bool false)] w (by kernel_rfl) .nil ?_
      refine GoS.ret (fn := Try.f44) (v := (.bool false)) Try.func44 (by kernel_rfl) ?_
      rw [hR]
      exact ⟨ret_bool (by rw [Bool.eq_iff_iff]; simp [whole]; try omega), rfl⟩
  ·
    have h1p : ¬ (c ≥ 0) := of_decide_eq_false h1
    refine GoS.run [2] [.n, .n, .n, .n, .n, .n, .n, .n, .n, .n, .n, .n] _ [.inRegion (cops (csub (cd Try.f44) [1,0])) [], .code (csub (cd Try.f44) [1,1])] [(2, .bool false)] w (by kernel_rfl) .nil ?_
    refine GoS.run [2] [.n] _ [.code (csub (cd Try.f44) [1,1])] [(2, .bool false)] w (by kernel_rfl) .nil ?_
    refine GoS.ret (fn := Try.f44) (v := (.bool false)) Try.func44 (by kernel_rfl) ?_
    rw [hR]
    exact ⟨ret_bool (by rw [Bool.eq_iff_iff]; simp [whole]; try omega), rfl⟩

set_option maxHeartbeats 400000 in
theorem letter_c (c : Int) (w : World) :
    Calls Try.prog 34 #[.int .i64 c] w (fun e w' => e = .returned (.bool (letter c)) ∧ w = w') := by
  obtain ⟨R, hR⟩ : ∃ R : Ending → World → Prop, R = (fun e w' => e = .returned (.bool (letter c)) ∧ w = w') := ⟨_, rfl⟩
  rw [← hR]
  refine GoS.enter (n := 56) Try.func34 (by kernel_rfl) rfl [(0, .int .i64 c)] (by kernel_rfl) (by kernel_rfl) ?_
  refine GoS.run [0, 6] [.n, .n, .n, .n, .n, .n, .n, .n, .n, .n, .n, .n] _ [.inRegion (cops (csub (cd Try.f34) [1,0,0,0,0])) [3,4,5,6], .code (csub (cd Try.f34) [1,0,0,0,1]), .code (csub (cd Try.f34) [1,0,0,1]), .inBlock 0, .code (csub (cd Try.f34) [1,1])] [(0, .int .i64 c), (6, .bool (decide (c ≥ 97)))] w (by kernel_rfl) .nil ?_
  have J2 : GoS Try.prog 34 R 56 [.inRegion (cops (csub (cd Try.f34) [1,0,0,0,0])) [], .code (csub (cd Try.f34) [1,0,0,0,1]), .code (csub (cd Try.f34) [1,0,0,1]), .inBlock 0, .code (csub (cd Try.f34) [1,1])] [(0, .int .i64 c), (3, .bool ((decide (c ≥ 97)) && (decide (c ≤ 122))))] w := by
    refine GoS.run [0, 3] [.n] _ [.code (csub (cd Try.f34) [1,0,0,0,1]), .code (csub (cd Try.f34) [1,0,0,1]), .inBlock 0, .code (csub (cd Try.f34) [1,1])] [(0, .int .i64 c), (3, .bool ((decide (c ≥ 97)) && (decide (c ≤ 122))))] w (by kernel_rfl) .nil ?_
    have J9 : GoS Try.prog 34 R 56 [.code (csub (cd Try.f34) [1,0,0,1]), .inBlock 0, .code (csub (cd Try.f34) [1,1])] [(0, .int .i64 c), (3, .bool (bif ((decide (c ≥ 97)) && (decide (c ≤ 122))) then ((decide (c ≥ 97)) && (decide (c ≤ 122))) else (bif ((decide (c ≥ 65)) && (decide (c ≤ 90))) then ((decide (c ≥ 65)) && (decide (c ≤ 90))) else ((decide (c ≥ 48)) && (decide (c ≤ 57))))))] w := by
      refine GoS.cond (bif ((decide (c ≥ 97)) && (decide (c ≤ 122))) then ((decide (c ≥ 97)) && (decide (c ≤ 122))) else (bif ((decide (c ≥ 65)) && (decide (c ≤ 90))) then ((decide (c ≥ 65)) && (decide (c ≤ 90))) else ((decide (c ≥ 48)) && (decide (c ≤ 57))))) [.code (csub (cd Try.f34) [1,0,0,1,0]), .inBlock 0, .code (csub (cd Try.f34) [1,1])] [.code (csub (cd Try.f34) [1,0,0,1,1]), .inBlock 0, .code (csub (cd Try.f34) [1,1])] (by kernel_rfl) (fun h10 => ?_) (fun h10 => ?_)
      ·
        have h10p : (((c ≥ 97) ∧ (c ≤ 122)) ∧ ((c ≥ 97) ∧ (c ≤ 122))) ∨ (¬ ((c ≥ 97) ∧ (c ≤ 122)) ∧ ((((c ≥ 65) ∧ (c ≤ 90)) ∧ ((c ≥ 65) ∧ (c ≤ 90))) ∨ (¬ ((c ≥ 65) ∧ (c ≤ 90)) ∧ ((c ≥ 48) ∧ (c ≤ 57))))) := (p_ibif (p_iand (@decide_eq_true_iff (c ≥ 97) _) (@decide_eq_true_iff (c ≤ 122) _)) (p_iand (@decide_eq_true_iff (c ≥ 97) _) (@decide_eq_true_iff (c ≤ 122) _)) (p_ibif (p_iand (@decide_eq_true_iff (c ≥ 65) _) (@decide_eq_true_iff (c ≤ 90) _)) (p_iand (@decide_eq_true_iff (c ≥ 65) _) (@decide_eq_true_iff (c ≤ 90) _)) (p_iand (@decide_eq_true_iff (c ≥ 48) _) (@decide_eq_true_iff (c ≤ 57) _)))).1 h10
        refine GoS.run [2] [.n, .n, .n, .n] _ [.code (csub (cd Try.f34) [1,0,0,1,0,1]), .inBlock 0, .code (csub (cd Try.f34) [1,1])] [(2, .bool true)] w (by kernel_rfl) .nil ?_
        refine GoS.ret (fn := Try.f34) (v := (.bool true)) Try.func34 (by kernel_rfl) ?_
        rw [hR]
        exact ⟨ret_bool (letter_t (by unfold LetterP; omega)), rfl⟩
      ·
        have h10p : ¬ ((((c ≥ 97) ∧ (c ≤ 122)) ∧ ((c ≥ 97) ∧ (c ≤ 122))) ∨ (¬ ((c ≥ 97) ∧ (c ≤ 122)) ∧ ((((c ≥ 65) ∧ (c ≤ 90)) ∧ ((c ≥ 65) ∧ (c ≤ 90))) ∨ (¬ ((c ≥ 65) ∧ (c ≤ 90)) ∧ ((c ≥ 48) ∧ (c ≤ 57)))))) := p_no (p_ibif (p_iand (@decide_eq_true_iff (c ≥ 97) _) (@decide_eq_true_iff (c ≤ 122) _)) (p_iand (@decide_eq_true_iff (c ≥ 97) _) (@decide_eq_true_iff (c ≤ 122) _)) (p_ibif (p_iand (@decide_eq_true_iff (c ≥ 65) _) (@decide_eq_true_iff (c ≤ 90) _)) (p_iand (@decide_eq_true_iff (c ≥ 65) _) (@decide_eq_true_iff (c ≤ 90) _)) (p_iand (@decide_eq_true_iff (c ≥ 48) _) (@decide_eq_true_iff (c ≤ 57) _)))) h10
        refine GoS.run [0, 25] [.n, .n, .n, .n, .n] _ [.inRegion (cops (csub (cd Try.f34) [1,0,0,1,1,0])) [3,4,5,6,7,8,9,10,11,12,13,14], .code (csub (cd Try.f34) [1,0,0,1,1,1]), .inBlock 0, .code (csub (cd Try.f34) [1,1])] [(0, .int .i64 c), (25, .bool (c == 215))] w (by kernel_rfl) .nil ?_
        have J14 : GoS Try.prog 34 R 56 [.inRegion (cops (csub (cd Try.f34) [1,0,0,1,1,0])) [], .code (csub (cd Try.f34) [1,0,0,1,1,1]), .inBlock 0, .code (csub (cd Try.f34) [1,1])] [(0, .int .i64 c), (22, .bool ((c == 215) || ((c == 247) || ((c == 894) || (c == 1154)))))] w := by
          refine GoS.run [0, 22] [.n] _ [.code (csub (cd Try.f34) [1,0,0,1,1,1]), .inBlock 0, .code (csub (cd Try.f34) [1,1])] [(0, .int .i64 c), (22, .bool ((c == 215) || ((c == 247) || ((c == 894) || (c == 1154)))))] w (by kernel_rfl) .nil ?_
          refine GoS.cond ((c == 215) || ((c == 247) || ((c == 894) || (c == 1154)))) [.code (csub (cd Try.f34) [1,0,0,1,1,1,0]), .inBlock 0, .code (csub (cd Try.f34) [1,1])] [.code (csub (cd Try.f34) [1,0,0,1,1,1,1]), .inBlock 0, .code (csub (cd Try.f34) [1,1])] (by kernel_rfl) (fun h15 => ?_) (fun h15 => ?_)
          ·
            have h15p : (c = 215) ∨ ((c = 247) ∨ ((c = 894) ∨ (c = 1154))) := (p_ior (@beq_iff_eq _ _ _ (c) (215)) (p_ior (@beq_iff_eq _ _ _ (c) (247)) (p_ior (@beq_iff_eq _ _ _ (c) (894)) (@beq_iff_eq _ _ _ (c) (1154))))).1 h15
            refine GoS.run [2] [.n, .n, .n, .n] _ [.code (csub (cd Try.f34) [1,0,0,1,1,1,0,1]), .inBlock 0, .code (csub (cd Try.f34) [1,1])] [(2, .bool false)] w (by kernel_rfl) .nil ?_
            refine GoS.ret (fn := Try.f34) (v := (.bool false)) Try.func34 (by kernel_rfl) ?_
            rw [hR]
            exact ⟨ret_bool (letter_f (by unfold LetterP; omega)), rfl⟩
          ·
            have h15p : ¬ (c = 215) := p_ne (p_orl h15)
            have h15p1 : ¬ (c = 247) := p_ne (p_orl (p_orr h15))
            have h15p2 : ¬ (c = 894) := p_ne (p_orl (p_orr (p_orr h15)))
            have h15p3 : ¬ (c = 1154) := p_ne (p_orr (p_orr (p_orr h15)))
            refine GoS.run [0, 40] [.n, .n, .n, .n, .n, .n] _ [.inRegion (cops (csub (cd Try.f34) [1,0,0,1,1,1,1,0,0])) [3,4,5,6], .code (csub (cd Try.f34) [1,0,0,1,1,1,1,0,1]), .code (csub (cd Try.f34) [1,0,0,1,1,1,1,1]), .inBlock 0, .code (csub (cd Try.f34) [1,1])] [(0, .int .i64 c), (40, .bool (decide (c ≥ 192)))] w (by kernel_rfl) .nil ?_
            have J17 : GoS Try.prog 34 R 56 [.inRegion (cops (csub (cd Try.f34) [1,0,0,1,1,1,1,0,0])) [], .code (csub (cd Try.f34) [1,0,0,1,1,1,1,0,1]), .code (csub (cd Try.f34) [1,0,0,1,1,1,1,1]), .inBlock 0, .code (csub (cd Try.f34) [1,1])] [(0, .int .i64 c), (37, .bool ((decide (c ≥ 192)) && (decide (c ≤ 591))))] w := by
              refine GoS.run [0, 37] [.n] _ [.code (csub (cd Try.f34) [1,0,0,1,1,1,1,0,1]), .code (csub (cd Try.f34) [1,0,0,1,1,1,1,1]), .inBlock 0, .code (csub (cd Try.f34) [1,1])] [(0, .int .i64 c), (37, .bool ((decide (c ≥ 192)) && (decide (c ≤ 591))))] w (by kernel_rfl) .nil ?_
              have J24 : GoS Try.prog 34 R 56 [.code (csub (cd Try.f34) [1,0,0,1,1,1,1,1]), .inBlock 0, .code (csub (cd Try.f34) [1,1])] [(37, .bool (bif ((decide (c ≥ 192)) && (decide (c ≤ 591))) then ((decide (c ≥ 192)) && (decide (c ≤ 591))) else (bif ((decide (c ≥ 880)) && (decide (c ≤ 1327))) then ((decide (c ≥ 880)) && (decide (c ≤ 1327))) else ((decide (c ≥ 19968)) && (decide (c ≤ 40959))))))] w := by
                refine GoS.cond (bif ((decide (c ≥ 192)) && (decide (c ≤ 591))) then ((decide (c ≥ 192)) && (decide (c ≤ 591))) else (bif ((decide (c ≥ 880)) && (decide (c ≤ 1327))) then ((decide (c ≥ 880)) && (decide (c ≤ 1327))) else ((decide (c ≥ 19968)) && (decide (c ≤ 40959))))) [.code (csub (cd Try.f34) [1,0,0,1,1,1,1,1,0]), .inBlock 0, .code (csub (cd Try.f34) [1,1])] [.code (csub (cd Try.f34) [1,0,0,1,1,1,1,1,1]), .inBlock 0, .code (csub (cd Try.f34) [1,1])] (by kernel_rfl) (fun h25 => ?_) (fun h25 => ?_)
                ·
                  have h25p : (((c ≥ 192) ∧ (c ≤ 591)) ∧ ((c ≥ 192) ∧ (c ≤ 591))) ∨ (¬ ((c ≥ 192) ∧ (c ≤ 591)) ∧ ((((c ≥ 880) ∧ (c ≤ 1327)) ∧ ((c ≥ 880) ∧ (c ≤ 1327))) ∨ (¬ ((c ≥ 880) ∧ (c ≤ 1327)) ∧ ((c ≥ 19968) ∧ (c ≤ 40959))))) := (p_ibif (p_iand (@decide_eq_true_iff (c ≥ 192) _) (@decide_eq_true_iff (c ≤ 591) _)) (p_iand (@decide_eq_true_iff (c ≥ 192) _) (@decide_eq_true_iff (c ≤ 591) _)) (p_ibif (p_iand (@decide_eq_true_iff (c ≥ 880) _) (@decide_eq_true_iff (c ≤ 1327) _)) (p_iand (@decide_eq_true_iff (c ≥ 880) _) (@decide_eq_true_iff (c ≤ 1327) _)) (p_iand (@decide_eq_true_iff (c ≥ 19968) _) (@decide_eq_true_iff (c ≤ 40959) _)))).1 h25
                  refine GoS.run [2] [.n, .n, .n, .n] _ [.code (csub (cd Try.f34) [1,0,0,1,1,1,1,1,0,1]), .inBlock 0, .code (csub (cd Try.f34) [1,1])] [(2, .bool true)] w (by kernel_rfl) .nil ?_
                  refine GoS.ret (fn := Try.f34) (v := (.bool true)) Try.func34 (by kernel_rfl) ?_
                  rw [hR]
                  exact ⟨ret_bool (letter_t (by unfold LetterP; omega)), rfl⟩
                ·
                  have h25p : ¬ ((((c ≥ 192) ∧ (c ≤ 591)) ∧ ((c ≥ 192) ∧ (c ≤ 591))) ∨ (¬ ((c ≥ 192) ∧ (c ≤ 591)) ∧ ((((c ≥ 880) ∧ (c ≤ 1327)) ∧ ((c ≥ 880) ∧ (c ≤ 1327))) ∨ (¬ ((c ≥ 880) ∧ (c ≤ 1327)) ∧ ((c ≥ 19968) ∧ (c ≤ 40959)))))) := p_no (p_ibif (p_iand (@decide_eq_true_iff (c ≥ 192) _) (@decide_eq_true_iff (c ≤ 591) _)) (p_iand (@decide_eq_true_iff (c ≥ 192) _) (@decide_eq_true_iff (c ≤ 591) _)) (p_ibif (p_iand (@decide_eq_true_iff (c ≥ 880) _) (@decide_eq_true_iff (c ≤ 1327) _)) (p_iand (@decide_eq_true_iff (c ≥ 880) _) (@decide_eq_true_iff (c ≤ 1327) _)) (p_iand (@decide_eq_true_iff (c ≥ 19968) _) (@decide_eq_true_iff (c ≤ 40959) _)))) h25
                  refine GoS.run [] [.n] _ [.inBlock 0, .code (csub (cd Try.f34) [1,1])] [] w (by kernel_rfl) .nil ?_
                  refine GoS.run [2] [.n, .n, .n, .n, .n] _ [.code (csub (cd Try.f34) [1,1,1])] [(2, .bool false)] w (by kernel_rfl) .nil ?_
                  refine GoS.ret (fn := Try.f34) (v := (.bool false)) Try.func34 (by kernel_rfl) ?_
                  rw [hR]
                  exact ⟨ret_bool (letter_f (by unfold LetterP; omega)), rfl⟩
              refine GoS.cond ((decide (c ≥ 192)) && (decide (c ≤ 591))) [.code (csub (cd Try.f34) [1,0,0,1,1,1,1,0,1,0]), .code (csub (cd Try.f34) [1,0,0,1,1,1,1,1]), .inBlock 0, .code (csub (cd Try.f34) [1,1])] [.code (csub (cd Try.f34) [1,0,0,1,1,1,1,0,1,1]), .code (csub (cd Try.f34) [1,0,0,1,1,1,1,1]), .inBlock 0, .code (csub (cd Try.f34) [1,1])] (by kernel_rfl) (fun h18 => ?_) (fun h18 => ?_)
              ·
                have h18p : c ≥ 192 := of_decide_eq_true (p_andl h18)
                have h18p1 : c ≤ 591 := of_decide_eq_true (p_andr h18)
                refine GoS.run [37] [.n] _ [.code (csub (cd Try.f34) [1,0,0,1,1,1,1,1]), .inBlock 0, .code (csub (cd Try.f34) [1,1])] [(37, .bool ((decide (c ≥ 192)) && (decide (c ≤ 591))))] w (by kernel_rfl) .nil ?_
                exact GoS.cast (by first | (simp only [h18, cond_true, cond_false, Bool.true_and, Bool.false_and, Bool.true_or, Bool.false_or, Bool.not_true, Bool.not_false, Bool.and_true, Bool.and_false, Bool.or_true, Bool.or_false]) | (simp [h18])) J24
              ·
                have h18p : ¬ ((c ≥ 192) ∧ (c ≤ 591)) := p_no (p_iand (@decide_eq_true_iff (c ≥ 192) _) (@decide_eq_true_iff (c ≤ 591) _)) h18
                refine GoS.run [0, 46] [.n, .n, .n, .n, .n] _ [.inRegion (cops (csub (cd Try.f34) [1,0,0,1,1,1,1,0,1,1,0])) [3,4,5,6], .code (csub (cd Try.f34) [1,0,0,1,1,1,1,0,1,1,1]), .code (csub (cd Try.f34) [1,0,0,1,1,1,1,1]), .inBlock 0, .code (csub (cd Try.f34) [1,1])] [(0, .int .i64 c), (46, .bool (decide (c ≥ 880)))] w (by kernel_rfl) .nil ?_
                have J20 : GoS Try.prog 34 R 56 [.inRegion (cops (csub (cd Try.f34) [1,0,0,1,1,1,1,0,1,1,0])) [], .code (csub (cd Try.f34) [1,0,0,1,1,1,1,0,1,1,1]), .code (csub (cd Try.f34) [1,0,0,1,1,1,1,1]), .inBlock 0, .code (csub (cd Try.f34) [1,1])] [(0, .int .i64 c), (37, .bool ((decide (c ≥ 880)) && (decide (c ≤ 1327))))] w := by
                  refine GoS.run [0, 37] [.n] _ [.code (csub (cd Try.f34) [1,0,0,1,1,1,1,0,1,1,1]), .code (csub (cd Try.f34) [1,0,0,1,1,1,1,1]), .inBlock 0, .code (csub (cd Try.f34) [1,1])] [(0, .int .i64 c), (37, .bool ((decide (c ≥ 880)) && (decide (c ≤ 1327))))] w (by kernel_rfl) .nil ?_
                  refine GoS.cond ((decide (c ≥ 880)) && (decide (c ≤ 1327))) [.code (csub (cd Try.f34) [1,0,0,1,1,1,1,0,1,1,1,0]), .code (csub (cd Try.f34) [1,0,0,1,1,1,1,1]), .inBlock 0, .code (csub (cd Try.f34) [1,1])] [.code (csub (cd Try.f34) [1,0,0,1,1,1,1,0,1,1,1,1]), .code (csub (cd Try.f34) [1,0,0,1,1,1,1,1]), .inBlock 0, .code (csub (cd Try.f34) [1,1])] (by kernel_rfl) (fun h21 => ?_) (fun h21 => ?_)
                  ·
                    have h21p : c ≥ 880 := of_decide_eq_true (p_andl h21)
                    have h21p1 : c ≤ 1327 := of_decide_eq_true (p_andr h21)
                    refine GoS.run [37] [.n] _ [.code (csub (cd Try.f34) [1,0,0,1,1,1,1,1]), .inBlock 0, .code (csub (cd Try.f34) [1,1])] [(37, .bool ((decide (c ≥ 880)) && (decide (c ≤ 1327))))] w (by kernel_rfl) .nil ?_
                    exact GoS.cast (by first | (simp only [h18, h21, cond_true, cond_false, Bool.true_and, Bool.false_and, Bool.true_or, Bool.false_or, Bool.not_true, Bool.not_false, Bool.and_true, Bool.and_false, Bool.or_true, Bool.or_false]) | (simp [h18, h21])) J24
                  ·
                    have h21p : ¬ ((c ≥ 880) ∧ (c ≤ 1327)) := p_no (p_iand (@decide_eq_true_iff (c ≥ 880) _) (@decide_eq_true_iff (c ≤ 1327) _)) h21
                    refine GoS.run [0, 52] [.n, .n, .n, .n] _ [.inRegion (cops (csub (cd Try.f34) [1,0,0,1,1,1,1,0,1,1,1,1])) [3,4,5,6], .code (csub (cd Try.f34) [1,0,0,1,1,1,1,1]), .inBlock 0, .code (csub (cd Try.f34) [1,1])] [(0, .int .i64 c), (52, .bool (decide (c ≥ 19968)))] w (by kernel_rfl) .nil ?_
                    have J23 : GoS Try.prog 34 R 56 [.inRegion (cops (csub (cd Try.f34) [1,0,0,1,1,1,1,0,1,1,1,1])) [], .code (csub (cd Try.f34) [1,0,0,1,1,1,1,1]), .inBlock 0, .code (csub (cd Try.f34) [1,1])] [(37, .bool ((decide (c ≥ 19968)) && (decide (c ≤ 40959))))] w := by
                      refine GoS.run [37] [.n] _ [.code (csub (cd Try.f34) [1,0,0,1,1,1,1,1]), .inBlock 0, .code (csub (cd Try.f34) [1,1])] [(37, .bool ((decide (c ≥ 19968)) && (decide (c ≤ 40959))))] w (by kernel_rfl) .nil ?_
                      exact GoS.cast (by first | (simp only [h18, h21, cond_true, cond_false, Bool.true_and, Bool.false_and, Bool.true_or, Bool.false_or, Bool.not_true, Bool.not_false, Bool.and_true, Bool.and_false, Bool.or_true, Bool.or_false]) | (simp [h18, h21])) J24
                    refine GoS.fork 52 (decide (c ≥ 19968)) (by kernel_rfl) (fun h22 => ?_) (fun h22 => ?_)
                    ·
                      have h22p : c ≥ 19968 := of_decide_eq_true h22
                      refine GoS.run [37] [.n, .n, .n, .n] _ [.inRegion (cops (csub (cd Try.f34) [1,0,0,1,1,1,1,0,1,1,1,1])) [], .code (csub (cd Try.f34) [1,0,0,1,1,1,1,1]), .inBlock 0, .code (csub (cd Try.f34) [1,1])] [(37, .bool (decide (c ≤ 40959)))] w (by kernel_rfl) .nil ?_
                      exact GoS.cast (by first | (simp only [h22, cond_true, cond_false, Bool.true_and, Bool.false_and, Bool.true_or, Bool.false_or, Bool.not_true, Bool.not_false, Bool.and_true, Bool.and_false, Bool.or_true, Bool.or_false]) | (simp [h22])) J23
                    ·
                      have h22p : ¬ (c ≥ 19968) := of_decide_eq_false h22
                      refine GoS.run [37] [.n, .n, .n, .n] _ [.inRegion (cops (csub (cd Try.f34) [1,0,0,1,1,1,1,0,1,1,1,1])) [], .code (csub (cd Try.f34) [1,0,0,1,1,1,1,1]), .inBlock 0, .code (csub (cd Try.f34) [1,1])] [(37, .bool false)] w (by kernel_rfl) .nil ?_
                      exact GoS.cast (by first | (simp only [h22, cond_true, cond_false, Bool.true_and, Bool.false_and, Bool.true_or, Bool.false_or, Bool.not_true, Bool.not_false, Bool.and_true, Bool.and_false, Bool.or_true, Bool.or_false]) | (simp [h22])) J23
                refine GoS.fork 46 (decide (c ≥ 880)) (by kernel_rfl) (fun h19 => ?_) (fun h19 => ?_)
                ·
                  have h19p : c ≥ 880 := of_decide_eq_true h19
                  refine GoS.run [0, 37] [.n, .n, .n, .n] _ [.inRegion (cops (csub (cd Try.f34) [1,0,0,1,1,1,1,0,1,1,0])) [], .code (csub (cd Try.f34) [1,0,0,1,1,1,1,0,1,1,1]), .code (csub (cd Try.f34) [1,0,0,1,1,1,1,1]), .inBlock 0, .code (csub (cd Try.f34) [1,1])] [(0, .int .i64 c), (37, .bool (decide (c ≤ 1327)))] w (by kernel_rfl) .nil ?_
                  exact GoS.cast (by first | (simp only [h19, cond_true, cond_false, Bool.true_and, Bool.false_and, Bool.true_or, Bool.false_or, Bool.not_true, Bool.not_false, Bool.and_true, Bool.and_false, Bool.or_true, Bool.or_false]) | (simp [h19])) J20
                ·
                  have h19p : ¬ (c ≥ 880) := of_decide_eq_false h19
                  refine GoS.run [0, 37] [.n, .n, .n, .n] _ [.inRegion (cops (csub (cd Try.f34) [1,0,0,1,1,1,1,0,1,1,0])) [], .code (csub (cd Try.f34) [1,0,0,1,1,1,1,0,1,1,1]), .code (csub (cd Try.f34) [1,0,0,1,1,1,1,1]), .inBlock 0, .code (csub (cd Try.f34) [1,1])] [(0, .int .i64 c), (37, .bool false)] w (by kernel_rfl) .nil ?_
                  exact GoS.cast (by first | (simp only [h19, cond_true, cond_false, Bool.true_and, Bool.false_and, Bool.true_or, Bool.false_or, Bool.not_true, Bool.not_false, Bool.and_true, Bool.and_false, Bool.or_true, Bool.or_false]) | (simp [h19])) J20
            refine GoS.fork 40 (decide (c ≥ 192)) (by kernel_rfl) (fun h16 => ?_) (fun h16 => ?_)
            ·
              have h16p : c ≥ 192 := of_decide_eq_true h16
              refine GoS.run [0, 37] [.n, .n, .n, .n] _ [.inRegion (cops (csub (cd Try.f34) [1,0,0,1,1,1,1,0,0])) [], .code (csub (cd Try.f34) [1,0,0,1,1,1,1,0,1]), .code (csub (cd Try.f34) [1,0,0,1,1,1,1,1]), .inBlock 0, .code (csub (cd Try.f34) [1,1])] [(0, .int .i64 c), (37, .bool (decide (c ≤ 591)))] w (by kernel_rfl) .nil ?_
              exact GoS.cast (by first | (simp only [h16, cond_true, cond_false, Bool.true_and, Bool.false_and, Bool.true_or, Bool.false_or, Bool.not_true, Bool.not_false, Bool.and_true, Bool.and_false, Bool.or_true, Bool.or_false]) | (simp [h16])) J17
            ·
              have h16p : ¬ (c ≥ 192) := of_decide_eq_false h16
              refine GoS.run [0, 37] [.n, .n, .n, .n] _ [.inRegion (cops (csub (cd Try.f34) [1,0,0,1,1,1,1,0,0])) [], .code (csub (cd Try.f34) [1,0,0,1,1,1,1,0,1]), .code (csub (cd Try.f34) [1,0,0,1,1,1,1,1]), .inBlock 0, .code (csub (cd Try.f34) [1,1])] [(0, .int .i64 c), (37, .bool false)] w (by kernel_rfl) .nil ?_
              exact GoS.cast (by first | (simp only [h16, cond_true, cond_false, Bool.true_and, Bool.false_and, Bool.true_or, Bool.false_or, Bool.not_true, Bool.not_false, Bool.and_true, Bool.and_false, Bool.or_true, Bool.or_false]) | (simp [h16])) J17
        refine GoS.fork 25 (c == 215) (by kernel_rfl) (fun h11 => ?_) (fun h11 => ?_)
        ·
          have h11p : c = 215 := eq_of_beq h11
          refine GoS.run [0, 22] [.n, .n, .n, .n, .n, .n, .n, .n, .n, .n, .n, .n] _ [.inRegion (cops (csub (cd Try.f34) [1,0,0,1,1,0])) [], .code (csub (cd Try.f34) [1,0,0,1,1,1]), .inBlock 0, .code (csub (cd Try.f34) [1,1])] [(0, .int .i64 c), (22, .bool true)] w (by kernel_rfl) .nil ?_
          exact GoS.cast (by first | (simp only [h11, cond_true, cond_false, Bool.true_and, Bool.false_and, Bool.true_or, Bool.false_or, Bool.not_true, Bool.not_false, Bool.and_true, Bool.and_false, Bool.or_true, Bool.or_false]) | (simp [h11])) J14
        ·
          have h11p : ¬ (c = 215) := p_ne h11
          refine GoS.run [0, 29] [.n, .n, .n, .n] _ [.inRegion (cops (csub (cd Try.f34) [1,0,0,1,1,0])) [7,8,9,10,11,12,13,14], .code (csub (cd Try.f34) [1,0,0,1,1,1]), .inBlock 0, .code (csub (cd Try.f34) [1,1])] [(0, .int .i64 c), (29, .bool (c == 247))] w (by kernel_rfl) .nil ?_
          refine GoS.fork 29 (c == 247) (by kernel_rfl) (fun h12 => ?_) (fun h12 => ?_)
          ·
            have h12p : c = 247 := eq_of_beq h12
            refine GoS.run [0, 22] [.n, .n, .n, .n, .n, .n, .n, .n] _ [.inRegion (cops (csub (cd Try.f34) [1,0,0,1,1,0])) [], .code (csub (cd Try.f34) [1,0,0,1,1,1]), .inBlock 0, .code (csub (cd Try.f34) [1,1])] [(0, .int .i64 c), (22, .bool true)] w (by kernel_rfl) .nil ?_
            exact GoS.cast (by first | (simp only [h11, h12, cond_true, cond_false, Bool.true_and, Bool.false_and, Bool.true_or, Bool.false_or, Bool.not_true, Bool.not_false, Bool.and_true, Bool.and_false, Bool.or_true, Bool.or_false]) | (simp [h11, h12])) J14
          ·
            have h12p : ¬ (c = 247) := p_ne h12
            refine GoS.run [0, 33] [.n, .n, .n, .n] _ [.inRegion (cops (csub (cd Try.f34) [1,0,0,1,1,0])) [11,12,13,14], .code (csub (cd Try.f34) [1,0,0,1,1,1]), .inBlock 0, .code (csub (cd Try.f34) [1,1])] [(0, .int .i64 c), (33, .bool (c == 894))] w (by kernel_rfl) .nil ?_
            refine GoS.fork 33 (c == 894) (by kernel_rfl) (fun h13 => ?_) (fun h13 => ?_)
            ·
              have h13p : c = 894 := eq_of_beq h13
              refine GoS.run [0, 22] [.n, .n, .n, .n] _ [.inRegion (cops (csub (cd Try.f34) [1,0,0,1,1,0])) [], .code (csub (cd Try.f34) [1,0,0,1,1,1]), .inBlock 0, .code (csub (cd Try.f34) [1,1])] [(0, .int .i64 c), (22, .bool true)] w (by kernel_rfl) .nil ?_
              exact GoS.cast (by first | (simp only [h11, h12, h13, cond_true, cond_false, Bool.true_and, Bool.false_and, Bool.true_or, Bool.false_or, Bool.not_true, Bool.not_false, Bool.and_true, Bool.and_false, Bool.or_true, Bool.or_false]) | (simp [h11, h12, h13])) J14
            ·
              have h13p : ¬ (c = 894) := p_ne h13
              refine GoS.run [0, 22] [.n, .n, .n, .n] _ [.inRegion (cops (csub (cd Try.f34) [1,0,0,1,1,0])) [], .code (csub (cd Try.f34) [1,0,0,1,1,1]), .inBlock 0, .code (csub (cd Try.f34) [1,1])] [(0, .int .i64 c), (22, .bool (c == 1154))] w (by kernel_rfl) .nil ?_
              exact GoS.cast (by first | (simp only [h11, h12, h13, cond_true, cond_false, Bool.true_and, Bool.false_and, Bool.true_or, Bool.false_or, Bool.not_true, Bool.not_false, Bool.and_true, Bool.and_false, Bool.or_true, Bool.or_false]) | (simp [h11, h12, h13])) J14
    refine GoS.cond ((decide (c ≥ 97)) && (decide (c ≤ 122))) [.code (csub (cd Try.f34) [1,0,0,0,1,0]), .code (csub (cd Try.f34) [1,0,0,1]), .inBlock 0, .code (csub (cd Try.f34) [1,1])] [.code (csub (cd Try.f34) [1,0,0,0,1,1]), .code (csub (cd Try.f34) [1,0,0,1]), .inBlock 0, .code (csub (cd Try.f34) [1,1])] (by kernel_rfl) (fun h3 => ?_) (fun h3 => ?_)
    ·
      have h3p : c ≥ 97 := of_decide_eq_true (p_andl h3)
      have h3p1 : c ≤ 122 := of_decide_eq_true (p_andr h3)
      refine GoS.run [0, 3] [.n] _ [.code (csub (cd Try.f34) [1,0,0,1]), .inBlock 0, .code (csub (cd Try.f34) [1,1])] [(0, .int .i64 c), (3, .bool ((decide (c ≥ 97)) && (decide (c ≤ 122))))] w (by kernel_rfl) .nil ?_
      exact GoS.cast (by first | (simp only [h3, cond_true, cond_false, Bool.true_and, Bool.false_and, Bool.true_or, Bool.false_or, Bool.not_true, Bool.not_false, Bool.and_true, Bool.and_false, Bool.or_true, Bool.or_false]) | (simp [h3])) J9
    ·
      have h3p : ¬ ((c ≥ 97) ∧ (c ≤ 122)) := p_no (p_iand (@decide_eq_true_iff (c ≥ 97) _) (@decide_eq_true_iff (c ≤ 122) _)) h3
      refine GoS.run [0, 12] [.n, .n, .n, .n, .n] _ [.inRegion (cops (csub (cd Try.f34) [1,0,0,0,1,1,0])) [3,4,5,6], .code (csub (cd Try.f34) [1,0,0,0,1,1,1]), .code (csub (cd Try.f34) [1,0,0,1]), .inBlock 0, .code (csub (cd Try.f34) [1,1])] [(0, .int .i64 c), (12, .bool (decide (c ≥ 65)))] w (by kernel_rfl) .nil ?_
      have J5 : GoS Try.prog 34 R 56 [.inRegion (cops (csub (cd Try.f34) [1,0,0,0,1,1,0])) [], .code (csub (cd Try.f34) [1,0,0,0,1,1,1]), .code (csub (cd Try.f34) [1,0,0,1]), .inBlock 0, .code (csub (cd Try.f34) [1,1])] [(0, .int .i64 c), (3, .bool ((decide (c ≥ 65)) && (decide (c ≤ 90))))] w := by
        refine GoS.run [0, 3] [.n] _ [.code (csub (cd Try.f34) [1,0,0,0,1,1,1]), .code (csub (cd Try.f34) [1,0,0,1]), .inBlock 0, .code (csub (cd Try.f34) [1,1])] [(0, .int .i64 c), (3, .bool ((decide (c ≥ 65)) && (decide (c ≤ 90))))] w (by kernel_rfl) .nil ?_
        refine GoS.cond ((decide (c ≥ 65)) && (decide (c ≤ 90))) [.code (csub (cd Try.f34) [1,0,0,0,1,1,1,0]), .code (csub (cd Try.f34) [1,0,0,1]), .inBlock 0, .code (csub (cd Try.f34) [1,1])] [.code (csub (cd Try.f34) [1,0,0,0,1,1,1,1]), .code (csub (cd Try.f34) [1,0,0,1]), .inBlock 0, .code (csub (cd Try.f34) [1,1])] (by kernel_rfl) (fun h6 => ?_) (fun h6 => ?_)
        ·
          have h6p : c ≥ 65 := of_decide_eq_true (p_andl h6)
          have h6p1 : c ≤ 90 := of_decide_eq_true (p_andr h6)
          refine GoS.run [0, 3] [.n] _ [.code (csub (cd Try.f34) [1,0,0,1]), .inBlock 0, .code (csub (cd Try.f34) [1,1])] [(0, .int .i64 c), (3, .bool ((decide (c ≥ 65)) && (decide (c ≤ 90))))] w (by kernel_rfl) .nil ?_
          exact GoS.cast (by first | (simp only [h3, h6, cond_true, cond_false, Bool.true_and, Bool.false_and, Bool.true_or, Bool.false_or, Bool.not_true, Bool.not_false, Bool.and_true, Bool.and_false, Bool.or_true, Bool.or_false]) | (simp [h3, h6])) J9
        ·
          have h6p : ¬ ((c ≥ 65) ∧ (c ≤ 90)) := p_no (p_iand (@decide_eq_true_iff (c ≥ 65) _) (@decide_eq_true_iff (c ≤ 90) _)) h6
          refine GoS.run [0, 18] [.n, .n, .n, .n] _ [.inRegion (cops (csub (cd Try.f34) [1,0,0,0,1,1,1,1])) [3,4,5,6], .code (csub (cd Try.f34) [1,0,0,1]), .inBlock 0, .code (csub (cd Try.f34) [1,1])] [(0, .int .i64 c), (18, .bool (decide (c ≥ 48)))] w (by kernel_rfl) .nil ?_
          have J8 : GoS Try.prog 34 R 56 [.inRegion (cops (csub (cd Try.f34) [1,0,0,0,1,1,1,1])) [], .code (csub (cd Try.f34) [1,0,0,1]), .inBlock 0, .code (csub (cd Try.f34) [1,1])] [(0, .int .i64 c), (3, .bool ((decide (c ≥ 48)) && (decide (c ≤ 57))))] w := by
            refine GoS.run [0, 3] [.n] _ [.code (csub (cd Try.f34) [1,0,0,1]), .inBlock 0, .code (csub (cd Try.f34) [1,1])] [(0, .int .i64 c), (3, .bool ((decide (c ≥ 48)) && (decide (c ≤ 57))))] w (by kernel_rfl) .nil ?_
            exact GoS.cast (by first | (simp only [h3, h6, cond_true, cond_false, Bool.true_and, Bool.false_and, Bool.true_or, Bool.false_or, Bool.not_true, Bool.not_false, Bool.and_true, Bool.and_false, Bool.or_true, Bool.or_false]) | (simp [h3, h6])) J9
          refine GoS.fork 18 (decide (c ≥ 48)) (by kernel_rfl) (fun h7 => ?_) (fun h7 => ?_)
          ·
            have h7p : c ≥ 48 := of_decide_eq_true h7
            refine GoS.run [0, 3] [.n, .n, .n, .n] _ [.inRegion (cops (csub (cd Try.f34) [1,0,0,0,1,1,1,1])) [], .code (csub (cd Try.f34) [1,0,0,1]), .inBlock 0, .code (csub (cd Try.f34) [1,1])] [(0, .int .i64 c), (3, .bool (decide (c ≤ 57)))] w (by kernel_rfl) .nil ?_
            exact GoS.cast (by first | (simp only [h7, cond_true, cond_false, Bool.true_and, Bool.false_and, Bool.true_or, Bool.false_or, Bool.not_true, Bool.not_false, Bool.and_true, Bool.and_false, Bool.or_true, Bool.or_false]) | (simp [h7])) J8
          ·
            have h7p : ¬ (c ≥ 48) := of_decide_eq_false h7
            refine GoS.run [0, 3] [.n, .n, .n, .n] _ [.inRegion (cops (csub (cd Try.f34) [1,0,0,0,1,1,1,1])) [], .code (csub (cd Try.f34) [1,0,0,1]), .inBlock 0, .code (csub (cd Try.f34) [1,1])] [(0, .int .i64 c), (3, .bool false)] w (by kernel_rfl) .nil ?_
            exact GoS.cast (by first | (simp only [h7, cond_true, cond_false, Bool.true_and, Bool.false_and, Bool.true_or, Bool.false_or, Bool.not_true, Bool.not_false, Bool.and_true, Bool.and_false, Bool.or_true, Bool.or_false]) | (simp [h7])) J8
      refine GoS.fork 12 (decide (c ≥ 65)) (by kernel_rfl) (fun h4 => ?_) (fun h4 => ?_)
      ·
        have h4p : c ≥ 65 := of_decide_eq_true h4
        refine GoS.run [0, 3] [.n, .n, .n, .n] _ [.inRegion (cops (csub (cd Try.f34) [1,0,0,0,1,1,0])) [], .code (csub (cd Try.f34) [1,0,0,0,1,1,1]), .code (csub (cd Try.f34) [1,0,0,1]), .inBlock 0, .code (csub (cd Try.f34) [1,1])] [(0, .int .i64 c), (3, .bool (decide (c ≤ 90)))] w (by kernel_rfl) .nil ?_
        exact GoS.cast (by first | (simp only [h4, cond_true, cond_false, Bool.true_and, Bool.false_and, Bool.true_or, Bool.false_or, Bool.not_true, Bool.not_false, Bool.and_true, Bool.and_false, Bool.or_true, Bool.or_false]) | (simp [h4])) J5
      ·
        have h4p : ¬ (c ≥ 65) := of_decide_eq_false h4
        refine GoS.run [0, 3] [.n, .n, .n, .n] _ [.inRegion (cops (csub (cd Try.f34) [1,0,0,0,1,1,0])) [], .code (csub (cd Try.f34) [1,0,0,0,1,1,1]), .code (csub (cd Try.f34) [1,0,0,1]), .inBlock 0, .code (csub (cd Try.f34) [1,1])] [(0, .int .i64 c), (3, .bool false)] w (by kernel_rfl) .nil ?_
        exact GoS.cast (by first | (simp only [h4, cond_true, cond_false, Bool.true_and, Bool.false_and, Bool.true_or, Bool.false_or, Bool.not_true, Bool.not_false, Bool.and_true, Bool.and_false, Bool.or_true, Bool.or_false]) | (simp [h4])) J5
  refine GoS.fork 6 (decide (c ≥ 97)) (by kernel_rfl) (fun h1 => ?_) (fun h1 => ?_)
  ·
    have h1p : c ≥ 97 := of_decide_eq_true h1
    refine GoS.run [0, 3] [.n, .n, .n, .n] _ [.inRegion (cops (csub (cd Try.f34) [1,0,0,0,0])) [], .code (csub (cd Try.f34) [1,0,0,0,1]), .code (csub (cd Try.f34) [1,0,0,1]), .inBlock 0, .code (csub (cd Try.f34) [1,1])] [(0, .int .i64 c), (3, .bool (decide (c ≤ 122)))] w (by kernel_rfl) .nil ?_
    exact GoS.cast (by first | (simp only [h1, cond_true, cond_false, Bool.true_and, Bool.false_and, Bool.true_or, Bool.false_or, Bool.not_true, Bool.not_false, Bool.and_true, Bool.and_false, Bool.or_true, Bool.or_false]) | (simp [h1])) J2
  ·
    have h1p : ¬ (c ≥ 97) := of_decide_eq_false h1
    refine GoS.run [0, 3] [.n, .n, .n, .n] _ [.inRegion (cops (csub (cd Try.f34) [1,0,0,0,0])) [], .code (csub (cd Try.f34) [1,0,0,0,1]), .code (csub (cd Try.f34) [1,0,0,1]), .inBlock 0, .code (csub (cd Try.f34) [1,1])] [(0, .int .i64 c), (3, .bool false)] w (by kernel_rfl) .nil ?_
    exact GoS.cast (by first | (simp only [h1, cond_true, cond_false, Bool.true_and, Bool.false_and, Bool.true_or, Bool.false_or, Bool.not_true, Bool.not_false, Bool.and_true, Bool.and_false, Bool.or_true, Bool.or_false]) | (simp [h1])) J2

set_option maxHeartbeats 400000 in
theorem fold_c (c : Int) (w : World) :
    Calls Try.prog 35 #[.int .i64 c] w (fun e w' => e = .returned (.int .i64 (fold c)) ∧ w = w') := by
  obtain ⟨R, hR⟩ : ∃ R : Ending → World → Prop, R = (fun e w' => e = .returned (.int .i64 (fold c)) ∧ w = w') := ⟨_, rfl⟩
  rw [← hR]
  refine GoS.enter (n := 51) Try.func35 (by kernel_rfl) rfl [(0, .int .i64 c)] (by kernel_rfl) (by kernel_rfl) ?_
  refine GoS.run [0, 6] [.n, .n, .n, .n, .n, .n, .n, .n, .n, .n, .n, .n] _ [.inRegion (cops (csub (cd Try.f35) [1,0,0,0,0])) [3,4,5,6], .code (csub (cd Try.f35) [1,0,0,0,1]), .code (csub (cd Try.f35) [1,0,0,1]), .inBlock 0, .code (csub (cd Try.f35) [1,1])] [(0, .int .i64 c), (6, .bool (decide (c ≥ 65)))] w (by kernel_rfl) .nil ?_
  have J2 : GoS Try.prog 35 R 51 [.inRegion (cops (csub (cd Try.f35) [1,0,0,0,0])) [], .code (csub (cd Try.f35) [1,0,0,0,1]), .code (csub (cd Try.f35) [1,0,0,1]), .inBlock 0, .code (csub (cd Try.f35) [1,1])] [(0, .int .i64 c), (3, .bool ((decide (c ≥ 65)) && (decide (c ≤ 90))))] w := by
    refine GoS.run [0, 3] [.n] _ [.code (csub (cd Try.f35) [1,0,0,0,1]), .code (csub (cd Try.f35) [1,0,0,1]), .inBlock 0, .code (csub (cd Try.f35) [1,1])] [(0, .int .i64 c), (3, .bool ((decide (c ≥ 65)) && (decide (c ≤ 90))))] w (by kernel_rfl) .nil ?_
    have J14 : GoS Try.prog 35 R 51 [.code (csub (cd Try.f35) [1,0,0,1]), .inBlock 0, .code (csub (cd Try.f35) [1,1])] [(0, .int .i64 c), (3, .bool (bif ((decide (c ≥ 65)) && (decide (c ≤ 90))) then ((decide (c ≥ 65)) && (decide (c ≤ 90))) else (bif ((decide (c ≥ 192)) && ((decide (c ≤ 222)) && (c != 215))) then ((decide (c ≥ 192)) && ((decide (c ≤ 222)) && (c != 215))) else (bif ((decide (c ≥ 913)) && ((decide (c ≤ 937)) && (c != 930))) then ((decide (c ≥ 913)) && ((decide (c ≤ 937)) && (c != 930))) else ((decide (c ≥ 1040)) && (decide (c ≤ 1071)))))))] w := by
      refine GoS.cond (bif ((decide (c ≥ 65)) && (decide (c ≤ 90))) then ((decide (c ≥ 65)) && (decide (c ≤ 90))) else (bif ((decide (c ≥ 192)) && ((decide (c ≤ 222)) && (c != 215))) then ((decide (c ≥ 192)) && ((decide (c ≤ 222)) && (c != 215))) else (bif ((decide (c ≥ 913)) && ((decide (c ≤ 937)) && (c != 930))) then ((decide (c ≥ 913)) && ((decide (c ≤ 937)) && (c != 930))) else ((decide (c ≥ 1040)) && (decide (c ≤ 1071)))))) [.code (csub (cd Try.f35) [1,0,0,1,0]), .inBlock 0, .code (csub (cd Try.f35) [1,1])] [.code (csub (cd Try.f35) [1,0,0,1,1]), .inBlock 0, .code (csub (cd Try.f35) [1,1])] (by kernel_rfl) (fun h15 => ?_) (fun h15 => ?_)
      ·
        have h15p : (((c ≥ 65) ∧ (c ≤ 90)) ∧ ((c ≥ 65) ∧ (c ≤ 90))) ∨ (¬ ((c ≥ 65) ∧ (c ≤ 90)) ∧ ((((c ≥ 192) ∧ ((c ≤ 222) ∧ (¬ (c = 215)))) ∧ ((c ≥ 192) ∧ ((c ≤ 222) ∧ (¬ (c = 215))))) ∨ (¬ ((c ≥ 192) ∧ ((c ≤ 222) ∧ (¬ (c = 215)))) ∧ ((((c ≥ 913) ∧ ((c ≤ 937) ∧ (¬ (c = 930)))) ∧ ((c ≥ 913) ∧ ((c ≤ 937) ∧ (¬ (c = 930))))) ∨ (¬ ((c ≥ 913) ∧ ((c ≤ 937) ∧ (¬ (c = 930)))) ∧ ((c ≥ 1040) ∧ (c ≤ 1071))))))) := (p_ibif (p_iand (@decide_eq_true_iff (c ≥ 65) _) (@decide_eq_true_iff (c ≤ 90) _)) (p_iand (@decide_eq_true_iff (c ≥ 65) _) (@decide_eq_true_iff (c ≤ 90) _)) (p_ibif (p_iand (@decide_eq_true_iff (c ≥ 192) _) (p_iand (@decide_eq_true_iff (c ≤ 222) _) (@bne_iff_ne _ _ _ (c) (215)))) (p_iand (@decide_eq_true_iff (c ≥ 192) _) (p_iand (@decide_eq_true_iff (c ≤ 222) _) (@bne_iff_ne _ _ _ (c) (215)))) (p_ibif (p_iand (@decide_eq_true_iff (c ≥ 913) _) (p_iand (@decide_eq_true_iff (c ≤ 937) _) (@bne_iff_ne _ _ _ (c) (930)))) (p_iand (@decide_eq_true_iff (c ≥ 913) _) (p_iand (@decide_eq_true_iff (c ≤ 937) _) (@bne_iff_ne _ _ _ (c) (930)))) (p_iand (@decide_eq_true_iff (c ≥ 1040) _) (@decide_eq_true_iff (c ≤ 1071) _))))).1 h15
        have o16 : (binOp .add 3 (.int .i64 c) (.int .i64 32)).run Try.prog w = .ok (.int .i64 (c + 32)) w := f_add (IntWalk.i64_in _ (by omega))
        refine GoS.run [2] [.n, .n, .n, .h (.int .i64 (c + 32)), .n, .n] _ [.code (csub (cd Try.f35) [1,0,0,1,0,1]), .inBlock 0, .code (csub (cd Try.f35) [1,1])] [(2, .int .i64 (c + 32))] w (by kernel_rfl) (.cons o16 .nil) ?_
        refine GoS.ret (fn := Try.f35) (v := (.int .i64 (c + 32))) Try.func35 (by kernel_rfl) ?_
        rw [hR]
        exact ⟨ret_int (by unfold fold UpP; (repeat' split) <;> omega), rfl⟩
      ·
        have h15p : ¬ ((((c ≥ 65) ∧ (c ≤ 90)) ∧ ((c ≥ 65) ∧ (c ≤ 90))) ∨ (¬ ((c ≥ 65) ∧ (c ≤ 90)) ∧ ((((c ≥ 192) ∧ ((c ≤ 222) ∧ (¬ (c = 215)))) ∧ ((c ≥ 192) ∧ ((c ≤ 222) ∧ (¬ (c = 215))))) ∨ (¬ ((c ≥ 192) ∧ ((c ≤ 222) ∧ (¬ (c = 215)))) ∧ ((((c ≥ 913) ∧ ((c ≤ 937) ∧ (¬ (c = 930)))) ∧ ((c ≥ 913) ∧ ((c ≤ 937) ∧ (¬ (c = 930))))) ∨ (¬ ((c ≥ 913) ∧ ((c ≤ 937) ∧ (¬ (c = 930)))) ∧ ((c ≥ 1040) ∧ (c ≤ 1071)))))))) := p_no (p_ibif (p_iand (@decide_eq_true_iff (c ≥ 65) _) (@decide_eq_true_iff (c ≤ 90) _)) (p_iand (@decide_eq_true_iff (c ≥ 65) _) (@decide_eq_true_iff (c ≤ 90) _)) (p_ibif (p_iand (@decide_eq_true_iff (c ≥ 192) _) (p_iand (@decide_eq_true_iff (c ≤ 222) _) (@bne_iff_ne _ _ _ (c) (215)))) (p_iand (@decide_eq_true_iff (c ≥ 192) _) (p_iand (@decide_eq_true_iff (c ≤ 222) _) (@bne_iff_ne _ _ _ (c) (215)))) (p_ibif (p_iand (@decide_eq_true_iff (c ≥ 913) _) (p_iand (@decide_eq_true_iff (c ≤ 937) _) (@bne_iff_ne _ _ _ (c) (930)))) (p_iand (@decide_eq_true_iff (c ≥ 913) _) (p_iand (@decide_eq_true_iff (c ≤ 937) _) (@bne_iff_ne _ _ _ (c) (930)))) (p_iand (@decide_eq_true_iff (c ≥ 1040) _) (@decide_eq_true_iff (c ≤ 1071) _))))) h15
        refine GoS.run [0, 41] [.n, .n, .n, .n, .n] _ [.inRegion (cops (csub (cd Try.f35) [1,0,0,1,1,0])) [3,4,5,6], .code (csub (cd Try.f35) [1,0,0,1,1,1]), .inBlock 0, .code (csub (cd Try.f35) [1,1])] [(0, .int .i64 c), (41, .bool (decide (c ≥ 1024)))] w (by kernel_rfl) .nil ?_
        have J18 : GoS Try.prog 35 R 51 [.inRegion (cops (csub (cd Try.f35) [1,0,0,1,1,0])) [], .code (csub (cd Try.f35) [1,0,0,1,1,1]), .inBlock 0, .code (csub (cd Try.f35) [1,1])] [(0, .int .i64 c), (38, .bool ((decide (c ≥ 1024)) && (decide (c ≤ 1039))))] w := by
          refine GoS.run [0, 38] [.n] _ [.code (csub (cd Try.f35) [1,0,0,1,1,1]), .inBlock 0, .code (csub (cd Try.f35) [1,1])] [(0, .int .i64 c), (38, .bool ((decide (c ≥ 1024)) && (decide (c ≤ 1039))))] w (by kernel_rfl) .nil ?_
          refine GoS.cond ((decide (c ≥ 1024)) && (decide (c ≤ 1039))) [.code (csub (cd Try.f35) [1,0,0,1,1,1,0]), .inBlock 0, .code (csub (cd Try.f35) [1,1])] [.code (csub (cd Try.f35) [1,0,0,1,1,1,1]), .inBlock 0, .code (csub (cd Try.f35) [1,1])] (by kernel_rfl) (fun h19 => ?_) (fun h19 => ?_)
          ·
            have h19p : c ≥ 1024 := of_decide_eq_true (p_andl h19)
            have h19p1 : c ≤ 1039 := of_decide_eq_true (p_andr h19)
            have o20 : (binOp .add 3 (.int .i64 c) (.int .i64 80)).run Try.prog w = .ok (.int .i64 (c + 80)) w := f_add (IntWalk.i64_in _ (by omega))
            refine GoS.run [2] [.n, .n, .n, .h (.int .i64 (c + 80)), .n, .n] _ [.code (csub (cd Try.f35) [1,0,0,1,1,1,0,1]), .inBlock 0, .code (csub (cd Try.f35) [1,1])] [(2, .int .i64 (c + 80))] w (by kernel_rfl) (.cons o20 .nil) ?_
            refine GoS.ret (fn := Try.f35) (v := (.int .i64 (c + 80))) Try.func35 (by kernel_rfl) ?_
            rw [hR]
            exact ⟨ret_int (by unfold fold UpP; (repeat' split) <;> omega), rfl⟩
          ·
            have h19p : ¬ ((c ≥ 1024) ∧ (c ≤ 1039)) := p_no (p_iand (@decide_eq_true_iff (c ≥ 1024) _) (@decide_eq_true_iff (c ≤ 1039) _)) h19
            refine GoS.run [0, 47] [.n, .n, .n, .n, .n, .n] _ [.code (csub (cd Try.f35) [1,0,0,1,1,1,1,1]), .inBlock 0, .code (csub (cd Try.f35) [1,1])] [(0, .int .i64 c), (47, .bool (c == 962))] w (by kernel_rfl) .nil ?_
            refine GoS.cond (c == 962) [.code (csub (cd Try.f35) [1,0,0,1,1,1,1,1,0]), .inBlock 0, .code (csub (cd Try.f35) [1,1])] [.code (csub (cd Try.f35) [1,0,0,1,1,1,1,1,1]), .inBlock 0, .code (csub (cd Try.f35) [1,1])] (by kernel_rfl) (fun h21 => ?_) (fun h21 => ?_)
            ·
              have h21p : c = 962 := eq_of_beq h21
              refine GoS.run [2] [.n, .n, .n, .n] _ [.code (csub (cd Try.f35) [1,0,0,1,1,1,1,1,0,1]), .inBlock 0, .code (csub (cd Try.f35) [1,1])] [(2, .int .i64 963)] w (by kernel_rfl) .nil ?_
              refine GoS.ret (fn := Try.f35) (v := (.int .i64 963)) Try.func35 (by kernel_rfl) ?_
              rw [hR]
              exact ⟨ret_int (by unfold fold UpP; (repeat' split) <;> omega), rfl⟩
            ·
              have h21p : ¬ (c = 962) := p_ne h21
              refine GoS.run [0] [.n] _ [.inBlock 0, .code (csub (cd Try.f35) [1,1])] [(0, .int .i64 c)] w (by kernel_rfl) .nil ?_
              refine GoS.run [2] [.n, .n, .n, .n, .n, .n] _ [.code (csub (cd Try.f35) [1,1,1])] [(2, .int .i64 c)] w (by kernel_rfl) .nil ?_
              refine GoS.ret (fn := Try.f35) (v := (.int .i64 c)) Try.func35 (by kernel_rfl) ?_
              rw [hR]
              exact ⟨ret_int (by unfold fold UpP; (repeat' split) <;> omega), rfl⟩
        refine GoS.fork 41 (decide (c ≥ 1024)) (by kernel_rfl) (fun h17 => ?_) (fun h17 => ?_)
        ·
          have h17p : c ≥ 1024 := of_decide_eq_true h17
          refine GoS.run [0, 38] [.n, .n, .n, .n] _ [.inRegion (cops (csub (cd Try.f35) [1,0,0,1,1,0])) [], .code (csub (cd Try.f35) [1,0,0,1,1,1]), .inBlock 0, .code (csub (cd Try.f35) [1,1])] [(0, .int .i64 c), (38, .bool (decide (c ≤ 1039)))] w (by kernel_rfl) .nil ?_
          exact GoS.cast (by first | (simp only [h17, cond_true, cond_false, Bool.true_and, Bool.false_and, Bool.true_or, Bool.false_or, Bool.not_true, Bool.not_false, Bool.and_true, Bool.and_false, Bool.or_true, Bool.or_false]) | (simp [h17])) J18
        ·
          have h17p : ¬ (c ≥ 1024) := of_decide_eq_false h17
          refine GoS.run [0, 38] [.n, .n, .n, .n] _ [.inRegion (cops (csub (cd Try.f35) [1,0,0,1,1,0])) [], .code (csub (cd Try.f35) [1,0,0,1,1,1]), .inBlock 0, .code (csub (cd Try.f35) [1,1])] [(0, .int .i64 c), (38, .bool false)] w (by kernel_rfl) .nil ?_
          exact GoS.cast (by first | (simp only [h17, cond_true, cond_false, Bool.true_and, Bool.false_and, Bool.true_or, Bool.false_or, Bool.not_true, Bool.not_false, Bool.and_true, Bool.and_false, Bool.or_true, Bool.or_false]) | (simp [h17])) J18
    refine GoS.cond ((decide (c ≥ 65)) && (decide (c ≤ 90))) [.code (csub (cd Try.f35) [1,0,0,0,1,0]), .code (csub (cd Try.f35) [1,0,0,1]), .inBlock 0, .code (csub (cd Try.f35) [1,1])] [.code (csub (cd Try.f35) [1,0,0,0,1,1]), .code (csub (cd Try.f35) [1,0,0,1]), .inBlock 0, .code (csub (cd Try.f35) [1,1])] (by kernel_rfl) (fun h3 => ?_) (fun h3 => ?_)
    ·
      have h3p : c ≥ 65 := of_decide_eq_true (p_andl h3)
      have h3p1 : c ≤ 90 := of_decide_eq_true (p_andr h3)
      refine GoS.run [0, 3] [.n] _ [.code (csub (cd Try.f35) [1,0,0,1]), .inBlock 0, .code (csub (cd Try.f35) [1,1])] [(0, .int .i64 c), (3, .bool ((decide (c ≥ 65)) && (decide (c ≤ 90))))] w (by kernel_rfl) .nil ?_
      exact GoS.cast (by first | (simp only [h3, cond_true, cond_false, Bool.true_and, Bool.false_and, Bool.true_or, Bool.false_or, Bool.not_true, Bool.not_false, Bool.and_true, Bool.and_false, Bool.or_true, Bool.or_false]) | (simp [h3])) J14
    ·
      have h3p : ¬ ((c ≥ 65) ∧ (c ≤ 90)) := p_no (p_iand (@decide_eq_true_iff (c ≥ 65) _) (@decide_eq_true_iff (c ≤ 90) _)) h3
      refine GoS.run [0, 12] [.n, .n, .n, .n, .n] _ [.inRegion (cops (csub (cd Try.f35) [1,0,0,0,1,1,0])) [3,4,5,6,7,8,9,10], .code (csub (cd Try.f35) [1,0,0,0,1,1,1]), .code (csub (cd Try.f35) [1,0,0,1]), .inBlock 0, .code (csub (cd Try.f35) [1,1])] [(0, .int .i64 c), (12, .bool (decide (c ≥ 192)))] w (by kernel_rfl) .nil ?_
      have J6 : GoS Try.prog 35 R 51 [.inRegion (cops (csub (cd Try.f35) [1,0,0,0,1,1,0])) [], .code (csub (cd Try.f35) [1,0,0,0,1,1,1]), .code (csub (cd Try.f35) [1,0,0,1]), .inBlock 0, .code (csub (cd Try.f35) [1,1])] [(0, .int .i64 c), (3, .bool ((decide (c ≥ 192)) && ((decide (c ≤ 222)) && (c != 215))))] w := by
        refine GoS.run [0, 3] [.n] _ [.code (csub (cd Try.f35) [1,0,0,0,1,1,1]), .code (csub (cd Try.f35) [1,0,0,1]), .inBlock 0, .code (csub (cd Try.f35) [1,1])] [(0, .int .i64 c), (3, .bool ((decide (c ≥ 192)) && ((decide (c ≤ 222)) && (c != 215))))] w (by kernel_rfl) .nil ?_
        refine GoS.cond ((decide (c ≥ 192)) && ((decide (c ≤ 222)) && (c != 215))) [.code (csub (cd Try.f35) [1,0,0,0,1,1,1,0]), .code (csub (cd Try.f35) [1,0,0,1]), .inBlock 0, .code (csub (cd Try.f35) [1,1])] [.code (csub (cd Try.f35) [1,0,0,0,1,1,1,1]), .code (csub (cd Try.f35) [1,0,0,1]), .inBlock 0, .code (csub (cd Try.f35) [1,1])] (by kernel_rfl) (fun h7 => ?_) (fun h7 => ?_)
        ·
          have h7p : c ≥ 192 := of_decide_eq_true (p_andl h7)
          have h7p1 : c ≤ 222 := of_decide_eq_true (p_andl (p_andr h7))
          have h7p2 : ¬ (c = 215) := bne_iff_ne.1 (p_andr (p_andr h7))
          refine GoS.run [0, 3] [.n] _ [.code (csub (cd Try.f35) [1,0,0,1]), .inBlock 0, .code (csub (cd Try.f35) [1,1])] [(0, .int .i64 c), (3, .bool ((decide (c ≥ 192)) && ((decide (c ≤ 222)) && (c != 215))))] w (by kernel_rfl) .nil ?_
          exact GoS.cast (by first | (simp only [h3, h7, cond_true, cond_false, Bool.true_and, Bool.false_and, Bool.true_or, Bool.false_or, Bool.not_true, Bool.not_false, Bool.and_true, Bool.and_false, Bool.or_true, Bool.or_false]) | (simp [h3, h7])) J14
        ·
          have h7p : ¬ ((c ≥ 192) ∧ ((c ≤ 222) ∧ (¬ (c = 215)))) := p_no (p_iand (@decide_eq_true_iff (c ≥ 192) _) (p_iand (@decide_eq_true_iff (c ≤ 222) _) (@bne_iff_ne _ _ _ (c) (215)))) h7
          refine GoS.run [0, 22] [.n, .n, .n, .n, .n] _ [.inRegion (cops (csub (cd Try.f35) [1,0,0,0,1,1,1,1,0])) [3,4,5,6,7,8,9,10], .code (csub (cd Try.f35) [1,0,0,0,1,1,1,1,1]), .code (csub (cd Try.f35) [1,0,0,1]), .inBlock 0, .code (csub (cd Try.f35) [1,1])] [(0, .int .i64 c), (22, .bool (decide (c ≥ 913)))] w (by kernel_rfl) .nil ?_
          have J10 : GoS Try.prog 35 R 51 [.inRegion (cops (csub (cd Try.f35) [1,0,0,0,1,1,1,1,0])) [], .code (csub (cd Try.f35) [1,0,0,0,1,1,1,1,1]), .code (csub (cd Try.f35) [1,0,0,1]), .inBlock 0, .code (csub (cd Try.f35) [1,1])] [(0, .int .i64 c), (3, .bool ((decide (c ≥ 913)) && ((decide (c ≤ 937)) && (c != 930))))] w := by
            refine GoS.run [0, 3] [.n] _ [.code (csub (cd Try.f35) [1,0,0,0,1,1,1,1,1]), .code (csub (cd Try.f35) [1,0,0,1]), .inBlock 0, .code (csub (cd Try.f35) [1,1])] [(0, .int .i64 c), (3, .bool ((decide (c ≥ 913)) && ((decide (c ≤ 937)) && (c != 930))))] w (by kernel_rfl) .nil ?_
            refine GoS.cond ((decide (c ≥ 913)) && ((decide (c ≤ 937)) && (c != 930))) [.code (csub (cd Try.f35) [1,0,0,0,1,1,1,1,1,0]), .code (csub (cd Try.f35) [1,0,0,1]), .inBlock 0, .code (csub (cd Try.f35) [1,1])] [.code (csub (cd Try.f35) [1,0,0,0,1,1,1,1,1,1]), .code (csub (cd Try.f35) [1,0,0,1]), .inBlock 0, .code (csub (cd Try.f35) [1,1])] (by kernel_rfl) (fun h11 => ?_) (fun h11 => ?_)
            ·
              have h11p : c ≥ 913 := of_decide_eq_true (p_andl h11)
              have h11p1 : c ≤ 937 := of_decide_eq_true (p_andl (p_andr h11))
              have h11p2 : ¬ (c = 930) := bne_iff_ne.1 (p_andr (p_andr h11))
              refine GoS.run [0, 3] [.n] _ [.code (csub (cd Try.f35) [1,0,0,1]), .inBlock 0, .code (csub (cd Try.f35) [1,1])] [(0, .int .i64 c), (3, .bool ((decide (c ≥ 913)) && ((decide (c ≤ 937)) && (c != 930))))] w (by kernel_rfl) .nil ?_
              exact GoS.cast (by first | (simp only [h3, h7, h11, cond_true, cond_false, Bool.true_and, Bool.false_and, Bool.true_or, Bool.false_or, Bool.not_true, Bool.not_false, Bool.and_true, Bool.and_false, Bool.or_true, Bool.or_false]) | (simp [h3, h7, h11])) J14
            ·
              have h11p : ¬ ((c ≥ 913) ∧ ((c ≤ 937) ∧ (¬ (c = 930)))) := p_no (p_iand (@decide_eq_true_iff (c ≥ 913) _) (p_iand (@decide_eq_true_iff (c ≤ 937) _) (@bne_iff_ne _ _ _ (c) (930)))) h11
              refine GoS.run [0, 32] [.n, .n, .n, .n] _ [.inRegion (cops (csub (cd Try.f35) [1,0,0,0,1,1,1,1,1,1])) [3,4,5,6], .code (csub (cd Try.f35) [1,0,0,1]), .inBlock 0, .code (csub (cd Try.f35) [1,1])] [(0, .int .i64 c), (32, .bool (decide (c ≥ 1040)))] w (by kernel_rfl) .nil ?_
              have J13 : GoS Try.prog 35 R 51 [.inRegion (cops (csub (cd Try.f35) [1,0,0,0,1,1,1,1,1,1])) [], .code (csub (cd Try.f35) [1,0,0,1]), .inBlock 0, .code (csub (cd Try.f35) [1,1])] [(0, .int .i64 c), (3, .bool ((decide (c ≥ 1040)) && (decide (c ≤ 1071))))] w := by
                refine GoS.run [0, 3] [.n] _ [.code (csub (cd Try.f35) [1,0,0,1]), .inBlock 0, .code (csub (cd Try.f35) [1,1])] [(0, .int .i64 c), (3, .bool ((decide (c ≥ 1040)) && (decide (c ≤ 1071))))] w (by kernel_rfl) .nil ?_
                exact GoS.cast (by first | (simp only [h3, h7, h11, cond_true, cond_false, Bool.true_and, Bool.false_and, Bool.true_or, Bool.false_or, Bool.not_true, Bool.not_false, Bool.and_true, Bool.and_false, Bool.or_true, Bool.or_false]) | (simp [h3, h7, h11])) J14
              refine GoS.fork 32 (decide (c ≥ 1040)) (by kernel_rfl) (fun h12 => ?_) (fun h12 => ?_)
              ·
                have h12p : c ≥ 1040 := of_decide_eq_true h12
                refine GoS.run [0, 3] [.n, .n, .n, .n] _ [.inRegion (cops (csub (cd Try.f35) [1,0,0,0,1,1,1,1,1,1])) [], .code (csub (cd Try.f35) [1,0,0,1]), .inBlock 0, .code (csub (cd Try.f35) [1,1])] [(0, .int .i64 c), (3, .bool (decide (c ≤ 1071)))] w (by kernel_rfl) .nil ?_
                exact GoS.cast (by first | (simp only [h12, cond_true, cond_false, Bool.true_and, Bool.false_and, Bool.true_or, Bool.false_or, Bool.not_true, Bool.not_false, Bool.and_true, Bool.and_false, Bool.or_true, Bool.or_false]) | (simp [h12])) J13
              ·
                have h12p : ¬ (c ≥ 1040) := of_decide_eq_false h12
                refine GoS.run [0, 3] [.n, .n, .n, .n] _ [.inRegion (cops (csub (cd Try.f35) [1,0,0,0,1,1,1,1,1,1])) [], .code (csub (cd Try.f35) [1,0,0,1]), .inBlock 0, .code (csub (cd Try.f35) [1,1])] [(0, .int .i64 c), (3, .bool false)] w (by kernel_rfl) .nil ?_
                exact GoS.cast (by first | (simp only [h12, cond_true, cond_false, Bool.true_and, Bool.false_and, Bool.true_or, Bool.false_or, Bool.not_true, Bool.not_false, Bool.and_true, Bool.and_false, Bool.or_true, Bool.or_false]) | (simp [h12])) J13
          refine GoS.fork 22 (decide (c ≥ 913)) (by kernel_rfl) (fun h8 => ?_) (fun h8 => ?_)
          ·
            have h8p : c ≥ 913 := of_decide_eq_true h8
            refine GoS.run [0, 26] [.n, .n, .n, .n] _ [.inRegion (cops (csub (cd Try.f35) [1,0,0,0,1,1,1,1,0])) [7,8,9,10], .code (csub (cd Try.f35) [1,0,0,0,1,1,1,1,1]), .code (csub (cd Try.f35) [1,0,0,1]), .inBlock 0, .code (csub (cd Try.f35) [1,1])] [(0, .int .i64 c), (26, .bool (decide (c ≤ 937)))] w (by kernel_rfl) .nil ?_
            refine GoS.fork 26 (decide (c ≤ 937)) (by kernel_rfl) (fun h9 => ?_) (fun h9 => ?_)
            ·
              have h9p : c ≤ 937 := of_decide_eq_true h9
              refine GoS.run [0, 3] [.n, .n, .n, .n] _ [.inRegion (cops (csub (cd Try.f35) [1,0,0,0,1,1,1,1,0])) [], .code (csub (cd Try.f35) [1,0,0,0,1,1,1,1,1]), .code (csub (cd Try.f35) [1,0,0,1]), .inBlock 0, .code (csub (cd Try.f35) [1,1])] [(0, .int .i64 c), (3, .bool (c != 930))] w (by kernel_rfl) .nil ?_
              exact GoS.cast (by first | (simp only [h8, h9, cond_true, cond_false, Bool.true_and, Bool.false_and, Bool.true_or, Bool.false_or, Bool.not_true, Bool.not_false, Bool.and_true, Bool.and_false, Bool.or_true, Bool.or_false]) | (simp [h8, h9])) J10
            ·
              have h9p : ¬ (c ≤ 937) := of_decide_eq_false h9
              refine GoS.run [0, 3] [.n, .n, .n, .n] _ [.inRegion (cops (csub (cd Try.f35) [1,0,0,0,1,1,1,1,0])) [], .code (csub (cd Try.f35) [1,0,0,0,1,1,1,1,1]), .code (csub (cd Try.f35) [1,0,0,1]), .inBlock 0, .code (csub (cd Try.f35) [1,1])] [(0, .int .i64 c), (3, .bool false)] w (by kernel_rfl) .nil ?_
              exact GoS.cast (by first | (simp only [h8, h9, cond_true, cond_false, Bool.true_and, Bool.false_and, Bool.true_or, Bool.false_or, Bool.not_true, Bool.not_false, Bool.and_true, Bool.and_false, Bool.or_true, Bool.or_false]) | (simp [h8, h9])) J10
          ·
            have h8p : ¬ (c ≥ 913) := of_decide_eq_false h8
            refine GoS.run [0, 3] [.n, .n, .n, .n, .n, .n, .n, .n] _ [.inRegion (cops (csub (cd Try.f35) [1,0,0,0,1,1,1,1,0])) [], .code (csub (cd Try.f35) [1,0,0,0,1,1,1,1,1]), .code (csub (cd Try.f35) [1,0,0,1]), .inBlock 0, .code (csub (cd Try.f35) [1,1])] [(0, .int .i64 c), (3, .bool false)] w (by kernel_rfl) .nil ?_
            exact GoS.cast (by first | (simp only [h8, cond_true, cond_false, Bool.true_and, Bool.false_and, Bool.true_or, Bool.false_or, Bool.not_true, Bool.not_false, Bool.and_true, Bool.and_false, Bool.or_true, Bool.or_false]) | (simp [h8])) J10
      refine GoS.fork 12 (decide (c ≥ 192)) (by kernel_rfl) (fun h4 => ?_) (fun h4 => ?_)
      ·
        have h4p : c ≥ 192 := of_decide_eq_true h4
        refine GoS.run [0, 16] [.n, .n, .n, .n] _ [.inRegion (cops (csub (cd Try.f35) [1,0,0,0,1,1,0])) [7,8,9,10], .code (csub (cd Try.f35) [1,0,0,0,1,1,1]), .code (csub (cd Try.f35) [1,0,0,1]), .inBlock 0, .code (csub (cd Try.f35) [1,1])] [(0, .int .i64 c), (16, .bool (decide (c ≤ 222)))] w (by kernel_rfl) .nil ?_
        refine GoS.fork 16 (decide (c ≤ 222)) (by kernel_rfl) (fun h5 => ?_) (fun h5 => ?_)
        ·
          have h5p : c ≤ 222 := of_decide_eq_true h5
          refine GoS.run [0, 3] [.n, .n, .n, .n] _ [.inRegion (cops (csub (cd Try.f35) [1,0,0,0,1,1,0])) [], .code (csub (cd Try.f35) [1,0,0,0,1,1,1]), .code (csub (cd Try.f35) [1,0,0,1]), .inBlock 0, .code (csub (cd Try.f35) [1,1])] [(0, .int .i64 c), (3, .bool (c != 215))] w (by kernel_rfl) .nil ?_
          exact GoS.cast (by first | (simp only [h4, h5, cond_true, cond_false, Bool.true_and, Bool.false_and, Bool.true_or, Bool.false_or, Bool.not_true, Bool.not_false, Bool.and_true, Bool.and_false, Bool.or_true, Bool.or_false]) | (simp [h4, h5])) J6
        ·
          have h5p : ¬ (c ≤ 222) := of_decide_eq_false h5
          refine GoS.run [0, 3] [.n, .n, .n, .n] _ [.inRegion (cops (csub (cd Try.f35) [1,0,0,0,1,1,0])) [], .code (csub (cd Try.f35) [1,0,0,0,1,1,1]), .code (csub (cd Try.f35) [1,0,0,1]), .inBlock 0, .code (csub (cd Try.f35) [1,1])] [(0, .int .i64 c), (3, .bool false)] w (by kernel_rfl) .nil ?_
          exact GoS.cast (by first | (simp only [h4, h5, cond_true, cond_false, Bool.true_and, Bool.false_and, Bool.true_or, Bool.false_or, Bool.not_true, Bool.not_false, Bool.and_true, Bool.and_false, Bool.or_true, Bool.or_false]) | (simp [h4, h5])) J6
      ·
        have h4p : ¬ (c ≥ 192) := of_decide_eq_false h4
        refine GoS.run [0, 3] [.n, .n, .n, .n, .n, .n, .n, .n] _ [.inRegion (cops (csub (cd Try.f35) [1,0,0,0,1,1,0])) [], .code (csub (cd Try.f35) [1,0,0,0,1,1,1]), .code (csub (cd Try.f35) [1,0,0,1]), .inBlock 0, .code (csub (cd Try.f35) [1,1])] [(0, .int .i64 c), (3, .bool false)] w (by kernel_rfl) .nil ?_
        exact GoS.cast (by first | (simp only [h4, cond_true, cond_false, Bool.true_and, Bool.false_and, Bool.true_or, Bool.false_or, Bool.not_true, Bool.not_false, Bool.and_true, Bool.and_false, Bool.or_true, Bool.or_false]) | (simp [h4])) J6
  refine GoS.fork 6 (decide (c ≥ 65)) (by kernel_rfl) (fun h1 => ?_) (fun h1 => ?_)
  ·
    have h1p : c ≥ 65 := of_decide_eq_true h1
    refine GoS.run [0, 3] [.n, .n, .n, .n] _ [.inRegion (cops (csub (cd Try.f35) [1,0,0,0,0])) [], .code (csub (cd Try.f35) [1,0,0,0,1]), .code (csub (cd Try.f35) [1,0,0,1]), .inBlock 0, .code (csub (cd Try.f35) [1,1])] [(0, .int .i64 c), (3, .bool (decide (c ≤ 90)))] w (by kernel_rfl) .nil ?_
    exact GoS.cast (by first | (simp only [h1, cond_true, cond_false, Bool.true_and, Bool.false_and, Bool.true_or, Bool.false_or, Bool.not_true, Bool.not_false, Bool.and_true, Bool.and_false, Bool.or_true, Bool.or_false]) | (simp [h1])) J2
  ·
    have h1p : ¬ (c ≥ 65) := of_decide_eq_false h1
    refine GoS.run [0, 3] [.n, .n, .n, .n] _ [.inRegion (cops (csub (cd Try.f35) [1,0,0,0,0])) [], .code (csub (cd Try.f35) [1,0,0,0,1]), .code (csub (cd Try.f35) [1,0,0,1]), .inBlock 0, .code (csub (cd Try.f35) [1,1])] [(0, .int .i64 c), (3, .bool false)] w (by kernel_rfl) .nil ?_
    exact GoS.cast (by first | (simp only [h1, cond_true, cond_false, Bool.true_and, Bool.false_and, Bool.true_or, Bool.false_or, Bool.not_true, Bool.not_false, Bool.and_true, Bool.and_false, Bool.or_true, Bool.or_false]) | (simp [h1])) J2

set_option maxHeartbeats 400000 in
theorem rwhole_c (c : Int) (w : World) :
    Calls Try.prog 47 #[.int .i64 c] w (fun e w' => e = .returned (.bool (whole c)) ∧ w = w') := by
  obtain ⟨R, hR⟩ : ∃ R : Ending → World → Prop, R = (fun e w' => e = .returned (.bool (whole c)) ∧ w = w') := ⟨_, rfl⟩
  rw [← hR]
  refine GoS.enter (n := 17) Try.func47 (by kernel_rfl) rfl [(0, .int .i64 c)] (by kernel_rfl) (by kernel_rfl) ?_
  refine GoS.run [0, 5] [.n, .n, .n, .n, .n, .n, .n, .n, .n] _ [.inRegion (cops (csub (cd Try.f47) [1,0])) [3,4,5,6,7,8,9,10,11,12,13,14], .code (csub (cd Try.f47) [1,1])] [(0, .int .i64 c), (5, .bool (decide (c ≥ 0)))] w (by kernel_rfl) .nil ?_
  refine GoS.fork 5 (decide (c ≥ 0)) (by kernel_rfl) (fun h1 => ?_) (fun h1 => ?_)
  ·
    have h1p : c ≥ 0 := of_decide_eq_true h1
    refine GoS.run [0, 9] [.n, .n, .n, .n] _ [.inRegion (cops (csub (cd Try.f47) [1,0])) [7,8,9,10,11,12,13,14], .code (csub (cd Try.f47) [1,1])] [(0, .int .i64 c), (9, .bool (decide (c < 55296)))] w (by kernel_rfl) .nil ?_
    refine GoS.fork 9 (decide (c < 55296)) (by kernel_rfl) (fun h2 => ?_) (fun h2 => ?_)
    ·
      have h2p : c < 55296 := of_decide_eq_true h2
      refine GoS.run [2] [.n, .n, .n, .n, .n, .n, .n, .n] _ [.inRegion (cops (csub (cd Try.f47) [1,0])) [], .code (csub (cd Try.f47) [1,1])] [(2, .bool true)] w (by kernel_rfl) .nil ?_
      refine GoS.run [2] [.n] _ [.code (csub (cd Try.f47) [1,1])] [(2, .bool true)] w (by kernel_rfl) .nil ?_
      refine GoS.ret (fn := Try.f47) (v := (.bool true)) Try.func47 (by kernel_rfl) ?_
      rw [hR]
      exact ⟨ret_bool (by rw [Bool.eq_iff_iff]; simp [whole]; try omega), rfl⟩
    ·
      have h2p : ¬ (c < 55296) := of_decide_eq_false h2
      refine GoS.run [0, 9, 12] [.n, .n, .n] _ [.inRegion (cops (csub (cd Try.f47) [1,0])) [10,11,12,13,14], .code (csub (cd Try.f47) [1,1])] [(0, .int .i64 c), (9, .bool false), (12, .bool (decide (c > 57343)))] w (by kernel_rfl) .nil ?_
      refine GoS.fork 12 (decide (c > 57343)) (by kernel_rfl) (fun h3 => ?_) (fun h3 => ?_)
      ·
        have h3p : c > 57343 := of_decide_eq_true h3
        refine GoS.run [2] [.n, .n, .n, .n, .n] _ [.inRegion (cops (csub (cd Try.f47) [1,0])) [], .code (csub (cd Try.f47) [1,1])] [(2, .bool (decide (c < 1114112)))] w (by kernel_rfl) .nil ?_
        refine GoS.run [2] [.n] _ [.code (csub (cd Try.f47) [1,1])] [(2, .bool (decide (c < 1114112)))] w (by kernel_rfl) .nil ?_
        refine GoS.ret (fn := Try.f47) (v := (.bool (decide (c < 1114112)))) Try.func47 (by kernel_rfl) ?_
        rw [hR]
        exact ⟨ret_bool (by rw [Bool.eq_iff_iff]; simp [whole]; try omega), rfl⟩
      ·
        have h3p : ¬ (c > 57343) := of_decide_eq_false h3
        refine GoS.run [2] [.n, .n, .n, .n, .n] _ [.inRegion (cops (csub (cd Try.f47) [1,0])) [], .code (csub (cd Try.f47) [1,1])] [(2, .bool false)] w (by kernel_rfl) .nil ?_
        refine GoS.run [2] [.n] _ [.code (csub (cd Try.f47) [1,1])] [(2, .bool false)] w (by kernel_rfl) .nil ?_
        refine GoS.ret (fn := Try.f47) (v := (.bool false)) Try.func47 (by kernel_rfl) ?_
        rw [hR]
        exact ⟨ret_bool (by rw [Bool.eq_iff_iff]; simp [whole]; try omega), rfl⟩
  ·
    have h1p : ¬ (c ≥ 0) := of_decide_eq_false h1
    refine GoS.run [0, 9, 12] [.n, .n, .n, .n, .n, .n, .n] _ [.inRegion (cops (csub (cd Try.f47) [1,0])) [10,11,12,13,14], .code (csub (cd Try.f47) [1,1])] [(0, .int .i64 c), (9, .bool false), (12, .bool (decide (c > 57343)))] w (by kernel_rfl) .nil ?_
    refine GoS.fork 12 (decide (c > 57343)) (by kernel_rfl) (fun h4 => ?_) (fun h4 => ?_)
    ·
      have h4p : c > 57343 := of_decide_eq_true h4
      refine GoS.run [2] [.n, .n, .n, .n, .n] _ [.inRegion (cops (csub (cd Try.f47) [1,0])) [], .code (csub (cd Try.f47) [1,1])] [(2, .bool (decide (c < 1114112)))] w (by kernel_rfl) .nil ?_
      refine GoS.run [2] [.n] _ [.code (csub (cd Try.f47) [1,1])] [(2, .bool (decide (c < 1114112)))] w (by kernel_rfl) .nil ?_
      refine GoS.ret (fn := Try.f47) (v := (.bool (decide (c < 1114112)))) Try.func47 (by kernel_rfl) ?_
      rw [hR]
      exact ⟨ret_bool (by rw [Bool.eq_iff_iff]; simp [whole]; try omega), rfl⟩
    ·
      have h4p : ¬ (c > 57343) := of_decide_eq_false h4
      refine GoS.run [2] [.n, .n, .n, .n, .n] _ [.inRegion (cops (csub (cd Try.f47) [1,0])) [], .code (csub (cd Try.f47) [1,1])] [(2, .bool false)] w (by kernel_rfl) .nil ?_
      refine GoS.run [2] [.n] _ [.code (csub (cd Try.f47) [1,1])] [(2, .bool false)] w (by kernel_rfl) .nil ?_
      refine GoS.ret (fn := Try.f47) (v := (.bool false)) Try.func47 (by kernel_rfl) ?_
      rw [hR]
      exact ⟨ret_bool (by rw [Bool.eq_iff_iff]; simp [whole]; try omega), rfl⟩


end Go.Proofs.Ytnhplkkbpmijdaa
