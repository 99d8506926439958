/-
  Joined texts. No condition beyond those that each theorem names. What they say:
  The walk of quoted.
  Lists of trees in rows; a variable that comes back with a tree. No condition.
  Blanks about a text of a query, and brackets about it, say nothing: plain laws of the reading. No condition.
  What is printed is read as it was: plain laws of the reading. No condition.
  The bounds that a text tells are bits of numbers. No condition.
  The text that the document names is read and printed as it says. No condition.
  The bytes of a text as a slice of the call's own, of which a stretch behind the bytes may be frozen. No condition beyond those that each theorem names.
  Digits of base sixteen as the library reads them (either case), and as the parser asks. No condition.
  What the parser asks of a number's text in base sixteen, and what the library's functions tell of it. No condition.
  The walk of ParseUint at base 16.
  A buffer with room for all that is written into it; the model's entries for bytes. No condition beyond those that each theorem names.
  The walk of number.
  The walk of leaf.
  The walk of many.
  The walks of both and either.
  The walk of one; all three.
  The walk of the function that Parse puts off.
  The walk of Parse.
  The walks of the lowest bit.
  The walks of formatBits at base 16, FormatUint, bits.
  A slice's rest, a copy into it; a table of 256 slices with two that are told. No condition beyond those that each theorem names.
  sync.Once's parts: the mutex free, the mark read and set. No condition beyond those that each theorem names.
  The walk of the making of a table of replacements.
-/
import Derived.Laws.IdiomStrings
import Derived.Laws.AppendOwn
import Derived.Shelf.Strings.CaseAny
import Derived.Lib.AppendStr
import Derived.Lib.MakeNoZero
import Derived.Lib.Bytealg
import Derived.Laws.MakeOwn
import Derived.Laws.CopyRow
import Derived.Conc.MuLone
import Derived.Tactics
import Derived.Tactics2
import Derived.Defers
import Derived.Laws.Pointers
import Derived.Laws.LoneSync
import Derived.RegionTactic
import Derived.RegionCalls
import Derived.ChangeAlike
import Derived.Shelf.RegionOpenPlain
import Derived.WalkKit
import Derived.Lib.Walk
import Derived.Lib.Strings
import Derived.Lib.Slices
import Derived.BigCall
import Derived.BigGuard
import Derived.Laws.Strings3
import Derived.Lib.CountLaws
import Derived.Test.YthpodbngljfdmaaGreatDoorChecked
import Derived.Test.YthpodbngljfdmaaGreatDoorJq2
namespace Go.Proofs.YthpodbngljfdmaaGreatDoor
open Go Go.Gw Go.UtfP Go.TokP Go.QryP Go.SynP Go.RealQ Go.SynV Go.RowKit
set_option linter.unusedVariables false
set_option linter.unusedSimpArgs false
set_option maxRecDepth 20000


set_option maxHeartbeats 400000 in
theorem quoted_L (s : List UInt8) (hs : s.length ≤ 8192) (b : Nat) (i : Nat) {w : World} (R : Ending → World → Prop) (hR : R = (Pst (flt 47) (quotedP s i) (fun x v w' => v = sS x.1 ∧ Mem [b] w w' [⟨51, 2, (obj b), 1, [sS s, iN x.2]⟩]) b w)) : ∀ (N : Nat) (n j : Nat) (v : Value) (L : List Int) (w1 : World) (hn : s.length - j ≤ n) (hq : quoteL s (n + 1) j (bytesOf L) = quotedP s i) (hl : L.length ≤ j) (hbd : ∀ x ∈ L, 0 ≤ x ∧ x ≤ 255) (hj : j ≤ s.length) (hM : Mem [b] w w1 [⟨51, 2, (obj b), 1, [sS s, iN j]⟩, ⟨5, 1, v, (List.length L), (ivals .u8 L)⟩]) (hN : s.length - j < N), GoS Tryz.prog 105 R 57 [iC Tryz.f105 [1,1,1,0,0], iL Tryz.f105 [1,1,1,0,0], .inBlock 0] [(0, pq b), (3, v)] w1 := by
 intro N
 induction N with
 | zero => intro n j v L w1 hn hq hl hbd hj hM hN; exact absurd hN (Nat.not_lt_zero _)
 | succ N ih =>
  intro n j v L w1 hn hq hl hbd hj hM hN
  refine xs ?_
  have hb4 := bl_bd s j
  have hb5 := bl_or s j
  refine xk 4 (next_c s (by omega) j (by omega) b (hM.rd 0 rfl)) (fun w1 m2 => ?_)
  have hM3 := hM.j m2
  refine xh 4 [] hM3 (sK (sK sR)) (fun w6 hM7 hS8 => ?_)
  refine yl [0,1,2] 3 hS8 pE3 0 rfl (cel_obj b 1) rfl ?_
  refine yl [4,5,6] 7 hS8 pE9 0 rfl (cel_obj b 0) rfl ?_
  refine yv [] 8 (fun W_ hW_ => (show (Builtin.len_ #[9] 3 #[sS s]).run Tryz.prog W_ = .ok (iN s.length) W_ from f_len (by kernel_rfl))) hS8 ?_
  refine ydp [9] hS8 ?_
  refine xc 0 (((j : Nat) : Int) = ((s.length : Nat) : Int)) (fun h10p => ?_) (fun h10p => ?_)
  ·
   refine xkd 2 Tryz.func105 (fail_c s j b (hM7.rd 0 rfl)) (fun w11 m12 => ?_)
   have hM13 := (hM7.j m12).none
   rw [hR]
   exact .inr ⟨_, hq.symm.trans (quote_end (by omega)), rfl, hM13⟩
  ·
   refine xv 6 (c_load pE3 (hM7.rd 0 rfl) (cel_obj b 1) rfl) ?_
   refine xa 0 ((j : Nat) : Int) 1 (((j + 1) : Nat) : Int) ?_
   refine xst 2 (c_store (E := 3) (u := iN (j + 1)) (by kernel_rfl) hM7 0 rfl (cel_obj b 1) (by decide) rfl rfl) (fun w14 hM16 => ?_)
   refine xc 12 ((bl s j) = 34) (fun h21p => ?_) (fun h21p => ?_)
   ·
    refine xv 3 (show (convert 76 9 (v)).run Tryz.prog w14 = .ok (sS (bytesOf L)) w14 from f_string_i sT76 (by kernel_rfl) (by kernel_rfl) (hM16.rd 1 rfl) (by assumption)) ?_
    have hM23 := hM16.sub (sK (sD sR))
    refine xr0 2 (v := sS (bytesOf L)) Tryz.func105 ?_
    rw [hR]
    exact .inl ⟨_, _, hq.symm.trans (quote_close (by omega)), rfl, rfl, (hM23.sub sR)⟩
   ·
    refine xc 5 ((bl s j) = 92) (fun h24p => ?_) (fun h24p => ?_)
    ·
     have hb28 := bl_bd s (j + 1)
     have hb29 := bl_or s (j + 1)
     refine xk 4 (next_c s (by omega) (j + 1) (by omega) b (hM16.rd 0 rfl)) (fun w25 m26 => ?_)
     have hM27 := hM16.j m26
     refine xfn 7 40 ((bl s (j + 1)) = 34) (fun h30p => ?_) (fun h30p => ?_)
     ·
      refine xcn 4 ((bl s (j + 1)) = 92) (fun h31p => ?_) (fun h31p => ?_)
      ·
       refine xkd 2 Tryz.func105 (fail_c s (j + 1) b (hM27.rd 0 rfl)) (fun w32 m33 => ?_)
       have hM34 := (hM27.j m33).none
       rw [hR]
       exact .inr ⟨_, hq.symm.trans (quote_bad (by omega) (by omega) (by omega)), rfl, hM34⟩
      ·
       refine xv 5 (c_load pE3 (hM27.rd 0 rfl) (cel_obj b 1) rfl) ?_
       refine xa 0 (((j + 1) : Nat) : Int) 1 ((((j + 1) + 1) : Nat) : Int) ?_
       refine xst 2 (c_store (E := 3) (u := iN ((j + 1) + 1)) (by kernel_rfl) hM27 0 rfl (cel_obj b 1) (by decide) rfl rfl) (fun w35 hM37 => ?_)
       refine xx 5 (m_lit sT76 hM37 (n := 1) (parts := #[(0, .int .u8 (bl s (j + 1)))]) (cs := [.int .u8 (bl s (j + 1))]) (by decide) (by kernel_rfl) rfl) (fun v49 w50 hM52 => ?_)
       refine xx 0 (m_append sT76 hM52 2 rfl (hM52.rd 0 rfl) (oneL rfl) (by simp only [List.length_append, List.length_cons, List.length_nil] at *; omega) (by simp only [List.length_append, List.length_cons, List.length_nil] at *; omega) 76) (fun v53 w54 hM56 => ?_)
       have hM57 : Mem [b] w w54 [⟨5, 1, v49, 1, [.int .u8 (bl s (j + 1))]⟩, ⟨51, 2, (obj b), 1, [sS s, iN ((j + 1) + 1)]⟩, ⟨5, 1, v53, (List.length (L ++ ([(bl s (j + 1))] : List Int))), (ivals .u8 (L ++ ([(bl s (j + 1))] : List Int)))⟩] := hM56.cast (by simp [ivals, svals, bvals, nvals, u8s, Nat.add_assoc])
       have hM58 := hM57.sub (sD (sK (sK sR)))
       exact xl 4 (ih (n - 1) ((j + 1) + 1) v53 (L ++ ([(bl s (j + 1))] : List Int)) _ (by omega) (by rw [bytes_snoc, show n - 1 + 1 = n by omega]; exact (quote_esc (by omega) (by omega)).symm.trans hq) (by simp only [List.length_append, List.length_cons, List.length_nil]; omega) (by intro x hx; rcases List.mem_append.1 hx with g | g; exact hbd x g; simp at g; omega) (by omega) (hM58.sub (sK (sK sN))) (by omega))
     ·
      refine xv 10 (c_load pE3 (hM27.rd 0 rfl) (cel_obj b 1) rfl) ?_
      refine xa 0 (((j + 1) : Nat) : Int) 1 ((((j + 1) + 1) : Nat) : Int) ?_
      refine xst 2 (c_store (E := 3) (u := iN ((j + 1) + 1)) (by kernel_rfl) hM27 0 rfl (cel_obj b 1) (by decide) rfl rfl) (fun w42 hM44 => ?_)
      refine xx 5 (m_lit sT76 hM44 (n := 1) (parts := #[(0, .int .u8 (bl s (j + 1)))]) (cs := [.int .u8 (bl s (j + 1))]) (by decide) (by kernel_rfl) rfl) (fun v59 w60 hM62 => ?_)
      refine xx 0 (m_append sT76 hM62 2 rfl (hM62.rd 0 rfl) (oneL rfl) (by simp only [List.length_append, List.length_cons, List.length_nil] at *; omega) (by simp only [List.length_append, List.length_cons, List.length_nil] at *; omega) 76) (fun v63 w64 hM66 => ?_)
      have hM67 : Mem [b] w w64 [⟨5, 1, v59, 1, [.int .u8 (bl s (j + 1))]⟩, ⟨51, 2, (obj b), 1, [sS s, iN ((j + 1) + 1)]⟩, ⟨5, 1, v63, (List.length (L ++ ([(bl s (j + 1))] : List Int))), (ivals .u8 (L ++ ([(bl s (j + 1))] : List Int)))⟩] := hM66.cast (by simp [ivals, svals, bvals, nvals, u8s, Nat.add_assoc])
      have hM68 := hM67.sub (sD (sK (sK sR)))
      exact xl 4 (ih (n - 1) ((j + 1) + 1) v63 (L ++ ([(bl s (j + 1))] : List Int)) _ (by omega) (by rw [bytes_snoc, show n - 1 + 1 = n by omega]; exact (quote_esc (by omega) (by omega)).symm.trans hq) (by simp only [List.length_append, List.length_cons, List.length_nil]; omega) (by intro x hx; rcases List.mem_append.1 hx with g | g; exact hbd x g; simp at g; omega) (by omega) (hM68.sub (sK (sK sN))) (by omega))
    ·
     refine xx 5 (m_lit sT76 hM16 (n := 1) (parts := #[(0, .int .u8 (bl s j))]) (cs := [.int .u8 (bl s j)]) (by decide) (by kernel_rfl) rfl) (fun v69 w70 hM72 => ?_)
     refine xx 0 (m_append sT76 hM72 2 rfl (hM72.rd 0 rfl) (oneL rfl) (by simp only [List.length_append, List.length_cons, List.length_nil] at *; omega) (by simp only [List.length_append, List.length_cons, List.length_nil] at *; omega) 76) (fun v73 w74 hM76 => ?_)
     have hM77 : Mem [b] w w74 [⟨5, 1, v69, 1, [.int .u8 (bl s j)]⟩, ⟨51, 2, (obj b), 1, [sS s, iN (j + 1)]⟩, ⟨5, 1, v73, (List.length (L ++ ([(bl s j)] : List Int))), (ivals .u8 (L ++ ([(bl s j)] : List Int)))⟩] := hM76.cast (by simp [ivals, svals, bvals, nvals, u8s, Nat.add_assoc])
     have hM78 := hM77.sub (sD (sK (sK sR)))
     exact xl 4 (ih (n - 1) (j + 1) v73 (L ++ ([(bl s j)] : List Int)) _ (by omega) (by rw [bytes_snoc, show n - 1 + 1 = n by omega]; exact (quote_byte (by omega) (by omega) (by omega)).symm.trans hq) (by simp only [List.length_append, List.length_cons, List.length_nil]; omega) (by intro x hx; rcases List.mem_append.1 hx with g | g; exact hbd x g; simp at g; omega) (by omega) (hM78.sub (sK (sK sN))) (by omega))

set_option maxHeartbeats 400000 in
theorem quoted_c (s : List UInt8) (hs : s.length ≤ 8192) (b : Nat) (i : Nat) (hi : i ≤ s.length) {w : World} (hM : Mem [b] w w [⟨51, 2, (obj b), 1, [sS s, iN i]⟩])  :
  Calls Tryz.prog 105 #[pq b] w (Pst (flt 47) (quotedP s i) (fun x v w' => v = sS x.1 ∧ Mem [b] w w' [⟨51, 2, (obj b), 1, [sS s, iN x.2]⟩]) b w) := by
 refine xe 57 Tryz.func105 (fun R hR => ?_)
 refine xkp 7 Tryz.func105 (take_c s (by omega) 34 b i (by omega) hM.lend1) (fun k1 w2 hs3 m4 => by rw [hR]; exact .inr ⟨_, by unfold quotedP; rw [hs3], rfl, (hM.back1 m4).none⟩) (fun a5 v6 w2 hs3 m4 => ?_)
 obtain ⟨rfl, m7⟩ := m4
 have hx8 := take_inv hs3
 have hM9 := hM.back1 m7
 refine xx 3 (m_lit sT76 hM9 (n := 0) (parts := #[]) (cs := []) (by decide) (by kernel_rfl) rfl) (fun v10 w11 hM13 => ?_)
 have hM14 : Mem [b] w w11 [⟨51, 2, (obj b), 1, [sS s, iN a5]⟩, ⟨5, 1, v10, 0, []⟩] := hM13.perm (pS pR)
 exact xl 4 (quoted_L s hs b i R hR (s.length + 2) (s.length - a5) a5 v10 [] _ (by omega) (by unfold quotedP; rw [hs3]; rfl) (by simp) (by simp) (by omega) ((hM14.sub (sK (sK sN))).cast (by simp [ivals])) (by omega))


end Go.Proofs.YthpodbngljfdmaaGreatDoor


namespace Go.SynP
set_option linter.unusedVariables false
open Go Go.Gw Go.QryP
/-- the rows T hold these trees, by these heads and parts -/
structure QL (T : List Row) (acc : List Q) (M : List QN) : Prop where
  len : M.length = acc.length
  head : ∀ j, j < acc.length → (M.getD j qz).h = (acc.getD j q0).h
  kid : ∀ j, j < acc.length → QT T (acc.getD j q0) (M.getD j qz).parts
theorem QL.one {T : List Row} {q : Q} {h : Hd} {u : Value} (hh : h = q.h) (hq : QT T q u) : QL T [q] [⟨h, u⟩] := by
  refine ⟨rfl, fun j hj => ?_, fun j hj => ?_⟩
  · have : j = 0 := by simp at hj; omega
    subst this; exact hh
  · have : j = 0 := by simp at hj; omega
    subst this; exact hq
theorem q_left {A : List Q} {x : Q} {j : Nat} (h : j < A.length) : (A ++ [x]).getD j q0 = A.getD j q0 := by
  rw [List.getD_eq_getElem?_getD, List.getD_eq_getElem?_getD, List.getElem?_append_left h]
theorem q_right {A : List Q} {x : Q} : (A ++ [x]).getD A.length q0 = x := by simp
theorem QL.snoc {T T1 : List Row} {acc : List Q} {M : List QN} (h : QL T acc M) {q : Q} {g : Hd} {u : Value} (hh : g = q.h) (hq : QT T1 q u) : QL (T1 ++ T) (acc ++ [q]) (M ++ [⟨g, u⟩]) := by
  have hl := h.len
  refine ⟨by simp [hl], fun j hj => ?_, fun j hj => ?_⟩
  · simp only [List.length_append, List.length_cons, List.length_nil] at hj
    rcases Nat.lt_succ_iff_lt_or_eq.1 hj with g | g
    · rw [qn_left (by omega), q_left g]; exact h.head j g
    · subst g; rw [qn_right hl, q_right]; exact hh
  · simp only [List.length_append, List.length_cons, List.length_nil] at hj
    rcases Nat.lt_succ_iff_lt_or_eq.1 hj with g | g
    · rw [qn_left (by omega), q_left g]; exact (h.kid j g).sub (fun r hr => List.mem_append_right _ hr)
    · subst g; rw [qn_right hl, q_right]; exact hq.sub (fun r hr => List.mem_append_left _ hr)
theorem QL.whole {T : List Row} {acc : List Q} {M : List QN} {u : Value} {E : TypeId} (h : QL T acc M) (g : Hd) : QT (⟨E, 8, u, M.length, recs qnC M⟩ :: T) (.mk g acc) u := QT.whole (q := .mk g acc) h.len h.head h.kid
theorem Mem.backT {S : List Nat} {w0 w w' : World} {A T0 T : List Row} {E : TypeId} {k b : Nat} {xs : List Value} {r : Row} (h : Mem S w0 w (⟨E, k, obj b, 1, xs⟩ :: (A ++ T0))) (c : Mem [b] w w' (r :: T)) : Mem S w0 w' (r :: (A ++ (T ++ T0))) :=
  (h.back1 c).perm (List.Perm.cons _ (List.perm_append_comm_assoc _ _ _))
theorem Mem.backT0 {S : List Nat} {w0 w w' : World} {A T : List Row} {E : TypeId} {k b : Nat} {xs : List Value} {r : Row} (h : Mem S w0 w (⟨E, k, obj b, 1, xs⟩ :: A)) (c : Mem [b] w w' (r :: T)) : Mem S w0 w' (r :: (A ++ T)) :=
  (h.back1 c).perm (List.Perm.cons _ List.perm_append_comm)
end Go.SynP
namespace Go.SynP
open Go Go.Gw Go.QryP
theorem calls_imp {P : Program} {g : FuncId} {args : Array Value} {w : World} {A B : Ending → World → Prop} (h : Calls P g args w A) (hi : ∀ e w', A e w' → B e w') : Calls P g args w B := fun cs =>
  let ⟨e, w', fr, h1, h2⟩ := h cs
  ⟨e, w', fr, hi _ _ h1, h2⟩
theorem rd_ones {w : World} {k n : Nat} {v : Value} {xs : List Value} (h : Rd w k v n xs) : v.oneCell' = true ∧ v.cells = #[v] ∧ v.cells.toList = [v] := ⟨rd_one h, rd_cells h, rd_cellsl h⟩
end Go.SynP
namespace Go.SynP
open Go Go.Gw Go.QryP
variable {s : List UInt8} {i k n : Nat} {acc : List Q} {q : Q}
theorem el_err (h : bl s (skipP s i) = 124) (hs : prs s n .B (skipP s i + 1) = .error k) : prs s (n + 1) (.EL acc) i = .error k := by
  show (if _ then _ else _) = _; rw [if_pos h, hs]
theorem el_ok {j : Nat} (h : bl s (skipP s i) = 124) (hs : prs s n .B (skipP s i + 1) = .ok (q, j)) : prs s (n + 1) (.EL acc) i = prs s n (.EL (acc ++ [q])) j := by
  show (if _ then _ else _) = _; rw [if_pos h, hs]
theorem el_end (h : ¬ bl s (skipP s i) = 124) : prs s (n + 1) (.EL acc) i = .ok (manyQ 8 acc, skipP s i) := by
  show (if _ then _ else _) = _; rw [if_neg h]
theorem e_err (hs : prs s n .B i = .error k) : prs s (n + 1) .E i = .error k := by
  show (match prs s n .B i with | .error k => _ | .ok (q, j) => _) = _; rw [hs]
theorem e_ok {j : Nat} (hs : prs s n .B i = .ok (q, j)) : prs s (n + 1) .E i = prs s n (.EL [q]) j := by
  show (match prs s n .B i with | .error k => _ | .ok (q, j) => _) = _; rw [hs]
theorem bl_err (h : ¬ (skipP s i = s.length ∨ bl s (skipP s i) = 124 ∨ bl s (skipP s i) = 41)) (hs : prs s n .O (skipP s i) = .error k) : prs s (n + 1) (.BL acc) i = .error k := by
  show (if _ then _ else _) = _; rw [if_neg h, hs]
theorem bl_ok {j : Nat} (h : ¬ (skipP s i = s.length ∨ bl s (skipP s i) = 124 ∨ bl s (skipP s i) = 41)) (hs : prs s n .O (skipP s i) = .ok (q, j)) : prs s (n + 1) (.BL acc) i = prs s n (.BL (acc ++ [q])) j := by
  show (if _ then _ else _) = _; rw [if_neg h, hs]
theorem bl_end (h : skipP s i = s.length ∨ bl s (skipP s i) = 124 ∨ bl s (skipP s i) = 41) : prs s (n + 1) (.BL acc) i = .ok (manyQ 7 acc, skipP s i) := by
  show (if _ then _ else _) = _; rw [if_pos h]
theorem b_err (hs : prs s n .O i = .error k) : prs s (n + 1) .B i = .error k := by
  show (match prs s n .O i with | .error k => _ | .ok (q, j) => _) = _; rw [hs]
theorem b_ok {j : Nat} (hs : prs s n .O i = .ok (q, j)) : prs s (n + 1) .B i = prs s n (.BL [q]) j := by
  show (match prs s n .O i with | .error k => _ | .ok (q, j) => _) = _; rw [hs]
theorem o_not_err (h : bl s (skipP s i) = 45) (hs : prs s n .O (skipP s i + 1) = .error k) : prs s (n + 1) .O i = .error k := by
  show (if _ then _ else _) = _; rw [if_pos h, hs]
theorem o_not {j : Nat} (h : bl s (skipP s i) = 45) (hs : prs s n .O (skipP s i + 1) = .ok (q, j)) : prs s (n + 1) .O i = .ok (.mk (opH 9) [q], j) := by
  show (if _ then _ else _) = _; rw [if_pos h, hs]
theorem o_par_err (h : bl s (skipP s i) = 40) (hs : prs s n .E (skipP s i + 1) = .error k) : prs s (n + 1) .O i = .error k := by
  show (if _ then _ else _) = _; rw [if_neg (by omega), if_pos h, hs]
theorem o_par_err2 {j : Nat} (h : bl s (skipP s i) = 40) (hs : prs s n .E (skipP s i + 1) = .ok (q, j)) (ht : takeP s 41 j = .error k) : prs s (n + 1) .O i = .error k := by
  show (if _ then _ else _) = _; rw [if_neg (by omega), if_pos h, hs]; simp only [ht]
theorem o_par {j m : Nat} (h : bl s (skipP s i) = 40) (hs : prs s n .E (skipP s i + 1) = .ok (q, j)) (ht : takeP s 41 j = .ok m) : prs s (n + 1) .O i = .ok (q, m) := by
  show (if _ then _ else _) = _; rw [if_neg (by omega), if_pos h, hs]; simp only [ht]
theorem o_all (h : bl s (skipP s i) = 42) : prs s (n + 1) .O i = .ok (.mk (opH 10) [], skipP s i + 1) := by
  show (if _ then _ else _) = _; rw [if_neg (by omega), if_neg (by omega), if_pos h]
theorem o_leaf (h : ¬ bl s (skipP s i) = 45) (h2 : ¬ bl s (skipP s i) = 40) (h3 : ¬ bl s (skipP s i) = 42) : prs s (n + 1) .O i = leafP s (skipP s i) := by
  show (if _ then _ else _) = _; rw [if_neg h, if_neg h2, if_neg h3]
theorem manyQ_n {op : Int} (h : ¬ acc.length = 1) : manyQ op acc = .mk (opH op) acc := by
  match acc, h with
  | [], _ => rfl
  | [_], h => exact absurd rfl h
  | _ :: _ :: _, _ => rfl
/-- what is read lies behind where it began, and in the text -/
theorem leaf_inv {x : Q × Nat} (_ : i ≤ s.length) (h : leafP s i = .ok x) : i < x.2 ∧ x.2 ≤ s.length := by
  have hn := nam_le s i
  unfold leafP at h
  simp only at h
  split at h
  · cases h
  · split at h
    · cases h
    · rename_i a ha
      have h1 := take_inv ha
      have hora := bl_or s a
      split at h
      · split at h
        · cases h
        · rename_i lo b hb
          have h2 := number_inv (by omega) hb
          split at h
          · cases h
          · rename_i hi' c hc
            have h3 := number_inv (by omega) hc
            simp only [Except.ok.injEq] at h; subst h; simp only; omega
      · split at h
        · cases h
        · rename_i tx b hb
          have h2 := quoted_inv hb
          have hor := bl_or s b
          split at h
          · simp only [Except.ok.injEq] at h; subst h; simp only; omega
          · split at h
            · simp only [Except.ok.injEq] at h; subst h; simp only; omega
            · split at h
              · simp only [Except.ok.injEq] at h; subst h; simp only; omega
              · split at h
                · split at h
                  · cases h
                  · rename_i e c hc
                    have h3 := small_inv hc
                    split at h
                    · cases h
                    · rename_i d hd
                      have h4 := take_inv hd
                      split at h
                      · cases h
                      · rename_i x g hg
                        have h5 := small_inv hg
                        simp only [Except.ok.injEq] at h; subst h; simp only; omega
                · simp only [Except.ok.injEq] at h; subst h; simp only; omega
def below : Tg → Nat → Nat → Prop
  | .EL _, i, j => i ≤ j
  | .BL _, i, j => i ≤ j
  | _, i, j => i < j
theorem prs_inv : ∀ (n : Nat) (t : Tg) (i : Nat) (q : Q) (j : Nat), i ≤ s.length → prs s n t i = .ok (q, j) → below t i j ∧ j ≤ s.length
  | 0, t, i, q, j, hi, h => by simp [prs] at h
  | n + 1, .E, i, q, j, hi, h => by
    cases hb : prs s n .B i with
    | error k => rw [e_err hb] at h; cases h
    | ok x =>
      obtain ⟨a, m⟩ := x
      rw [e_ok hb] at h
      have h1 := prs_inv n .B i a m hi hb
      have h2 := prs_inv n (.EL [a]) m q j h1.2 h
      simp only [below] at *; omega
  | n + 1, .EL acc, i, q, j, hi, h => by
    have hk := skip_le s i
    have hor := bl_or s (skipP s i)
    by_cases hc : bl s (skipP s i) = 124
    · cases hb : prs s n .B (skipP s i + 1) with
      | error k => rw [el_err hc hb] at h; cases h
      | ok x =>
        obtain ⟨a, m⟩ := x
        rw [el_ok hc hb] at h
        have h1 := prs_inv n .B _ a m (by omega) hb
        have h2 := prs_inv n (.EL (acc ++ [a])) m q j h1.2 h
        simp only [below] at *; omega
    · rw [el_end hc] at h
      simp only [Except.ok.injEq, Prod.mk.injEq] at h
      simp only [below]; omega
  | n + 1, .B, i, q, j, hi, h => by
    cases hb : prs s n .O i with
    | error k => rw [b_err hb] at h; cases h
    | ok x =>
      obtain ⟨a, m⟩ := x
      rw [b_ok hb] at h
      have h1 := prs_inv n .O i a m hi hb
      have h2 := prs_inv n (.BL [a]) m q j h1.2 h
      simp only [below] at *; omega
  | n + 1, .BL acc, i, q, j, hi, h => by
    have hk := skip_le s i
    by_cases hc : skipP s i = s.length ∨ bl s (skipP s i) = 124 ∨ bl s (skipP s i) = 41
    · rw [bl_end hc] at h
      simp only [Except.ok.injEq, Prod.mk.injEq] at h
      simp only [below]; omega
    · cases hb : prs s n .O (skipP s i) with
      | error k => rw [bl_err hc hb] at h; cases h
      | ok x =>
        obtain ⟨a, m⟩ := x
        rw [bl_ok hc hb] at h
        have h1 := prs_inv n .O _ a m (by omega) hb
        have h2 := prs_inv n (.BL (acc ++ [a])) m q j h1.2 h
        simp only [below] at *; omega
  | n + 1, .O, i, q, j, hi, h => by
    have hk := skip_le s i
    have hor := bl_or s (skipP s i)
    by_cases h45 : bl s (skipP s i) = 45
    · cases hb : prs s n .O (skipP s i + 1) with
      | error k => rw [o_not_err h45 hb] at h; cases h
      | ok x =>
        obtain ⟨a, m⟩ := x
        rw [o_not h45 hb] at h
        have h1 := prs_inv n .O _ a m (by omega) hb
        simp only [Except.ok.injEq, Prod.mk.injEq] at h
        simp only [below] at *; omega
    · by_cases h40 : bl s (skipP s i) = 40
      · cases hb : prs s n .E (skipP s i + 1) with
        | error k => rw [o_par_err h40 hb] at h; cases h
        | ok x =>
          obtain ⟨a, m⟩ := x
          have h1 := prs_inv n .E _ a m (by omega) hb
          cases ht : takeP s 41 m with
          | error k => rw [o_par_err2 h40 hb ht] at h; cases h
          | ok m2 =>
            rw [o_par h40 hb ht] at h
            have h2 := take_inv ht
            simp only [Except.ok.injEq, Prod.mk.injEq] at h
            simp only [below] at *; omega
      · by_cases h42 : bl s (skipP s i) = 42
        · rw [o_all h42] at h
          simp only [Except.ok.injEq, Prod.mk.injEq] at h
          simp only [below]; omega
        · rw [o_leaf h45 h40 h42] at h
          have := leaf_inv (by omega) h
          simp only [below] at *; omega
/-- what is read is small -/
theorem quoted_len {x : List UInt8} {k : Nat} (h : quotedP s i = .ok (x, k)) : x.length + i + 1 < k := by
  unfold quotedP at h
  split at h
  · cases h
  · rename_i j hj
    have h1 := take_inv hj
    have h2 := quote_le _ _ _ _ h
    simp only [List.length_nil] at h2
    omega
theorem leaf_bulk {x : Q × Nat} (h : leafP s i = .ok x) : bulkQ x.1 ≤ x.2 - i := by
  have hn := nam_le s i
  have hnm : ∀ h : Hd, bulkQ (.mk h []) = h.field.length + h.text.length + 1 := fun h => by rw [bulkQ_mk]; simp [bulkL]
  have hl : ((s.take (namE s i)).drop i).length ≤ namE s i - i := by rw [List.length_drop, List.length_take]; omega
  unfold leafP at h
  simp only at h
  split at h
  · cases h
  · split at h
    · cases h
    · rename_i a ha
      have h1 := take_inv ha
      have hora := bl_or s a
      split at h
      · split at h
        · cases h
        · rename_i lo b hb
          have h2 := number_inv (by omega) hb
          split at h
          · cases h
          · rename_i hi' c hc
            have h3 := number_inv (by omega) hc
            simp only [Except.ok.injEq] at h; subst h; simp only [hnm, List.length_nil]; omega
      · split at h
        · cases h
        · rename_i tx b hb
          have h2 := quoted_len hb
          split at h
          · simp only [Except.ok.injEq] at h; subst h; simp only [hnm]; omega
          · split at h
            · simp only [Except.ok.injEq] at h; subst h; simp only [hnm]; omega
            · split at h
              · simp only [Except.ok.injEq] at h; subst h; simp only [hnm]; omega
              · split at h
                · split at h
                  · cases h
                  · rename_i e c hc
                    have h3 := small_inv hc
                    split at h
                    · cases h
                    · rename_i d hd
                      have h4 := take_inv hd
                      split at h
                      · cases h
                      · rename_i x g hg
                        have h5 := small_inv hg
                        simp only [Except.ok.injEq] at h; subst h; simp only [hnm]; omega
                · simp only [Except.ok.injEq] at h; subst h; simp only [hnm]; omega
theorem many_bulk {op : Int} (h : acc ≠ []) : bulkQ (manyQ op acc) + 1 ≤ bulkL acc + acc.length := by
  match acc, h with
  | [q], _ => simp [manyQ, bulkL]
  | _ :: _ :: _, _ => rw [manyQ_n (by simp), bulkQ_mk]; show bulkL _ + 0 + 0 + 1 + 1 ≤ _; simp only [List.length_cons]; omega
theorem bulk_snoc (acc : List Q) (q : Q) : bulkL (acc ++ [q]) + (acc ++ [q]).length = bulkL acc + acc.length + (bulkQ q + 1) := by rw [bulkL_app]; simp [bulkL]; omega
def bulkB : Tg → Nat → Nat → Nat
  | .EL acc, i, j => bulkL acc + acc.length + 2 * (j - i)
  | .BL acc, i, j => bulkL acc + acc.length + 2 * (j - i)
  | _, i, j => 2 * (j - i)
def filled : Tg → Prop
  | .EL acc => acc ≠ []
  | .BL acc => acc ≠ []
  | _ => True
theorem prs_bulk : ∀ (n : Nat) (t : Tg) (i : Nat) (q : Q) (j : Nat), i ≤ s.length → filled t → prs s n t i = .ok (q, j) → bulkQ q + 1 ≤ bulkB t i j
  | 0, t, i, q, j, hi, _, h => by simp [prs] at h
  | n + 1, .E, i, q, j, hi, _, h => by
    cases hb : prs s n .B i with
    | error k => rw [e_err hb] at h; cases h
    | ok x =>
      obtain ⟨a, m⟩ := x
      rw [e_ok hb] at h
      have g1 := prs_inv n .B i a m hi hb
      have g2 := prs_inv n (.EL [a]) m q j g1.2 h
      have h1 := prs_bulk n .B i a m hi trivial hb
      have h2 := prs_bulk n (.EL [a]) m q j g1.2 (by simp [filled]) h
      simp only [below, bulkB, bulkL, List.length_cons, List.length_nil] at *; omega
  | n + 1, .EL acc, i, q, j, hi, hf, h => by
    have hk := skip_le s i
    have hor := bl_or s (skipP s i)
    by_cases hc : bl s (skipP s i) = 124
    · cases hb : prs s n .B (skipP s i + 1) with
      | error k => rw [el_err hc hb] at h; cases h
      | ok x =>
        obtain ⟨a, m⟩ := x
        rw [el_ok hc hb] at h
        have g1 := prs_inv n .B _ a m (by omega) hb
        have g2 := prs_inv n (.EL (acc ++ [a])) m q j g1.2 h
        have h1 := prs_bulk n .B _ a m (by omega) trivial hb
        have h2 := prs_bulk n (.EL (acc ++ [a])) m q j g1.2 (by simp [filled]) h
        have h3 := bulk_snoc acc a
        simp only [below, bulkB] at *; omega
    · rw [el_end hc] at h
      simp only [Except.ok.injEq, Prod.mk.injEq] at h
      have := many_bulk (op := 8) hf
      simp only [bulkB]; rw [← h.1]; omega
  | n + 1, .B, i, q, j, hi, _, h => by
    cases hb : prs s n .O i with
    | error k => rw [b_err hb] at h; cases h
    | ok x =>
      obtain ⟨a, m⟩ := x
      rw [b_ok hb] at h
      have g1 := prs_inv n .O i a m hi hb
      have g2 := prs_inv n (.BL [a]) m q j g1.2 h
      have h1 := prs_bulk n .O i a m hi trivial hb
      have h2 := prs_bulk n (.BL [a]) m q j g1.2 (by simp [filled]) h
      simp only [below, bulkB, bulkL, List.length_cons, List.length_nil] at *; omega
  | n + 1, .BL acc, i, q, j, hi, hf, h => by
    have hk := skip_le s i
    by_cases hc : skipP s i = s.length ∨ bl s (skipP s i) = 124 ∨ bl s (skipP s i) = 41
    · rw [bl_end hc] at h
      simp only [Except.ok.injEq, Prod.mk.injEq] at h
      have := many_bulk (op := 7) hf
      simp only [bulkB]; rw [← h.1]; omega
    · cases hb : prs s n .O (skipP s i) with
      | error k => rw [bl_err hc hb] at h; cases h
      | ok x =>
        obtain ⟨a, m⟩ := x
        rw [bl_ok hc hb] at h
        have g1 := prs_inv n .O _ a m (by omega) hb
        have g2 := prs_inv n (.BL (acc ++ [a])) m q j g1.2 h
        have h1 := prs_bulk n .O _ a m (by omega) trivial hb
        have h2 := prs_bulk n (.BL (acc ++ [a])) m q j g1.2 (by simp [filled]) h
        have h3 := bulk_snoc acc a
        simp only [below, bulkB] at *; omega
  | n + 1, .O, i, q, j, hi, _, h => by
    have hk := skip_le s i
    have hor := bl_or s (skipP s i)
    by_cases h45 : bl s (skipP s i) = 45
    · cases hb : prs s n .O (skipP s i + 1) with
      | error k => rw [o_not_err h45 hb] at h; cases h
      | ok x =>
        obtain ⟨a, m⟩ := x
        rw [o_not h45 hb] at h
        have g1 := prs_inv n .O _ a m (by omega) hb
        have h1 := prs_bulk n .O _ a m (by omega) trivial hb
        simp only [Except.ok.injEq, Prod.mk.injEq] at h
        rw [← h.1, bulkQ_mk]
        simp only [below, bulkB, bulkL, opH, List.length_nil] at *; omega
    · by_cases h40 : bl s (skipP s i) = 40
      · cases hb : prs s n .E (skipP s i + 1) with
        | error k => rw [o_par_err h40 hb] at h; cases h
        | ok x =>
          obtain ⟨a, m⟩ := x
          have g1 := prs_inv n .E _ a m (by omega) hb
          have h1 := prs_bulk n .E _ a m (by omega) trivial hb
          cases ht : takeP s 41 m with
          | error k => rw [o_par_err2 h40 hb ht] at h; cases h
          | ok m2 =>
            rw [o_par h40 hb ht] at h
            have h2 := take_inv ht
            simp only [Except.ok.injEq, Prod.mk.injEq] at h
            rw [← h.1]
            simp only [below, bulkB] at *; omega
      · by_cases h42 : bl s (skipP s i) = 42
        · rw [o_all h42] at h
          simp only [Except.ok.injEq, Prod.mk.injEq] at h
          rw [← h.1, bulkQ_mk]
          simp only [bulkB, bulkL, List.length_nil]; omega
        · rw [o_leaf h45 h40 h42] at h
          have g1 := leaf_inv (by omega) h
          have := leaf_bulk h
          simp only [bulkB] at *; omega
/-- the ways a query's text goes -/
theorem parse_long (h : 8192 < s.length) : parseQ s = (q0, 0, 4) := by unfold parseQ; rw [if_pos h]
theorem parse_err (h : ¬ 8192 < s.length) (hp : prs s (fuel s) .E 0 = .error k) : parseQ s = (q0, k, 21) := by unfold parseQ; rw [if_neg h, hp]
theorem parse_more {j : Nat} (h : ¬ 8192 < s.length) (hp : prs s (fuel s) .E 0 = .ok (q, j)) (hm : skipP s j < s.length) : parseQ s = (q0, skipP s j, 21) := by unfold parseQ; rw [if_neg h, hp]; simp only; rw [if_pos hm]
theorem parse_bad {j : Nat} (h : ¬ 8192 < s.length) (hp : prs s (fuel s) .E 0 = .ok (q, j)) (hm : ¬ skipP s j < s.length) (hc : ¬ checkQ q = 0) : parseQ s = (q0, 0, checkQ q) := by unfold parseQ; rw [if_neg h, hp]; simp only; rw [if_neg hm, if_neg hc]
theorem parse_ok {j : Nat} (h : ¬ 8192 < s.length) (hp : prs s (fuel s) .E 0 = .ok (q, j)) (hm : ¬ skipP s j < s.length) (hc : checkQ q = 0) : parseQ s = (q, 0, 0) := by unfold parseQ; rw [if_neg h, hp]; simp only; rw [if_neg hm, if_pos hc]
end Go.SynP


namespace Go.SynP
set_option linter.unusedVariables false
open Go Go.Gw Go.UtfP Go.TokP Go.QryP Go.RealP Go.RealQ

/-- s stands in t from p on; behind it stands nothing, a blank or a bracket; behind blanks nothing or a bracket -/
structure Emb (s t : List UInt8) (p : Nat) : Prop where
  tail : ∀ i, i ≤ s.length → ∃ b, t.drop (i + p) = s.drop i ++ b
  behind : bl t (s.length + p) = 0 ∨ bl t (s.length + p) = 32 ∨ bl t (s.length + p) = 41
  stop : skipP t (s.length + p) = t.length ∨ bl t (skipP t (s.length + p)) = 41
  len : s.length + p ≤ t.length

theorem getD_drop (l : List UInt8) (i k : Nat) : (l.drop i).getD k 0 = l.getD (i + k) 0 := by
  rw [List.getD_eq_getElem?_getD, List.getD_eq_getElem?_getD, List.getElem?_drop]
theorem skip_at (s : List UInt8) : ∀ (n i : Nat), s.length - i ≤ n → ¬ (skipP s i < s.length ∧ bl s (skipP s i) = 32)
  | 0, i, h => by
    rw [skip_stop (by omega)]; omega
  | n + 1, i, h => by
    by_cases hc : i < s.length ∧ bl s i = 32
    · rw [skip_go hc.1 hc.2]; exact skip_at s n (i + 1) (by omega)
    · rw [skip_stop hc]; exact hc
theorem skip_idem (s : List UInt8) (i : Nat) : skipP s (skipP s i) = skipP s i := skip_stop (skip_at s _ i (Nat.le_refl _))

variable {s t : List UInt8} {p : Nat}
theorem Emb.get (E : Emb s t p) {i : Nat} (h : i < s.length) : t.getD (i + p) 0 = s.getD i 0 := by
  obtain ⟨b, hb⟩ := E.tail i (by omega)
  have h1 : (t.drop (i + p)).getD 0 0 = (s.drop i ++ b).getD 0 0 := by rw [hb]
  rw [getD_drop, Nat.add_zero] at h1
  rw [h1, List.getD_eq_getElem?_getD, List.getElem?_append_left (by simp; omega), ← List.getD_eq_getElem?_getD, getD_drop, Nat.add_zero]
theorem Emb.bl (E : Emb s t p) {i : Nat} (h : i < s.length) : Gw.bl t (i + p) = Gw.bl s i := by
  unfold Gw.bl; rw [E.get h]
theorem Emb.sub (E : Emb s t p) {i j : Nat} (h : j ≤ s.length) (hi : i ≤ j) : (t.take (j + p)).drop (i + p) = (s.take j).drop i := by
  obtain ⟨b, hb⟩ := E.tail i (by omega)
  rw [List.drop_take, List.drop_take, hb, show j + p - (i + p) = j - i by omega, List.take_append_of_le_length (by simp; omega)]
theorem Emb.skip (E : Emb s t p) : ∀ (n i : Nat), s.length - i ≤ n → i ≤ s.length → (skipP s i < s.length ∧ skipP t (i + p) = skipP s i + p) ∨ (skipP s i = s.length ∧ skipP t (i + p) = skipP t (s.length + p))
  | 0, i, h, hi => by
    have e : i = s.length := by omega
    subst e
    exact .inr ⟨skip_stop (by omega), rfl⟩
  | n + 1, i, h, hi => by
    have hl := E.len
    rcases Nat.lt_or_ge i s.length with g | g
    · by_cases hb : Gw.bl s i = 32
      · rw [skip_go g hb, skip_go (s := t) (i := i + p) (by omega) ((E.bl g).trans hb), show i + p + 1 = i + 1 + p by omega]
        exact E.skip n (i + 1) (by omega) (by omega)
      · rw [skip_stop (s := s) (by omega), skip_stop (s := t) (by rw [E.bl g]; omega)]
        exact .inl ⟨g, rfl⟩
    · exact E.skip 0 i (by omega) hi
/-- a place in s, and the place in t that says the same -/
def Rel (s t : List UInt8) (p j k : Nat) : Prop := k = j + p ∨ (j = s.length ∧ k = skipP t (s.length + p))
theorem Emb.to (E : Emb s t p) {i k : Nat} (hi : i ≤ s.length) (h : Rel s t p i k) : (skipP s i < s.length ∧ skipP t k = skipP s i + p) ∨ (skipP s i = s.length ∧ skipP t k = skipP t (s.length + p)) := by
  rcases h with rfl | ⟨rfl, rfl⟩
  · exact E.skip _ i (Nat.le_refl _) hi
  · exact .inr ⟨skip_stop (by omega), skip_idem _ _⟩
theorem Emb.stop0 (E : Emb s t p) : Gw.bl t (skipP t (s.length + p)) = 0 ∨ Gw.bl t (skipP t (s.length + p)) = 41 := by
  rcases E.stop with h | h
  · rw [h]; exact .inl (bl_out (by omega))
  · exact .inr h
theorem Emb.take (E : Emb s t p) {c : Int} {i a : Nat} (h : takeP s c i = .ok a) : takeP t c (i + p) = .ok (a + p) := by
  obtain ⟨rfl, h1, h2⟩ := take_inv h
  have := E.len
  rw [take_ok (s := t) (i := i + p) (by omega) ((E.bl h1).trans h2), show i + p + 1 = i + 1 + p by omega]
theorem Emb.nam (E : Emb s t p) : ∀ (n i : Nat), s.length - i ≤ n → i ≤ s.length → namE t (i + p) = namE s i + p
  | 0, i, h, hi => by
    have e : i = s.length := by omega
    subst e
    rw [nam_stop (s := s) (by rw [bl_out (by omega)]; rfl), nam_stop]
    rcases E.behind with h | h | h <;> rw [h] <;> rfl
  | n + 1, i, h, hi => by
    rcases Nat.lt_or_ge i s.length with g | g
    · cases hl : letterP (Gw.bl s i) with
      | true => rw [nam_go hl, nam_go (s := t) (i := i + p) (by rw [E.bl g]; exact hl), show i + p + 1 = i + 1 + p by omega]; exact E.nam n (i + 1) (by omega) (by omega)
      | false => rw [nam_stop hl, nam_stop (s := t) (by rw [E.bl g]; exact hl)]
    · exact E.nam 0 i (by omega) hi
theorem Emb.quote (E : Emb s t p) : ∀ (n m j : Nat) (acc x : List UInt8) (k : Nat), n ≤ m → quoteL s n j acc = .ok (x, k) → quoteL t m (j + p) acc = .ok (x, k + p)
  | 0, m, j, acc, x, k, _, h => by simp [quoteL] at h
  | n + 1, m, j, acc, x, k, hm, h => by
    obtain ⟨m, rfl⟩ : ∃ m', m = m' + 1 := ⟨m - 1, by omega⟩
    have hl := E.len
    by_cases h0 : j < s.length
    · by_cases h1 : Gw.bl s j = 34
      · rw [quote_close h1] at h
        simp only [Except.ok.injEq, Prod.mk.injEq] at h
        rw [quote_close (by rw [E.bl h0]; exact h1), ← h.1, ← h.2, show j + p + 1 = j + 1 + p by omega]
      · by_cases h2 : Gw.bl s j = 92
        · by_cases h3 : Gw.bl s (j + 1) = 34 ∨ Gw.bl s (j + 1) = 92
          · have h4 := bl_in (s := s) (i := j + 1) (by omega)
            rw [quote_esc h2 h3] at h
            rw [quote_esc (by rw [E.bl h0]; exact h2) (by rw [show j + p + 1 = j + 1 + p by omega, E.bl h4]; exact h3), show j + p + 1 = j + 1 + p by omega, E.get h4, show j + p + 2 = j + 2 + p by omega]
            exact E.quote n m _ _ _ _ (by omega) h
          · rw [quote_bad h2 (fun g => h3 (.inl g)) (fun g => h3 (.inr g))] at h; cases h
        · rw [quote_byte h0 h1 h2] at h
          rw [quote_byte (by omega) (by rw [E.bl h0]; exact h1) (by rw [E.bl h0]; exact h2), E.get h0, show j + p + 1 = j + 1 + p by omega]
          exact E.quote n m _ _ _ _ (by omega) h
    · rw [quote_end h0] at h; cases h
theorem Emb.quoted (E : Emb s t p) {i k : Nat} {x : List UInt8} (h : quotedP s i = .ok (x, k)) : quotedP t (i + p) = .ok (x, k + p) := by
  unfold quotedP at h ⊢
  split at h
  · cases h
  · rename_i j hj
    rw [E.take hj]
    have := E.len
    exact E.quote _ _ _ _ _ _ (by omega) h
theorem Emb.small (E : Emb s t p) {i k : Nat} {x : Int} (h : smallP s i = .ok (x, k)) : smallP t (i + p) = .ok (x, k + p) := by
  by_cases h1 : 48 ≤ Gw.bl s i ∧ Gw.bl s i ≤ 57
  · have hi := bl_in (s := s) (i := i) (by omega)
    have e1 := E.bl hi
    by_cases h2 : 48 ≤ Gw.bl s (i + 1) ∧ Gw.bl s (i + 1) ≤ 57
    · have e2 := E.bl (bl_in (s := s) (i := i + 1) (by omega))
      rw [show i + 1 + p = i + p + 1 by omega] at e2
      rw [small_two h1 h2] at h; simp only [Except.ok.injEq, Prod.mk.injEq] at h
      rw [small_two (by rw [e1]; exact h1) (by rw [e2]; exact h2), e1, e2, h.1, ← h.2, show i + p + 2 = i + 2 + p by omega]
    · rw [small_one h1 h2] at h; simp only [Except.ok.injEq, Prod.mk.injEq] at h
      rw [small_one (by rw [e1]; exact h1) (by
        rcases Nat.lt_or_ge (i + 1) s.length with g | g
        · have e2 := E.bl g; rw [show i + 1 + p = i + p + 1 by omega] at e2; rw [e2]; exact h2
        · have hb := E.behind; rw [show s.length + p = i + p + 1 by omega] at hb; omega), e1, h.1, ← h.2, show i + p + 1 = i + 1 + p by omega]
  · rw [small_none h1] at h; cases h
theorem index_app : ∀ (l b : List UInt8) (c : UInt8) (m : Nat), Lib.indexByte l c = (m : Int) → Lib.indexByte (l ++ b) c = (m : Int)
  | [], b, c, m, h => by simp [Lib.indexByte] at h
  | x :: l, b, c, m, h => by
    unfold Lib.indexByte at h
    rw [List.cons_append]
    unfold Lib.indexByte
    split at h
    · rename_i g; rw [if_pos g]; exact h
    · rename_i g
      rw [if_neg g]
      split at h
      · omega
      · rename_i g2
        have g3 := Lib.indexByte_ge l c
        have g4 : ¬ Lib.indexByte l c = -1 := fun e => g2 (by simp [e])
        have ih := index_app l b c (Lib.indexByte l c).toNat (by omega)
        rw [ih, if_neg (by simp; omega)]; omega
theorem Emb.number (E : Emb s t p) {i k v : Nat} {c : Int} (hi : i ≤ s.length) (h : numberP s c i = .ok (v, k)) : numberP t c (i + p) = .ok (v, k + p) := by
  rcases index_cases (s.drop i) c.toNat.toUInt8 with hx | ⟨m, hx, hm⟩
  · rw [number_none hx] at h; cases h
  · rw [List.length_drop] at hm
    obtain ⟨b, hb⟩ := E.tail i hi
    have hy : Lib.indexByte (t.drop (i + p)) c.toNat.toUInt8 = ((m : Nat) : Int) := by rw [hb]; exact index_app _ _ _ _ hx
    rw [number_eq hx] at h
    rw [number_eq hy, show i + p + m = i + m + p by omega, E.sub (by omega) (by omega), show i + m + p + 1 = i + m + 1 + p by omega]
    split at h
    · rename_i g; simp only [Except.ok.injEq, Prod.mk.injEq] at h; rw [h.1, ← h.2]
    · rename_i g
      split at h
      · rename_i g2; simp only [Except.ok.injEq, Prod.mk.injEq] at h; simp only [if_pos g2, h.1, ← h.2]
      · cases h
end Go.SynP
namespace Go.SynP
open Go Go.Gw Go.UtfP Go.TokP Go.QryP Go.RealP Go.RealQ
variable {s t : List UInt8} {p : Nat}
theorem Emb.same (E : Emb s t p) {i : Nat} (h : i ≤ s.length) {c : Int} (h0 : c ≠ 0) (h1 : c ≠ 32) (h2 : c ≠ 41) : Gw.bl t (i + p) = c ↔ Gw.bl s i = c := by
  rcases Nat.lt_or_ge i s.length with g | g
  · rw [E.bl g]
  · have e : i = s.length := by omega
    subst e
    have hb := E.behind
    rw [bl_out (s := s) (i := s.length) (by omega)]
    constructor <;> intro hh <;> omega
theorem Emb.leaf (E : Emb s t p) {i : Nat} {x : Q × Nat} (hi : i ≤ s.length) (h : leafP s i = .ok x) : leafP t (i + p) = .ok (x.1, x.2 + p) := by
  unfold leafP at h ⊢
  simp only at h ⊢
  rw [E.nam _ i (Nat.le_refl _) hi]
  have hn := nam_le s i
  have hn2 := hn.2 hi
  split at h
  · cases h
  · rename_i g
    rw [if_neg (by omega)]
    split at h
    · cases h
    · rename_i a ha
      have h1 := take_inv ha
      rw [E.take ha]
      simp only
      rw [E.sub hn2 hn.1]
      have s91 := E.same (i := a) (c := 91) (by omega) (by decide) (by decide) (by decide)
      split at h
      · rename_i h91
        rw [if_pos (s91.2 h91)]
        have ha2 := bl_in (s := s) (i := a) (by omega)
        split at h
        · cases h
        · rename_i lo b hb
          have hb2 := number_inv (i := a + 1) (by omega) hb
          rw [show a + p + 1 = a + 1 + p by omega, E.number (by omega) hb]
          simp only
          split at h
          · cases h
          · rename_i hi_ c hc
            simp only [Except.ok.injEq] at h
            rw [E.number (by omega) hc, ← h]
      · rename_i h91
        rw [if_neg (fun g => h91 (s91.1 g))]
        split at h
        · cases h
        · rename_i tx b hb
          have hb2 := quoted_inv hb
          rw [E.quoted hb]
          simp only
          have s1 := E.same (i := b) (c := 42) (by omega) (by decide) (by decide) (by decide)
          have s2 := E.same (i := b) (c := 63) (by omega) (by decide) (by decide) (by decide)
          have s3 := E.same (i := b) (c := 43) (by omega) (by decide) (by decide) (by decide)
          have s4 := E.same (i := b) (c := 126) (by omega) (by decide) (by decide) (by decide)
          split at h
          · rename_i g1; simp only [Except.ok.injEq] at h; rw [if_pos (s1.2 g1), ← h, show b + p + 1 = b + 1 + p by omega]
          · rename_i g1; rw [if_neg (fun z => g1 (s1.1 z))]
            split at h
            · rename_i g2; simp only [Except.ok.injEq] at h; rw [if_pos (s2.2 g2), ← h, show b + p + 1 = b + 1 + p by omega]
            · rename_i g2; rw [if_neg (fun z => g2 (s2.1 z))]
              split at h
              · rename_i g3; simp only [Except.ok.injEq] at h; rw [if_pos (s3.2 g3), ← h, show b + p + 1 = b + 1 + p by omega]
              · rename_i g3; rw [if_neg (fun z => g3 (s3.1 z))]
                split at h
                · rename_i g4; rw [if_pos (s4.2 g4)]
                  split at h
                  · cases h
                  · rename_i e c hc
                    rw [show b + p + 1 = b + 1 + p by omega, E.small hc]
                    simp only
                    split at h
                    · cases h
                    · rename_i d hd
                      rw [E.take hd]
                      simp only
                      split at h
                      · cases h
                      · rename_i x g hg
                        simp only [Except.ok.injEq] at h
                        rw [E.small hg, ← h]
                · rename_i g4; simp only [Except.ok.injEq] at h; rw [if_neg (fun z => g4 (s4.1 z)), ← h]
/-- what s is read as, t is read as -/
theorem Emb.prs (E : Emb s t p) : ∀ (n m : Nat) (g : Tg) (i k : Nat) (q : Q) (j : Nat), n ≤ m → i ≤ s.length → Rel s t p i k → prs s n g i = .ok (q, j) → ∃ l, SynP.prs t m g k = .ok (q, l) ∧ Rel s t p j l
  | 0, m, g, i, k, q, j, _, _, _, h => by simp [SynP.prs] at h
  | n + 1, m, g, i, k, q, j, hm, hi, hr, h => by
    obtain ⟨m, rfl⟩ : ∃ m', m = m' + 1 := ⟨m - 1, by omega⟩
    have hk := skip_le s i
    have hor := bl_or s (skipP s i)
    have hl := E.len
    have hst := E.stop
    have hst0 := E.stop0
    have hto := E.to hi hr
    have hin : ∀ c, c ≠ 0 → c ≠ 41 → (Gw.bl t (skipP t k) = c ↔ Gw.bl s (skipP s i) = c) := by
      intro c c0 c1
      rcases hto with ⟨g1, g2⟩ | ⟨g1, g2⟩
      · rw [g2, E.bl g1]
      · rw [g1, g2, bl_out (s := s) (i := s.length) (by omega)]; constructor <;> intro hh <;> omega
    match g with
    | .E =>
      cases hb : SynP.prs s n .B i with
      | error k => rw [e_err hb] at h; cases h
      | ok x =>
        obtain ⟨a, b⟩ := x
        rw [e_ok hb] at h
        have h1 := prs_inv n .B i a b hi hb
        obtain ⟨l1, h2, h3⟩ := E.prs n m .B i k a b (by omega) hi hr hb
        rw [e_ok h2]
        exact E.prs n m (.EL [a]) b l1 q j (by omega) h1.2 h3 h
    | .EL acc =>
      by_cases hc : Gw.bl s (skipP s i) = 124
      · cases hb : SynP.prs s n .B (skipP s i + 1) with
        | error k => rw [el_err hc hb] at h; cases h
        | ok x =>
          obtain ⟨a, b⟩ := x
          rw [el_ok hc hb] at h
          have h1 := prs_inv n .B _ a b (by omega) hb
          obtain ⟨l1, h2, h3⟩ := E.prs n m .B _ (skipP t k + 1) a b (by omega) (by omega) (.inl (by omega)) hb
          rw [el_ok ((hin 124 (by decide) (by decide)).2 hc) h2]
          exact E.prs n m (.EL (acc ++ [a])) b l1 q j (by omega) h1.2 h3 h
      · rw [el_end hc] at h
        simp only [Except.ok.injEq, Prod.mk.injEq] at h
        rw [el_end (fun g => hc ((hin 124 (by decide) (by decide)).1 g)), ← h.1, ← h.2]
        exact ⟨_, rfl, by rcases hto with g | g; exact .inl g.2; exact .inr g⟩
    | .B =>
      cases hb : SynP.prs s n .O i with
      | error k => rw [b_err hb] at h; cases h
      | ok x =>
        obtain ⟨a, b⟩ := x
        rw [b_ok hb] at h
        have h1 := prs_inv n .O i a b hi hb
        obtain ⟨l1, h2, h3⟩ := E.prs n m .O i k a b (by omega) hi hr hb
        rw [b_ok h2]
        exact E.prs n m (.BL [a]) b l1 q j (by omega) h1.2 h3 h
    | .BL acc =>
      by_cases hc : skipP s i = s.length ∨ Gw.bl s (skipP s i) = 124 ∨ Gw.bl s (skipP s i) = 41
      · rw [bl_end hc] at h
        simp only [Except.ok.injEq, Prod.mk.injEq] at h
        rw [bl_end, ← h.1, ← h.2]
        · exact ⟨_, rfl, by rcases hto with g | g; exact .inl g.2; exact .inr g⟩
        · rcases hto with ⟨g1, g2⟩ | ⟨g1, g2⟩
          · rw [g2, E.bl g1]
            rcases hc with hc | hc | hc
            · omega
            · exact .inr (.inl hc)
            · exact .inr (.inr hc)
          · rw [g2]; rcases hst with hh | hh
            · exact .inl hh
            · exact .inr (.inr hh)
      · have hlt : skipP s i < s.length := by omega
        have g2 : skipP t k = skipP s i + p := by rcases hto with g | g; exact g.2; omega
        cases hb : SynP.prs s n .O (skipP s i) with
        | error k => rw [bl_err hc hb] at h; cases h
        | ok x =>
          obtain ⟨a, b⟩ := x
          rw [bl_ok hc hb] at h
          have h1 := prs_inv n .O _ a b (by omega) hb
          obtain ⟨l1, h2, h3⟩ := E.prs n m .O _ (skipP t k) a b (by omega) (by omega) (.inl g2) hb
          rw [bl_ok (by rw [g2, E.bl hlt]; omega) h2]
          exact E.prs n m (.BL (acc ++ [a])) b l1 q j (by omega) h1.2 h3 h
    | .O =>
      by_cases h45 : Gw.bl s (skipP s i) = 45
      · cases hb : SynP.prs s n .O (skipP s i + 1) with
        | error k => rw [o_not_err h45 hb] at h; cases h
        | ok x =>
          obtain ⟨a, b⟩ := x
          rw [o_not h45 hb] at h
          simp only [Except.ok.injEq, Prod.mk.injEq] at h
          obtain ⟨l1, h2, h3⟩ := E.prs n m .O _ (skipP t k + 1) a b (by omega) (by omega) (.inl (by omega)) hb
          rw [o_not ((hin 45 (by decide) (by decide)).2 h45) h2, ← h.1, ← h.2]
          exact ⟨_, rfl, h3⟩
      · have t45 := fun g => h45 ((hin 45 (by decide) (by decide)).1 g)
        by_cases h40 : Gw.bl s (skipP s i) = 40
        · have t40 := (hin 40 (by decide) (by decide)).2 h40
          cases hb : SynP.prs s n .E (skipP s i + 1) with
          | error k => rw [o_par_err h40 hb] at h; cases h
          | ok x =>
            obtain ⟨a, b⟩ := x
            have h1 := prs_inv n .E _ a b (by omega) hb
            obtain ⟨l1, h2, h3⟩ := E.prs n m .E _ (skipP t k + 1) a b (by omega) (by omega) (.inl (by omega)) hb
            cases ht : takeP s 41 b with
            | error k => rw [o_par_err2 h40 hb ht] at h; cases h
            | ok m2 =>
              rw [o_par h40 hb ht] at h
              simp only [Except.ok.injEq, Prod.mk.injEq] at h
              have h4 := take_inv ht
              have e : l1 = b + p := by rcases h3 with g | g; exact g; omega
              rw [e] at h2
              rw [o_par t40 h2 (E.take ht), ← h.1, ← h.2]
              exact ⟨_, rfl, .inl rfl⟩
        · have t40 := fun g => h40 ((hin 40 (by decide) (by decide)).1 g)
          by_cases h42 : Gw.bl s (skipP s i) = 42
          · rw [o_all h42] at h
            simp only [Except.ok.injEq, Prod.mk.injEq] at h
            rw [o_all ((hin 42 (by decide) (by decide)).2 h42), ← h.1, ← h.2]
            exact ⟨_, rfl, .inl (by omega)⟩
          · have t42 := fun g => h42 ((hin 42 (by decide) (by decide)).1 g)
            rw [o_leaf h45 h40 h42] at h
            have h1 := leaf_inv (by omega) h
            have g2 : skipP t k = skipP s i + p := by rcases hto with g | g; exact g.2; omega
            rw [o_leaf t45 t40 t42, g2, E.leaf (by omega) h]
            exact ⟨_, rfl, .inl rfl⟩
end Go.SynP
namespace Go.SynP
open Go Go.Gw Go.UtfP Go.TokP Go.QryP Go.RealP Go.RealQ
end Go.SynP


set_option linter.unusedVariables false
set_option linter.unusedSimpArgs false
namespace Go.SynP
open Go Go.Gw Go.UtfP Go.TokP Go.QryP Go.RealP Go.RealQ

/-- s stands in t from i on -/
def At (t : List UInt8) (i : Nat) (s : List UInt8) : Prop := ∃ b, t.drop i = s ++ b
variable {t a r s : List UInt8} {i j n m : Nat} {q : Q}
theorem At.len (h : At t i s) (hs : 0 < s.length) : i + s.length ≤ t.length := by
  obtain ⟨b, e⟩ := h
  have := congrArg List.length e
  rw [List.length_drop, List.length_append] at this; omega
theorem At.get (h : At t i s) {k : Nat} (hk : k < s.length) : t.getD (i + k) 0 = s.getD k 0 := by
  obtain ⟨b, e⟩ := h
  rw [← getD_drop, e, List.getD_eq_getElem?_getD, List.getElem?_append_left hk, ← List.getD_eq_getElem?_getD]
theorem At.bl (h : At t i s) {k : Nat} (hk : k < s.length) : Gw.bl t (i + k) = Gw.bl s k := by unfold Gw.bl; rw [h.get hk]
theorem At.bl0 {x : UInt8} (h : At t i (x :: s)) : Gw.bl t i = (x.toNat : Int) := h.bl (k := 0) (by simp)
theorem At.in0 {x : UInt8} (h : At t i (x :: s)) : i < t.length := by have := h.len (by simp); simp at this; omega
/-! ### how much fuel suffices -/
theorem emb_self (t : List UInt8) : Emb t t 0 := ⟨fun i _ => ⟨[], by simp⟩, .inl (bl_out (by omega)), .inl (skip_stop (by omega)), by omega⟩
theorem prs_mono {g : Tg} (hi : i ≤ t.length) (h : prs t n g i = .ok (q, j)) (hm : n ≤ m) : prs t m g i = .ok (q, j) := by
  obtain ⟨l, h1, h2⟩ := (emb_self t).prs n m g i i q j hm hi (.inl rfl) h
  rcases h2 with rfl | ⟨rfl, rfl⟩
  · exact h1
  · rw [h1, skip_stop (by omega)]; rfl
def cc_ : Tg → Nat
  | .E => 5
  | .EL _ => 1
  | .B => 4
  | .BL _ => 4
  | .O => 3
theorem fuel_step (t : List UInt8) : ∀ (n : Nat) (g : Tg) (i : Nat), i ≤ t.length → 5 * (t.length - i) + cc_ g ≤ n → prs t (n + 1) g i = prs t n g i
  | 0, g, i, hi, h => by cases g <;> simp [cc_] at h
  | n + 1, .E, i, hi, h => by
    simp only [cc_] at h
    have h1 := fuel_step t n .B i hi (by simp only [cc_]; omega)
    cases hb : prs t n .B i with
    | error k => rw [e_err (h1.trans hb), e_err hb]
    | ok x =>
      obtain ⟨a, m⟩ := x
      have h2 := prs_inv n .B i a m hi hb
      simp only [below] at h2
      rw [e_ok (h1.trans hb), e_ok hb]; exact fuel_step t n (.EL [a]) m h2.2 (by simp only [cc_]; omega)
  | n + 1, .EL acc, i, hi, h => by
    simp only [cc_] at h
    have hk := skip_le t i
    have hor := bl_or t (skipP t i)
    by_cases hc : Gw.bl t (skipP t i) = 124
    · have h1 := fuel_step t n .B (skipP t i + 1) (by omega) (by simp only [cc_]; omega)
      cases hb : prs t n .B (skipP t i + 1) with
      | error k => rw [el_err hc (h1.trans hb), el_err hc hb]
      | ok x =>
        obtain ⟨a, m⟩ := x
        have h2 := prs_inv n .B _ a m (by omega) hb
        simp only [below] at h2
        rw [el_ok hc (h1.trans hb), el_ok hc hb]; exact fuel_step t n _ m h2.2 (by simp only [cc_]; omega)
    · rw [el_end hc, el_end hc]
  | n + 1, .B, i, hi, h => by
    simp only [cc_] at h
    have h1 := fuel_step t n .O i hi (by simp only [cc_]; omega)
    cases hb : prs t n .O i with
    | error k => rw [b_err (h1.trans hb), b_err hb]
    | ok x =>
      obtain ⟨a, m⟩ := x
      have h2 := prs_inv n .O i a m hi hb
      simp only [below] at h2
      rw [b_ok (h1.trans hb), b_ok hb]; exact fuel_step t n (.BL [a]) m h2.2 (by simp only [cc_]; omega)
  | n + 1, .BL acc, i, hi, h => by
    simp only [cc_] at h
    have hk := skip_le t i
    have hor := bl_or t (skipP t i)
    by_cases hc : skipP t i = t.length ∨ Gw.bl t (skipP t i) = 124 ∨ Gw.bl t (skipP t i) = 41
    · rw [bl_end hc, bl_end hc]
    · have h1 := fuel_step t n .O (skipP t i) (by omega) (by simp only [cc_]; omega)
      cases hb : prs t n .O (skipP t i) with
      | error k => rw [bl_err hc (h1.trans hb), bl_err hc hb]
      | ok x =>
        obtain ⟨a, m⟩ := x
        have h2 := prs_inv n .O _ a m (by omega) hb
        simp only [below] at h2
        rw [bl_ok hc (h1.trans hb), bl_ok hc hb]; exact fuel_step t n _ m h2.2 (by simp only [cc_]; omega)
  | n + 1, .O, i, hi, h => by
    simp only [cc_] at h
    have hk := skip_le t i
    have hor := bl_or t (skipP t i)
    by_cases h45 : Gw.bl t (skipP t i) = 45
    · have h1 := fuel_step t n .O (skipP t i + 1) (by omega) (by simp only [cc_]; omega)
      cases hb : prs t n .O (skipP t i + 1) with
      | error k => rw [o_not_err h45 (h1.trans hb), o_not_err h45 hb]
      | ok x => rw [o_not h45 (h1.trans hb), o_not h45 hb]
    · by_cases h40 : Gw.bl t (skipP t i) = 40
      · have h1 := fuel_step t n .E (skipP t i + 1) (by omega) (by simp only [cc_]; omega)
        cases hb : prs t n .E (skipP t i + 1) with
        | error k => rw [o_par_err h40 (h1.trans hb), o_par_err h40 hb]
        | ok x => cases ht : takeP t 41 x.2 with
          | error y => rw [o_par_err2 h40 (h1.trans hb) ht, o_par_err2 h40 hb ht]
          | ok y => rw [o_par h40 (h1.trans hb) ht, o_par h40 hb ht]
      · by_cases h42 : Gw.bl t (skipP t i) = 42
        · rw [o_all h42, o_all h42]
        · rw [o_leaf h45 h40 h42, o_leaf h45 h40 h42]
theorem fuel_up (t : List UInt8) (g : Tg) (i n : Nat) (hi : i ≤ t.length) (h : 5 * (t.length - i) + cc_ g ≤ n) : ∀ k, prs t (n + k) g i = prs t n g i
  | 0 => rfl
  | k + 1 => by rw [← Nat.add_assoc, fuel_step t (n + k) g i hi (by omega), fuel_up t g i n hi h k]
/-- read so, with enough fuel -/
def Rds (t : List UInt8) (g : Tg) (i : Nat) (q : Q) (j : Nat) : Prop := ∃ n, prs t n g i = .ok (q, j)
theorem Rds.fuel {g : Tg} (h : Rds t g i q j) (hi : i ≤ t.length) (hm : 5 * (t.length - i) + cc_ g ≤ m) : prs t m g i = .ok (q, j) := by
  obtain ⟨n, hn⟩ := h
  rw [← fuel_up t g i m hi hm n]
  exact prs_mono hi hn (by omega)
section
variable {q p : Q} {acc : List Q} {k : Nat}
theorem Rds.two {g g' : Tg} {i' : Nat} (h : Rds t g i q j) (h' : Rds t g' i' p k) (hi : i ≤ t.length) (hi' : i' ≤ t.length) : ∃ n, prs t n g i = .ok (q, j) ∧ prs t n g' i' = .ok (p, k) := by
  obtain ⟨n, hn⟩ := h
  obtain ⟨n', hn'⟩ := h'
  exact ⟨n + n', prs_mono hi hn (by omega), prs_mono hi' hn' (by omega)⟩
theorem Rds.out {g : Tg} (h : Rds t g i q j) (hi : i ≤ t.length) : j ≤ t.length := by
  obtain ⟨n, hn⟩ := h
  exact (prs_inv n g i q j hi hn).2
theorem Rds.e (hi : i ≤ t.length) (h : Rds t .B i p k) (h2 : Rds t (.EL [p]) k q j) : Rds t .E i q j := by
  obtain ⟨n, h3, h4⟩ := h.two h2 hi (h.out hi)
  exact ⟨n + 1, (e_ok h3).trans h4⟩
theorem Rds.b (hi : i ≤ t.length) (h : Rds t .O i p k) (h2 : Rds t (.BL [p]) k q j) : Rds t .B i q j := by
  obtain ⟨n, h3, h4⟩ := h.two h2 hi (h.out hi)
  exact ⟨n + 1, (b_ok h3).trans h4⟩
theorem Rds.bl (hc : ¬ (skipP t i = t.length ∨ Gw.bl t (skipP t i) = 124 ∨ Gw.bl t (skipP t i) = 41)) (hi : skipP t i ≤ t.length) (h : Rds t .O (skipP t i) p k) (h2 : Rds t (.BL (acc ++ [p])) k q j) : Rds t (.BL acc) i q j := by
  obtain ⟨n, h3, h4⟩ := h.two h2 hi (h.out hi)
  exact ⟨n + 1, (bl_ok hc h3).trans h4⟩
theorem Rds.bl0 (hc : skipP t i = t.length ∨ Gw.bl t (skipP t i) = 124 ∨ Gw.bl t (skipP t i) = 41) : Rds t (.BL acc) i (manyQ 7 acc) (skipP t i) := ⟨1, bl_end hc⟩
theorem Rds.all (h : Gw.bl t (skipP t i) = 42) : Rds t .O i (.mk (opH 10) []) (skipP t i + 1) := ⟨1, o_all h⟩
end
end Go.SynP
namespace Go.SynP
open Go Go.Gw Go.UtfP Go.TokP Go.QryP Go.RealP Go.RealQ
variable {t : List UInt8} {i j : Nat}
end Go.SynP
namespace Go.SynP
open Go Go.Gw Go.UtfP Go.TokP Go.QryP Go.RealP Go.RealQ
variable {t : List UInt8} {i j : Nat}
mutual
/-- the bounds of a range are bits -/
def numQ : Q → Prop
  | .mk h l => (0 ≤ h.lo ∧ h.lo < 18446744073709551616) ∧ (0 ≤ h.hi ∧ h.hi < 18446744073709551616) ∧ numL l
def numL : List Q → Prop
  | [] => True
  | q :: r => numQ q ∧ numL r
end
theorem numQ_mk (h : Hd) (l : List Q) : numQ (.mk h l) = ((0 ≤ h.lo ∧ h.lo < 18446744073709551616) ∧ (0 ≤ h.hi ∧ h.hi < 18446744073709551616) ∧ numL l) := by rw [numQ]
theorem num_mem : ∀ {l : List Q}, numL l → ∀ q ∈ l, numQ q
  | [], _, q, h => by cases h
  | p :: l, h, q, hq => by
    rw [numL] at h
    rcases List.mem_cons.1 hq with rfl | g
    · exact h.1
    · exact num_mem h.2 q g
theorem right_mem : ∀ {l : List Q}, rightL l = true → ∀ q ∈ l, rightQ q = true
  | [], _, q, h => by cases h
  | p :: l, h, q, hq => by
    rw [rightL, Bool.and_eq_true] at h
    rcases List.mem_cons.1 hq with rfl | g
    · exact h.1
    · exact right_mem h.2 q g
/-- what may stand behind a part: nothing, a blank, a bracket -/
def Sep (t : List UInt8) (e : Nat) : Prop := bl t e = 0 ∨ bl t e = 32 ∨ bl t e = 41
/-- the text of what follows the field and the colon of a word -/
def sufW (h : Hd) : List UInt8 := if h.op = 2 then [42] else if h.op = 3 then [63] else if h.op = 5 then [43] else if h.op = 4 then 126 :: (decW h.edits ++ (44 :: decW h.exact)) else []
theorem textQ_mk (h : Hd) (l : List Q) : textQ (.mk h l) =
    (if h.op = 10 then [42]
    else if h.op = 9 then 45 :: (textL h.op l).headD []
    else if h.op = 7 then joinW [32] (textL h.op l)
    else if h.op = 8 then joinW [32, 124, 32] (textL h.op l)
    else if h.op = 6 then h.field ++ ([58, 91] ++ (bitsP h.lo.toNat ++ (32 :: (bitsP h.hi.toNat ++ [93]))))
    else h.field ++ (58 :: (quoteW h.text ++ sufW h))) := by rw [textQ]; rfl
/-- a word or a range that may be -/
structure Lf (h : Hd) : Prop where
  op : 1 ≤ h.op ∧ h.op ≤ 6
  name : nameP h.field = true
  zero : (¬ h.op = 4 → h.edits = 0 ∧ h.exact = 0) ∧ (¬ h.op = 6 → h.lo = 0 ∧ h.hi = 0) ∧ (h.op = 6 → h.text = [])
  fuzzy : h.op = 4 → (0 ≤ h.edits ∧ h.edits ≤ 99) ∧ (0 ≤ h.exact ∧ h.exact ≤ 99)
theorem noth_inv {h : Hd} {t e n : Bool} (hn : nothP h t e n = true) : (t = false → h.text = []) ∧ (e = false → h.edits = 0 ∧ h.exact = 0) ∧ (n = false → h.lo = 0 ∧ h.hi = 0) := by
  unfold nothP at hn
  simp only [Bool.and_eq_true, Bool.or_eq_true, decide_eq_true_eq] at hn
  refine ⟨fun e => ?_, fun e => ?_, fun e => ?_⟩ <;> subst e <;> simp at hn
  · exact hn.1.1
  · exact hn.1.2
  · exact hn.2
theorem let_len {s m : List UInt8} (h : letP s m = 0) : (foldL s).length ≤ 16 := by
  unfold letP at h
  split at h
  · contradiction
  · split at h
    · cases h
    · omega
theorem node_leaf {h : Hd} {n : Nat} (hn : nodeP h n = true) (h7 : ¬ h.op = 7) (h8 : ¬ h.op = 8) (h9 : ¬ h.op = 9) (h10 : ¬ h.op = 10) : Lf h ∧ n = 0 := by
  have ho : 1 ≤ h.op ∧ h.op ≤ 6 := by
    by_cases g : 1 ≤ h.op ∧ h.op ≤ 10
    · omega
    · rw [node_else g] at hn; cases hn
  have h0 : n = 0 := by
    rcases Nat.eq_zero_or_pos n with g | g
    · exact g
    · rw [node_many ho g] at hn; cases hn
  have hname : nameP h.field = true := by
    cases g : nameP h.field with
    | true => rfl
    | false => rw [node_name ho g] at hn; cases hn
  refine ⟨⟨ho, hname, ?_, ?_⟩, h0⟩
  · rcases (by omega : h.op = 1 ∨ h.op = 2 ∨ h.op = 3 ∨ h.op = 4 ∨ h.op = 5 ∨ h.op = 6) with g | g | g | g | g | g
    · rw [node_1 g h0 hname, Bool.and_eq_true] at hn; have z := noth_inv hn.2; exact ⟨fun _ => z.2.1 rfl, fun _ => z.2.2 rfl, fun _ => by omega⟩
    · rw [node_2 g h0 hname, Bool.and_eq_true] at hn; have z := noth_inv hn.2; exact ⟨fun _ => z.2.1 rfl, fun _ => z.2.2 rfl, fun _ => by omega⟩
    · rw [node_3 g h0 hname, Bool.and_eq_true] at hn; have z := noth_inv hn.2; exact ⟨fun _ => z.2.1 rfl, fun _ => z.2.2 rfl, fun _ => by omega⟩
    · rw [node_4 g h0 hname, Bool.and_eq_true] at hn; have z := noth_inv hn.2; exact ⟨fun x => absurd g x, fun _ => z.2.2 rfl, fun _ => by omega⟩
    · rw [node_5 g h0 hname, Bool.and_eq_true] at hn; have z := noth_inv hn.2; exact ⟨fun _ => z.2.1 rfl, fun _ => z.2.2 rfl, fun _ => by omega⟩
    · rw [node_range g hname h0] at hn; have z := noth_inv hn; exact ⟨fun _ => z.2.1 rfl, fun x => absurd g x, fun _ => z.1 rfl⟩
  · intro g
    rw [node_4 g h0 hname, Bool.and_eq_true] at hn
    have z := of_decide_eq_true hn.1
    have hz := letN_iff.1 z.1
    have hp := let_pos hz
    have := let_len hz
    rw [hp.2.1] at z
    omega
theorem Sep.no {e : Nat} (h : Sep t e) {c : Int} (h0 : c ≠ 0) (h1 : c ≠ 32) (h2 : c ≠ 41) : ¬ bl t e = c := by
  rcases h with h | h | h <;> rw [h] <;> exact fun g => by omega
end Go.SynP
namespace Go.SynP
open Go Go.Gw Go.UtfP Go.TokP Go.QryP Go.RealP Go.RealQ
variable {t : List UInt8} {i j : Nat}
/-! ### trees -/
def tailW (sep : List UInt8) : List (List UInt8) → List UInt8
  | [] => []
  | x :: r => sep ++ (x ++ tailW sep r)
theorem joinW_eq (sep x : List UInt8) : ∀ (r : List (List UInt8)), joinW sep (x :: r) = x ++ tailW sep r
  | [] => by unfold joinW tailW; simp
  | y :: r => by
    show x ++ (sep ++ joinW sep (y :: r)) = x ++ (sep ++ (y ++ tailW sep r))
    rw [joinW_eq sep y r]
def ptext (op : Int) (q : Q) : List UInt8 := if brP op q.h.op then 40 :: (textQ q ++ [41]) else textQ q
theorem textL_map (op : Int) : ∀ (l : List Q), textL op l = l.map (ptext op)
  | [] => by rw [textL]; rfl
  | q :: r => by rw [textL, textL_map op r]; rfl
theorem br_row (k : Int) {op : Int} (h : ¬ op = 8) : brP op k = decide (k = 7 ∨ k = 8) := by
  unfold brP; apply decide_eq_decide.2; omega
theorem br_or (k : Int) : brP 8 k = decide (k = 8) := by unfold brP; apply decide_eq_decide.2; omega
/-- a text that a part begins by -/
def Hed (s : List UInt8) : Prop := ∃ c r, s = c :: r ∧ c ≠ 32 ∧ c ≠ 124 ∧ c ≠ 41
theorem right_inv {h : Hd} {l : List Q} (hr : rightQ (.mk h l) = true) : rightL l = true ∧ nodeP h l.length = true := by
  rw [rightQ_mk, Bool.and_eq_true] at hr; exact hr
theorem hd_all {h : Hd} {o : Int} (h0 : h.op = o) (h1 : h.field = []) (h2 : h.text = []) (h3 : h.edits = 0 ∧ h.exact = 0) (h4 : h.lo = 0 ∧ h.hi = 0) : h = opH o := by cases h; simp only at *; rw [h0, h1, h2, h3.1, h3.2, h4.1, h4.2]
theorem join_inv {h : Hd} {n : Nat} (hn : nodeP h n = true) (ho : h.op = 8 ∨ h.op = 7) : 2 ≤ n ∧ h = opH h.op := by
  rw [node_join ho, Bool.and_eq_true, Bool.and_eq_true] at hn
  have z := noth_inv hn.2
  refine ⟨of_decide_eq_true hn.1.1, ?_⟩
  exact hd_all rfl (of_decide_eq_true hn.1.2) (z.1 rfl) (z.2.1 rfl) (z.2.2 rfl)
theorem not_inv {h : Hd} {n : Nat} (hn : nodeP h n = true) (ho : h.op = 9) : n = 1 ∧ h = opH 9 := by
  rw [node_not ho, Bool.and_eq_true, Bool.and_eq_true] at hn
  have z := noth_inv hn.2
  refine ⟨of_decide_eq_true hn.1.1, ?_⟩
  exact hd_all ho (of_decide_eq_true hn.1.2) (z.1 rfl) (z.2.1 rfl) (z.2.2 rfl)
theorem Hed.at {s : List UInt8} (h : Hed s) (ha : At t i s) : i < t.length ∧ bl t i ≠ 32 ∧ bl t i ≠ 124 ∧ bl t i ≠ 41 := by
  obtain ⟨c, r, rfl, h1, h2, h3⟩ := h
  have hb := ha.bl0
  have nn (x : UInt8) (hx : c ≠ x) : ¬ c.toNat = x.toNat := fun g => hx (UInt8.toNat_inj.1 g)
  have a1 := nn 32 h1
  have a2 := nn 124 h2
  have a3 := nn 41 h3
  simp only [UInt8.reduceToNat] at a1 a2 a3
  exact ⟨ha.in0, by omega, by omega, by omega⟩
/-- behind blanks nothing or a bracket -/
def Stp (t : List UInt8) (e : Nat) : Prop := skipP t e = t.length ∨ bl t (skipP t e) = 41
/-- .. or a bar -/
def StB (t : List UInt8) (e : Nat) : Prop := skipP t e = t.length ∨ bl t (skipP t e) = 124 ∨ bl t (skipP t e) = 41
theorem Stp.b {e : Nat} (h : Stp t e) : StB t e := h.elim .inl fun g => .inr (.inr g)
end Go.SynP


set_option linter.unusedVariables false
set_option linter.unusedSimpArgs false
namespace Go.SynP
open Go Go.Gw Go.UtfP Go.TokP Go.QryP Go.RealP Go.RealQ
def topP (p : Bool) (d : Nat) : Nat := (bif p then 1000000000000 else 1) * 10 ^ d
theorem top_step (p : Bool) (d : Nat) : topP p (d + 1) = 10 * topP p d := by unfold topP; rw [Nat.pow_succ]; rw [Nat.mul_comm 10, Nat.mul_assoc]
theorem scan_b : ∀ (l : List UInt8) (p : Bool) (n d m j : Nat), d ≤ most p → n < topP p d → scan p n d l = some (m, j) → m < 1000000000000000 ∧ j ≤ 3
  | [], p, n, d, m, j, hd, hn, h => by
    rw [scan] at h
    split at h
    · cases h
    · simp only [Option.some.injEq, Prod.mk.injEq] at h
      obtain ⟨rfl, rfl⟩ := h
      cases p with
      | false =>
        have hd : d ≤ 12 := hd
        have h1 : (10 : Nat) ^ d ≤ 10 ^ 12 := Nat.pow_le_pow_right (by decide) hd
        unfold topP at hn
        simp only [cond_false] at hn ⊢
        omega
      | true =>
        have hd : d ≤ 3 := hd
        have h1 : (10 : Nat) ^ d ≤ 10 ^ 3 := Nat.pow_le_pow_right (by decide) hd
        unfold topP at hn
        simp only [cond_true] at hn ⊢
        omega
  | c :: t, p, n, d, m, j, hd, hn, h => by
    rw [scan] at h
    split at h
    · rename_i g
      obtain ⟨_, rfl, g3⟩ := g
      refine scan_b t true n 0 m j (Nat.zero_le _) ?_ h
      have hd : d ≤ 12 := hd
      have h1 : (10 : Nat) ^ d ≤ 10 ^ 12 := Nat.pow_le_pow_right (by decide) hd
      unfold topP at hn ⊢
      simp only [cond_true, cond_false] at hn ⊢
      omega
    · split at h
      · rename_i g
        exact scan_b t p _ (d + 1) m j (by omega) (by rw [top_step]; omega) h
      · cases h
theorem val_lt (l : List UInt8) (neg : Bool) : valP (scan false 0 0 l) neg < 18446744073709551616 := by
  cases h : scan false 0 0 l with
  | none => exact (by decide : 0 < 18446744073709551616)
  | some x =>
    obtain ⟨m, j⟩ := x
    have hb := scan_b l false 0 0 m j (Nat.zero_le _) (by decide) h
    have hj : (10 : Nat) ^ j ≤ 10 ^ 3 := Nat.pow_le_pow_right (by decide) hb.2
    have hj0 : 0 < (10 : Nat) ^ j := Nat.pow_pos (by decide)
    have := ratN_lt (a := m) (b := 10 ^ j) (by omega) hj0 (by omega)
    show ratN m (10 ^ j) + (bif neg then 9223372036854775808 else 0) < _
    cases neg <;> simp only [cond_true, cond_false] <;> omega
theorem parseV_lt (t : List UInt8) : parseV t < 18446744073709551616 := by
  unfold parseV
  split
  · decide
  · split
    · decide
    · split
      · decide
      · exact val_lt _ _
theorem hexDig_lt {c : Int} {d : Nat} (h : hexDig c = some d) : d < 16 := by
  unfold hexDig at h
  split at h
  · simp only [Option.some.injEq] at h; omega
  · split at h
    · simp only [Option.some.injEq] at h; omega
    · cases h
theorem hexL_lt : ∀ (l : List UInt8) (n v : Nat), hexL l n = some v → v < (n + 1) * 16 ^ l.length
  | [], n, v, h => by simp only [hexL, Option.some.injEq] at h; subst h; simp
  | c :: r, n, v, h => by
    unfold hexL at h
    split at h
    · rename_i d hd
      have h1 := hexDig_lt hd
      have h2 := hexL_lt r _ v h
      have h3 : (16 * n + d + 1) * 16 ^ r.length ≤ (n + 1) * 16 * 16 ^ r.length := Nat.mul_le_mul_right _ (by omega)
      rw [List.length_cons, Nat.pow_succ, Nat.mul_comm (16 ^ r.length) 16, ← Nat.mul_assoc]
      omega
    · cases h
theorem hexP_lt {t : List UInt8} {v : Nat} (h : hexP t = some v) : v < 18446744073709551616 := by
  unfold hexP at h
  split at h
  · rename_i g
    have := hexL_lt _ _ _ h
    rw [List.length_drop, g.1] at this
    simpa using this
  · cases h
section
variable {s : List UInt8}
theorem number_lt {i v k : Nat} {c : Int} (h : numberP s c i = .ok (v, k)) : v < 18446744073709551616 := by
  rcases index_cases (s.drop i) c.toNat.toUInt8 with hx | ⟨m, hx, hm⟩
  · rw [number_none hx] at h; cases h
  · rw [number_eq hx] at h
    split at h
    · rename_i g; simp only [Except.ok.injEq, Prod.mk.injEq] at h; rw [← h.1]; exact hexP_lt g
    · split at h
      · simp only [Except.ok.injEq, Prod.mk.injEq] at h; rw [← h.1]; exact parseV_lt _
      · cases h
theorem num_lf (h : Hd) (h1 : 0 ≤ h.lo ∧ h.lo < 18446744073709551616) (h2 : 0 ≤ h.hi ∧ h.hi < 18446744073709551616) : numQ (.mk h []) := by rw [numQ_mk]; exact ⟨h1, h2, by rw [numL]; trivial⟩
theorem num_zero (h : Hd) (h1 : h.lo = 0) (h2 : h.hi = 0) : numQ (.mk h []) := num_lf h (by omega) (by omega)
theorem leaf_num {i : Nat} {x : Q × Nat} (h : leafP s i = .ok x) : numQ x.1 := by
  unfold leafP at h
  simp only at h
  split at h
  · cases h
  · split at h
    · cases h
    · split at h
      · split at h
        · cases h
        · rename_i lo b hb
          split at h
          · cases h
          · rename_i hi c hc
            have h1 := number_lt hb
            have h2 := number_lt hc
            simp only [Except.ok.injEq] at h; subst h
            exact num_lf _ (by simp only; omega) (by simp only; omega)
      · split at h
        · cases h
        · repeat' split at h
          all_goals first | (cases h; done) | (simp only [Except.ok.injEq] at h; subst h; exact num_zero _ rfl rfl)
theorem many_num {op : Int} {acc : List Q} (h : numL acc) : numQ (manyQ op acc) := by
  match acc, h with
  | [], h => rw [show manyQ op [] = .mk (opH op) [] from rfl]; exact num_zero _ rfl rfl
  | [q], h => rw [numL] at h; exact h.1
  | a :: b :: l, h =>
    rw [show manyQ op (a :: b :: l) = .mk (opH op) (a :: b :: l) from rfl, numQ_mk]
    exact ⟨⟨Int.le_refl _, by show (0 : Int) < _; decide⟩, ⟨Int.le_refl _, by show (0 : Int) < _; decide⟩, h⟩
theorem num_app : ∀ {a b : List Q}, numL a → numL b → numL (a ++ b)
  | [], b, _, h => h
  | q :: a, b, h1, h2 => by rw [numL] at h1; rw [List.cons_append, numL]; exact ⟨h1.1, num_app h1.2 h2⟩
theorem num_one {q : Q} (h : numQ q) : numL [q] := by rw [numL, numL]; exact ⟨h, trivial⟩
def accN : Tg → Prop
  | .EL acc => numL acc
  | .BL acc => numL acc
  | _ => True
theorem prs_num : ∀ (n : Nat) (g : Tg) (i : Nat) (q : Q) (j : Nat), accN g → prs s n g i = .ok (q, j) → numQ q
  | 0, g, i, q, j, _, h => by simp [prs] at h
  | n + 1, .E, i, q, j, _, h => by
    cases hb : prs s n .B i with
    | error k => rw [e_err hb] at h; cases h
    | ok x => obtain ⟨a, m⟩ := x; rw [e_ok hb] at h; exact prs_num n (.EL [a]) m q j (num_one (prs_num n .B i a m trivial hb)) h
  | n + 1, .EL acc, i, q, j, ha, h => by
    by_cases hc : bl s (skipP s i) = 124
    · cases hb : prs s n .B (skipP s i + 1) with
      | error k => rw [el_err hc hb] at h; cases h
      | ok x => obtain ⟨a, m⟩ := x; rw [el_ok hc hb] at h; exact prs_num n (.EL (acc ++ [a])) m q j (num_app ha (num_one (prs_num n .B _ a m trivial hb))) h
    · rw [el_end hc] at h; simp only [Except.ok.injEq, Prod.mk.injEq] at h; rw [← h.1]; exact many_num ha
  | n + 1, .B, i, q, j, _, h => by
    cases hb : prs s n .O i with
    | error k => rw [b_err hb] at h; cases h
    | ok x => obtain ⟨a, m⟩ := x; rw [b_ok hb] at h; exact prs_num n (.BL [a]) m q j (num_one (prs_num n .O i a m trivial hb)) h
  | n + 1, .BL acc, i, q, j, ha, h => by
    by_cases hc : skipP s i = s.length ∨ bl s (skipP s i) = 124 ∨ bl s (skipP s i) = 41
    · rw [bl_end hc] at h; simp only [Except.ok.injEq, Prod.mk.injEq] at h; rw [← h.1]; exact many_num ha
    · cases hb : prs s n .O (skipP s i) with
      | error k => rw [bl_err hc hb] at h; cases h
      | ok x => obtain ⟨a, m⟩ := x; rw [bl_ok hc hb] at h; exact prs_num n (.BL (acc ++ [a])) m q j (num_app ha (num_one (prs_num n .O _ a m trivial hb))) h
  | n + 1, .O, i, q, j, _, h => by
    by_cases h45 : bl s (skipP s i) = 45
    · cases hb : prs s n .O (skipP s i + 1) with
      | error k => rw [o_not_err h45 hb] at h; cases h
      | ok x =>
        obtain ⟨a, m⟩ := x
        rw [o_not h45 hb] at h
        simp only [Except.ok.injEq, Prod.mk.injEq] at h
        rw [← h.1, numQ_mk]
        exact ⟨⟨Int.le_refl _, by decide⟩, ⟨Int.le_refl _, by decide⟩, num_one (prs_num n .O _ a m trivial hb)⟩
    · by_cases h40 : bl s (skipP s i) = 40
      · cases hb : prs s n .E (skipP s i + 1) with
        | error k => rw [o_par_err h40 hb] at h; cases h
        | ok x => cases ht : takeP s 41 x.2 with
          | error y => rw [o_par_err2 h40 hb ht] at h; cases h
          | ok y =>
            rw [o_par h40 hb ht] at h
            simp only [Except.ok.injEq, Prod.mk.injEq] at h
            rw [← h.1]; exact prs_num n .E _ x.1 x.2 trivial hb
      · by_cases h42 : bl s (skipP s i) = 42
        · rw [o_all h42] at h; simp only [Except.ok.injEq, Prod.mk.injEq] at h; rw [← h.1]; exact num_zero _ rfl rfl
        · rw [o_leaf h45 h40 h42] at h; exact leaf_num h
theorem parse_num (s : List UInt8) : numQ (parseQ s).1 := by
  by_cases hl : 8192 < s.length
  · rw [parse_long hl]; exact num_zero _ rfl rfl
  · cases hp : prs s (fuel s) .E 0 with
    | error k => rw [parse_err hl hp]; exact num_zero _ rfl rfl
    | ok x =>
      obtain ⟨a, j⟩ := x
      by_cases hm : skipP s j < s.length
      · rw [parse_more hl hp hm]; exact num_zero _ rfl rfl
      · by_cases hc : checkQ a = 0
        · rw [parse_ok hl hp hm hc]; exact prs_num _ .E _ _ _ trivial hp
        · rw [parse_bad hl hp hm hc]; exact num_zero _ rfl rfl
theorem parse_bulk (s : List UInt8) : bulkQ (parseQ s).1 ≤ 16400 := by
  have h0 : bulkQ q0 ≤ 16400 := by decide
  by_cases hl : 8192 < s.length
  · rw [parse_long hl]; exact h0
  · cases hp : prs s (fuel s) .E 0 with
    | error k => rw [parse_err hl hp]; exact h0
    | ok x =>
      obtain ⟨a, j⟩ := x
      by_cases hm : skipP s j < s.length
      · rw [parse_more hl hp hm]; exact h0
      · by_cases hc : checkQ a = 0
        · rw [parse_ok hl hp hm hc]
          have h1 := prs_inv _ _ _ _ _ (Nat.zero_le _) hp
          have := prs_bulk (s := s) _ .E 0 _ _ (Nat.zero_le _) trivial hp
          simp only [bulkB] at this
          show bulkQ a ≤ 16400
          omega
        · rw [parse_bad hl hp hm hc]; exact h0
end
end Go.SynP
namespace Go.SynP
open Go Go.Gw Go.UtfP Go.TokP Go.QryP
theorem check_right {q : Q} (h : checkQ q = 0) : rightQ q = true := by
  unfold checkQ at h
  split at h
  · cases h
  · split at h
    · assumption
    · cases h
theorem print_bad {q : Q} (h : ¬ checkQ q = 0) : printQ q = ([], checkQ q) := by unfold printQ; rw [if_neg h]
theorem print_long {q : Q} (h : checkQ q = 0) (h2 : 8192 < (textQ q).length) : printQ q = ([], 4) := by unfold printQ; rw [if_pos h, if_pos h2]
theorem print_ok {q : Q} (h : checkQ q = 0) (h2 : ¬ 8192 < (textQ q).length) : printQ q = (textQ q, 0) := by unfold printQ; rw [if_pos h, if_neg h2]
end Go.SynP


set_option maxRecDepth 100000
namespace Go.SynP
open Go Go.Gw Go.UtfP Go.TokP Go.QryP Go.RealP Go.RealQ
def awkI : List UInt8 := [116, 58, 34, 102, 111, 120, 34, 32, 45, 40, 110, 58, 91, 49, 46, 53, 32, 105, 110, 102, 93, 32, 124, 32, 116, 58, 34, 97, 34, 42, 41]
def awkO : List UInt8 := [116, 58, 34, 102, 111, 120, 34, 32, 45, 40, 110, 58, 91, 35, 51, 102, 102, 56, 48, 48, 48, 48, 48, 48, 48, 48, 48, 48, 48, 48, 32, 35, 55, 102, 102, 48, 48, 48, 48, 48, 48, 48, 48, 48, 48, 48, 48, 48, 93, 32, 124, 32, 116, 58, 34, 97, 34, 42, 41]
theorem awk_read : (parseQ awkI).2.2 = 0 := by decide +kernel
theorem awk_print : printQ (parseQ awkI).1 = (awkO, 0) := by decide +kernel
end Go.SynP


namespace Go.Gw
set_option linter.unusedVariables false
set_option linter.unusedSimpArgs false
open Go.RowKit
section
variable {P : Program} {w w0 : World}
/-- bytes in a block that is new since w0 -/
def Bts (w0 w : World) (v : Value) (l : List Int) : Prop :=
  Kept [] w0 w ∧ ∃ g cap cur e fz, v = .slice (some ⟨g, 0, none⟩) l.length cap ∧ w0.heap.size ≤ g ∧ w.heap[g]? = some (.cells cur e fz) ∧ l.length ≤ fz.1 ∧ l.length ≤ cap ∧ cap ≤ maxLen ∧ l.length ≤ cur.size ∧ cur.toList.take l.length = ivals .u8 l
def numsOf (l : List UInt8) : List Int := l.map fun c => (c.toNat : Int)
theorem numsOf_len (l : List UInt8) : (numsOf l).length = l.length := by simp [numsOf]
theorem numsOf_bytes (l : List UInt8) : bytesOf (numsOf l) = l := by
  unfold bytesOf numsOf
  rw [List.map_map]
  have : (fun x : Int => UInt8.ofNat x.toNat) ∘ (fun c : UInt8 => (c.toNat : Int)) = id := by funext c; simp
  rw [this, List.map_id]
theorem numsOf_bd (l : List UInt8) : ∀ x ∈ numsOf l, 0 ≤ x ∧ x ≤ 255 := by
  intro x hx
  obtain ⟨c, _, rfl⟩ := List.mem_map.1 hx
  have := c.toNat_lt; omega
theorem numsOf_get (l : List UInt8) (j : Nat) : (numsOf l).getD j 0 = bl l j := by
  unfold numsOf bl
  rw [List.getD_eq_getElem?_getD, List.getD_eq_getElem?_getD, List.getElem?_map]
  cases l[j]? <;> simp
theorem Bts.rd {v : Value} {l : List Int} (h : Bts w0 w v l) : Rd w 1 v l.length (ivals .u8 l) := by
  obtain ⟨_, g, cap, cur, e, fz, rfl, h1, h2, h3, h4, h5, h6, h7⟩ := h
  refine ⟨by simp [ivals], some ⟨g, 0, none⟩, cap, rfl, h4, h5, (fun e => by cases e), fun ad e => ?_⟩
  simp only [Option.some.injEq] at e
  subst e
  refine ⟨.inr rfl, fun j u hu => ?_⟩
  have hj : j < l.length := by have := (List.getElem?_eq_some_iff.1 hu).1; simpa [ivals] using this
  rw [← h7, List.getElem?_take_of_lt hj] at hu
  simp only [Nat.zero_add]
  unfold World.cell?
  simp only [h2]
  simpa using hu
theorem bts_of {src dst e : TypeId} (hs : P.underlying src = some .string) (hd : P.underlying dst = some (.slice e)) (he : P.underlying e = some (.int .u8)) {L : List Row} (hM : Mem [] w0 w L) (l : List UInt8) (hl : l.length ≤ 140737488355328) :
    ∃ v w', (convert src dst (.string (sb l))).run P w = .ok v w' ∧ Mem [] w0 w' L ∧ Bts w0 w' v (numsOf l) := by
  have hrun := run_bytes_of_string (P := P) w src dst e (sb l) hs hd he
  rw [sb_size] at hrun
  refine ⟨_, _, hrun, ?_, ?_⟩
  · refine hM.same ⟨rfl, rfl, rfl, ?_, fun k hk _ => ?_⟩
    · show w.heap.size ≤ (w.heap.push _).size
      simp
    · show (w.heap.push _)[k]? = w.heap[k]?
      rw [Array.getElem?_push_lt hk, Array.getElem?_eq_getElem hk]
  · have hge := grownCap_ge w l.length 0 e
    have hmx := grownCap_le_maxLen w l.length 0 e (by simp only [maxLen]; omega)
    have hsz : (bytesRow (sb l) (grownCap w l.length 0 e)).size = grownCap w l.length 0 e := by
      have h1 : (sb l).data.size = l.length := by simp [sb]
      simp only [bytesRow, Array.size_append, Array.size_map, Array.size_replicate, sb_size, h1]; omega
    refine ⟨hM.kept.trans ⟨rfl, rfl, rfl, ?_, fun k hk _ => ?_⟩, w.heap.size, grownCap w l.length 0 e, bytesRow (sb l) (grownCap w l.length 0 e), e, ((bytesRow (sb l) (grownCap w l.length 0 e)).size, (bytesRow (sb l) (grownCap w l.length 0 e)).size + 1), by rw [numsOf_len], hM.kept.size, ?_, ?_, by rw [numsOf_len]; exact hge, hmx, ?_, ?_⟩
    · show w.heap.size ≤ (w.heap.push _).size
      simp
    · show (w.heap.push _)[k]? = w.heap[k]?
      rw [Array.getElem?_push_lt hk, Array.getElem?_eq_getElem hk]
    · show (w.heap.push _)[w.heap.size]? = _
      exact Array.getElem?_push_size
    · show (numsOf l).length ≤ (bytesRow (sb l) _).size
      rw [numsOf_len, hsz]; exact hge
    · rw [numsOf_len, hsz]; exact hge
    · rw [numsOf_len]
      simp only [bytesRow, Array.toList_append, Array.toList_map]
      rw [List.take_append_of_le_length (by simp [sb])]
      rw [List.take_of_length_le (by simp [sb])]
      simp [sb, ivals, numsOf]
end
end Go.Gw


namespace Go.SynP
set_option linter.unusedVariables false
open Go Go.Gw Go.UtfP
/-- a letter's bit of case set -/
def lowI (c : Int) : Int := IntKind.wrap .u8 ((BitVec.ofInt (IntKind.bits .u8) c ||| BitVec.ofInt (IntKind.bits .u8) 32).toNat : Int)
def digU (c : Int) : Option Nat := if 48 ≤ c ∧ c ≤ 57 then some (c - 48).toNat else if 97 ≤ lowI c ∧ lowI c ≤ 102 then some (lowI c - 87).toNat else none
def hexU : List UInt8 → Nat → Option Nat
  | [], n => some n
  | c :: r, n => match digU (c.toNat : Int) with
    | some d => hexU r (16 * n + d)
    | none => none
set_option maxRecDepth 100000 in
theorem low_all : ∀ i : Fin 256, (lowI (i.val : Int) < 256 ∧ 32 ≤ lowI (i.val : Int)) ∧ (i.val < 128 → ¬ (65 ≤ i.val ∧ i.val ≤ 90) → digU (i.val : Int) = hexDig (i.val : Int)) ∧ (128 ≤ i.val → digU (i.val : Int) = none ∧ hexDig (i.val : Int) = none) ∧ ((65 ≤ i.val ∧ i.val ≤ 90) → hexDig (i.val : Int) = none) := by decide
theorem low_bd {c : Int} (h : 0 ≤ c ∧ c ≤ 255) : lowI c < 256 ∧ 32 ≤ lowI c := by
  have := (low_all ⟨c.toNat, by omega⟩).1
  rwa [show ((c.toNat : Nat) : Int) = c by omega] at this
theorem hexU_step {t : List UInt8} {j n : Nat} (h : j < t.length) : hexU (t.drop j) n = match digU (bl t j) with
  | some d => hexU (t.drop (j + 1)) (16 * n + d)
  | none => none := by
  rw [List.drop_eq_getElem_cons h]
  have : bl t j = ((t[j].toNat : Nat) : Int) := by unfold bl; rw [List.getD_eq_getElem?_getD, List.getElem?_eq_getElem h]; rfl
  rw [this]; rfl
theorem hexU_at {t : List UInt8} {j n : Nat} (h : j < t.length) : hexU (t.drop j) n = match digU (List.getD (numsOf t) j 0) with
  | some d => hexU (t.drop (j + 1)) (16 * n + d)
  | none => none := by rw [numsOf_get]; exact hexU_step h
theorem hexU_end {t : List UInt8} {j n : Nat} (h : ¬ j < t.length) : hexU (t.drop j) n = some n := by rw [List.drop_eq_nil_of_le (by omega)]; rfl
theorem dig_num {c : Int} (h : 48 ≤ c ∧ c ≤ 57) : digU c = some (c - 48).toNat := if_pos h
theorem dig_let {c : Int} (h : ¬ (48 ≤ c ∧ c ≤ 57)) (h2 : 97 ≤ lowI c ∧ lowI c ≤ 102) : digU c = some (lowI c - 87).toNat := by unfold digU; rw [if_neg h, if_pos h2]
theorem dig_no {c : Int} (h : ¬ (48 ≤ c ∧ c ≤ 57)) (h2 : ¬ (97 ≤ lowI c ∧ lowI c ≤ 102)) : digU c = none := by unfold digU; rw [if_neg h, if_neg h2]
/-- room: a number of j digits -/
theorem pow_room {j n : Nat} (hj : j < 16) (h : n < 16 ^ j) : n < 1152921504606846976 :=
  Nat.lt_of_lt_of_le h (Nat.le_trans (Nat.pow_le_pow_right (by omega) (show j ≤ 15 by omega)) (by decide))
theorem pow_step {j n d : Nat} (h : n < 16 ^ j) (hd : d < 16) : 16 * n + d < 16 ^ (j + 1) := by rw [Nat.pow_succ]; omega
/-- where no capital stands, and all is ASCII, both read alike -/
theorem hexU_same : ∀ (t : List UInt8) (n : Nat), (∀ b ∈ t, b.toNat < 128 → ¬ (65 ≤ b.toNat ∧ b.toNat ≤ 90)) → hexU t n = hexL t n
  | [], n, _ => rfl
  | c :: r, n, h => by
    have hc : c.toNat < 256 := c.toNat_lt
    have g := low_all ⟨c.toNat, hc⟩
    have e : digU (c.toNat : Int) = hexDig (c.toNat : Int) := by
      by_cases h1 : c.toNat < 128
      · exact g.2.1 h1 (h c List.mem_cons_self h1)
      · rw [(g.2.2.1 (by simp only; omega)).1, (g.2.2.1 (by simp only; omega)).2]
    unfold hexU hexL
    rw [e]
    cases hexDig (c.toNat : Int) with
    | none => rfl
    | some d => exact hexU_same r _ (fun b hb => h b (List.mem_cons_of_mem _ hb))
/-- what the parser reads has no capital and is ASCII -/
theorem hexL_small : ∀ (t : List UInt8) (n : Nat) (v : Nat), hexL t n = some v → ∀ b ∈ t, b.toNat < 128 ∧ ¬ (65 ≤ b.toNat ∧ b.toNat ≤ 90) ∧ b.toNat ≠ 95 ∧ b.toNat ≠ 43 ∧ b.toNat ≠ 45
  | [], _, _, _, b, hb => by cases hb
  | c :: r, n, v, h, b, hb => by
    unfold hexL at h
    split at h
    · rename_i d hd
      rcases List.mem_cons.1 hb with rfl | hb
      · unfold hexDig at hd
        split at hd
        · omega
        · split at hd
          · omega
          · cases hd
      · exact hexL_small r _ _ h b hb
    · cases h
end Go.SynP


namespace Go.SynP
set_option linter.unusedVariables false
open Go Go.Gw Go.UtfP
variable {t : List UInt8}
set_option maxRecDepth 100000 in
theorem lowerB_all : ∀ i : Fin 256, Lib.lowerB (UInt8.ofNat i.val) = UInt8.ofNat i.val ↔ ¬ (65 ≤ i.val ∧ i.val ≤ 90) := by decide
theorem lowerB_iff (b : UInt8) : Lib.lowerB b = b ↔ ¬ (65 ≤ b.toNat ∧ b.toNat ≤ 90) := by
  have := lowerB_all ⟨b.toNat, b.toNat_lt⟩
  simpa using this
theorem lowerA_iff : ∀ (l : List UInt8), Lib.toLowerA l = l ↔ ∀ b ∈ l, ¬ (65 ≤ b.toNat ∧ b.toNat ≤ 90)
  | [] => by simp [Lib.toLowerA]
  | b :: l => by
    have ih := lowerA_iff l
    unfold Lib.toLowerA at *
    simp only [List.map_cons, List.cons.injEq, List.mem_cons, forall_eq_or_imp]
    rw [ih, lowerB_iff]
theorem hexU_ascii : ∀ (l : List UInt8) (n v : Nat), hexU l n = some v → ∀ b ∈ l, b.toNat < 128
  | [], _, _, _, b, hb => by cases hb
  | c :: r, n, v, h, b, hb => by
    unfold hexU at h
    split at h
    · rename_i d hd
      rcases List.mem_cons.1 hb with rfl | hb
      · have := (low_all ⟨b.toNat, b.toNat_lt⟩).2.2.1
        rcases Nat.lt_or_ge b.toNat 128 with g | g
        · exact g
        · rw [(this g).1] at hd; cases hd
      · exact hexU_ascii r _ _ h b hb
    · cases h
theorem mem_drop {b : UInt8} (h : b ∈ t) : b = t.getD 0 0 ∨ b ∈ t.drop 1 := by
  match t, h with
  | c :: r, h => rcases List.mem_cons.1 h with rfl | h
                 · exact .inl rfl
                 · exact .inr h
theorem first_byte (h : bl t 0 = 35) : t.getD 0 0 = 35 := by
  unfold bl at h
  have h2 : (t.getD 0 0).toNat = 35 := by omega
  exact UInt8.toNat_inj.1 h2
theorem hexP_none (h : ¬ (t.length = 17 ∧ bl t 0 = 35)) : hexP t = none := if_neg h
theorem hexP_small {v : Nat} (h : hexP t = some v) : t.length = 17 ∧ bl t 0 = 35 ∧ hexL (t.drop 1) 0 = some v ∧ ∀ b ∈ t, b.toNat < 128 ∧ ¬ (65 ≤ b.toNat ∧ b.toNat ≤ 90) ∧ b.toNat ≠ 95 ∧ b.toNat ≠ 43 ∧ b.toNat ≠ 45 := by
  unfold hexP at h
  split at h
  · rename_i g
    refine ⟨g.1, g.2, h, fun b hb => ?_⟩
    rcases mem_drop hb with rfl | hb
    · rw [first_byte g.2]; decide
    · exact hexL_small _ _ _ h b hb
  · cases h
theorem hexP_low (h : ¬ Lib.toLowerD t = t) : hexP t = none := by
  cases hp : hexP t with
  | none => rfl
  | some v =>
    have g := (hexP_small hp).2.2.2
    exact absurd ((Lib.toLowerD_ascii t (fun b hb => (g b hb).1)).trans ((lowerA_iff t).2 (fun b hb => (g b hb).2.1))) h
theorem hexP_sign (hl : t.length = 17) (h : bl t 1 = 43 ∨ bl t 1 = 45) : hexP t = none := by
  cases hp : hexP t with
  | none => rfl
  | some v =>
    have g := (hexP_small hp).2.2.2 (t.getD 1 0) (by rw [List.getD_eq_getElem?_getD, List.getElem?_eq_getElem (show 1 < t.length by omega)]; exact List.getElem_mem _)
    unfold bl at h
    omega
theorem index_mem : ∀ (l : List UInt8) (c : UInt8), 0 ≤ Lib.indexByte l c → c ∈ l
  | [], c, h => by simp [Lib.indexByte] at h
  | b :: l, c, h => by
    unfold Lib.indexByte at h
    split at h
    · rename_i g
      simp only [beq_iff_eq] at g
      rw [g]; exact List.mem_cons_self
    · split at h
      · omega
      · rename_i g2
        simp only [beq_iff_eq] at g2
        have g3 := Lib.indexByte_ge l c
        exact List.mem_cons_of_mem _ (index_mem l c (by omega))
theorem hexP_under (h : 0 ≤ Lib.indexByte t 95) : hexP t = none := by
  cases hp : hexP t with
  | none => rfl
  | some v => exact absurd rfl ((hexP_small hp).2.2.2 95 (index_mem _ _ h)).2.2.1
theorem hexP_bad (h : hexU (t.drop 1) 0 = none) : hexP t = none := by
  cases hp : hexP t with
  | none => rfl
  | some v =>
    obtain ⟨g1, g2, g3, g4⟩ := hexP_small hp
    rw [hexU_same _ _ (fun b hb _ => (g4 b (List.mem_of_mem_drop hb)).2.1), g3] at h
    cases h
theorem hexP_yes {v : Nat} (hl : t.length = 17) (h0 : bl t 0 = 35) (hd : Lib.toLowerD t = t) (h : hexU (t.drop 1) 0 = some v) : hexP t = some v := by
  have ha : ∀ b ∈ t, b.toNat < 128 := fun b hb => by
    rcases mem_drop hb with rfl | hb
    · rw [first_byte h0]; decide
    · exact hexU_ascii _ _ _ h b hb
  have hs := (lowerA_iff t).1 ((Lib.toLowerD_ascii t ha).symm.trans hd)
  unfold hexP
  rw [if_pos ⟨hl, h0⟩, ← hexU_same _ _ (fun b hb _ => hs b (List.mem_of_mem_drop hb)), h]
end Go.SynP


namespace Go.Proofs.YthpodbngljfdmaaGreatDoor
open Go Go.Gw Go.UtfP Go.TokP Go.QryP Go.SynP Go.RealQ Go.SynV Go.RowKit
set_option linter.unusedVariables false
set_option linter.unusedSimpArgs false
set_option maxRecDepth 20000
theorem pE5 : Plain Tryz.prog 5 := ⟨.int .u8, by kernel_rfl, (fun _ h => by cases h), (fun _ _ h => by cases h)⟩
theorem pE89 : Plain Tryz.prog 89 := ⟨.interface #[("Error", 92)], by kernel_rfl, (fun _ h => by cases h), (fun _ _ h => by cases h)⟩


set_option maxHeartbeats 400000 in
theorem low_c (c : Int) (hc : 0 ≤ c ∧ c ≤ 255) (w : World) :
  Calls Tryz.prog 179 #[.int .u8 c] w (fun e w' => e = .returned (.int .u8 (lowI c)) ∧ w = w') := by
 refine xe 5 Tryz.func179 (fun R hR => ?_)
 exact xr 10 Tryz.func179 hR ⟨rfl, rfl⟩

set_option maxHeartbeats 1000000 in
theorem pu16_L (t : List UInt8) (ht : t.length = 16) (v : Value) {w0 : World} (w : World) (hm : Mem [] w0 w []) (hv : Rd w 1 v (List.length (numsOf t)) (ivals .u8 (numsOf t))) (R : Ending → World → Prop) (hR : R = (fun e w' => e = (match hexU t 0 with | some v => (.returned (.tuple #[.int .u64 ((v : Nat) : Int), .nilIface]) : Ending) | none => .returned (.tuple #[.int .u64 0, (.iface 226 (.int .i64 2))])) ∧ Mem [] w0 w' [])) : ∀ (N : Nat) (j n : Nat) (hj : j ≤ 16) (hX : hexU (t.drop j) n = hexU t 0) (hn : n < 16 ^ j) (hN : 16 - j < N), GoS Tryz.prog 163 R 172 [iC Tryz.f163 [1,1,1,1,1,1,1,1,1,1,1,0,1,0,0], iL Tryz.f163 [1,1,1,1,1,1,1,1,1,1,1,0,1,0,0], .inBlock 3, iC Tryz.f163 [1,1,1,1,1,1,1,1,1,1,1,1]] [(1, .int .i64 16), (8, .bool false), (9, sS t), (10, .int .u64 1152921504606846976), (11, .int .u64 18446744073709551615), (12, .bool false), (13, .int .u64 ((n : Nat) : Int)), (99, v), (100, iN (List.length (numsOf t))), (101, iN j)] w := by
 intro N
 induction N with
 | zero => intro j n hj hX hn hN; exact absurd hN (Nat.not_lt_zero _)
 | succ N ih =>
  intro j n hj hX hn hN
  have hM := Mem.start w
  have hnl := numsOf_len t
  have hr : n < 1152921504606846976 ∨ ¬ j < 16 := (Nat.lt_or_ge j 16).elim (fun h => .inl (pow_room h hn)) (fun h => .inr (by omega))
  have hb0 := numsOf_get t j
  have hb1 := bl_bd t j
  have hlw := low_bd (c := (List.getD (numsOf t) j 0)) (by omega)
  refine xs ?_
  refine xc 5 (((j : Nat) : Int) < (((List.length (numsOf t)) : Nat) : Int)) (fun h1p => ?_) (fun h1p => ?_)
  ·
   refine xat 5 sT76 (hv.kept0 hM.kept) ((j : Nat) : Int) j (fun p2 hp3 => ?_) (hj := (by first | omega | (rw [numsOf_len]; omega)))
   refine xv 0 (at_load pE5 (hv.kept0 hM.kept) hp3 (ivals_at (by first | omega | (rw [numsOf_len]; omega)))) ?_
   refine xfc 13 109 ((List.getD (numsOf t) j 0) = 95) (fun h7p => ?_) (fun h7p => ?_)
   ·
    refine xfc 10 115 (48 ≤ (List.getD (numsOf t) j 0)) (fun h8p => ?_) (fun h8p => ?_)
    ·
     refine xc 5 ((List.getD (numsOf t) j 0) ≤ 57) (fun h9p => ?_) (fun h9p => ?_)
     ·
      refine xsub 2 .u8 (List.getD (numsOf t) j 0) 48 ((List.getD (numsOf t) j 0) - 48) (IntWalk.u8_in _ (by omega)) ?_
      refine xc 11 (((List.getD (numsOf t) j 0) - 48) ≥ 16) (fun h18p => ?_) (fun h18p => ?_)
      ·
       exact xr 6 (v := .tuple #[.int .u64 0, (.iface 226 (.int .i64 2))]) Tryz.func163 hR ⟨by rw [← hX, hexU_at (by omega), dig_no (by omega) (by omega)], (hm.j hM).none⟩
      ·
       refine xc 8 (((n : Nat) : Int) ≥ 1152921504606846976) (fun h19p => ?_) (fun h19p => ?_)
       ·
        omega
       ·
        refine xmul 6 .u64 ((n : Nat) : Int) 16 (((n * 16) : Nat) : Int) (by rw [show ((n : Nat) : Int) * 16 = (((n * 16) : Nat) : Int) by omega]; exact IntWalk.u64_in _ (by omega)) ?_
        refine xcv 6 .u8 .u64 ((List.getD (numsOf t) j 0) - 48) ((List.getD (numsOf t) j 0) - 48) (IntWalk.u64_in _ (by omega)) ?_
        refine xadd 0 .u64 (((n * 16) : Nat) : Int) ((List.getD (numsOf t) j 0) - 48) ((((n * 16) : Nat) : Int) + ((List.getD (numsOf t) j 0) - 48)) (IntWalk.u64_in _ (by omega)) ?_
        refine xfc 9 155 (((((n * 16) : Nat) : Int) + ((List.getD (numsOf t) j 0) - 48)) < (((n * 16) : Nat) : Int)) (fun h23p => ?_) (fun h23p => ?_)
        ·
         omega
        ·
         refine xc 5 (((((n * 16) : Nat) : Int) + ((List.getD (numsOf t) j 0) - 48)) > 18446744073709551615) (fun h24p => ?_) (fun h24p => ?_)
         ·
          omega
         ·
          refine xadd 7 .i64 ((j : Nat) : Int) 1 (((j + 1) : Nat) : Int) (by rw [show ((j : Nat) : Int) + 1 = (((j + 1) : Nat) : Int) by omega]; exact IntWalk.i64_in _ (by omega)) ?_
          exact xl 3 (l := [(1, .int .i64 16), (8, .bool false), (9, sS t), (10, .int .u64 1152921504606846976), (11, .int .u64 18446744073709551615), (12, .bool false), (13, .int .u64 ((((n * 16) : Nat) : Int) + ((List.getD (numsOf t) j 0) - 48))), (99, v), (100, iN (List.length (numsOf t))), (101, iN (j + 1))]) (GoS.cast (by rw [show (((16 * n + (Int.toNat ((List.getD (numsOf t) j 0) - 48)) : Nat)) : Int) = ((((n * 16) : Nat) : Int) + ((List.getD (numsOf t) j 0) - 48)) by omega]) (ih (j + 1) (16 * n + (Int.toNat ((List.getD (numsOf t) j 0) - 48))) (by omega) (by rw [← hX, hexU_at (n := n) (by omega), dig_num (by omega)]) (pow_step hn (by omega)) (by omega)))
     ·
      have hb11 := low_bd (c := (List.getD (numsOf t) j 0)) (by omega)
      refine xka 3 (low_c (List.getD (numsOf t) j 0) (by omega) w) ?_
      refine xfc 2 125 (97 ≤ (lowI (List.getD (numsOf t) j 0))) (fun h12p => ?_) (fun h12p => ?_)
      ·
       have hb13 := low_bd (c := (List.getD (numsOf t) j 0)) (by omega)
       refine xka 1 (low_c (List.getD (numsOf t) j 0) (by omega) w) ?_
       refine xc 4 ((lowI (List.getD (numsOf t) j 0)) ≤ 122) (fun h14p => ?_) (fun h14p => ?_)
       ·
        have hb15 := low_bd (c := (List.getD (numsOf t) j 0)) (by omega)
        refine xka 2 (low_c (List.getD (numsOf t) j 0) (by omega) w) ?_
        refine xsub 0 .u8 (lowI (List.getD (numsOf t) j 0)) 97 ((lowI (List.getD (numsOf t) j 0)) - 97) (IntWalk.u8_in _ (by omega)) ?_
        refine xadd 0 .u8 ((lowI (List.getD (numsOf t) j 0)) - 97) 10 (((lowI (List.getD (numsOf t) j 0)) - 97) + 10) (IntWalk.u8_in _ (by omega)) ?_
        refine xc 11 ((((lowI (List.getD (numsOf t) j 0)) - 97) + 10) ≥ 16) (fun h26p => ?_) (fun h26p => ?_)
        ·
         exact xr 6 (v := .tuple #[.int .u64 0, (.iface 226 (.int .i64 2))]) Tryz.func163 hR ⟨by rw [← hX, hexU_at (by omega), dig_no (by omega) (by omega)], (hm.j hM).none⟩
        ·
         refine xc 8 (((n : Nat) : Int) ≥ 1152921504606846976) (fun h27p => ?_) (fun h27p => ?_)
         ·
          omega
         ·
          refine xmul 6 .u64 ((n : Nat) : Int) 16 (((n * 16) : Nat) : Int) (by rw [show ((n : Nat) : Int) * 16 = (((n * 16) : Nat) : Int) by omega]; exact IntWalk.u64_in _ (by omega)) ?_
          refine xcv 6 .u8 .u64 (((lowI (List.getD (numsOf t) j 0)) - 97) + 10) (((lowI (List.getD (numsOf t) j 0)) - 97) + 10) (IntWalk.u64_in _ (by omega)) ?_
          refine xadd 0 .u64 (((n * 16) : Nat) : Int) (((lowI (List.getD (numsOf t) j 0)) - 97) + 10) ((((n * 16) : Nat) : Int) + (((lowI (List.getD (numsOf t) j 0)) - 97) + 10)) (IntWalk.u64_in _ (by omega)) ?_
          refine xfc 9 155 (((((n * 16) : Nat) : Int) + (((lowI (List.getD (numsOf t) j 0)) - 97) + 10)) < (((n * 16) : Nat) : Int)) (fun h31p => ?_) (fun h31p => ?_)
          ·
           refine xr0 13 (v := .tuple #[.int .u64 18446744073709551615, (.iface 226 (.int .i64 1))]) Tryz.func163 ?_
           rw [hR]
           exfalso
           omega
          ·
           refine xc 5 (((((n * 16) : Nat) : Int) + (((lowI (List.getD (numsOf t) j 0)) - 97) + 10)) > 18446744073709551615) (fun h32p => ?_) (fun h32p => ?_)
           ·
            omega
           ·
            refine xadd 7 .i64 ((j : Nat) : Int) 1 (((j + 1) : Nat) : Int) (by rw [show ((j : Nat) : Int) + 1 = (((j + 1) : Nat) : Int) by omega]; exact IntWalk.i64_in _ (by omega)) ?_
            exact xl 3 (l := [(1, .int .i64 16), (8, .bool false), (9, sS t), (10, .int .u64 1152921504606846976), (11, .int .u64 18446744073709551615), (12, .bool false), (13, .int .u64 ((((n * 16) : Nat) : Int) + (((lowI (List.getD (numsOf t) j 0)) - 97) + 10))), (99, v), (100, iN (List.length (numsOf t))), (101, iN (j + 1))]) (GoS.cast (by rw [show (((16 * n + (Int.toNat (lowI (List.getD (numsOf t) j 0) - 87)) : Nat)) : Int) = ((((n * 16) : Nat) : Int) + (((lowI (List.getD (numsOf t) j 0)) - 97) + 10)) by omega]) (ih (j + 1) (16 * n + (Int.toNat (lowI (List.getD (numsOf t) j 0) - 87))) (by omega) (by rw [← hX, hexU_at (n := n) (by omega), dig_let (by omega) (by omega)]) (pow_step hn (by omega)) (by omega)))
       ·
        exact xr 6 (v := .tuple #[.int .u64 0, (.iface 226 (.int .i64 2))]) Tryz.func163 hR ⟨by rw [← hX, hexU_at (by omega), dig_no (by omega) (by omega)], (hm.j hM).none⟩
      ·
       exact xr 13 (v := .tuple #[.int .u64 0, (.iface 226 (.int .i64 2))]) Tryz.func163 hR ⟨by rw [← hX, hexU_at (by omega), dig_no (by omega) (by omega)], (hm.j hM).none⟩
    ·
     have hb34 := low_bd (c := (List.getD (numsOf t) j 0)) (by omega)
     refine xka 9 (low_c (List.getD (numsOf t) j 0) (by omega) w) ?_
     refine xfc 2 125 (97 ≤ (lowI (List.getD (numsOf t) j 0))) (fun h35p => ?_) (fun h35p => ?_)
     ·
      have hb36 := low_bd (c := (List.getD (numsOf t) j 0)) (by omega)
      refine xka 1 (low_c (List.getD (numsOf t) j 0) (by omega) w) ?_
      refine xc 4 ((lowI (List.getD (numsOf t) j 0)) ≤ 122) (fun h37p => ?_) (fun h37p => ?_)
      ·
       have hb38 := low_bd (c := (List.getD (numsOf t) j 0)) (by omega)
       refine xka 2 (low_c (List.getD (numsOf t) j 0) (by omega) w) ?_
       refine xsub 0 .u8 (lowI (List.getD (numsOf t) j 0)) 97 ((lowI (List.getD (numsOf t) j 0)) - 97) (IntWalk.u8_in _ (by omega)) ?_
       refine xadd 0 .u8 ((lowI (List.getD (numsOf t) j 0)) - 97) 10 (((lowI (List.getD (numsOf t) j 0)) - 97) + 10) (IntWalk.u8_in _ (by omega)) ?_
       refine xc 11 ((((lowI (List.getD (numsOf t) j 0)) - 97) + 10) ≥ 16) (fun h41p => ?_) (fun h41p => ?_)
       ·
        exact xr 6 (v := .tuple #[.int .u64 0, (.iface 226 (.int .i64 2))]) Tryz.func163 hR ⟨by rw [← hX, hexU_at (by omega), dig_no (by omega) (by omega)], (hm.j hM).none⟩
       ·
        refine xc 8 (((n : Nat) : Int) ≥ 1152921504606846976) (fun h42p => ?_) (fun h42p => ?_)
        ·
         omega
        ·
         refine xmul 6 .u64 ((n : Nat) : Int) 16 (((n * 16) : Nat) : Int) (by rw [show ((n : Nat) : Int) * 16 = (((n * 16) : Nat) : Int) by omega]; exact IntWalk.u64_in _ (by omega)) ?_
         refine xcv 6 .u8 .u64 (((lowI (List.getD (numsOf t) j 0)) - 97) + 10) (((lowI (List.getD (numsOf t) j 0)) - 97) + 10) (IntWalk.u64_in _ (by omega)) ?_
         refine xadd 0 .u64 (((n * 16) : Nat) : Int) (((lowI (List.getD (numsOf t) j 0)) - 97) + 10) ((((n * 16) : Nat) : Int) + (((lowI (List.getD (numsOf t) j 0)) - 97) + 10)) (IntWalk.u64_in _ (by omega)) ?_
         refine xfc 9 155 (((((n * 16) : Nat) : Int) + (((lowI (List.getD (numsOf t) j 0)) - 97) + 10)) < (((n * 16) : Nat) : Int)) (fun h46p => ?_) (fun h46p => ?_)
         ·
          refine xr0 13 (v := .tuple #[.int .u64 18446744073709551615, (.iface 226 (.int .i64 1))]) Tryz.func163 ?_
          rw [hR]
          exfalso
          omega
         ·
          refine xc 5 (((((n * 16) : Nat) : Int) + (((lowI (List.getD (numsOf t) j 0)) - 97) + 10)) > 18446744073709551615) (fun h47p => ?_) (fun h47p => ?_)
          ·
           omega
          ·
           refine xadd 7 .i64 ((j : Nat) : Int) 1 (((j + 1) : Nat) : Int) (by rw [show ((j : Nat) : Int) + 1 = (((j + 1) : Nat) : Int) by omega]; exact IntWalk.i64_in _ (by omega)) ?_
           exact xl 3 (l := [(1, .int .i64 16), (8, .bool false), (9, sS t), (10, .int .u64 1152921504606846976), (11, .int .u64 18446744073709551615), (12, .bool false), (13, .int .u64 ((((n * 16) : Nat) : Int) + (((lowI (List.getD (numsOf t) j 0)) - 97) + 10))), (99, v), (100, iN (List.length (numsOf t))), (101, iN (j + 1))]) (GoS.cast (by rw [show (((16 * n + (Int.toNat (lowI (List.getD (numsOf t) j 0) - 87)) : Nat)) : Int) = ((((n * 16) : Nat) : Int) + (((lowI (List.getD (numsOf t) j 0)) - 97) + 10)) by omega]) (ih (j + 1) (16 * n + (Int.toNat (lowI (List.getD (numsOf t) j 0) - 87))) (by omega) (by rw [← hX, hexU_at (n := n) (by omega), dig_let (by omega) (by omega)]) (pow_step hn (by omega)) (by omega)))
      ·
       exact xr 6 (v := .tuple #[.int .u64 0, (.iface 226 (.int .i64 2))]) Tryz.func163 hR ⟨by rw [← hX, hexU_at (by omega), dig_no (by omega) (by omega)], (hm.j hM).none⟩
     ·
      exact xr 13 (v := .tuple #[.int .u64 0, (.iface 226 (.int .i64 2))]) Tryz.func163 hR ⟨by rw [← hX, hexU_at (by omega), dig_no (by omega) (by omega)], (hm.j hM).none⟩
   ·
    refine xfc 10 115 (48 ≤ (List.getD (numsOf t) j 0)) (fun h49p => ?_) (fun h49p => ?_)
    ·
     refine xc 5 ((List.getD (numsOf t) j 0) ≤ 57) (fun h50p => ?_) (fun h50p => ?_)
     ·
      refine xsub 2 .u8 (List.getD (numsOf t) j 0) 48 ((List.getD (numsOf t) j 0) - 48) (IntWalk.u8_in _ (by omega)) ?_
      refine xc 11 (((List.getD (numsOf t) j 0) - 48) ≥ 16) (fun h59p => ?_) (fun h59p => ?_)
      ·
       exact xr 6 (v := .tuple #[.int .u64 0, (.iface 226 (.int .i64 2))]) Tryz.func163 hR ⟨by rw [← hX, hexU_at (by omega), dig_no (by omega) (by omega)], (hm.j hM).none⟩
      ·
       refine xc 8 (((n : Nat) : Int) ≥ 1152921504606846976) (fun h60p => ?_) (fun h60p => ?_)
       ·
        omega
       ·
        refine xmul 6 .u64 ((n : Nat) : Int) 16 (((n * 16) : Nat) : Int) (by rw [show ((n : Nat) : Int) * 16 = (((n * 16) : Nat) : Int) by omega]; exact IntWalk.u64_in _ (by omega)) ?_
        refine xcv 6 .u8 .u64 ((List.getD (numsOf t) j 0) - 48) ((List.getD (numsOf t) j 0) - 48) (IntWalk.u64_in _ (by omega)) ?_
        refine xadd 0 .u64 (((n * 16) : Nat) : Int) ((List.getD (numsOf t) j 0) - 48) ((((n * 16) : Nat) : Int) + ((List.getD (numsOf t) j 0) - 48)) (IntWalk.u64_in _ (by omega)) ?_
        refine xfc 9 155 (((((n * 16) : Nat) : Int) + ((List.getD (numsOf t) j 0) - 48)) < (((n * 16) : Nat) : Int)) (fun h64p => ?_) (fun h64p => ?_)
        ·
         omega
        ·
         refine xc 5 (((((n * 16) : Nat) : Int) + ((List.getD (numsOf t) j 0) - 48)) > 18446744073709551615) (fun h65p => ?_) (fun h65p => ?_)
         ·
          omega
         ·
          refine xadd 7 .i64 ((j : Nat) : Int) 1 (((j + 1) : Nat) : Int) (by rw [show ((j : Nat) : Int) + 1 = (((j + 1) : Nat) : Int) by omega]; exact IntWalk.i64_in _ (by omega)) ?_
          exact xl 3 (l := [(1, .int .i64 16), (8, .bool false), (9, sS t), (10, .int .u64 1152921504606846976), (11, .int .u64 18446744073709551615), (12, .bool false), (13, .int .u64 ((((n * 16) : Nat) : Int) + ((List.getD (numsOf t) j 0) - 48))), (99, v), (100, iN (List.length (numsOf t))), (101, iN (j + 1))]) (GoS.cast (by rw [show (((16 * n + (Int.toNat ((List.getD (numsOf t) j 0) - 48)) : Nat)) : Int) = ((((n * 16) : Nat) : Int) + ((List.getD (numsOf t) j 0) - 48)) by omega]) (ih (j + 1) (16 * n + (Int.toNat ((List.getD (numsOf t) j 0) - 48))) (by omega) (by rw [← hX, hexU_at (n := n) (by omega), dig_num (by omega)]) (pow_step hn (by omega)) (by omega)))
     ·
      have hb52 := low_bd (c := (List.getD (numsOf t) j 0)) (by omega)
      refine xka 3 (low_c (List.getD (numsOf t) j 0) (by omega) w) ?_
      refine xfc 2 125 (97 ≤ (lowI (List.getD (numsOf t) j 0))) (fun h53p => ?_) (fun h53p => ?_)
      ·
       have hb54 := low_bd (c := (List.getD (numsOf t) j 0)) (by omega)
       refine xka 1 (low_c (List.getD (numsOf t) j 0) (by omega) w) ?_
       refine xc 4 ((lowI (List.getD (numsOf t) j 0)) ≤ 122) (fun h55p => ?_) (fun h55p => ?_)
       ·
        have hb56 := low_bd (c := (List.getD (numsOf t) j 0)) (by omega)
        refine xka 2 (low_c (List.getD (numsOf t) j 0) (by omega) w) ?_
        refine xsub 0 .u8 (lowI (List.getD (numsOf t) j 0)) 97 ((lowI (List.getD (numsOf t) j 0)) - 97) (IntWalk.u8_in _ (by omega)) ?_
        refine xadd 0 .u8 ((lowI (List.getD (numsOf t) j 0)) - 97) 10 (((lowI (List.getD (numsOf t) j 0)) - 97) + 10) (IntWalk.u8_in _ (by omega)) ?_
        refine xc 11 ((((lowI (List.getD (numsOf t) j 0)) - 97) + 10) ≥ 16) (fun h67p => ?_) (fun h67p => ?_)
        ·
         exact xr 6 (v := .tuple #[.int .u64 0, (.iface 226 (.int .i64 2))]) Tryz.func163 hR ⟨by rw [← hX, hexU_at (by omega), dig_no (by omega) (by omega)], (hm.j hM).none⟩
        ·
         refine xc 8 (((n : Nat) : Int) ≥ 1152921504606846976) (fun h68p => ?_) (fun h68p => ?_)
         ·
          omega
         ·
          refine xmul 6 .u64 ((n : Nat) : Int) 16 (((n * 16) : Nat) : Int) (by rw [show ((n : Nat) : Int) * 16 = (((n * 16) : Nat) : Int) by omega]; exact IntWalk.u64_in _ (by omega)) ?_
          refine xcv 6 .u8 .u64 (((lowI (List.getD (numsOf t) j 0)) - 97) + 10) (((lowI (List.getD (numsOf t) j 0)) - 97) + 10) (IntWalk.u64_in _ (by omega)) ?_
          refine xadd 0 .u64 (((n * 16) : Nat) : Int) (((lowI (List.getD (numsOf t) j 0)) - 97) + 10) ((((n * 16) : Nat) : Int) + (((lowI (List.getD (numsOf t) j 0)) - 97) + 10)) (IntWalk.u64_in _ (by omega)) ?_
          refine xfc 9 155 (((((n * 16) : Nat) : Int) + (((lowI (List.getD (numsOf t) j 0)) - 97) + 10)) < (((n * 16) : Nat) : Int)) (fun h72p => ?_) (fun h72p => ?_)
          ·
           refine xr0 13 (v := .tuple #[.int .u64 18446744073709551615, (.iface 226 (.int .i64 1))]) Tryz.func163 ?_
           rw [hR]
           exfalso
           omega
          ·
           refine xc 5 (((((n * 16) : Nat) : Int) + (((lowI (List.getD (numsOf t) j 0)) - 97) + 10)) > 18446744073709551615) (fun h73p => ?_) (fun h73p => ?_)
           ·
            omega
           ·
            refine xadd 7 .i64 ((j : Nat) : Int) 1 (((j + 1) : Nat) : Int) (by rw [show ((j : Nat) : Int) + 1 = (((j + 1) : Nat) : Int) by omega]; exact IntWalk.i64_in _ (by omega)) ?_
            exact xl 3 (l := [(1, .int .i64 16), (8, .bool false), (9, sS t), (10, .int .u64 1152921504606846976), (11, .int .u64 18446744073709551615), (12, .bool false), (13, .int .u64 ((((n * 16) : Nat) : Int) + (((lowI (List.getD (numsOf t) j 0)) - 97) + 10))), (99, v), (100, iN (List.length (numsOf t))), (101, iN (j + 1))]) (GoS.cast (by rw [show (((16 * n + (Int.toNat (lowI (List.getD (numsOf t) j 0) - 87)) : Nat)) : Int) = ((((n * 16) : Nat) : Int) + (((lowI (List.getD (numsOf t) j 0)) - 97) + 10)) by omega]) (ih (j + 1) (16 * n + (Int.toNat (lowI (List.getD (numsOf t) j 0) - 87))) (by omega) (by rw [← hX, hexU_at (n := n) (by omega), dig_let (by omega) (by omega)]) (pow_step hn (by omega)) (by omega)))
       ·
        exact xr 6 (v := .tuple #[.int .u64 0, (.iface 226 (.int .i64 2))]) Tryz.func163 hR ⟨by rw [← hX, hexU_at (by omega), dig_no (by omega) (by omega)], (hm.j hM).none⟩
      ·
       exact xr 13 (v := .tuple #[.int .u64 0, (.iface 226 (.int .i64 2))]) Tryz.func163 hR ⟨by rw [← hX, hexU_at (by omega), dig_no (by omega) (by omega)], (hm.j hM).none⟩
    ·
     have hb75 := low_bd (c := (List.getD (numsOf t) j 0)) (by omega)
     refine xka 9 (low_c (List.getD (numsOf t) j 0) (by omega) w) ?_
     refine xfc 2 125 (97 ≤ (lowI (List.getD (numsOf t) j 0))) (fun h76p => ?_) (fun h76p => ?_)
     ·
      have hb77 := low_bd (c := (List.getD (numsOf t) j 0)) (by omega)
      refine xka 1 (low_c (List.getD (numsOf t) j 0) (by omega) w) ?_
      refine xc 4 ((lowI (List.getD (numsOf t) j 0)) ≤ 122) (fun h78p => ?_) (fun h78p => ?_)
      ·
       have hb79 := low_bd (c := (List.getD (numsOf t) j 0)) (by omega)
       refine xka 2 (low_c (List.getD (numsOf t) j 0) (by omega) w) ?_
       refine xsub 0 .u8 (lowI (List.getD (numsOf t) j 0)) 97 ((lowI (List.getD (numsOf t) j 0)) - 97) (IntWalk.u8_in _ (by omega)) ?_
       refine xadd 0 .u8 ((lowI (List.getD (numsOf t) j 0)) - 97) 10 (((lowI (List.getD (numsOf t) j 0)) - 97) + 10) (IntWalk.u8_in _ (by omega)) ?_
       refine xc 11 ((((lowI (List.getD (numsOf t) j 0)) - 97) + 10) ≥ 16) (fun h82p => ?_) (fun h82p => ?_)
       ·
        exact xr 6 (v := .tuple #[.int .u64 0, (.iface 226 (.int .i64 2))]) Tryz.func163 hR ⟨by rw [← hX, hexU_at (by omega), dig_no (by omega) (by omega)], (hm.j hM).none⟩
       ·
        refine xc 8 (((n : Nat) : Int) ≥ 1152921504606846976) (fun h83p => ?_) (fun h83p => ?_)
        ·
         omega
        ·
         refine xmul 6 .u64 ((n : Nat) : Int) 16 (((n * 16) : Nat) : Int) (by rw [show ((n : Nat) : Int) * 16 = (((n * 16) : Nat) : Int) by omega]; exact IntWalk.u64_in _ (by omega)) ?_
         refine xcv 6 .u8 .u64 (((lowI (List.getD (numsOf t) j 0)) - 97) + 10) (((lowI (List.getD (numsOf t) j 0)) - 97) + 10) (IntWalk.u64_in _ (by omega)) ?_
         refine xadd 0 .u64 (((n * 16) : Nat) : Int) (((lowI (List.getD (numsOf t) j 0)) - 97) + 10) ((((n * 16) : Nat) : Int) + (((lowI (List.getD (numsOf t) j 0)) - 97) + 10)) (IntWalk.u64_in _ (by omega)) ?_
         refine xfc 9 155 (((((n * 16) : Nat) : Int) + (((lowI (List.getD (numsOf t) j 0)) - 97) + 10)) < (((n * 16) : Nat) : Int)) (fun h87p => ?_) (fun h87p => ?_)
         ·
          refine xr0 13 (v := .tuple #[.int .u64 18446744073709551615, (.iface 226 (.int .i64 1))]) Tryz.func163 ?_
          rw [hR]
          exfalso
          omega
         ·
          refine xc 5 (((((n * 16) : Nat) : Int) + (((lowI (List.getD (numsOf t) j 0)) - 97) + 10)) > 18446744073709551615) (fun h88p => ?_) (fun h88p => ?_)
          ·
           omega
          ·
           refine xadd 7 .i64 ((j : Nat) : Int) 1 (((j + 1) : Nat) : Int) (by rw [show ((j : Nat) : Int) + 1 = (((j + 1) : Nat) : Int) by omega]; exact IntWalk.i64_in _ (by omega)) ?_
           exact xl 3 (l := [(1, .int .i64 16), (8, .bool false), (9, sS t), (10, .int .u64 1152921504606846976), (11, .int .u64 18446744073709551615), (12, .bool false), (13, .int .u64 ((((n * 16) : Nat) : Int) + (((lowI (List.getD (numsOf t) j 0)) - 97) + 10))), (99, v), (100, iN (List.length (numsOf t))), (101, iN (j + 1))]) (GoS.cast (by rw [show (((16 * n + (Int.toNat (lowI (List.getD (numsOf t) j 0) - 87)) : Nat)) : Int) = ((((n * 16) : Nat) : Int) + (((lowI (List.getD (numsOf t) j 0)) - 97) + 10)) by omega]) (ih (j + 1) (16 * n + (Int.toNat (lowI (List.getD (numsOf t) j 0) - 87))) (by omega) (by rw [← hX, hexU_at (n := n) (by omega), dig_let (by omega) (by omega)]) (pow_step hn (by omega)) (by omega)))
      ·
       exact xr 6 (v := .tuple #[.int .u64 0, (.iface 226 (.int .i64 2))]) Tryz.func163 hR ⟨by rw [← hX, hexU_at (by omega), dig_no (by omega) (by omega)], (hm.j hM).none⟩
     ·
      exact xr 13 (v := .tuple #[.int .u64 0, (.iface 226 (.int .i64 2))]) Tryz.func163 hR ⟨by rw [← hX, hexU_at (by omega), dig_no (by omega) (by omega)], (hm.j hM).none⟩
  ·
   exact xr 19 (v := .tuple #[.int .u64 ((n : Nat) : Int), .nilIface]) Tryz.func163 hR ⟨by rw [← hX, hexU_end (by omega)], (hm.j hM).none⟩

set_option maxHeartbeats 1000000 in
theorem pu16_c (t : List UInt8) (ht : t.length = 16) {w : World} :
  Calls Tryz.prog 163 #[sS t, .int .i64 16, .int .i64 64] w (fun e w' => e = (match hexU t 0 with | some v => (.returned (.tuple #[.int .u64 ((v : Nat) : Int), .nilIface]) : Ending) | none => .returned (.tuple #[.int .u64 0, (.iface 226 (.int .i64 2))])) ∧ Mem [] w w' []) := by
 refine xe 172 Tryz.func163 (fun R hR => ?_)
 have hM0 := Mem.start w
 refine xq 9 t ([]) ?_
 refine xc 1 (t = []) (fun h2p => ?_) (fun h2p => ?_)
 ·
  exact absurd (congrArg List.length h2p) (by rw [ht]; decide)
 ·
  refine xo 75 .shl (.int .u64 1) (.int .u64 64) (v := .int .u64 0) (fun _ => f_shl (by decide) (by decide)) ?_
  refine xx 15 (bts_of (src := 9) (dst := 76) (e := 5) (by kernel_rfl) (by kernel_rfl) (by kernel_rfl) hM0 t (by omega)) (fun v3 w4 ⟨hM6, hB7⟩ => ?_)
  refine xv 0 (f_slen sT76 hB7.rd 3 w4) ?_
  exact xl 4 (pu16_L t ht v3 w4 (hM6.none) hB7.rd R hR (t.length + 1) 0 0 (by omega) rfl (by decide) (by omega))

theorem clone_c (t : List UInt8) (ht : t.length ≤ 8192) (w : World) : Calls Tryz.prog 191 #[sS t] w (fun e w' => e = .returned (sS t) ∧ Mem [] w w' []) :=
 calls_imp (Go.Proofs.Any.stringslite_Clone laysM316 (sb t) w (by show t.toArray.size ≤ _; simp; omega)) (fun e w' h => ⟨h.1, Mem.bare (Kept.of_below h.2)⟩)

set_option maxHeartbeats 400000 in
theorem synerr_c (f t : List UInt8) (ht : t.length ≤ 8192) (eT : TypeId) (ex : Value) {w : World} (hev : w.cell? ⟨6, 0, none⟩ = some (.iface eT ex)) :
  Calls Tryz.prog 181 #[sS f, sS t] w (fun e w' => ∃ p, e = .returned (.pointer (some p)) ∧ Mem [] w w' []) := by
 refine xe 11 Tryz.func181 (fun R hR => ?_)
 have hM0 := Mem.start w
 refine xh 5 [] hM0 sR (fun w1 hM2 hS3 => ?_)
 refine yv [0,1] 3 (fun W_ hW_ => (show (Instr.loadAt 89 (pq 6)).run Tryz.prog W_ = .ok ((.iface eT ex)) W_ from cell_load pE89 (cell_kept hev hW_.kept))) hS3 ?_
 refine yck [] 2 (clone_c t (by omega) w1) hS3 (fun w5 m6 => ?_)
 have hM7 : Mem [] w w5 [] := Mem.join (R := []) hM2 m6
 have hS8 := hM7.sub sR
 refine ⟨hS8, ?_⟩
 refine yx [4] 5 (m_box (T := 236) (k := 3) (u := .agg #[sS f, sS t, (.iface eT ex)]) rfl rfl hM7) hS8 (fun _ _ h_ => h_.sub (sD sR)) (fun b9 w10 hM12 hS14 => ?_)
 refine ydp [6] hS14 ?_
 exact xr 0 (v := pq b9) Tryz.func181 hR ⟨_, rfl, hM12.none⟩

set_option maxHeartbeats 400000 in
theorem toerr_c (f t : List UInt8) (ht : t.length ≤ 8192) (eT : TypeId) (ex : Value) {w : World} (hev : w.cell? ⟨6, 0, none⟩ = some (.iface eT ex)) :
  Calls Tryz.prog 164 #[sS f, sS t, .int .i64 16, .int .i64 64, (.iface 226 (.int .i64 2))] w (fun e w' => ∃ p, e = .returned (.iface 228 (.pointer (some p))) ∧ Mem [] w w' []) := by
 refine xe 43 Tryz.func164 (fun R hR => ?_)
 have hM0 := Mem.start w
 refine xkv 21 (synerr_c f t (by omega) eT ex (cell_kept hev hM0.kept)) (fun p2 w1 m3 => ?_)
 have hM4 := hM0.j m3
 exact xr 3 (v := (.iface 228 (.pointer (some p2)))) Tryz.func164 hR ⟨_, rfl, hM4.none⟩

theorem pu16_or (t : List UInt8) (ht : t.length = 16) {w : World} : Calls Tryz.prog 163 #[sS t, .int .i64 16, .int .i64 64] w (fun e w' => (∃ v : Nat, hexU t 0 = some v ∧ e = .returned (.tuple #[.int .u64 (v : Int), .nilIface]) ∧ Mem [] w w' []) ∨ (hexU t 0 = none ∧ e = .returned (.tuple #[.int .u64 0, .iface 226 (.int .i64 2)]) ∧ Mem [] w w' [])) := by
 refine calls_imp (pu16_c t ht) ?_
 rintro e w' ⟨rfl, m⟩
 cases hexU t 0 with
 | some v => exact .inl ⟨v, rfl, rfl, m⟩
 | none => exact .inr ⟨rfl, rfl, m⟩

set_option maxHeartbeats 400000 in
theorem spu_c (t : List UInt8) (ht : t.length = 16) (eT : TypeId) (ex : Value) {w : World} (hev : w.cell? ⟨6, 0, none⟩ = some (.iface eT ex)) :
  Calls Tryz.prog 145 #[sS t, .int .i64 16, .int .i64 64] w (fun e w' => (∃ v : Nat, hexU t 0 = some v ∧ e = .returned (.tuple #[.int .u64 (v : Int), .nilIface]) ∧ Mem [] w w' []) ∨ (hexU t 0 = none ∧ ∃ p, e = .returned (.tuple #[.int .u64 0, .iface 228 (.pointer (some p))]) ∧ Mem [] w w' [])) := by
 refine xe 26 Tryz.func145 (fun R hR => ?_)
 have hM0 := Mem.start w
 refine xcg 10 (pu16_or t ht) ?_
 rintro _ w1 (⟨v2, hv3, rfl, m4⟩ | ⟨hv3, rfl, m4⟩)
 ·
  refine ⟨_, rfl, ?_⟩
  have hM5 := hM0.j m4
  refine xr0 20 (v := .tuple #[.int .u64 ((v2 : Nat) : Int), .nilIface]) Tryz.func145 ?_
  rw [hR]
  exact .inl ⟨_, hv3, rfl, hM5.none⟩
 ·
  refine ⟨_, rfl, ?_⟩
  have hM5 := hM0.j m4
  refine xkv 20 (toerr_c ([80, 97, 114, 115, 101, 85, 105, 110, 116] : List UInt8) t (by omega) eT ex (cell_kept hev hM5.kept)) (fun p10 w7 m8 => ?_)
  have hM9 := hM5.j m8
  refine xr0 3 (v := .tuple #[.int .u64 0, (.iface 228 (.pointer (some p10)))]) Tryz.func145 ?_
  rw [hR]
  exact .inr ⟨hv3, _, rfl, hM9.none⟩

theorem tolow_c (t : List UInt8) (ht : t.length ≤ 8192) {w : World} (hG : GS [] w) : Calls Tryz.prog 143 #[sS t] w (fun e w' => e = .returned (sS (Lib.toLowerD t)) ∧ Mem [] w w' []) :=
 calls_imp (Go.Proofs.Any.strings_ToLower_any lays159 bldX (sb t) w (by show t.toArray.size < _; simp; omega) hG.now.case hG.now.tabs) (fun e w' h => ⟨h.1, Mem.bare (Kept.of_below h.2)⟩)
theorem has_c (t : List UInt8) (w : World) : Calls Tryz.prog 144 #[sS t, sS [95]] w (fun e w' => e = .returned (.bool (decide (0 ≤ Lib.indexByte t 95))) ∧ w = w') :=
 calls_imp (Go.Proofs.Any.strings_Contains_one lays144 (sb t) 95 w) (fun e w' h => ⟨h.1, h.2.symm⟩)

set_option maxHeartbeats 1000000 in
theorem hexed_c (t : List UInt8) (ht : t.length ≤ 8192) {w : World} (hG : GS [] w) :
  Calls Tryz.prog 130 #[sS t] w (fun e w' => ∃ n : Int, e = .returned (.tuple #[.int .u64 n, .bool (Option.isSome (hexP t))]) ∧ (∀ v, hexP t = some v → n = (v : Int)) ∧ Mem [] w w' []) := by
 obtain ⟨eT, ex, hev⟩ := hG.now.syn
 have hev : w.cell? ⟨6, 0, none⟩ = some (.iface eT ex) := hev
 have hbd0 := bl_bd t 0
 have hbd1 := bl_bd t 1
 refine xe 43 Tryz.func130 (fun R hR => ?_)
 have hM0 := Mem.start w
 refine xn 9 t ?_
 refine xfn 2 9 (((t.length : Nat) : Int) = 17) (fun h2p => ?_) (fun h2p => ?_)
 ·
  have hz : hexP t = none := hexP_none (by omega)
  exact xr 31 (v := .tuple #[.int .u64 0, .bool false]) Tryz.func130 hR ⟨0, by rw [hz]; rfl, fun v_ h_ => (by rw [hz] at h_; cases h_), hM0.none⟩
 ·
  have hb3 := bl_bd t 0
  refine xi 1 t 0 0 ?_
  refine xfn 3 14 ((bl t 0) = 35) (fun h5p => ?_) (fun h5p => ?_)
  ·
   have hz : hexP t = none := hexP_none (by omega)
   exact xr 26 (v := .tuple #[.int .u64 0, .bool false]) Tryz.func130 hR ⟨0, by rw [hz]; rfl, fun v_ h_ => (by rw [hz] at h_; cases h_), hM0.none⟩
  ·
   refine xk 1 (tolow_c t (by omega) (hG.kept hM0.kept)) (fun w6 m7 => ?_)
   have hM8 := hM0.j m7
   refine xqn 1 (Lib.toLowerD t) t ?_
   refine xfn 2 20 ((Lib.toLowerD t) = t) (fun h10p => ?_) (fun h10p => ?_)
   ·
    have h10 : (!(decide ((Lib.toLowerD t) = t))) = true := by simpa using h10p
    have hz : hexP t = none := hexP_low (by simpa using h10)
    exact xr 20 (v := .tuple #[.int .u64 0, .bool false]) Tryz.func130 hR ⟨0, by rw [hz]; rfl, fun v_ h_ => (by rw [hz] at h_; cases h_), hM8.none⟩
   ·
    have h10 : (!(decide ((Lib.toLowerD t) = t))) = false := by simpa using h10p
    have hb11 := bl_bd t 1
    refine xi 1 t 1 1 ?_
    refine xfc 3 25 ((bl t 1) = 43) (fun h13p => ?_) (fun h13p => ?_)
    ·
     have hz : hexP t = none := hexP_sign (by omega) (by omega)
     exact xr 15 (v := .tuple #[.int .u64 0, .bool false]) Tryz.func130 hR ⟨0, by rw [hz]; rfl, fun v_ h_ => (by rw [hz] at h_; cases h_), hM8.none⟩
    ·
     have hb14 := bl_bd t 1
     refine xi 1 t 1 1 ?_
     refine xfc 3 30 ((bl t 1) = 45) (fun h16p => ?_) (fun h16p => ?_)
     ·
      have hz : hexP t = none := hexP_sign (by omega) (by omega)
      exact xr 10 (v := .tuple #[.int .u64 0, .bool false]) Tryz.func130 hR ⟨0, by rw [hz]; rfl, fun v_ h_ => (by rw [hz] at h_; cases h_), hM8.none⟩
     ·
      refine xka 1 (has_c t w6) ?_
      refine xc 2 (0 ≤ Lib.indexByte t 95) (fun h17p => ?_) (fun h17p => ?_)
      ·
       have hz : hexP t = none := hexP_under (by omega)
       exact xr 5 (v := .tuple #[.int .u64 0, .bool false]) Tryz.func130 hR ⟨0, by rw [hz]; rfl, fun v_ h_ => (by rw [hz] at h_; cases h_), hM8.none⟩
      ·
       refine xsl 4 t 1 1 ?_
       refine xcg 0 (spu_c (List.drop 1 t) (by rw [List.length_drop]; omega) eT ex (cell_kept hev hM8.kept)) ?_
       rintro _ w19 (⟨v20, hv21, rfl, m22⟩ | ⟨hv21, p24, rfl, m22⟩)
       ·
        refine ⟨_, rfl, ?_⟩
        have hM23 := hM8.j m22
        refine xh 7 [] hM23 sR (fun w25 hM26 hS27 => ?_)
        refine ydp [0,1,2,3,4] hS27 ?_
        have hz : hexP t = some v20 := hexP_yes (by omega) (by omega) (by simpa using h10) hv21
        exact xr 0 (v := .tuple #[.int .u64 ((v20 : Nat) : Int), .bool true]) Tryz.func130 hR ⟨v20, by rw [hz]; rfl, fun v_ h_ => (by rw [hz] at h_; cases h_; rfl), hM26.none⟩
       ·
        refine ⟨_, rfl, ?_⟩
        have hM23 := hM8.j m22
        refine xh 7 [] hM23 sR (fun w29 hM30 hS31 => ?_)
        refine ydp [0,1,2,3,4] hS31 ?_
        have hz : hexP t = none := hexP_bad hv21
        exact xr 0 (v := .tuple #[.int .u64 0, .bool false]) Tryz.func130 hR ⟨0, by rw [hz]; rfl, fun v_ h_ => (by rw [hz] at h_; cases h_), hM30.none⟩


end Go.Proofs.YthpodbngljfdmaaGreatDoor


namespace Go.Gw
set_option linter.unusedVariables false
set_option linter.unusedSimpArgs false
section
variable {P : Program} {t u E : TypeId} {k n N : Nat} {w w0 : World} {S : List Nat} {L : List Row} {xs : List Value}
theorem x_index {f : FuncId} {fn : Func} (hf : P.funcs[f]? = some fn) (hname : (fn.name == "runtime.NumGoroutine") = false) (hb : fn.body.isNone = true) (hn : Extern.findNext fn = none) (he : Extern.find fn = some Extern.BytealgIndexByte.indexByte) (s : List UInt8) (c : Int) (w : World) :
    (callFunc f #[.string (sb s), .int .u8 c]).run P w = .ok (.value (.int .i64 (Lib.indexByte s c.toNat.toUInt8))) w := by
  rw [run_callFunc_extern hf hname hb hn he, Lib.run_indexByteString, sb_data]; rfl
end
end Go.Gw


namespace Go.Proofs.YthpodbngljfdmaaGreatDoor
open Go Go.Gw Go.UtfP Go.TokP Go.QryP Go.SynP Go.RealQ Go.SynV Go.RowKit
set_option linter.unusedVariables false
set_option linter.unusedSimpArgs false
set_option maxRecDepth 20000


set_option maxHeartbeats 400000 in
theorem sixb_c (s : List UInt8) (c : Int) (w : World) :
  Calls Tryz.prog 142 #[sS s, .int .u8 c] w (fun e w' => e = .returned (.int .i64 (Lib.indexByte s c.toNat.toUInt8)) ∧ w = w') := by
 refine xe 8 Tryz.func142 (fun R hR => ?_)
 refine xp 8 (.int .i64 (Lib.indexByte s (Int.toNat c).toUInt8)) (w' := w) (show (callFunc 158 #[sS s, .int .u8 c]).run Tryz.prog w = .ok (.value (.int .i64 (Lib.indexByte s (Int.toNat c).toUInt8))) w from x_index Tryz.func158 (by kernel_rfl) (by kernel_rfl) (by kernel_rfl) (by kernel_rfl) s c w) ?_
 exact xr 2 Tryz.func142 hR ⟨rfl, rfl⟩

set_option maxHeartbeats 400000 in
theorem ixb_c (s : List UInt8) (c : Int) (w : World) :
  Calls Tryz.prog 129 #[sS s, .int .u8 c] w (fun e w' => e = .returned (.int .i64 (Lib.indexByte s c.toNat.toUInt8)) ∧ w = w') := by
 refine xe 8 Tryz.func129 (fun R hR => ?_)
 refine xka 8 (sixb_c s c w) ?_
 exact xr 2 Tryz.func129 hR ⟨rfl, rfl⟩

theorem ixb_m (s : List UInt8) (c v : Int) (hx : Lib.indexByte s c.toNat.toUInt8 = v) (w : World) : Calls Tryz.prog 129 #[sS s, .int .u8 c] w (fun e w' => e = .returned (.int .i64 v) ∧ w = w') := hx ▸ ixb_c s c w

set_option maxHeartbeats 400000 in
theorem numb_none (s : List UInt8) (hs : s.length ≤ 8192) (c : Int) (b : Nat) (i : Nat) (hi : i ≤ s.length) {w : World} (hG : GS [b] w) (hM : Mem [b] w w [⟨51, 2, (obj b), 1, [sS s, iN i]⟩]) (hx : Lib.indexByte (s.drop i) c.toNat.toUInt8 = -1) :
  Calls Tryz.prog 104 #[pq b, .int .u8 c] w (Pst (flt 47) (numberP s c i) (fun x v w' => v = .int .u64 ((x.1 : Nat) : Int) ∧ Mem [b] w w' [⟨51, 2, (obj b), 1, [sS s, iN x.2]⟩]) b w) := by
 refine xe 76 Tryz.func104 (fun R hR => ?_)
 refine xh 5 [] hM (sK sR) (fun w1 hM2 hS3 => ?_)
 refine yl [0,1,2] 3 hS3 pE9 0 rfl (cel_obj b 0) rfl ?_
 refine yl [4,5,6] 7 hS3 pE3 0 rfl (cel_obj b 1) rfl ?_
 refine yv [] 8 (fun W_ hW_ => (show (Instr.sliceAt 9 (sS s) (some (iN i)) none none).run Tryz.prog W_ = .ok (sS (List.drop i s)) W_ from f_slice_lo i (by kernel_rfl) (by omega) (by omega))) hS3 ?_
 refine yca [9] 10 (ixb_m (List.drop i s) c (-1) hx w1) hS3 ?_
 refine ydp [11] hS3 ?_
 refine xkd 9 Tryz.func104 (fail_c s i b (hM2.rd 0 rfl)) (fun w5 m6 => ?_)
 have hM7 := (hM2.j m6).none
 rw [hR]
 exact .inr ⟨_, number_none hx, rfl, hM7⟩

set_option maxHeartbeats 400000 in
theorem numb_some (s : List UInt8) (hs : s.length ≤ 8192) (c : Int) (b : Nat) (i : Nat) (hi : i ≤ s.length) (m : Nat) (hm : i + m < s.length) {w : World} (hG : GS [b] w) (hM : Mem [b] w w [⟨51, 2, (obj b), 1, [sS s, iN i]⟩]) (hx : Lib.indexByte (s.drop i) c.toNat.toUInt8 = ((m : Nat) : Int)) :
  Calls Tryz.prog 104 #[pq b, .int .u8 c] w (Pst (flt 47) (numberP s c i) (fun x v w' => v = .int .u64 ((x.1 : Nat) : Int) ∧ Mem [b] w w' [⟨51, 2, (obj b), 1, [sS s, iN x.2]⟩]) b w) := by
 refine xe 76 Tryz.func104 (fun R hR => ?_)
 refine xh 5 [] hM (sK sR) (fun w1 hM2 hS3 => ?_)
 refine yl [0,1,2] 3 hS3 pE9 0 rfl (cel_obj b 0) rfl ?_
 refine yl [4,5,6] 7 hS3 pE3 0 rfl (cel_obj b 1) rfl ?_
 refine yv [] 8 (fun W_ hW_ => (show (Instr.sliceAt 9 (sS s) (some (iN i)) none none).run Tryz.prog W_ = .ok (sS (List.drop i s)) W_ from f_slice_lo i (by kernel_rfl) (by omega) (by omega))) hS3 ?_
 refine yca [9] 10 (ixb_m (List.drop i s) c ((m : Nat) : Int) hx w1) hS3 ?_
 refine ydp [11] hS3 ?_
 refine xc 6 (((m : Nat) : Int) < 0) (fun h5p => ?_) (fun h5p => ?_)
 ·
  omega
 ·
  refine xh 2 [] hM2 (sK sR) (fun w6 hM7 hS8 => ?_)
  refine yl [0,1,2] 3 hS8 pE9 0 rfl (cel_obj b 0) rfl ?_
  refine yl [4,5,6] 7 hS8 pE3 0 rfl (cel_obj b 1) rfl ?_
  refine yl [8,9,10] 11 hS8 pE3 0 rfl (cel_obj b 1) rfl ?_
  refine yv [12] 13 (fun W_ hW_ => (show (binOp .add 3 (iN i) (iN m)).run Tryz.prog W_ = .ok (iN (i + m)) W_ from f_add (by rw [show ((i : Nat) : Int) + ((m : Nat) : Int) = (((i + m) : Nat) : Int) by omega]; exact IntWalk.i64_in _ (by omega)))) hS8 ?_
  refine yv [] 14 (fun W_ hW_ => (show (Instr.sliceAt 9 (sS s) (some (iN i)) (some (iN (i + m))) none).run Tryz.prog W_ = .ok (sS (List.drop i (List.take (i + m) s))) W_ from f_slice_lohi i (i + m) (by kernel_rfl) (by omega) (by omega) (by omega) (by omega))) hS8 ?_
  refine ydp [15] hS8 ?_
  refine xcg 4 (hexed_c (List.drop i (List.take (i + m) s)) (by rw [List.length_drop, List.length_take]; omega) (hG.kept hM7.kept).nil) ?_
  rintro _ w10 ⟨n12, rfl, hn13, m11⟩
  refine ⟨_, rfl, ?_⟩
  have hM14 := hM7.j m11
  refine xb 10 (Option.isSome (hexP (List.drop i (List.take (i + m) s)))) (fun h15 => ?_) (fun h15 => ?_)
  ·
   refine xv 5 (c_load pE3 (hM14.rd 0 rfl) (cel_obj b 1) rfl) ?_
   refine xa 1 ((m : Nat) : Int) 1 (((m + 1) : Nat) : Int) ?_
   refine xa 0 ((i : Nat) : Int) (((m + 1) : Nat) : Int) (((i + (m + 1)) : Nat) : Int) ?_
   refine xst 2 (c_store (E := 3) (u := iN (i + (m + 1))) (by kernel_rfl) hM14 0 rfl (cel_obj b 1) (by decide) rfl rfl) (fun w16 hM18 => ?_)
   refine xr0 6 (v := .int .u64 n12) Tryz.func104 ?_
   rw [hR]
   obtain ⟨v_, hv_⟩ := Option.isSome_iff_exists.1 h15
   have hn_ := hn13 _ hv_
   exact .inl ⟨_, _, number_hex hx hv_, rfl, by rw [hn_], hM18⟩
  ·
   refine xka 4 (parse_c (List.drop i (List.take (i + m) s)) (by rw [List.length_drop, List.length_take]; omega) w10) ?_
   refine xcn 12 ((parseE (List.drop i (List.take (i + m) s))) = 0) (fun h24p => ?_) (fun h24p => ?_)
   ·
    refine xkd 2 Tryz.func104 (fail_c s i b (hM14.rd 0 rfl)) (fun w25 m26 => ?_)
    have hM27 := (hM14.j m26).none
    rw [hR]
    exact .inr ⟨_, number_bad hx (by simpa using h15) (by omega), rfl, hM27⟩
   ·
    refine xv 6 (c_load pE3 (hM14.rd 0 rfl) (cel_obj b 1) rfl) ?_
    refine xa 1 ((m : Nat) : Int) 1 (((m + 1) : Nat) : Int) ?_
    refine xa 0 ((i : Nat) : Int) (((m + 1) : Nat) : Int) (((i + (m + 1)) : Nat) : Int) ?_
    refine xst 2 (c_store (E := 3) (u := iN (i + (m + 1))) (by kernel_rfl) hM14 0 rfl (cel_obj b 1) (by decide) rfl rfl) (fun w28 hM30 => ?_)
    refine xr0 6 (v := .int .u64 (((parseV (List.drop i (List.take (i + m) s))) : Nat) : Int)) Tryz.func104 ?_
    rw [hR]
    exact .inl ⟨_, _, number_real hx (by simpa using h15) (by omega), rfl, rfl, hM30⟩

theorem number_c (s : List UInt8) (hs : s.length ≤ 8192) (c : Int) (b : Nat) (i : Nat) (hi : i ≤ s.length) {w : World} (hG : GS [b] w) (hM : Mem [b] w w [⟨51, 2, (obj b), 1, [sS s, iN i]⟩]) :
  Calls Tryz.prog 104 #[pq b, .int .u8 c] w (Pst (flt 47) (numberP s c i) (fun x v w' => v = .int .u64 ((x.1 : Nat) : Int) ∧ Mem [b] w w' [⟨51, 2, (obj b), 1, [sS s, iN x.2]⟩]) b w) := by
 rcases index_cases (s.drop i) c.toNat.toUInt8 with hx | ⟨m, hx, hm⟩
 · exact numb_none s hs c b i hi hG hM hx
 · rw [List.length_drop] at hm; exact numb_some s hs c b i hi m (by omega) hG hM hx


end Go.Proofs.YthpodbngljfdmaaGreatDoor


namespace Go.Proofs.YthpodbngljfdmaaGreatDoor
open Go Go.Gw Go.UtfP Go.TokP Go.QryP Go.SynP Go.RealQ Go.SynV Go.RowKit
set_option linter.unusedVariables false
set_option linter.unusedSimpArgs false
set_option maxRecDepth 20000


set_option maxHeartbeats 4000000 in
theorem leaf_R (s : List UInt8) (hs : s.length ≤ 8192) (b : Nat) (i : Nat) (c : Nat) {w : World} (hG : GS [b] w) (j : Nat) (w1 : World) (hji : j ≤ s.length) (hij : i ≤ j) (hn_ : namE s i = j) (hM : Mem [b] w w1 [⟨51, 2, (obj b), 1, [sS s, iN j]⟩, ⟨25, 8, (obj c), 1, [.int .i64 0, sS ([]), sS ([]), .int .i64 0, .int .i64 0, .int .u64 0, .int .u64 0, .slice none 0 0]⟩]) (R : Ending → World → Prop) (hR : R = (Pst (flt 47) (leafP s i) (fun x v w' => v = qA x.1.h (.slice none 0 0) ∧ x.1.l = [] ∧ Mem [b] w w' [⟨51, 2, (obj b), 1, [sS s, iN x.2]⟩]) b w)) : GoS Tryz.prog 77 R 132 [iC Tryz.f77 [1,1,1]] [(0, pq b), (2, pq c), (3, iN i)] w1 := by
 refine xs ?_
 refine xv 6 (c_load pE3 (hM.rd 0 rfl) (cel_obj b 1) rfl) ?_
 refine xm 1 ((j : Nat) : Int) ((i : Nat) : Int) (((j : Nat) : Int) - ((i : Nat) : Int)) ?_
 refine xfc 7 48 ((((j : Nat) : Int) - ((i : Nat) : Int)) = 0) (fun h3p => ?_) (fun h3p => ?_)
 ·
  refine xst 11 (c_store (E := 3) (u := iN i) (by kernel_rfl) hM 0 rfl (cel_obj b 1) (by decide) rfl rfl) (fun w4 hM6 => ?_)
  refine xkd 3 Tryz.func77 (fail_c s i b (hM6.rd 0 rfl)) (fun w9 m10 => ?_)
  have hM11 := (hM6.j m10).none
  rw [hR]
  exact .inr ⟨_, by unfold leafP; simp only [hn_]; rw [if_pos (by omega)], rfl, hM11⟩
 ·
  refine xc 4 ((((j : Nat) : Int) - ((i : Nat) : Int)) > 16) (fun h12p => ?_) (fun h12p => ?_)
  ·
   refine xst 6 (c_store (E := 3) (u := iN i) (by kernel_rfl) hM 0 rfl (cel_obj b 1) (by decide) rfl rfl) (fun w13 hM15 => ?_)
   refine xkd 3 Tryz.func77 (fail_c s i b (hM15.rd 0 rfl)) (fun w18 m19 => ?_)
   have hM20 := (hM15.j m19).none
   rw [hR]
   exact .inr ⟨_, by unfold leafP; simp only [hn_]; rw [if_pos (by omega)], rfl, hM20⟩
  ·
   refine xh 2 [12] hM (sK (sK sR)) (fun w21 hM22 hS23 => ?_)
   refine yl [0,1,2] 3 hS23 pE9 0 rfl (cel_obj b 0) rfl ?_
   refine yl [4,5,6,7] 8 hS23 pE3 0 rfl (cel_obj b 1) rfl ?_
   refine yv [] 9 (fun W_ hW_ => (show (Instr.sliceAt 9 (sS s) (some (iN i)) (some (iN j)) none).run Tryz.prog W_ = .ok (sS (List.drop i (List.take j s))) W_ from f_slice_lohi i j (by kernel_rfl) (by omega) (by omega) (by omega) (by omega))) hS23 ?_
   refine yx [10] 11 (m_alloc oT25 hM22) hS23 (fun _ _ h_ => h_.sub (sD (sK (sK sR)))) (fun b25 w26 hM28 hS30 => ?_)
   refine ysw [] 12 (c_stores (ys := [.int .i64 0, sS (List.drop i (List.take j s)), sS ([]), .int .i64 0, .int .i64 0, .int .u64 0, .int .u64 0, .slice none 0 0]) aE25 hM28 0 rfl (cel_obj b25 0) rfl (by decide) (oneL rfl)) hS30 (fun w31 hM33 => ?_)
   refine yd ?_
   have hM35 : Mem [b] w w31 [⟨51, 2, (obj b), 1, [sS s, iN j]⟩, ⟨25, 8, (obj b25), 1, [.int .i64 0, sS (List.drop i (List.take j s)), sS ([]), .int .i64 0, .int .i64 0, .int .u64 0, .int .u64 0, .slice none 0 0]⟩, ⟨25, 8, (obj c), 1, [.int .i64 0, sS ([]), sS ([]), .int .i64 0, .int .i64 0, .int .u64 0, .int .u64 0, .slice none 0 0]⟩] := hM33.perm (pS pR)
   refine xkp 3 Tryz.func77 (take_c s (by omega) 58 b j (by omega) hM35.lend1) (fun k36 w37 hs38 m39 => by rw [hR]; exact .inr ⟨_, by (unfold leafP; simp only [hn_]; rw [if_neg (by omega)]; simp only [hs38]), rfl, (hM35.back1 m39).none⟩) (fun a40 v41 w37 hs38 m39 => ?_)
   obtain ⟨rfl, m42⟩ := m39
   have hx43 := take_inv hs38
   have hM44 := hM35.back1 m42
   have hb48 := bl_bd s a40
   have hb49 := bl_or s a40
   refine xk 5 (next_c s (by omega) a40 (by omega) b (hM44.rd 0 rfl)) (fun w45 m46 => ?_)
   have hM47 := hM44.j m46
   refine xc 2 ((bl s a40) = 91) (fun h50p => ?_) (fun h50p => ?_)
   ·
    refine xv 5 (c_load pE3 (hM47.rd 0 rfl) (cel_obj b 1) rfl) ?_
    refine xa 0 ((a40 : Nat) : Int) 1 (((a40 + 1) : Nat) : Int) ?_
    refine xst 2 (c_store (E := 3) (u := iN (a40 + 1)) (by kernel_rfl) hM47 0 rfl (cel_obj b 1) (by decide) rfl rfl) (fun w51 hM53 => ?_)
    refine xst 4 (c_store (E := 3) (u := .int .i64 6) (by kernel_rfl) hM53 1 rfl (cel_obj b25 0) (by decide) rfl rfl) (fun w55 hM57 => ?_)
    refine xkp 4 Tryz.func77 (number_c s (by omega) 32 b (a40 + 1) (by omega) (hG.kept hM57.kept) hM57.lend1) (fun k63 w64 hs65 m66 => by rw [hR]; exact .inr ⟨_, by (unfold leafP; simp only [hn_]; rw [if_neg (by omega)]; simp only [hs38]; rw [if_pos (by omega)]; simp only [hs65]), rfl, (hM57.back1 m66).none⟩) (fun ⟨a67x, a67j⟩ v68 w64 hs65 m66 => ?_)
    obtain ⟨rfl, m69⟩ := m66
    have hx70 := number_inv (by omega) hs65
    have hM71 := hM57.back1 m69
    refine xst 1 (c_store (E := 22) (u := .int .u64 ((a67x : Nat) : Int)) (by kernel_rfl) hM71 1 rfl (cel_obj b25 5) (by decide) rfl rfl) (fun w72 hM74 => ?_)
    refine xkp 4 Tryz.func77 (number_c s (by omega) 93 b a67j (by omega) (hG.kept hM74.kept) hM74.lend1) (fun k77 w78 hs79 m80 => by rw [hR]; exact .inr ⟨_, by (unfold leafP; simp only [hn_]; rw [if_neg (by omega)]; simp only [hs38]; rw [if_pos (by omega)]; simp only [hs65]; simp only [hs79]), rfl, (hM74.back1 m80).none⟩) (fun ⟨a81x, a81j⟩ v82 w78 hs79 m80 => ?_)
    obtain ⟨rfl, m83⟩ := m80
    have hx84 := number_inv (by omega) hs79
    have hM85 := hM74.back1 m83
    refine xst 1 (c_store (E := 22) (u := .int .u64 ((a81x : Nat) : Int)) (by kernel_rfl) hM85 1 rfl (cel_obj b25 6) (by decide) rfl rfl) (fun w86 hM88 => ?_)
    refine xv 3 (c_loads (ys := [.int .i64 6, sS (List.drop i (List.take j s)), sS ([]), .int .i64 0, .int .i64 0, .int .u64 ((a67x : Nat) : Int), .int .u64 ((a81x : Nat) : Int), .slice none 0 0]) aE25 (hM88.rd 1 rfl) (cel_obj b25 0) rfl (lq rfl)) ?_
    refine xst 0 (c_stores (ys := [.int .i64 6, sS (List.drop i (List.take j s)), sS ([]), .int .i64 0, .int .i64 0, .int .u64 ((a67x : Nat) : Int), .int .u64 ((a81x : Nat) : Int), .slice none 0 0]) aE25 hM88 2 rfl (cel_obj c 0) rfl (by decide) (oneL rfl)) (fun w90 hM92 => ?_)
    exact xrc 1 (v := .agg #[.int .i64 6, sS (List.drop i (List.take j s)), sS ([]), .int .i64 0, .int .i64 0, .int .u64 ((a67x : Nat) : Int), .int .u64 ((a81x : Nat) : Int), .slice none 0 0]) Tryz.func77 (ResC.cell (c := 2) (by kernel_rfl) (show (Instr.loadAt 25 (pq c)).run Tryz.prog w90 = .ok (.agg #[.int .i64 6, sS (List.drop i (List.take j s)), sS ([]), .int .i64 0, .int .i64 0, .int .u64 ((a67x : Nat) : Int), .int .u64 ((a81x : Nat) : Int), .slice none 0 0]) w90 from c_loads (ys := [.int .i64 6, sS (List.drop i (List.take j s)), sS ([]), .int .i64 0, .int .i64 0, .int .u64 ((a67x : Nat) : Int), .int .u64 ((a81x : Nat) : Int), .slice none 0 0]) aE25 (hM92.rd 2 rfl) (cel_obj c 0) rfl (lq rfl)) ResC.nil) hR (.inl ⟨(.mk ⟨6, (List.drop i (List.take j s)), [], 0, 0, ((a67x : Nat) : Int), ((a81x : Nat) : Int)⟩ [], a81j), _, by unfold leafP; simp only [hn_]; rw [if_neg (by omega)]; simp only [hs38]; rw [if_pos (by omega)]; simp only [hs65]; simp only [hs79], rfl, rfl, rfl, (hM92.sub (sK sN))⟩)
   ·
    refine xkp 4 Tryz.func77 (quoted_c s (by omega) b a40 (by omega) hM47.lend1) (fun k97 w98 hs99 m100 => by rw [hR]; exact .inr ⟨_, by (unfold leafP; simp only [hn_]; rw [if_neg (by omega)]; simp only [hs38]; rw [if_neg (by omega)]; simp only [hs99]), rfl, (hM47.back1 m100).none⟩) (fun ⟨a101x, a101j⟩ v102 w98 hs99 m100 => ?_)
    obtain ⟨rfl, m103⟩ := m100
    have hx104 := quoted_inv hs99
    have hM105 := hM47.back1 m103
    refine xst 1 (c_store (E := 3) (u := .int .i64 1) (by kernel_rfl) hM105 1 rfl (cel_obj b25 0) (by decide) rfl rfl) (fun w106 hM108 => ?_)
    refine xst 1 (c_store (E := 9) (u := sS a101x) (by kernel_rfl) hM108 1 rfl (cel_obj b25 2) (by decide) rfl rfl) (fun w110 hM112 => ?_)
    have hb119 := bl_bd s a101j
    have hb120 := bl_or s a101j
    refine xk 5 (next_c s (by omega) a101j (by omega) b (hM112.rd 0 rfl)) (fun w116 m117 => ?_)
    have hM118 := hM112.j m117
    refine xc 7 ((bl s a101j) = 42) (fun h121p => ?_) (fun h121p => ?_)
    ·
     refine xst 2 (c_store (E := 3) (u := .int .i64 2) (by kernel_rfl) hM118 1 rfl (cel_obj b25 0) (by decide) rfl rfl) (fun w122 hM124 => ?_)
     refine xv 7 (c_load pE3 (hM124.rd 0 rfl) (cel_obj b 1) rfl) ?_
     refine xa 0 ((a101j : Nat) : Int) 1 (((a101j + 1) : Nat) : Int) ?_
     refine xst 2 (c_store (E := 3) (u := iN (a101j + 1)) (by kernel_rfl) hM124 0 rfl (cel_obj b 1) (by decide) rfl rfl) (fun w201 hM203 => ?_)
     refine xv 3 (c_loads (ys := [.int .i64 2, sS (List.drop i (List.take j s)), sS a101x, .int .i64 0, .int .i64 0, .int .u64 0, .int .u64 0, .slice none 0 0]) aE25 (hM203.rd 1 rfl) (cel_obj b25 0) rfl (lq rfl)) ?_
     refine xst 0 (c_stores (ys := [.int .i64 2, sS (List.drop i (List.take j s)), sS a101x, .int .i64 0, .int .i64 0, .int .u64 0, .int .u64 0, .slice none 0 0]) aE25 hM203 2 rfl (cel_obj c 0) rfl (by decide) (oneL rfl)) (fun w205 hM207 => ?_)
     exact xrc 1 (v := .agg #[.int .i64 2, sS (List.drop i (List.take j s)), sS a101x, .int .i64 0, .int .i64 0, .int .u64 0, .int .u64 0, .slice none 0 0]) Tryz.func77 (ResC.cell (c := 2) (by kernel_rfl) (show (Instr.loadAt 25 (pq c)).run Tryz.prog w205 = .ok (.agg #[.int .i64 2, sS (List.drop i (List.take j s)), sS a101x, .int .i64 0, .int .i64 0, .int .u64 0, .int .u64 0, .slice none 0 0]) w205 from c_loads (ys := [.int .i64 2, sS (List.drop i (List.take j s)), sS a101x, .int .i64 0, .int .i64 0, .int .u64 0, .int .u64 0, .slice none 0 0]) aE25 (hM207.rd 2 rfl) (cel_obj c 0) rfl (lq rfl)) ResC.nil) hR (.inl ⟨(.mk ⟨2, (List.drop i (List.take j s)), a101x, 0, 0, 0, 0⟩ [], (a101j + 1)), _, by unfold leafP; simp only [hn_]; rw [if_neg (by omega)]; simp only [hs38]; rw [if_neg (by omega)]; simp only [hs99]; rw [if_pos (by omega)], rfl, rfl, rfl, (hM207.sub (sK sN))⟩)
    ·
     refine xc 5 ((bl s a101j) = 63) (fun h127p => ?_) (fun h127p => ?_)
     ·
      refine xst 2 (c_store (E := 3) (u := .int .i64 3) (by kernel_rfl) hM118 1 rfl (cel_obj b25 0) (by decide) rfl rfl) (fun w128 hM130 => ?_)
      refine xv 7 (c_load pE3 (hM130.rd 0 rfl) (cel_obj b 1) rfl) ?_
      refine xa 0 ((a101j : Nat) : Int) 1 (((a101j + 1) : Nat) : Int) ?_
      refine xst 2 (c_store (E := 3) (u := iN (a101j + 1)) (by kernel_rfl) hM130 0 rfl (cel_obj b 1) (by decide) rfl rfl) (fun w214 hM216 => ?_)
      refine xv 3 (c_loads (ys := [.int .i64 3, sS (List.drop i (List.take j s)), sS a101x, .int .i64 0, .int .i64 0, .int .u64 0, .int .u64 0, .slice none 0 0]) aE25 (hM216.rd 1 rfl) (cel_obj b25 0) rfl (lq rfl)) ?_
      refine xst 0 (c_stores (ys := [.int .i64 3, sS (List.drop i (List.take j s)), sS a101x, .int .i64 0, .int .i64 0, .int .u64 0, .int .u64 0, .slice none 0 0]) aE25 hM216 2 rfl (cel_obj c 0) rfl (by decide) (oneL rfl)) (fun w218 hM220 => ?_)
      exact xrc 1 (v := .agg #[.int .i64 3, sS (List.drop i (List.take j s)), sS a101x, .int .i64 0, .int .i64 0, .int .u64 0, .int .u64 0, .slice none 0 0]) Tryz.func77 (ResC.cell (c := 2) (by kernel_rfl) (show (Instr.loadAt 25 (pq c)).run Tryz.prog w218 = .ok (.agg #[.int .i64 3, sS (List.drop i (List.take j s)), sS a101x, .int .i64 0, .int .i64 0, .int .u64 0, .int .u64 0, .slice none 0 0]) w218 from c_loads (ys := [.int .i64 3, sS (List.drop i (List.take j s)), sS a101x, .int .i64 0, .int .i64 0, .int .u64 0, .int .u64 0, .slice none 0 0]) aE25 (hM220.rd 2 rfl) (cel_obj c 0) rfl (lq rfl)) ResC.nil) hR (.inl ⟨(.mk ⟨3, (List.drop i (List.take j s)), a101x, 0, 0, 0, 0⟩ [], (a101j + 1)), _, by unfold leafP; simp only [hn_]; rw [if_neg (by omega)]; simp only [hs38]; rw [if_neg (by omega)]; simp only [hs99]; rw [if_neg (by omega), if_pos (by omega)], rfl, rfl, rfl, (hM220.sub (sK sN))⟩)
     ·
      refine xc 5 ((bl s a101j) = 43) (fun h133p => ?_) (fun h133p => ?_)
      ·
       refine xst 2 (c_store (E := 3) (u := .int .i64 5) (by kernel_rfl) hM118 1 rfl (cel_obj b25 0) (by decide) rfl rfl) (fun w134 hM136 => ?_)
       refine xv 7 (c_load pE3 (hM136.rd 0 rfl) (cel_obj b 1) rfl) ?_
       refine xa 0 ((a101j : Nat) : Int) 1 (((a101j + 1) : Nat) : Int) ?_
       refine xst 2 (c_store (E := 3) (u := iN (a101j + 1)) (by kernel_rfl) hM136 0 rfl (cel_obj b 1) (by decide) rfl rfl) (fun w227 hM229 => ?_)
       refine xv 3 (c_loads (ys := [.int .i64 5, sS (List.drop i (List.take j s)), sS a101x, .int .i64 0, .int .i64 0, .int .u64 0, .int .u64 0, .slice none 0 0]) aE25 (hM229.rd 1 rfl) (cel_obj b25 0) rfl (lq rfl)) ?_
       refine xst 0 (c_stores (ys := [.int .i64 5, sS (List.drop i (List.take j s)), sS a101x, .int .i64 0, .int .i64 0, .int .u64 0, .int .u64 0, .slice none 0 0]) aE25 hM229 2 rfl (cel_obj c 0) rfl (by decide) (oneL rfl)) (fun w231 hM233 => ?_)
       exact xrc 1 (v := .agg #[.int .i64 5, sS (List.drop i (List.take j s)), sS a101x, .int .i64 0, .int .i64 0, .int .u64 0, .int .u64 0, .slice none 0 0]) Tryz.func77 (ResC.cell (c := 2) (by kernel_rfl) (show (Instr.loadAt 25 (pq c)).run Tryz.prog w231 = .ok (.agg #[.int .i64 5, sS (List.drop i (List.take j s)), sS a101x, .int .i64 0, .int .i64 0, .int .u64 0, .int .u64 0, .slice none 0 0]) w231 from c_loads (ys := [.int .i64 5, sS (List.drop i (List.take j s)), sS a101x, .int .i64 0, .int .i64 0, .int .u64 0, .int .u64 0, .slice none 0 0]) aE25 (hM233.rd 2 rfl) (cel_obj c 0) rfl (lq rfl)) ResC.nil) hR (.inl ⟨(.mk ⟨5, (List.drop i (List.take j s)), a101x, 0, 0, 0, 0⟩ [], (a101j + 1)), _, by unfold leafP; simp only [hn_]; rw [if_neg (by omega)]; simp only [hs38]; rw [if_neg (by omega)]; simp only [hs99]; rw [if_neg (by omega), if_neg (by omega), if_pos (by omega)], rfl, rfl, rfl, (hM233.sub (sK sN))⟩)
      ·
       refine xc 5 ((bl s a101j) = 126) (fun h139p => ?_) (fun h139p => ?_)
       ·
        refine xst 3 (c_store (E := 3) (u := .int .i64 4) (by kernel_rfl) hM118 1 rfl (cel_obj b25 0) (by decide) rfl rfl) (fun w140 hM142 => ?_)
        refine xv 6 (c_load pE3 (hM142.rd 0 rfl) (cel_obj b 1) rfl) ?_
        refine xa 0 ((a101j : Nat) : Int) 1 (((a101j + 1) : Nat) : Int) ?_
        refine xst 2 (c_store (E := 3) (u := iN (a101j + 1)) (by kernel_rfl) hM142 0 rfl (cel_obj b 1) (by decide) rfl rfl) (fun w144 hM146 => ?_)
        refine xkp 4 Tryz.func77 (small_c s (by omega) b (a101j + 1) (by omega) hM146.lend1) (fun k152 w153 hs154 m155 => by rw [hR]; exact .inr ⟨_, by (unfold leafP; simp only [hn_]; rw [if_neg (by omega)]; simp only [hs38]; rw [if_neg (by omega)]; simp only [hs99]; rw [if_neg (by omega), if_neg (by omega), if_neg (by omega), if_pos (by omega)]; simp only [hs154]), rfl, (hM146.back1 m155).none⟩) (fun ⟨a156x, a156j⟩ v157 w153 hs154 m155 => ?_)
        obtain ⟨rfl, m158⟩ := m155
        have hx159 := small_inv hs154
        have hM160 := hM146.back1 m158
        refine xst 1 (c_store (E := 3) (u := .int .i64 a156x) (by kernel_rfl) hM160 1 rfl (cel_obj b25 3) (by decide) rfl rfl) (fun w161 hM163 => ?_)
        refine xkp 4 Tryz.func77 (take_c s (by omega) 44 b a156j (by omega) hM163.lend1) (fun k166 w167 hs168 m169 => by rw [hR]; exact .inr ⟨_, by (unfold leafP; simp only [hn_]; rw [if_neg (by omega)]; simp only [hs38]; rw [if_neg (by omega)]; simp only [hs99]; rw [if_neg (by omega), if_neg (by omega), if_neg (by omega), if_pos (by omega)]; simp only [hs154]; simp only [hs168]), rfl, (hM163.back1 m169).none⟩) (fun a170 v171 w167 hs168 m169 => ?_)
        obtain ⟨rfl, m172⟩ := m169
        have hx173 := take_inv hs168
        have hM174 := hM163.back1 m172
        refine xkp 4 Tryz.func77 (small_c s (by omega) b a170 (by omega) hM174.lend1) (fun k175 w176 hs177 m178 => by rw [hR]; exact .inr ⟨_, by (unfold leafP; simp only [hn_]; rw [if_neg (by omega)]; simp only [hs38]; rw [if_neg (by omega)]; simp only [hs99]; rw [if_neg (by omega), if_neg (by omega), if_neg (by omega), if_pos (by omega)]; simp only [hs154]; simp only [hs168]; simp only [hs177]), rfl, (hM174.back1 m178).none⟩) (fun ⟨a179x, a179j⟩ v180 w176 hs177 m178 => ?_)
        obtain ⟨rfl, m181⟩ := m178
        have hx182 := small_inv hs177
        have hM183 := hM174.back1 m181
        refine xst 1 (c_store (E := 3) (u := .int .i64 a179x) (by kernel_rfl) hM183 1 rfl (cel_obj b25 4) (by decide) rfl rfl) (fun w184 hM186 => ?_)
        refine xv 3 (c_loads (ys := [.int .i64 4, sS (List.drop i (List.take j s)), sS a101x, .int .i64 a156x, .int .i64 a179x, .int .u64 0, .int .u64 0, .slice none 0 0]) aE25 (hM186.rd 1 rfl) (cel_obj b25 0) rfl (lq rfl)) ?_
        refine xst 0 (c_stores (ys := [.int .i64 4, sS (List.drop i (List.take j s)), sS a101x, .int .i64 a156x, .int .i64 a179x, .int .u64 0, .int .u64 0, .slice none 0 0]) aE25 hM186 2 rfl (cel_obj c 0) rfl (by decide) (oneL rfl)) (fun w188 hM190 => ?_)
        exact xrc 1 (v := .agg #[.int .i64 4, sS (List.drop i (List.take j s)), sS a101x, .int .i64 a156x, .int .i64 a179x, .int .u64 0, .int .u64 0, .slice none 0 0]) Tryz.func77 (ResC.cell (c := 2) (by kernel_rfl) (show (Instr.loadAt 25 (pq c)).run Tryz.prog w188 = .ok (.agg #[.int .i64 4, sS (List.drop i (List.take j s)), sS a101x, .int .i64 a156x, .int .i64 a179x, .int .u64 0, .int .u64 0, .slice none 0 0]) w188 from c_loads (ys := [.int .i64 4, sS (List.drop i (List.take j s)), sS a101x, .int .i64 a156x, .int .i64 a179x, .int .u64 0, .int .u64 0, .slice none 0 0]) aE25 (hM190.rd 2 rfl) (cel_obj c 0) rfl (lq rfl)) ResC.nil) hR (.inl ⟨(.mk ⟨4, (List.drop i (List.take j s)), a101x, a156x, a179x, 0, 0⟩ [], a179j), _, by unfold leafP; simp only [hn_]; rw [if_neg (by omega)]; simp only [hs38]; rw [if_neg (by omega)]; simp only [hs99]; rw [if_neg (by omega), if_neg (by omega), if_neg (by omega), if_pos (by omega)]; simp only [hs154]; simp only [hs168]; simp only [hs177], rfl, rfl, rfl, (hM190.sub (sK sN))⟩)
       ·
        refine xv 2 (c_loads (ys := [.int .i64 1, sS (List.drop i (List.take j s)), sS a101x, .int .i64 0, .int .i64 0, .int .u64 0, .int .u64 0, .slice none 0 0]) aE25 (hM118.rd 1 rfl) (cel_obj b25 0) rfl (lq rfl)) ?_
        refine xst 0 (c_stores (ys := [.int .i64 1, sS (List.drop i (List.take j s)), sS a101x, .int .i64 0, .int .i64 0, .int .u64 0, .int .u64 0, .slice none 0 0]) aE25 hM118 2 rfl (cel_obj c 0) rfl (by decide) (oneL rfl)) (fun w195 hM197 => ?_)
        exact xrc 1 (v := .agg #[.int .i64 1, sS (List.drop i (List.take j s)), sS a101x, .int .i64 0, .int .i64 0, .int .u64 0, .int .u64 0, .slice none 0 0]) Tryz.func77 (ResC.cell (c := 2) (by kernel_rfl) (show (Instr.loadAt 25 (pq c)).run Tryz.prog w195 = .ok (.agg #[.int .i64 1, sS (List.drop i (List.take j s)), sS a101x, .int .i64 0, .int .i64 0, .int .u64 0, .int .u64 0, .slice none 0 0]) w195 from c_loads (ys := [.int .i64 1, sS (List.drop i (List.take j s)), sS a101x, .int .i64 0, .int .i64 0, .int .u64 0, .int .u64 0, .slice none 0 0]) aE25 (hM197.rd 2 rfl) (cel_obj c 0) rfl (lq rfl)) ResC.nil) hR (.inl ⟨(.mk ⟨1, (List.drop i (List.take j s)), a101x, 0, 0, 0, 0⟩ [], a101j), _, by unfold leafP; simp only [hn_]; rw [if_neg (by omega)]; simp only [hs38]; rw [if_neg (by omega)]; simp only [hs99]; rw [if_neg (by omega), if_neg (by omega), if_neg (by omega), if_neg (by omega)], rfl, rfl, rfl, (hM197.sub (sK sN))⟩)

set_option maxHeartbeats 4000000 in
theorem leaf_L (s : List UInt8) (hs : s.length ≤ 8192) (b : Nat) (i : Nat) (c : Nat) {w : World} (hG : GS [b] w) (R : Ending → World → Prop) (hR : R = (Pst (flt 47) (leafP s i) (fun x v w' => v = qA x.1.h (.slice none 0 0) ∧ x.1.l = [] ∧ Mem [b] w w' [⟨51, 2, (obj b), 1, [sS s, iN x.2]⟩]) b w)) : ∀ (N : Nat) (j : Nat) (w1 : World) (hji : j ≤ s.length) (hij : i ≤ j) (hj : namE s j = namE s i) (hM : Mem [b] w w1 [⟨51, 2, (obj b), 1, [sS s, iN j]⟩, ⟨25, 8, (obj c), 1, [.int .i64 0, sS ([]), sS ([]), .int .i64 0, .int .i64 0, .int .u64 0, .int .u64 0, .slice none 0 0]⟩]) (hN : s.length - j < N), GoS Tryz.prog 77 R 132 [iC Tryz.f77 [1,1,0,1,0,0], iL Tryz.f77 [1,1,0,1,0,0], .inBlock 0, iC Tryz.f77 [1,1,1]] [(0, pq b), (2, pq c), (3, iN i), (4, .int .u8 (bl s j))] w1 := by
 intro N
 induction N with
 | zero => intro j w1 hji hij hj hM hN; exact absurd hN (Nat.not_lt_zero _)
 | succ N ih =>
  intro j w1 hji hij hj hM hN
  have hb0 := bl_bd s j
  have hb1 := bl_or s j
  refine xs ?_
  refine xfc 6 15 ((bl s j) ≥ 97) (fun h1p => ?_) (fun h1p => ?_)
  ·
   refine xfc 4 19 ((bl s j) ≤ 122) (fun h2p => ?_) (fun h2p => ?_)
   ·
    refine xv 20 (c_load pE3 (hM.rd 0 rfl) (cel_obj b 1) rfl) ?_
    refine xa 0 ((j : Nat) : Int) 1 (((j + 1) : Nat) : Int) ?_
    refine xst 2 (c_store (E := 3) (u := iN (j + 1)) (by kernel_rfl) hM 0 rfl (cel_obj b 1) (by decide) rfl rfl) (fun w7 hM9 => ?_)
    have hb17 := bl_bd s (j + 1)
    have hb18 := bl_or s (j + 1)
    refine xk 4 (next_c s (by omega) (j + 1) (by omega) b (hM9.rd 0 rfl)) (fun w14 m15 => ?_)
    have hM16 := hM9.j m15
    exact xl 3 (ih (j + 1) _ (by omega) (by omega) ((nam_go ((letter_iff _).2 (by omega))).symm.trans hj) hM16 (by omega))
   ·
    refine xfc 3 22 ((bl s j) ≥ 48) (fun h3p => ?_) (fun h3p => ?_)
    ·
     refine xfc 5 27 ((bl s j) ≤ 57) (fun h4p => ?_) (fun h4p => ?_)
     ·
      refine xv 12 (c_load pE3 (hM.rd 0 rfl) (cel_obj b 1) rfl) ?_
      refine xa 0 ((j : Nat) : Int) 1 (((j + 1) : Nat) : Int) ?_
      refine xst 2 (c_store (E := 3) (u := iN (j + 1)) (by kernel_rfl) hM 0 rfl (cel_obj b 1) (by decide) rfl rfl) (fun w19 hM21 => ?_)
      have hb29 := bl_bd s (j + 1)
      have hb30 := bl_or s (j + 1)
      refine xk 4 (next_c s (by omega) (j + 1) (by omega) b (hM21.rd 0 rfl)) (fun w26 m27 => ?_)
      have hM28 := hM21.j m27
      exact xl 3 (ih (j + 1) _ (by omega) (by omega) ((nam_go ((letter_iff _).2 (by omega))).symm.trans hj) hM28 (by omega))
     ·
      refine xc 4 ((bl s j) = 95) (fun h31p => ?_) (fun h31p => ?_)
      ·
       refine xv 7 (c_load pE3 (hM.rd 0 rfl) (cel_obj b 1) rfl) ?_
       refine xa 0 ((j : Nat) : Int) 1 (((j + 1) : Nat) : Int) ?_
       refine xst 2 (c_store (E := 3) (u := iN (j + 1)) (by kernel_rfl) hM 0 rfl (cel_obj b 1) (by decide) rfl rfl) (fun w32 hM34 => ?_)
       have hb42 := bl_bd s (j + 1)
       have hb43 := bl_or s (j + 1)
       refine xk 4 (next_c s (by omega) (j + 1) (by omega) b (hM34.rd 0 rfl)) (fun w39 m40 => ?_)
       have hM41 := hM34.j m40
       exact xl 3 (ih (j + 1) _ (by omega) (by omega) ((nam_go ((letter_iff _).2 (by omega))).symm.trans hj) hM41 (by omega))
      ·
       exact xl 1 (leaf_R s hs b i c hG j _ hji hij (by rw [← hj]; exact nam_stop ((letter_no _).2 (by omega))) hM R hR)
    ·
     refine xc 9 ((bl s j) = 95) (fun h44p => ?_) (fun h44p => ?_)
     ·
      refine xv 7 (c_load pE3 (hM.rd 0 rfl) (cel_obj b 1) rfl) ?_
      refine xa 0 ((j : Nat) : Int) 1 (((j + 1) : Nat) : Int) ?_
      refine xst 2 (c_store (E := 3) (u := iN (j + 1)) (by kernel_rfl) hM 0 rfl (cel_obj b 1) (by decide) rfl rfl) (fun w45 hM47 => ?_)
      have hb55 := bl_bd s (j + 1)
      have hb56 := bl_or s (j + 1)
      refine xk 4 (next_c s (by omega) (j + 1) (by omega) b (hM47.rd 0 rfl)) (fun w52 m53 => ?_)
      have hM54 := hM47.j m53
      exact xl 3 (ih (j + 1) _ (by omega) (by omega) ((nam_go ((letter_iff _).2 (by omega))).symm.trans hj) hM54 (by omega))
     ·
      exact xl 1 (leaf_R s hs b i c hG j _ hji hij (by rw [← hj]; exact nam_stop ((letter_no _).2 (by omega))) hM R hR)
  ·
   refine xfc 7 22 ((bl s j) ≥ 48) (fun h5p => ?_) (fun h5p => ?_)
   ·
    refine xfc 5 27 ((bl s j) ≤ 57) (fun h6p => ?_) (fun h6p => ?_)
    ·
     refine xv 12 (c_load pE3 (hM.rd 0 rfl) (cel_obj b 1) rfl) ?_
     refine xa 0 ((j : Nat) : Int) 1 (((j + 1) : Nat) : Int) ?_
     refine xst 2 (c_store (E := 3) (u := iN (j + 1)) (by kernel_rfl) hM 0 rfl (cel_obj b 1) (by decide) rfl rfl) (fun w57 hM59 => ?_)
     have hb67 := bl_bd s (j + 1)
     have hb68 := bl_or s (j + 1)
     refine xk 4 (next_c s (by omega) (j + 1) (by omega) b (hM59.rd 0 rfl)) (fun w64 m65 => ?_)
     have hM66 := hM59.j m65
     exact xl 3 (ih (j + 1) _ (by omega) (by omega) ((nam_go ((letter_iff _).2 (by omega))).symm.trans hj) hM66 (by omega))
    ·
     refine xc 4 ((bl s j) = 95) (fun h69p => ?_) (fun h69p => ?_)
     ·
      refine xv 7 (c_load pE3 (hM.rd 0 rfl) (cel_obj b 1) rfl) ?_
      refine xa 0 ((j : Nat) : Int) 1 (((j + 1) : Nat) : Int) ?_
      refine xst 2 (c_store (E := 3) (u := iN (j + 1)) (by kernel_rfl) hM 0 rfl (cel_obj b 1) (by decide) rfl rfl) (fun w70 hM72 => ?_)
      have hb80 := bl_bd s (j + 1)
      have hb81 := bl_or s (j + 1)
      refine xk 4 (next_c s (by omega) (j + 1) (by omega) b (hM72.rd 0 rfl)) (fun w77 m78 => ?_)
      have hM79 := hM72.j m78
      exact xl 3 (ih (j + 1) _ (by omega) (by omega) ((nam_go ((letter_iff _).2 (by omega))).symm.trans hj) hM79 (by omega))
     ·
      exact xl 1 (leaf_R s hs b i c hG j _ hji hij (by rw [← hj]; exact nam_stop ((letter_no _).2 (by omega))) hM R hR)
   ·
    refine xc 9 ((bl s j) = 95) (fun h82p => ?_) (fun h82p => ?_)
    ·
     refine xv 7 (c_load pE3 (hM.rd 0 rfl) (cel_obj b 1) rfl) ?_
     refine xa 0 ((j : Nat) : Int) 1 (((j + 1) : Nat) : Int) ?_
     refine xst 2 (c_store (E := 3) (u := iN (j + 1)) (by kernel_rfl) hM 0 rfl (cel_obj b 1) (by decide) rfl rfl) (fun w83 hM85 => ?_)
     have hb93 := bl_bd s (j + 1)
     have hb94 := bl_or s (j + 1)
     refine xk 4 (next_c s (by omega) (j + 1) (by omega) b (hM85.rd 0 rfl)) (fun w90 m91 => ?_)
     have hM92 := hM85.j m91
     exact xl 3 (ih (j + 1) _ (by omega) (by omega) ((nam_go ((letter_iff _).2 (by omega))).symm.trans hj) hM92 (by omega))
    ·
     exact xl 1 (leaf_R s hs b i c hG j _ hji hij (by rw [← hj]; exact nam_stop ((letter_no _).2 (by omega))) hM R hR)

set_option maxHeartbeats 400000 in
theorem leaf_c (s : List UInt8) (hs : s.length ≤ 8192) (b : Nat) (i : Nat) (hi : i ≤ s.length) {w : World} (hG : GS [b] w) (hM : Mem [b] w w [⟨51, 2, (obj b), 1, [sS s, iN i]⟩])  :
  Calls Tryz.prog 77 #[pq b] w (Pst (flt 47) (leafP s i) (fun x v w' => v = qA x.1.h (.slice none 0 0) ∧ x.1.l = [] ∧ Mem [b] w w' [⟨51, 2, (obj b), 1, [sS s, iN x.2]⟩]) b w) := by
 refine xe 132 Tryz.func77 (fun R hR => ?_)
 refine xx 2 (m_alloc oT25 hM) (fun b1 w2 hM4 => ?_)
 refine xv 6 (c_load pE3 (hM4.rd 1 rfl) (cel_obj b 1) rfl) ?_
 have hb10 := bl_bd s i
 have hb11 := bl_or s i
 refine xk 6 (next_c s (by omega) i (by omega) b (hM4.rd 1 rfl)) (fun w7 m8 => ?_)
 have hM9 := hM4.j m8
 have hM12 : Mem [b] w w7 [⟨51, 2, (obj b), 1, [sS s, iN i]⟩, ⟨25, 8, (obj b1), 1, [.int .i64 0, sS ([]), sS ([]), .int .i64 0, .int .i64 0, .int .u64 0, .int .u64 0, .slice none 0 0]⟩] := hM9.perm (pS pR)
 exact xl 4 (leaf_L s hs b i b1 hG R hR (s.length + 1) i _ hi (Nat.le_refl _) rfl hM12 (by omega))


end Go.Proofs.YthpodbngljfdmaaGreatDoor


namespace Go.Proofs.YthpodbngljfdmaaGreatDoor
open Go Go.Gw Go.UtfP Go.TokP Go.QryP Go.SynP Go.RealQ Go.SynV Go.RowKit
set_option linter.unusedVariables false
set_option linter.unusedSimpArgs false
set_option maxRecDepth 20000


set_option maxHeartbeats 400000 in
theorem many1_c (op : Int) (u : Value) (M : List QN) {w : World} (hu : Rd w 8 u M.length (recs qnC M)) (hone : ∀ j, j < M.length → (M.getD j qz).parts.oneCell' = true ∧ (M.getD j qz).parts.cells = #[(M.getD j qz).parts] ∧ (M.getD j qz).parts.cells.toList = [(M.getD j qz).parts]) (hl : M.length = 1) :
  Calls Tryz.prog 42 #[.int .i64 op, u] w (fun e w' => e = .returned (qA (M.getD 0 qz).h (M.getD 0 qz).parts) ∧ Mem [] w w' []) := by
 refine xe 14 Tryz.func42 (fun R hR => ?_)
 have hM0 := Mem.start w
 refine xx 2 (m_alloc oT25 hM0) (fun b1 w2 hM4 => ?_)
 refine xv 5 (f_slen sT23 (hu.kept0 hM4.kept) 3 w2) ?_
 refine xc 2 ((((List.length M) : Nat) : Int) = 1) (fun h7p => ?_) (fun h7p => ?_)
 ·
  refine xat 3 sT23 (hu.kept0 hM4.kept) 0 0 (fun p8 hp9 => ?_)
  refine xv 0 (r_loads (f := qnC) (l := M) aE25 (hu.kept0 hM4.kept) qnC_len hp9 (by first | omega | (dsimp only; omega)) qz) ?_
  refine xst 0 (c_stores (ys := [.int .i64 ((List.getD M 0 qz).h.op), sS ((List.getD M 0 qz).h.field), sS ((List.getD M 0 qz).h.text), .int .i64 ((List.getD M 0 qz).h.edits), .int .i64 ((List.getD M 0 qz).h.exact), .int .u64 ((List.getD M 0 qz).h.lo), .int .u64 ((List.getD M 0 qz).h.hi), ((List.getD M 0 qz).parts)]) aE25 hM4 0 rfl (cel_obj b1 0) rfl (by decide) (by intro u hu; simp at hu; rcases hu with rfl | rfl | rfl | rfl | rfl | rfl | rfl | rfl <;> first | rfl | exact (hone 0 (by omega)).1)) (fun w11 hM13 => ?_)
  exact xrc 1 (v := .agg #[.int .i64 ((List.getD M 0 qz).h.op), sS ((List.getD M 0 qz).h.field), sS ((List.getD M 0 qz).h.text), .int .i64 ((List.getD M 0 qz).h.edits), .int .i64 ((List.getD M 0 qz).h.exact), .int .u64 ((List.getD M 0 qz).h.lo), .int .u64 ((List.getD M 0 qz).h.hi), ((List.getD M 0 qz).parts)]) Tryz.func42 (ResC.cell (c := 4) (by kernel_rfl) (show (Instr.loadAt 25 (pq b1)).run Tryz.prog w11 = .ok (.agg #[.int .i64 ((List.getD M 0 qz).h.op), sS ((List.getD M 0 qz).h.field), sS ((List.getD M 0 qz).h.text), .int .i64 ((List.getD M 0 qz).h.edits), .int .i64 ((List.getD M 0 qz).h.exact), .int .u64 ((List.getD M 0 qz).h.lo), .int .u64 ((List.getD M 0 qz).h.hi), ((List.getD M 0 qz).parts)]) w11 from c_loads (ys := [.int .i64 ((List.getD M 0 qz).h.op), sS ((List.getD M 0 qz).h.field), sS ((List.getD M 0 qz).h.text), .int .i64 ((List.getD M 0 qz).h.edits), .int .i64 ((List.getD M 0 qz).h.exact), .int .u64 ((List.getD M 0 qz).h.lo), .int .u64 ((List.getD M 0 qz).h.hi), ((List.getD M 0 qz).parts)]) aE25 (hM13.rd 0 rfl) (cel_obj b1 0) rfl (lq rfl)) ResC.nil) hR (⟨rfl, hM13.sub sN⟩)
 ·
  omega

set_option maxHeartbeats 400000 in
theorem manyn_c (op : Int) (u : Value) (M : List QN) {w : World} (hu : Rd w 8 u M.length (recs qnC M)) (hone : ∀ j, j < M.length → (M.getD j qz).parts.oneCell' = true ∧ (M.getD j qz).parts.cells = #[(M.getD j qz).parts] ∧ (M.getD j qz).parts.cells.toList = [(M.getD j qz).parts]) (hl : ¬ M.length = 1) :
  Calls Tryz.prog 42 #[.int .i64 op, u] w (fun e w' => e = .returned (qO op u) ∧ Mem [] w w' []) := by
 refine xe 14 Tryz.func42 (fun R hR => ?_)
 have hM0 := Mem.start w
 refine xx 2 (m_alloc oT25 hM0) (fun b1 w2 hM4 => ?_)
 refine xv 5 (f_slen sT23 (hu.kept0 hM4.kept) 3 w2) ?_
 refine xc 2 ((((List.length M) : Nat) : Int) = 1) (fun h7p => ?_) (fun h7p => ?_)
 ·
  omega
 ·
  refine xv 5 (show (Instr.build 25 #[(0, .int .i64 op), (7, u)]).run Tryz.prog w2 = .ok (.agg #[.int .i64 op, sS ([]), sS ([]), .int .i64 0, .int .i64 0, .int .u64 0, .int .u64 0, u]) w2 from (by obtain ⟨a0_, m0_, c0_, e0_⟩ : ∃ a m c, u = Value.slice a m c := rd_form (hu.kept0 hM4.kept); rw [e0_]; kernel_rfl)) ?_
  refine xst 0 (c_stores (ys := [.int .i64 op, sS ([]), sS ([]), .int .i64 0, .int .i64 0, .int .u64 0, .int .u64 0, u]) aE25 hM4 0 rfl (cel_obj b1 0) rfl (by decide) (by intro u hu; simp at hu; rcases hu with rfl | rfl | rfl | rfl | rfl | rfl | rfl | rfl <;> first | rfl | exact (rd_ones hu).1)) (fun w8 hM10 => ?_)
  exact xrc 1 (v := .agg #[.int .i64 op, sS ([]), sS ([]), .int .i64 0, .int .i64 0, .int .u64 0, .int .u64 0, u]) Tryz.func42 (ResC.cell (c := 4) (by kernel_rfl) (show (Instr.loadAt 25 (pq b1)).run Tryz.prog w8 = .ok (.agg #[.int .i64 op, sS ([]), sS ([]), .int .i64 0, .int .i64 0, .int .u64 0, .int .u64 0, u]) w8 from c_loads (ys := [.int .i64 op, sS ([]), sS ([]), .int .i64 0, .int .i64 0, .int .u64 0, .int .u64 0, u]) aE25 (hM10.rd 0 rfl) (cel_obj b1 0) rfl (lq rfl)) ResC.nil) hR (⟨rfl, hM10.sub sN⟩)

theorem many_q (op : Int) {S : List Nat} {w0 w : World} {R : List Row} {u : Value} {acc : List Q} {M : List QN} {T : List Row} (hM : Mem S w0 w R) (hu : Rd w 8 u M.length (recs qnC M)) (hT : ∀ r, r ∈ T → r ∈ R) (hQ : QL T acc M) (hne : acc ≠ []) :
  Calls Tryz.prog 42 #[.int .i64 op, u] w (fun e w' => ∃ h u', e = .returned (.agg #[.int .i64 (h.op), sS (h.field), sS (h.text), .int .i64 (h.edits), .int .i64 (h.exact), .int .u64 (h.lo), .int .u64 (h.hi), u']) ∧ h = (manyQ op acc).h ∧ QT (⟨25, 8, u, (List.length M), (recs qnC M)⟩ :: T) (manyQ op acc) u' ∧ Mem [] w w' []) := by
 have hl := hQ.len
 have hone : ∀ j, j < M.length → (M.getD j qz).parts.oneCell' = true ∧ (M.getD j qz).parts.cells = #[(M.getD j qz).parts] ∧ (M.getD j qz).parts.cells.toList = [(M.getD j qz).parts] := fun j hj => (QT.rd hM hT (hQ.kid j (by omega))).one
 by_cases h1 : M.length = 1
 ·
  match acc, hQ, hl with
  | [q], hQ, hl =>
   refine calls_imp (many1_c op u M hu hone h1) ?_
   rintro e w' ⟨rfl, m⟩
   exact ⟨_, _, rfl, hQ.head 0 (by simp), (hQ.kid 0 (by simp)).sub (fun r hr => mS hr), m⟩
  | [], _, _ => exact absurd rfl hne
  | _ :: _ :: _, _, hl => simp only [List.length_cons] at hl; omega
 ·
  refine calls_imp (manyn_c op u M hu hone h1) ?_
  rintro e w' ⟨rfl, m⟩
  rw [manyQ_n (by omega)]
  exact ⟨opH op, u, rfl, rfl, hQ.whole _, m⟩


end Go.Proofs.YthpodbngljfdmaaGreatDoor


namespace Go.Proofs.YthpodbngljfdmaaGreatDoor
open Go Go.Gw Go.UtfP Go.TokP Go.QryP Go.SynP Go.RealQ Go.SynV Go.RowKit
set_option linter.unusedVariables false
set_option linter.unusedSimpArgs false
set_option maxRecDepth 20000


abbrev TP (s : List UInt8) (spec : Except Nat (Q × Nat)) (b : Nat) (w : World) : Ending → World → Prop := Pst (flt 47) spec (fun a v w' => ∃ h u T, v = .agg #[.int .i64 (h.op), sS (h.field), sS (h.text), .int .i64 (h.edits), .int .i64 (h.exact), .int .u64 (h.lo), .int .u64 (h.hi), u] ∧ h = a.1.h ∧ QT T a.1 u ∧ Mem [b] w w' (⟨51, 2, (obj b), 1, [sS s, iN a.2]⟩ :: T)) b w
def CT (F : FuncId) (t : Tg) (d : Nat) (s : List UInt8) (n : Nat) : Prop := ∀ (b i : Nat) {w : World}, i ≤ s.length → 5 * (s.length - i) + d ≤ n → GS [b] w → Mem [b] w w [⟨51, 2, (obj b), 1, [sS s, iN i]⟩] → Calls Tryz.prog F #[pq b] w (TP s (prs s n t i) b w)

set_option maxHeartbeats 1000000 in
theorem both_L (s : List UInt8) (hs : s.length ≤ 8192) (b c : Nat) (X : Except Nat (Q × Nat)) (K : Nat) (ihone : ∀ n, n < K → CT 55 .O 3 s n) {w : World} (hG : GS [b] w) (R : Ending → World → Prop) (hR : R = (TP s X b w)) : ∀ (N : Nat) (m j : Nat) (acc : List Q) (M : List QN) (u : Value) (T : List Row) (w1 : World) (hji : j ≤ s.length) (hf : 5 * (s.length - j) + 4 ≤ m) (hm : m ≤ K) (hal : acc.length ≤ j) (hX : prs s m (.BL acc) j = X) (hQL : QL T acc M) (hne : acc ≠ []) (hM : Mem [b] w w1 (⟨51, 2, (obj b), 1, [sS s, iN j]⟩ :: ⟨25, 8, u, (List.length M), (recs qnC M)⟩ :: ⟨25, 8, (obj c), 1, [.int .i64 0, sS ([]), sS ([]), .int .i64 0, .int .i64 0, .int .u64 0, .int .u64 0, .slice none 0 0]⟩ :: T)) (hN : m < N), GoS Tryz.prog 40 R 37 [iC Tryz.f40 [1,1,0,0], iL Tryz.f40 [1,1,0,0], .inBlock 0] [(0, pq b), (2, pq c), (3, u)] w1 := by
 intro N
 induction N with
 | zero => intro m j acc M u T w1 hji hf hm hal hX hQL hne hM hN; exact absurd hN (Nat.not_lt_zero _)
 | succ N ih =>
  intro m j acc M u T w1 hji hf hm hal hX hQL hne hM hN
  obtain ⟨m, rfl⟩ : ∃ m_, m = m_ + 1 := ⟨m - 1, by omega⟩
  have hln := hQL.len
  refine xs ?_
  refine xk 4 (blanks_c s (by omega) b j (by omega) hM.lend1) (fun w1 m2 => ?_)
  have hM3 := hM.back1 m2
  have hk4 := skip_le s j
  have hb8 := bl_bd s (skipP s j)
  have hb9 := bl_or s (skipP s j)
  refine xk 5 (next_c s (by omega) (skipP s j) (by omega) b (hM3.rd 0 rfl)) (fun w5 m6 => ?_)
  have hM7 := hM3.j m6
  refine xh 3 [] hM7 (sK (sK (sK sR))) (fun w10 hM11 hS12 => ?_)
  refine yl [0,1,2] 3 hS12 pE3 0 rfl (cel_obj b 1) rfl ?_
  refine yl [4,5,6] 7 hS12 pE9 0 rfl (cel_obj b 0) rfl ?_
  refine yv [] 8 (fun W_ hW_ => (show (Builtin.len_ #[9] 3 #[sS s]).run Tryz.prog W_ = .ok (iN s.length) W_ from f_len (by kernel_rfl))) hS12 ?_
  rcases Bool.eq_false_or_eq_true ((((skipP s j) : Nat) : Int) == ((s.length : Nat) : Int)) with h14 | h14
  ·
   have h14p : (((skipP s j) : Nat) : Int) = ((s.length : Nat) : Int) := eq_of_beq h14
   refine ye [9] 10 ((((skipP s j) : Nat) : Int) == ((s.length : Nat) : Int)) true h14 hS12 ?_
   refine ydp [11,12,13,14,15,16,17] hS12 ?_
   refine xcg 4 (many_q 7 hM11 (hM11.rd 1 rfl) (fun _ h_ => mS (mS (mS (h_)))) hQL hne) ?_
   rintro _ w21 ⟨h15, u16, rfl, he17, hqt18, m19⟩
   refine ⟨_, rfl, ?_⟩
   have hM20 := hM11.j m19
   refine xst 0 (c_stores (ys := [.int .i64 (h15.op), sS (h15.field), sS (h15.text), .int .i64 (h15.edits), .int .i64 (h15.exact), .int .u64 (h15.lo), .int .u64 (h15.hi), u16]) aE25 hM20 2 rfl (cel_obj c 0) rfl (by decide) (by intro u hu; simp at hu; rcases hu with rfl | rfl | rfl | rfl | rfl | rfl | rfl | rfl <;> first | rfl | exact (QT.rd hM20 (fun r_ h_ => by rcases List.mem_cons.1 h_ with g | g <;> simp [g]) hqt18).one.1)) (fun w22 hM24 => ?_)
   exact xrc 1 (v := .agg #[.int .i64 (h15.op), sS (h15.field), sS (h15.text), .int .i64 (h15.edits), .int .i64 (h15.exact), .int .u64 (h15.lo), .int .u64 (h15.hi), u16]) Tryz.func40 (ResC.cell (c := 2) (by kernel_rfl) (show (Instr.loadAt 25 (pq c)).run Tryz.prog w22 = .ok (.agg #[.int .i64 (h15.op), sS (h15.field), sS (h15.text), .int .i64 (h15.edits), .int .i64 (h15.exact), .int .u64 (h15.lo), .int .u64 (h15.hi), u16]) w22 from c_loads (ys := [.int .i64 (h15.op), sS (h15.field), sS (h15.text), .int .i64 (h15.edits), .int .i64 (h15.exact), .int .u64 (h15.lo), .int .u64 (h15.hi), u16]) aE25 (hM24.rd 2 rfl) (cel_obj c 0) rfl (lq rfl)) ResC.nil) hR (.inl ⟨(manyQ 7 acc, skipP s j), _, by rw [← hX]; exact bl_end (by omega), rfl, h15, u16, _, rfl, he17, hqt18, hM24.sub (sK (sK (sD sR)))⟩)
  ·
   have h14p : ¬ ((((skipP s j) : Nat) : Int) = ((s.length : Nat) : Int)) := p_ne h14
   refine ye [9] 10 ((((skipP s j) : Nat) : Int) == ((s.length : Nat) : Int)) false h14 hS12 ?_
   rcases Bool.eq_false_or_eq_true ((bl s (skipP s j)) == 124) with h27 | h27
   ·
    have h27p : (bl s (skipP s j)) = 124 := eq_of_beq h27
    refine ye [11,12,13] 14 ((bl s (skipP s j)) == 124) true h27 hS12 ?_
    refine ydp [15,16,17] hS12 ?_
    refine xcg 4 (many_q 7 hM11 (hM11.rd 1 rfl) (fun _ h_ => mS (mS (mS (h_)))) hQL hne) ?_
    rintro _ w34 ⟨h28, u29, rfl, he30, hqt31, m32⟩
    refine ⟨_, rfl, ?_⟩
    have hM33 := hM11.j m32
    refine xst 0 (c_stores (ys := [.int .i64 (h28.op), sS (h28.field), sS (h28.text), .int .i64 (h28.edits), .int .i64 (h28.exact), .int .u64 (h28.lo), .int .u64 (h28.hi), u29]) aE25 hM33 2 rfl (cel_obj c 0) rfl (by decide) (by intro u hu; simp at hu; rcases hu with rfl | rfl | rfl | rfl | rfl | rfl | rfl | rfl <;> first | rfl | exact (QT.rd hM33 (fun r_ h_ => by rcases List.mem_cons.1 h_ with g | g <;> simp [g]) hqt31).one.1)) (fun w35 hM37 => ?_)
    exact xrc 1 (v := .agg #[.int .i64 (h28.op), sS (h28.field), sS (h28.text), .int .i64 (h28.edits), .int .i64 (h28.exact), .int .u64 (h28.lo), .int .u64 (h28.hi), u29]) Tryz.func40 (ResC.cell (c := 2) (by kernel_rfl) (show (Instr.loadAt 25 (pq c)).run Tryz.prog w35 = .ok (.agg #[.int .i64 (h28.op), sS (h28.field), sS (h28.text), .int .i64 (h28.edits), .int .i64 (h28.exact), .int .u64 (h28.lo), .int .u64 (h28.hi), u29]) w35 from c_loads (ys := [.int .i64 (h28.op), sS (h28.field), sS (h28.text), .int .i64 (h28.edits), .int .i64 (h28.exact), .int .u64 (h28.lo), .int .u64 (h28.hi), u29]) aE25 (hM37.rd 2 rfl) (cel_obj c 0) rfl (lq rfl)) ResC.nil) hR (.inl ⟨(manyQ 7 acc, skipP s j), _, by rw [← hX]; exact bl_end (by omega), rfl, h28, u29, _, rfl, he30, hqt31, hM37.sub (sK (sK (sD sR)))⟩)
   ·
    have h27p : ¬ ((bl s (skipP s j)) = 124) := p_ne h27
    refine ye [11,12,13] 14 ((bl s (skipP s j)) == 124) false h27 hS12 ?_
    refine ydp [15,16,17] hS12 ?_
    refine xc 0 ((bl s (skipP s j)) = 41) (fun h40p => ?_) (fun h40p => ?_)
    ·
     refine xcg 3 (many_q 7 hM11 (hM11.rd 1 rfl) (fun _ h_ => mS (mS (mS (h_)))) hQL hne) ?_
     rintro _ w47 ⟨h41, u42, rfl, he43, hqt44, m45⟩
     refine ⟨_, rfl, ?_⟩
     have hM46 := hM11.j m45
     refine xst 0 (c_stores (ys := [.int .i64 (h41.op), sS (h41.field), sS (h41.text), .int .i64 (h41.edits), .int .i64 (h41.exact), .int .u64 (h41.lo), .int .u64 (h41.hi), u42]) aE25 hM46 2 rfl (cel_obj c 0) rfl (by decide) (by intro u hu; simp at hu; rcases hu with rfl | rfl | rfl | rfl | rfl | rfl | rfl | rfl <;> first | rfl | exact (QT.rd hM46 (fun r_ h_ => by rcases List.mem_cons.1 h_ with g | g <;> simp [g]) hqt44).one.1)) (fun w48 hM50 => ?_)
     exact xrc 1 (v := .agg #[.int .i64 (h41.op), sS (h41.field), sS (h41.text), .int .i64 (h41.edits), .int .i64 (h41.exact), .int .u64 (h41.lo), .int .u64 (h41.hi), u42]) Tryz.func40 (ResC.cell (c := 2) (by kernel_rfl) (show (Instr.loadAt 25 (pq c)).run Tryz.prog w48 = .ok (.agg #[.int .i64 (h41.op), sS (h41.field), sS (h41.text), .int .i64 (h41.edits), .int .i64 (h41.exact), .int .u64 (h41.lo), .int .u64 (h41.hi), u42]) w48 from c_loads (ys := [.int .i64 (h41.op), sS (h41.field), sS (h41.text), .int .i64 (h41.edits), .int .i64 (h41.exact), .int .u64 (h41.lo), .int .u64 (h41.hi), u42]) aE25 (hM50.rd 2 rfl) (cel_obj c 0) rfl (lq rfl)) ResC.nil) hR (.inl ⟨(manyQ 7 acc, skipP s j), _, by rw [← hX]; exact bl_end (by omega), rfl, h41, u42, _, rfl, he43, hqt44, hM50.sub (sK (sK (sD sR)))⟩)
    ·
     refine xkp 4 Tryz.func40 (ihone m (by omega) b (skipP s j) (by omega) (by omega) (hG.kept hM11.kept) hM11.lend1) (fun k53 w54 hs55 m56 => by rw [hR]; exact .inr ⟨_, by rw [← hX]; exact bl_err (by omega) hs55, rfl, (hM11.back1 m56).none⟩) (fun ⟨a57q, a57j⟩ v58 w54 hs55 m56 => ?_)
     obtain ⟨h59, u60, T61, rfl, he62, hqt63, m64⟩ := m56
     have hx66 := prs_inv _ _ _ _ _ (by omega) hs55
     simp only [below] at hx66
     have hM65 : Mem [b] w w54 (⟨51, 2, (obj b), 1, [sS s, iN a57j]⟩ :: ⟨25, 8, u, (List.length M), (recs qnC M)⟩ :: ⟨25, 8, (obj c), 1, [.int .i64 0, sS ([]), sS ([]), .int .i64 0, .int .i64 0, .int .u64 0, .int .u64 0, .slice none 0 0]⟩ :: (T61 ++ T)) := Mem.backT (A := [⟨25, 8, u, (List.length M), (recs qnC M)⟩, ⟨25, 8, (obj c), 1, [.int .i64 0, sS ([]), sS ([]), .int .i64 0, .int .i64 0, .int .u64 0, .int .u64 0, .slice none 0 0]⟩]) (T0 := T) hM11 m64
     refine xx 0 (m_lit sT23 hM65 (n := 1) (parts := #[(0, .agg #[.int .i64 (h59.op), sS (h59.field), sS (h59.text), .int .i64 (h59.edits), .int .i64 (h59.exact), .int .u64 (h59.lo), .int .u64 (h59.hi), u60])]) (cs := [.int .i64 (h59.op), sS (h59.field), sS (h59.text), .int .i64 (h59.edits), .int .i64 (h59.exact), .int .u64 (h59.lo), .int .u64 (h59.hi), u60]) (by decide) (by kernel_rfl) rfl) (fun v67 w68 hM70 => ?_)
     refine xx 0 (m_append sT23 hM70 2 rfl (hM70.rd 0 rfl) (by intro u hu; simp only [List.mem_cons, List.not_mem_nil, or_false] at hu; rcases hu with rfl | rfl | rfl | rfl | rfl | rfl | rfl | rfl; exact rfl; exact rfl; exact rfl; exact rfl; exact rfl; exact rfl; exact rfl; exact (QT.rd hM70 (fun r_ h_ => mS (mS (mS (mS (List.mem_append_left _ (h_)))))) hqt63).one.1) (by first | omega | (dsimp only; omega)) (by first | omega | (dsimp only; omega)) 23) (fun v71 w72 hM74 => ?_)
     have hM75 : Mem [b] w w72 (⟨25, 8, v67, 1, [.int .i64 (h59.op), sS (h59.field), sS (h59.text), .int .i64 (h59.edits), .int .i64 (h59.exact), .int .u64 (h59.lo), .int .u64 (h59.hi), u60]⟩ :: ⟨51, 2, (obj b), 1, [sS s, iN a57j]⟩ :: ⟨25, 8, v71, (List.length (M ++ ([(qn (h59.op) (h59.field) (h59.text) (h59.edits) (h59.exact) (h59.lo) (h59.hi) u60)] : List QN))), (recs qnC (M ++ ([(qn (h59.op) (h59.field) (h59.text) (h59.edits) (h59.exact) (h59.lo) (h59.hi) u60)] : List QN)))⟩ :: ⟨25, 8, (obj c), 1, [.int .i64 0, sS ([]), sS ([]), .int .i64 0, .int .i64 0, .int .u64 0, .int .u64 0, .slice none 0 0]⟩ :: (T61 ++ T)) := hM74.cast (by simp [ivals, svals, bvals, nvals, u8s, Nat.add_assoc, recs, qnC])
     have hM76 := hM75.sub (sD (sK (sK (sK sR))))
     exact xl 4 (ih m a57j (acc ++ [a57q]) (M ++ ([(qn (h59.op) (h59.field) (h59.text) (h59.edits) (h59.exact) (h59.lo) (h59.hi) u60)] : List QN)) v71 (T61 ++ T) _ (by omega) (by omega) (by omega) (by simp only [List.length_append, List.length_cons, List.length_nil]; omega) (by rw [← hX]; exact (bl_ok (by omega) hs55).symm) (hQL.snoc he62 hqt63) (by simp) (hM76.sub (sK (sK (sK sR)))) (by omega))

set_option maxHeartbeats 1000000 in
theorem both_s (s : List UInt8) (hs : s.length ≤ 8192) (b : Nat) (i : Nat) (hi : i ≤ s.length) (n : Nat) (hf : 5 * (s.length - i) + 4 ≤ n + 1) (X : Except Nat (Q × Nat)) (hX : prs s (n + 1) .B i = X) (K : Nat) (ihone : ∀ n, n < K → CT 55 .O 3 s n) (hn : n < K) {w : World} (hG : GS [b] w) (hM : Mem [b] w w [⟨51, 2, (obj b), 1, [sS s, iN i]⟩]) :
  Calls Tryz.prog 40 #[pq b] w (TP s X b w) := by
 refine xe 37 Tryz.func40 (fun R hR => ?_)
 refine xx 2 (m_alloc oT25 hM) (fun b1 w2 hM4 => ?_)
 have hM6 : Mem [b] w w2 [⟨51, 2, (obj b), 1, [sS s, iN i]⟩, ⟨25, 8, (obj b1), 1, [.int .i64 0, sS ([]), sS ([]), .int .i64 0, .int .i64 0, .int .u64 0, .int .u64 0, .slice none 0 0]⟩] := hM4.perm (pS pR)
 refine xkp 4 Tryz.func40 (ihone n (by omega) b i (by omega) (by omega) (hG.kept hM6.kept) hM6.lend1) (fun k7 w8 hs9 m10 => by rw [hR]; exact .inr ⟨_, by rw [← hX]; exact b_err hs9, rfl, (hM6.back1 m10).none⟩) (fun ⟨a11q, a11j⟩ v12 w8 hs9 m10 => ?_)
 obtain ⟨h13, u14, T15, rfl, he16, hqt17, m18⟩ := m10
 have hx20 := prs_inv _ _ _ _ _ (by omega) hs9
 simp only [below] at hx20
 have hM19 : Mem [b] w w8 (⟨51, 2, (obj b), 1, [sS s, iN a11j]⟩ :: ⟨25, 8, (obj b1), 1, [.int .i64 0, sS ([]), sS ([]), .int .i64 0, .int .i64 0, .int .u64 0, .int .u64 0, .slice none 0 0]⟩ :: T15) := Mem.backT0 (A := [⟨25, 8, (obj b1), 1, [.int .i64 0, sS ([]), sS ([]), .int .i64 0, .int .i64 0, .int .u64 0, .int .u64 0, .slice none 0 0]⟩]) hM6 m18
 refine xx 0 (m_lit sT23 hM19 (n := 1) (parts := #[(0, .agg #[.int .i64 (h13.op), sS (h13.field), sS (h13.text), .int .i64 (h13.edits), .int .i64 (h13.exact), .int .u64 (h13.lo), .int .u64 (h13.hi), u14])]) (cs := [.int .i64 (h13.op), sS (h13.field), sS (h13.text), .int .i64 (h13.edits), .int .i64 (h13.exact), .int .u64 (h13.lo), .int .u64 (h13.hi), u14]) (by decide) (by kernel_rfl) rfl) (fun v21 w22 hM24 => ?_)
 have hM25 : Mem [b] w w22 (⟨25, 8, (obj b1), 1, [.int .i64 0, sS ([]), sS ([]), .int .i64 0, .int .i64 0, .int .u64 0, .int .u64 0, .slice none 0 0]⟩ :: ⟨25, 8, v21, 1, [.int .i64 (h13.op), sS (h13.field), sS (h13.text), .int .i64 (h13.edits), .int .i64 (h13.exact), .int .u64 (h13.lo), .int .u64 (h13.hi), u14]⟩ :: ⟨51, 2, (obj b), 1, [sS s, iN a11j]⟩ :: T15) := hM24.perm (pS (pS pR))
 have hM26 : Mem [b] w w22 (⟨25, 8, v21, 1, [.int .i64 (h13.op), sS (h13.field), sS (h13.text), .int .i64 (h13.edits), .int .i64 (h13.exact), .int .u64 (h13.lo), .int .u64 (h13.hi), u14]⟩ :: ⟨25, 8, (obj b1), 1, [.int .i64 0, sS ([]), sS ([]), .int .i64 0, .int .i64 0, .int .u64 0, .int .u64 0, .slice none 0 0]⟩ :: ⟨51, 2, (obj b), 1, [sS s, iN a11j]⟩ :: T15) := hM25.perm (pS pR)
 have hM27 : Mem [b] w w22 (⟨51, 2, (obj b), 1, [sS s, iN a11j]⟩ :: ⟨25, 8, v21, 1, [.int .i64 (h13.op), sS (h13.field), sS (h13.text), .int .i64 (h13.edits), .int .i64 (h13.exact), .int .u64 (h13.lo), .int .u64 (h13.hi), u14]⟩ :: ⟨25, 8, (obj b1), 1, [.int .i64 0, sS ([]), sS ([]), .int .i64 0, .int .i64 0, .int .u64 0, .int .u64 0, .slice none 0 0]⟩ :: T15) := hM26.perm (pS (pS pR))
 exact xl 4 (both_L s hs b b1 X K ihone hG R hR (n + 1) n a11j [a11q] [⟨h13, u14⟩] v21 T15 _ (by omega) (by omega) (by omega) (by simp only [List.length_cons, List.length_nil]; omega) (by rw [← hX]; exact (b_ok hs9).symm) (QL.one he16 hqt17) (by simp) (hM27.sub (sK (sK (sK sR)))) (by omega))

set_option maxHeartbeats 1000000 in
theorem either_L (s : List UInt8) (hs : s.length ≤ 8192) (b c : Nat) (X : Except Nat (Q × Nat)) (K : Nat) (ihboth : ∀ n, n < K → CT 40 .B 4 s n) {w : World} (hG : GS [b] w) (R : Ending → World → Prop) (hR : R = (TP s X b w)) : ∀ (N : Nat) (m j : Nat) (acc : List Q) (M : List QN) (u : Value) (T : List Row) (w1 : World) (hji : j ≤ s.length) (hf : 5 * (s.length - j) + 6 ≤ m) (hm : m ≤ K) (hal : acc.length ≤ j) (hX : prs s m (.EL acc) j = X) (hQL : QL T acc M) (hne : acc ≠ []) (hM : Mem [b] w w1 (⟨51, 2, (obj b), 1, [sS s, iN j]⟩ :: ⟨25, 8, u, (List.length M), (recs qnC M)⟩ :: ⟨25, 8, (obj c), 1, [.int .i64 0, sS ([]), sS ([]), .int .i64 0, .int .i64 0, .int .u64 0, .int .u64 0, .slice none 0 0]⟩ :: T)) (hN : m < N), GoS Tryz.prog 21 R 26 [iC Tryz.f21 [1,1,0,0], iL Tryz.f21 [1,1,0,0], .inBlock 0] [(0, pq b), (2, pq c), (3, u)] w1 := by
 intro N
 induction N with
 | zero => intro m j acc M u T w1 hji hf hm hal hX hQL hne hM hN; exact absurd hN (Nat.not_lt_zero _)
 | succ N ih =>
  intro m j acc M u T w1 hji hf hm hal hX hQL hne hM hN
  obtain ⟨m, rfl⟩ : ∃ m_, m = m_ + 1 := ⟨m - 1, by omega⟩
  have hln := hQL.len
  refine xs ?_
  refine xk 4 (blanks_c s (by omega) b j (by omega) hM.lend1) (fun w1 m2 => ?_)
  have hM3 := hM.back1 m2
  have hk4 := skip_le s j
  have hb8 := bl_bd s (skipP s j)
  have hb9 := bl_or s (skipP s j)
  refine xk 5 (next_c s (by omega) (skipP s j) (by omega) b (hM3.rd 0 rfl)) (fun w5 m6 => ?_)
  have hM7 := hM3.j m6
  refine xcn 2 ((bl s (skipP s j)) = 124) (fun h10p => ?_) (fun h10p => ?_)
  ·
   refine xcg 3 (many_q 8 hM7 (hM7.rd 1 rfl) (fun _ h_ => mS (mS (mS (h_)))) hQL hne) ?_
   rintro _ w17 ⟨h11, u12, rfl, he13, hqt14, m15⟩
   refine ⟨_, rfl, ?_⟩
   have hM16 := hM7.j m15
   refine xst 0 (c_stores (ys := [.int .i64 (h11.op), sS (h11.field), sS (h11.text), .int .i64 (h11.edits), .int .i64 (h11.exact), .int .u64 (h11.lo), .int .u64 (h11.hi), u12]) aE25 hM16 2 rfl (cel_obj c 0) rfl (by decide) (by intro u hu; simp at hu; rcases hu with rfl | rfl | rfl | rfl | rfl | rfl | rfl | rfl <;> first | rfl | exact (QT.rd hM16 (fun r_ h_ => by rcases List.mem_cons.1 h_ with g | g <;> simp [g]) hqt14).one.1)) (fun w18 hM20 => ?_)
   exact xrc 1 (v := .agg #[.int .i64 (h11.op), sS (h11.field), sS (h11.text), .int .i64 (h11.edits), .int .i64 (h11.exact), .int .u64 (h11.lo), .int .u64 (h11.hi), u12]) Tryz.func21 (ResC.cell (c := 2) (by kernel_rfl) (show (Instr.loadAt 25 (pq c)).run Tryz.prog w18 = .ok (.agg #[.int .i64 (h11.op), sS (h11.field), sS (h11.text), .int .i64 (h11.edits), .int .i64 (h11.exact), .int .u64 (h11.lo), .int .u64 (h11.hi), u12]) w18 from c_loads (ys := [.int .i64 (h11.op), sS (h11.field), sS (h11.text), .int .i64 (h11.edits), .int .i64 (h11.exact), .int .u64 (h11.lo), .int .u64 (h11.hi), u12]) aE25 (hM20.rd 2 rfl) (cel_obj c 0) rfl (lq rfl)) ResC.nil) hR (.inl ⟨(manyQ 8 acc, skipP s j), _, by rw [← hX]; exact el_end (by omega), rfl, h11, u12, _, rfl, he13, hqt14, hM20.sub (sK (sK (sD sR)))⟩)
  ·
   refine xv 6 (c_load pE3 (hM7.rd 0 rfl) (cel_obj b 1) rfl) ?_
   refine xa 0 (((skipP s j) : Nat) : Int) 1 ((((skipP s j) + 1) : Nat) : Int) ?_
   refine xst 2 (c_store (E := 3) (u := iN ((skipP s j) + 1)) (by kernel_rfl) hM7 0 rfl (cel_obj b 1) (by decide) rfl rfl) (fun w23 hM25 => ?_)
   refine xkp 4 Tryz.func21 (ihboth m (by omega) b ((skipP s j) + 1) (by omega) (by omega) (hG.kept hM25.kept) hM25.lend1) (fun k30 w31 hs32 m33 => by rw [hR]; exact .inr ⟨_, by rw [← hX]; exact el_err (by omega) hs32, rfl, (hM25.back1 m33).none⟩) (fun ⟨a34q, a34j⟩ v35 w31 hs32 m33 => ?_)
   obtain ⟨h36, u37, T38, rfl, he39, hqt40, m41⟩ := m33
   have hx43 := prs_inv _ _ _ _ _ (by omega) hs32
   simp only [below] at hx43
   have hM42 : Mem [b] w w31 (⟨51, 2, (obj b), 1, [sS s, iN a34j]⟩ :: ⟨25, 8, u, (List.length M), (recs qnC M)⟩ :: ⟨25, 8, (obj c), 1, [.int .i64 0, sS ([]), sS ([]), .int .i64 0, .int .i64 0, .int .u64 0, .int .u64 0, .slice none 0 0]⟩ :: (T38 ++ T)) := Mem.backT (A := [⟨25, 8, u, (List.length M), (recs qnC M)⟩, ⟨25, 8, (obj c), 1, [.int .i64 0, sS ([]), sS ([]), .int .i64 0, .int .i64 0, .int .u64 0, .int .u64 0, .slice none 0 0]⟩]) (T0 := T) hM25 m41
   refine xx 0 (m_lit sT23 hM42 (n := 1) (parts := #[(0, .agg #[.int .i64 (h36.op), sS (h36.field), sS (h36.text), .int .i64 (h36.edits), .int .i64 (h36.exact), .int .u64 (h36.lo), .int .u64 (h36.hi), u37])]) (cs := [.int .i64 (h36.op), sS (h36.field), sS (h36.text), .int .i64 (h36.edits), .int .i64 (h36.exact), .int .u64 (h36.lo), .int .u64 (h36.hi), u37]) (by decide) (by kernel_rfl) rfl) (fun v44 w45 hM47 => ?_)
   refine xx 0 (m_append sT23 hM47 2 rfl (hM47.rd 0 rfl) (by intro u hu; simp only [List.mem_cons, List.not_mem_nil, or_false] at hu; rcases hu with rfl | rfl | rfl | rfl | rfl | rfl | rfl | rfl; exact rfl; exact rfl; exact rfl; exact rfl; exact rfl; exact rfl; exact rfl; exact (QT.rd hM47 (fun r_ h_ => mS (mS (mS (mS (List.mem_append_left _ (h_)))))) hqt40).one.1) (by first | omega | (dsimp only; omega)) (by first | omega | (dsimp only; omega)) 23) (fun v48 w49 hM51 => ?_)
   have hM52 : Mem [b] w w49 (⟨25, 8, v44, 1, [.int .i64 (h36.op), sS (h36.field), sS (h36.text), .int .i64 (h36.edits), .int .i64 (h36.exact), .int .u64 (h36.lo), .int .u64 (h36.hi), u37]⟩ :: ⟨51, 2, (obj b), 1, [sS s, iN a34j]⟩ :: ⟨25, 8, v48, (List.length (M ++ ([(qn (h36.op) (h36.field) (h36.text) (h36.edits) (h36.exact) (h36.lo) (h36.hi) u37)] : List QN))), (recs qnC (M ++ ([(qn (h36.op) (h36.field) (h36.text) (h36.edits) (h36.exact) (h36.lo) (h36.hi) u37)] : List QN)))⟩ :: ⟨25, 8, (obj c), 1, [.int .i64 0, sS ([]), sS ([]), .int .i64 0, .int .i64 0, .int .u64 0, .int .u64 0, .slice none 0 0]⟩ :: (T38 ++ T)) := hM51.cast (by simp [ivals, svals, bvals, nvals, u8s, Nat.add_assoc, recs, qnC])
   have hM53 := hM52.sub (sD (sK (sK (sK sR))))
   exact xl 4 (ih m a34j (acc ++ [a34q]) (M ++ ([(qn (h36.op) (h36.field) (h36.text) (h36.edits) (h36.exact) (h36.lo) (h36.hi) u37)] : List QN)) v48 (T38 ++ T) _ (by omega) (by omega) (by omega) (by simp only [List.length_append, List.length_cons, List.length_nil]; omega) (by rw [← hX]; exact (el_ok (by omega) hs32).symm) (hQL.snoc he39 hqt40) (by simp) (hM53.sub (sK (sK (sK sR)))) (by omega))

set_option maxHeartbeats 1000000 in
theorem either_s (s : List UInt8) (hs : s.length ≤ 8192) (b : Nat) (i : Nat) (hi : i ≤ s.length) (n : Nat) (hf : 5 * (s.length - i) + 5 ≤ n + 1) (X : Except Nat (Q × Nat)) (hX : prs s (n + 1) .E i = X) (K : Nat) (ihboth : ∀ n, n < K → CT 40 .B 4 s n) (hn : n < K) {w : World} (hG : GS [b] w) (hM : Mem [b] w w [⟨51, 2, (obj b), 1, [sS s, iN i]⟩]) :
  Calls Tryz.prog 21 #[pq b] w (TP s X b w) := by
 refine xe 26 Tryz.func21 (fun R hR => ?_)
 refine xx 2 (m_alloc oT25 hM) (fun b1 w2 hM4 => ?_)
 have hM6 : Mem [b] w w2 [⟨51, 2, (obj b), 1, [sS s, iN i]⟩, ⟨25, 8, (obj b1), 1, [.int .i64 0, sS ([]), sS ([]), .int .i64 0, .int .i64 0, .int .u64 0, .int .u64 0, .slice none 0 0]⟩] := hM4.perm (pS pR)
 refine xkp 4 Tryz.func21 (ihboth n (by omega) b i (by omega) (by omega) (hG.kept hM6.kept) hM6.lend1) (fun k7 w8 hs9 m10 => by rw [hR]; exact .inr ⟨_, by rw [← hX]; exact e_err hs9, rfl, (hM6.back1 m10).none⟩) (fun ⟨a11q, a11j⟩ v12 w8 hs9 m10 => ?_)
 obtain ⟨h13, u14, T15, rfl, he16, hqt17, m18⟩ := m10
 have hx20 := prs_inv _ _ _ _ _ (by omega) hs9
 simp only [below] at hx20
 have hM19 : Mem [b] w w8 (⟨51, 2, (obj b), 1, [sS s, iN a11j]⟩ :: ⟨25, 8, (obj b1), 1, [.int .i64 0, sS ([]), sS ([]), .int .i64 0, .int .i64 0, .int .u64 0, .int .u64 0, .slice none 0 0]⟩ :: T15) := Mem.backT0 (A := [⟨25, 8, (obj b1), 1, [.int .i64 0, sS ([]), sS ([]), .int .i64 0, .int .i64 0, .int .u64 0, .int .u64 0, .slice none 0 0]⟩]) hM6 m18
 refine xx 0 (m_lit sT23 hM19 (n := 1) (parts := #[(0, .agg #[.int .i64 (h13.op), sS (h13.field), sS (h13.text), .int .i64 (h13.edits), .int .i64 (h13.exact), .int .u64 (h13.lo), .int .u64 (h13.hi), u14])]) (cs := [.int .i64 (h13.op), sS (h13.field), sS (h13.text), .int .i64 (h13.edits), .int .i64 (h13.exact), .int .u64 (h13.lo), .int .u64 (h13.hi), u14]) (by decide) (by kernel_rfl) rfl) (fun v21 w22 hM24 => ?_)
 have hM25 : Mem [b] w w22 (⟨25, 8, (obj b1), 1, [.int .i64 0, sS ([]), sS ([]), .int .i64 0, .int .i64 0, .int .u64 0, .int .u64 0, .slice none 0 0]⟩ :: ⟨25, 8, v21, 1, [.int .i64 (h13.op), sS (h13.field), sS (h13.text), .int .i64 (h13.edits), .int .i64 (h13.exact), .int .u64 (h13.lo), .int .u64 (h13.hi), u14]⟩ :: ⟨51, 2, (obj b), 1, [sS s, iN a11j]⟩ :: T15) := hM24.perm (pS (pS pR))
 have hM26 : Mem [b] w w22 (⟨25, 8, v21, 1, [.int .i64 (h13.op), sS (h13.field), sS (h13.text), .int .i64 (h13.edits), .int .i64 (h13.exact), .int .u64 (h13.lo), .int .u64 (h13.hi), u14]⟩ :: ⟨25, 8, (obj b1), 1, [.int .i64 0, sS ([]), sS ([]), .int .i64 0, .int .i64 0, .int .u64 0, .int .u64 0, .slice none 0 0]⟩ :: ⟨51, 2, (obj b), 1, [sS s, iN a11j]⟩ :: T15) := hM25.perm (pS pR)
 have hM27 : Mem [b] w w22 (⟨51, 2, (obj b), 1, [sS s, iN a11j]⟩ :: ⟨25, 8, v21, 1, [.int .i64 (h13.op), sS (h13.field), sS (h13.text), .int .i64 (h13.edits), .int .i64 (h13.exact), .int .u64 (h13.lo), .int .u64 (h13.hi), u14]⟩ :: ⟨25, 8, (obj b1), 1, [.int .i64 0, sS ([]), sS ([]), .int .i64 0, .int .i64 0, .int .u64 0, .int .u64 0, .slice none 0 0]⟩ :: T15) := hM26.perm (pS (pS pR))
 exact xl 4 (either_L s hs b b1 X K ihboth hG R hR (n + 1) n a11j [a11q] [⟨h13, u14⟩] v21 T15 _ (by omega) (by omega) (by omega) (by simp only [List.length_cons, List.length_nil]; omega) (by rw [← hX]; exact (e_ok hs9).symm) (QL.one he16 hqt17) (by simp) (hM27.sub (sK (sK (sK sR)))) (by omega))


end Go.Proofs.YthpodbngljfdmaaGreatDoor


namespace Go.Proofs.YthpodbngljfdmaaGreatDoor
open Go Go.Gw Go.UtfP Go.TokP Go.QryP Go.SynP Go.RealQ Go.SynV Go.RowKit
set_option linter.unusedVariables false
set_option linter.unusedSimpArgs false
set_option maxRecDepth 20000


theorem leaf_t (s : List UInt8) (hs : s.length ≤ 8192) (b i : Nat) (hi : i ≤ s.length) {w : World} (hG : GS [b] w) (hM : Mem [b] w w [⟨51, 2, (obj b), 1, [sS s, iN i]⟩]) : Calls Tryz.prog 77 #[pq b] w (TP s (leafP s i) b w) := by
 refine calls_imp (leaf_c s hs b i hi hG hM) ?_
 rintro e w' (⟨a, v, h1, rfl, rfl, hl, m⟩ | ⟨k, h1, h2, h3⟩)
 ·
  exact .inl ⟨a, _, h1, rfl, a.1.h, .slice none 0 0, [⟨25, 8, .slice none 0 0, 0, []⟩], rfl, rfl, QT.whole (M := []) (by rw [hl]; rfl) (fun j hj => by rw [hl] at hj; exact absurd hj (Nat.not_lt_zero _)) (fun j hj => by rw [hl] at hj; exact absurd hj (Nat.not_lt_zero _)), (m.nilrow 25 8).perm (List.Perm.swap _ _ _)⟩
 · exact .inr ⟨k, h1, h2, h3⟩

set_option maxHeartbeats 1000000 in
theorem one_s (s : List UInt8) (hs : s.length ≤ 8192) (b : Nat) (i : Nat) (hi : i ≤ s.length) (n : Nat) (hf : 5 * (s.length - i) + 3 ≤ n + 1) (X : Except Nat (Q × Nat)) (hX : prs s (n + 1) .O i = X) (K : Nat) (ihone : ∀ n, n < K → CT 55 .O 3 s n) (iheither : ∀ n, n < K → CT 21 .E 5 s n) (hn : n < K) {w : World} (hG : GS [b] w) (hM : Mem [b] w w [⟨51, 2, (obj b), 1, [sS s, iN i]⟩]) :
  Calls Tryz.prog 55 #[pq b] w (TP s X b w) := by
 refine xe 47 Tryz.func55 (fun R hR => ?_)
 refine xx 2 (m_alloc oT25 hM) (fun b1 w2 hM4 => ?_)
 have hM6 : Mem [b] w w2 [⟨51, 2, (obj b), 1, [sS s, iN i]⟩, ⟨25, 8, (obj b1), 1, [.int .i64 0, sS ([]), sS ([]), .int .i64 0, .int .i64 0, .int .u64 0, .int .u64 0, .slice none 0 0]⟩] := hM4.perm (pS pR)
 refine xk 4 (blanks_c s (by omega) b i (by omega) hM6.lend1) (fun w7 m8 => ?_)
 have hM9 := hM6.back1 m8
 have hk10 := skip_le s i
 have hb14 := bl_bd s (skipP s i)
 have hb15 := bl_or s (skipP s i)
 refine xk 5 (next_c s (by omega) (skipP s i) (by omega) b (hM9.rd 0 rfl)) (fun w11 m12 => ?_)
 have hM13 := hM9.j m12
 refine xc 7 ((bl s (skipP s i)) = 45) (fun h16p => ?_) (fun h16p => ?_)
 ·
  refine xv 5 (c_load pE3 (hM13.rd 0 rfl) (cel_obj b 1) rfl) ?_
  refine xa 0 (((skipP s i) : Nat) : Int) 1 ((((skipP s i) + 1) : Nat) : Int) ?_
  refine xst 2 (c_store (E := 3) (u := iN ((skipP s i) + 1)) (by kernel_rfl) hM13 0 rfl (cel_obj b 1) (by decide) rfl rfl) (fun w17 hM19 => ?_)
  refine xkp 4 Tryz.func55 (ihone n (by omega) b ((skipP s i) + 1) (by omega) (by omega) (hG.kept hM19.kept) hM19.lend1) (fun k24 w25 hs26 m27 => by rw [hR]; exact .inr ⟨_, by rw [← hX]; exact o_not_err (by omega) hs26, rfl, (hM19.back1 m27).none⟩) (fun ⟨a28q, a28j⟩ v29 w25 hs26 m27 => ?_)
  obtain ⟨h30, u31, T32, rfl, he33, hqt34, m35⟩ := m27
  have hx37 := prs_inv _ _ _ _ _ (by omega) hs26
  simp only [below] at hx37
  have hM36 : Mem [b] w w25 (⟨51, 2, (obj b), 1, [sS s, iN a28j]⟩ :: ⟨25, 8, (obj b1), 1, [.int .i64 0, sS ([]), sS ([]), .int .i64 0, .int .i64 0, .int .u64 0, .int .u64 0, .slice none 0 0]⟩ :: T32) := Mem.backT0 (A := [⟨25, 8, (obj b1), 1, [.int .i64 0, sS ([]), sS ([]), .int .i64 0, .int .i64 0, .int .u64 0, .int .u64 0, .slice none 0 0]⟩]) hM19 m35
  refine xx 0 (m_lit sT23 hM36 (n := 1) (parts := #[(0, .agg #[.int .i64 (h30.op), sS (h30.field), sS (h30.text), .int .i64 (h30.edits), .int .i64 (h30.exact), .int .u64 (h30.lo), .int .u64 (h30.hi), u31])]) (cs := [.int .i64 (h30.op), sS (h30.field), sS (h30.text), .int .i64 (h30.edits), .int .i64 (h30.exact), .int .u64 (h30.lo), .int .u64 (h30.hi), u31]) (by decide) (by kernel_rfl) rfl) (fun v38 w39 hM41 => ?_)
  refine xv 0 (show (Instr.build 25 #[(0, .int .i64 9), (7, v38)]).run Tryz.prog w39 = .ok (.agg #[.int .i64 9, sS ([]), sS ([]), .int .i64 0, .int .i64 0, .int .u64 0, .int .u64 0, v38]) w39 from (by obtain ⟨a0_, m0_, c0_, e0_⟩ : ∃ a m c, v38 = Value.slice a m c := rd_form (hM41.rd 0 rfl); rw [e0_]; kernel_rfl)) ?_
  refine xst 0 (c_stores (ys := [.int .i64 9, sS ([]), sS ([]), .int .i64 0, .int .i64 0, .int .u64 0, .int .u64 0, v38]) aE25 hM41 2 rfl (cel_obj b1 0) rfl (by decide) (by intro u hu; simp at hu; rcases hu with rfl | rfl | rfl | rfl | rfl | rfl | rfl | rfl <;> first | rfl | exact (rd_one (hM41.rd 0 rfl)))) (fun w42 hM44 => ?_)
  have hM48 : Mem [b] w w42 (⟨51, 2, (obj b), 1, [sS s, iN a28j]⟩ :: ⟨25, 8, v38, 1, [.int .i64 (h30.op), sS (h30.field), sS (h30.text), .int .i64 (h30.edits), .int .i64 (h30.exact), .int .u64 (h30.lo), .int .u64 (h30.hi), u31]⟩ :: ⟨25, 8, (obj b1), 1, [.int .i64 9, sS ([]), sS ([]), .int .i64 0, .int .i64 0, .int .u64 0, .int .u64 0, v38]⟩ :: T32) := hM44.perm (pS pR)
  exact xrc 1 (v := .agg #[.int .i64 9, sS ([]), sS ([]), .int .i64 0, .int .i64 0, .int .u64 0, .int .u64 0, v38]) Tryz.func55 (ResC.cell (c := 2) (by kernel_rfl) (show (Instr.loadAt 25 (pq b1)).run Tryz.prog w42 = .ok (.agg #[.int .i64 9, sS ([]), sS ([]), .int .i64 0, .int .i64 0, .int .u64 0, .int .u64 0, v38]) w42 from c_loads (ys := [.int .i64 9, sS ([]), sS ([]), .int .i64 0, .int .i64 0, .int .u64 0, .int .u64 0, v38]) aE25 (hM44.rd 2 rfl) (cel_obj b1 0) rfl (lq rfl)) ResC.nil) hR (.inl ⟨(.mk (opH 9) [a28q], a28j), _, by rw [← hX]; exact o_not (by omega) hs26, rfl, opH 9, v38, _, rfl, rfl, (QL.one he33 hqt34).whole _, (hM48.sub (sK (sK (sD sR))))⟩)
 ·
  refine xc 5 ((bl s (skipP s i)) = 40) (fun h49p => ?_) (fun h49p => ?_)
  ·
   refine xv 5 (c_load pE3 (hM13.rd 0 rfl) (cel_obj b 1) rfl) ?_
   refine xa 0 (((skipP s i) : Nat) : Int) 1 ((((skipP s i) + 1) : Nat) : Int) ?_
   refine xst 2 (c_store (E := 3) (u := iN ((skipP s i) + 1)) (by kernel_rfl) hM13 0 rfl (cel_obj b 1) (by decide) rfl rfl) (fun w50 hM52 => ?_)
   refine xkp 4 Tryz.func55 (iheither n (by omega) b ((skipP s i) + 1) (by omega) (by omega) (hG.kept hM52.kept) hM52.lend1) (fun k57 w58 hs59 m60 => by rw [hR]; exact .inr ⟨_, by rw [← hX]; exact o_par_err (by omega) hs59, rfl, (hM52.back1 m60).none⟩) (fun ⟨a61q, a61j⟩ v62 w58 hs59 m60 => ?_)
   obtain ⟨h63, u64, T65, rfl, he66, hqt67, m68⟩ := m60
   have hx70 := prs_inv _ _ _ _ _ (by omega) hs59
   simp only [below] at hx70
   have hM69 : Mem [b] w w58 (⟨51, 2, (obj b), 1, [sS s, iN a61j]⟩ :: ⟨25, 8, (obj b1), 1, [.int .i64 0, sS ([]), sS ([]), .int .i64 0, .int .i64 0, .int .u64 0, .int .u64 0, .slice none 0 0]⟩ :: T65) := Mem.backT0 (A := [⟨25, 8, (obj b1), 1, [.int .i64 0, sS ([]), sS ([]), .int .i64 0, .int .i64 0, .int .u64 0, .int .u64 0, .slice none 0 0]⟩]) hM52 m68
   refine xx 0 (m_alloc oT25 hM69) (fun b71 w72 hM74 => ?_)
   refine xst 0 (c_stores (ys := [.int .i64 (h63.op), sS (h63.field), sS (h63.text), .int .i64 (h63.edits), .int .i64 (h63.exact), .int .u64 (h63.lo), .int .u64 (h63.hi), u64]) aE25 hM74 0 rfl (cel_obj b71 0) rfl (by decide) (by intro u hu; simp at hu; rcases hu with rfl | rfl | rfl | rfl | rfl | rfl | rfl | rfl <;> first | rfl | exact (QT.rd hM74 (fun r_ h_ => mS (mS (mS (h_)))) hqt67).one.1)) (fun w76 hM78 => ?_)
   have hM81 : Mem [b] w w76 (⟨51, 2, (obj b), 1, [sS s, iN a61j]⟩ :: ⟨25, 8, (obj b71), 1, [.int .i64 (h63.op), sS (h63.field), sS (h63.text), .int .i64 (h63.edits), .int .i64 (h63.exact), .int .u64 (h63.lo), .int .u64 (h63.hi), u64]⟩ :: ⟨25, 8, (obj b1), 1, [.int .i64 0, sS ([]), sS ([]), .int .i64 0, .int .i64 0, .int .u64 0, .int .u64 0, .slice none 0 0]⟩ :: T65) := hM78.perm (pS pR)
   refine xkp 4 Tryz.func55 (take_c s (by omega) 41 b a61j (by omega) hM81.lend1) (fun k82 w83 hs84 m85 => by rw [hR]; exact .inr ⟨_, by rw [← hX]; exact o_par_err2 (by omega) hs59 hs84, rfl, (hM81.back1 m85).none⟩) (fun a86 v87 w83 hs84 m85 => ?_)
   obtain ⟨rfl, m88⟩ := m85
   have hx89 := take_inv hs84
   have hM90 := hM81.back1 m88
   refine xv 3 (c_loads (ys := [.int .i64 (h63.op), sS (h63.field), sS (h63.text), .int .i64 (h63.edits), .int .i64 (h63.exact), .int .u64 (h63.lo), .int .u64 (h63.hi), u64]) aE25 (hM90.rd 1 rfl) (cel_obj b71 0) rfl (lq rfl)) ?_
   refine xst 0 (c_stores (ys := [.int .i64 (h63.op), sS (h63.field), sS (h63.text), .int .i64 (h63.edits), .int .i64 (h63.exact), .int .u64 (h63.lo), .int .u64 (h63.hi), u64]) aE25 hM90 2 rfl (cel_obj b1 0) rfl (by decide) (by intro u hu; simp at hu; rcases hu with rfl | rfl | rfl | rfl | rfl | rfl | rfl | rfl <;> first | rfl | exact (QT.rd hM90 (fun r_ h_ => mS (mS (mS (h_)))) hqt67).one.1)) (fun w91 hM93 => ?_)
   exact xrc 1 (v := .agg #[.int .i64 (h63.op), sS (h63.field), sS (h63.text), .int .i64 (h63.edits), .int .i64 (h63.exact), .int .u64 (h63.lo), .int .u64 (h63.hi), u64]) Tryz.func55 (ResC.cell (c := 2) (by kernel_rfl) (show (Instr.loadAt 25 (pq b1)).run Tryz.prog w91 = .ok (.agg #[.int .i64 (h63.op), sS (h63.field), sS (h63.text), .int .i64 (h63.edits), .int .i64 (h63.exact), .int .u64 (h63.lo), .int .u64 (h63.hi), u64]) w91 from c_loads (ys := [.int .i64 (h63.op), sS (h63.field), sS (h63.text), .int .i64 (h63.edits), .int .i64 (h63.exact), .int .u64 (h63.lo), .int .u64 (h63.hi), u64]) aE25 (hM93.rd 2 rfl) (cel_obj b1 0) rfl (lq rfl)) ResC.nil) hR (.inl ⟨(a61q, a86), _, by rw [← hX]; exact o_par (by omega) hs59 hs84, rfl, h63, u64, T65, rfl, he66, hqt67, (hM93.sub (sK (sD (sD sR))))⟩)
  ·
   refine xc 5 ((bl s (skipP s i)) = 42) (fun h97p => ?_) (fun h97p => ?_)
   ·
    refine xv 5 (c_load pE3 (hM13.rd 0 rfl) (cel_obj b 1) rfl) ?_
    refine xa 0 (((skipP s i) : Nat) : Int) 1 ((((skipP s i) + 1) : Nat) : Int) ?_
    refine xst 2 (c_store (E := 3) (u := iN ((skipP s i) + 1)) (by kernel_rfl) hM13 0 rfl (cel_obj b 1) (by decide) rfl rfl) (fun w98 hM100 => ?_)
    refine xst 4 (c_stores (ys := [.int .i64 10, sS ([]), sS ([]), .int .i64 0, .int .i64 0, .int .u64 0, .int .u64 0, .slice none 0 0]) aE25 hM100 1 rfl (cel_obj b1 0) rfl (by decide) (oneL rfl)) (fun w102 hM104 => ?_)
    exact xrc 1 (v := .agg #[.int .i64 10, sS ([]), sS ([]), .int .i64 0, .int .i64 0, .int .u64 0, .int .u64 0, .slice none 0 0]) Tryz.func55 (ResC.cell (c := 2) (by kernel_rfl) (show (Instr.loadAt 25 (pq b1)).run Tryz.prog w102 = .ok (.agg #[.int .i64 10, sS ([]), sS ([]), .int .i64 0, .int .i64 0, .int .u64 0, .int .u64 0, .slice none 0 0]) w102 from c_loads (ys := [.int .i64 10, sS ([]), sS ([]), .int .i64 0, .int .i64 0, .int .u64 0, .int .u64 0, .slice none 0 0]) aE25 (hM104.rd 1 rfl) (cel_obj b1 0) rfl (lq rfl)) ResC.nil) hR (.inl ⟨(.mk (opH 10) [], _), _, by rw [← hX]; exact o_all (by omega), rfl, opH 10, .slice none 0 0, [⟨25, 8, .slice none 0 0, 0, []⟩], rfl, rfl, QT.whole (M := []) rfl (fun j hj => absurd hj (Nat.not_lt_zero _)) (fun j hj => absurd hj (Nat.not_lt_zero _)), ((hM104.sub (sK (sD sR))).nilrow 25 8).perm (List.Perm.swap _ _ _)⟩)
   ·
    refine xkp 5 Tryz.func55 (leaf_t s (by omega) b (skipP s i) (by omega) (hG.kept hM13.kept) hM13.lend1) (fun k110 w111 hs112 m113 => by rw [hR]; exact .inr ⟨_, by rw [← hX, o_leaf (by omega) (by omega) (by omega)]; exact hs112, rfl, (hM13.back1 m113).none⟩) (fun ⟨a114q, a114j⟩ v115 w111 hs112 m113 => ?_)
    obtain ⟨h116, u117, T118, rfl, he119, hqt120, m121⟩ := m113
    have hx123 := leaf_inv (by omega) hs112
    have hM122 : Mem [b] w w111 (⟨51, 2, (obj b), 1, [sS s, iN a114j]⟩ :: ⟨25, 8, (obj b1), 1, [.int .i64 0, sS ([]), sS ([]), .int .i64 0, .int .i64 0, .int .u64 0, .int .u64 0, .slice none 0 0]⟩ :: T118) := Mem.backT0 (A := [⟨25, 8, (obj b1), 1, [.int .i64 0, sS ([]), sS ([]), .int .i64 0, .int .i64 0, .int .u64 0, .int .u64 0, .slice none 0 0]⟩]) hM13 m121
    refine xst 0 (c_stores (ys := [.int .i64 (h116.op), sS (h116.field), sS (h116.text), .int .i64 (h116.edits), .int .i64 (h116.exact), .int .u64 (h116.lo), .int .u64 (h116.hi), u117]) aE25 hM122 1 rfl (cel_obj b1 0) rfl (by decide) (by intro u hu; simp at hu; rcases hu with rfl | rfl | rfl | rfl | rfl | rfl | rfl | rfl <;> first | rfl | exact (QT.rd hM122 (fun r_ h_ => mS (mS (h_))) hqt120).one.1)) (fun w124 hM126 => ?_)
    exact xrc 1 (v := .agg #[.int .i64 (h116.op), sS (h116.field), sS (h116.text), .int .i64 (h116.edits), .int .i64 (h116.exact), .int .u64 (h116.lo), .int .u64 (h116.hi), u117]) Tryz.func55 (ResC.cell (c := 2) (by kernel_rfl) (show (Instr.loadAt 25 (pq b1)).run Tryz.prog w124 = .ok (.agg #[.int .i64 (h116.op), sS (h116.field), sS (h116.text), .int .i64 (h116.edits), .int .i64 (h116.exact), .int .u64 (h116.lo), .int .u64 (h116.hi), u117]) w124 from c_loads (ys := [.int .i64 (h116.op), sS (h116.field), sS (h116.text), .int .i64 (h116.edits), .int .i64 (h116.exact), .int .u64 (h116.lo), .int .u64 (h116.hi), u117]) aE25 (hM126.rd 1 rfl) (cel_obj b1 0) rfl (lq rfl)) ResC.nil) hR (.inl ⟨(a114q, a114j), _, by rw [← hX, o_leaf (by omega) (by omega) (by omega)]; exact hs112, rfl, h116, u117, T118, rfl, he119, hqt120, (hM126.sub (sK (sD sR)))⟩)

theorem parts_n (s : List UInt8) (hs : s.length ≤ 8192) : ∀ K n, n < K → CT 21 .E 5 s n ∧ CT 40 .B 4 s n ∧ CT 55 .O 3 s n := by
 intro K
 induction K with
 | zero => intro n hn; exact absurd hn (Nat.not_lt_zero _)
 | succ K ih =>
  intro n hn
  match n, hn with
  | 0, _ => refine ⟨?_, ?_, ?_⟩ <;> (intro b i w hi hf _ _; omega)
  | n + 1, hn => exact ⟨fun b i w hi hf hG hM => either_s s hs b i hi n hf _ rfl K (fun k hk => (ih k hk).2.1) (by omega) hG hM, fun b i w hi hf hG hM => both_s s hs b i hi n hf _ rfl K (fun k hk => (ih k hk).2.2) (by omega) hG hM, fun b i w hi hf hG hM => one_s s hs b i hi n hf _ rfl K (fun k hk => (ih k hk).2.2) (fun k hk => (ih k hk).1) (by omega) hG hM⟩

theorem either_c (s : List UInt8) (hs : s.length ≤ 8192) (b : Nat) {w : World} (hG : GS [b] w) (hM : Mem [b] w w [⟨51, 2, (obj b), 1, [sS s, iN 0]⟩]) : Calls Tryz.prog 21 #[pq b] w (TP s (prs s (fuel s) .E 0) b w) := (parts_n s hs (fuel s + 1) (fuel s) (by omega)).1 b 0 (by omega) (by unfold fuel; omega) hG hM


end Go.Proofs.YthpodbngljfdmaaGreatDoor


namespace Go.Proofs.YthpodbngljfdmaaGreatDoor
open Go Go.Gw Go.UtfP Go.TokP Go.QryP Go.SynP Go.RealQ Go.SynV Go.RowKit
set_option linter.unusedVariables false
set_option linter.unusedSimpArgs false
set_option maxRecDepth 20000
theorem oT47 : ObjT Tryz.prog 47 1 (.agg #[.int .i64 0]) := ⟨⟨_, rfl, by kernel_rfl, by kernel_rfl⟩, rfl⟩
theorem aE47 : Agged Tryz.prog 47 1 := ⟨⟨_, Tryz.underlying47, .inl ⟨_, rfl⟩⟩, _, rfl, by kernel_rfl⟩


set_option maxHeartbeats 1000000 in
theorem recp_X (cq ca ce : Nat) (h : Hd) (u : Value) (a e : Int) (k : Nat) {w : World} (hM : Mem [cq, ca, ce] w w [⟨25, 8, (obj cq), 1, [.int .i64 (h.op), sS (h.field), sS (h.text), .int .i64 (h.edits), .int .i64 (h.exact), .int .u64 (h.lo), .int .u64 (h.hi), u]⟩, ⟨3, 1, (obj ca), 1, [.int .i64 a]⟩, ⟨28, 1, (obj ce), 1, [.int .i64 e]⟩]) (R : Ending → World → Prop) (hR : R = (fun e w' => e = .returned (.tuple #[]) ∧ Mem [cq, ca, ce] w w' [⟨25, 8, (obj cq), 1, [.int .i64 0, sS ([]), sS ([]), .int .i64 0, .int .i64 0, .int .u64 0, .int .u64 0, .slice none 0 0]⟩, ⟨3, 1, (obj ca), 1, [iN k]⟩, ⟨28, 1, (obj ce), 1, [.int .i64 21]⟩])) : GoS Tryz.prog 20 R 20 [.inRegion (cops (csub (cd Tryz.f20) [0])) [1], iC Tryz.f20 [1]] [(0, pq cq), (1, pq ca), (2, pq ce), (6, (.iface 47 (.agg #[iN k])))] w { kind := .deferred } := by
 refine xs ?_
 refine xx 15 (m_alloc oT47 hM) (fun b1 w2 hM4 => ?_)
 refine xst 0 (c_stores (ys := [iN k]) aE47 hM4 0 rfl (cel_obj b1 0) rfl (by decide) (oneL rfl)) (fun w6 hM8 => ?_)
 refine xh 10 [5] hM8 (sK (sD (sD (sD sR)))) (fun w11 hM12 hS13 => ?_)
 refine yl [0,1] 2 hS13 pE3 0 rfl (cel_obj b1 0) rfl ?_
 refine yst [] 3 (c_stores (ys := [.int .i64 0, sS ([]), sS ([]), .int .i64 0, .int .i64 0, .int .u64 0, .int .u64 0, .slice none 0 0]) aE25 hM12 1 rfl (cel_obj cq 0) rfl (by decide) (oneL rfl)) hS13 (fun _ h_ => h_.sub (sK (sD (sD (sD sR))))) (fun w15 hM17 hS19 => ?_)
 refine yst [] 4 (c_store (E := 3) (u := iN k) (by kernel_rfl) hM17 2 rfl (cel_obj ca 0) (by decide) rfl rfl) hS19 (fun _ h_ => h_.sub (sK (sD (sD (sD sR))))) (fun w20 hM22 hS24 => ?_)
 refine ysw [] 5 (c_store (E := 28) (u := .int .i64 21) (by kernel_rfl) hM22 3 rfl (cel_obj ce 0) (by decide) rfl rfl) hS24 (fun w25 hM27 => ?_)
 refine yd ?_
 have hM29 := hM27.sub (sD (sK (sK (sK sR))))
 refine xrk 0 (v := .tuple #[]) Tryz.func20 ?_
 rw [hR]
 refine ⟨rfl, ?_⟩
 exact hM29.sub (sK (sK (sK sN)))

theorem recp (cq ca ce : Nat) (h : Hd) (u : Value) (a e : Int) (k : Nat) {w : World} (hM : Mem [cq, ca, ce] w w [⟨25, 8, (obj cq), 1, [.int .i64 (h.op), sS (h.field), sS (h.text), .int .i64 (h.edits), .int .i64 (h.exact), .int .u64 (h.lo), .int .u64 (h.hi), u]⟩, ⟨3, 1, (obj ca), 1, [.int .i64 a]⟩, ⟨28, 1, (obj ce), 1, [.int .i64 e]⟩]) : CallsD Tryz.prog 20 #[pq cq, pq ca, pq ce] (.panicking (flt 47 k)) w (fun e u' w' => e = .returned (.tuple #[]) ∧ settle u' = .returning ∧ Mem [cq, ca, ce] w w' [⟨25, 8, (obj cq), 1, [.int .i64 0, sS ([]), sS ([]), .int .i64 0, .int .i64 0, .int .u64 0, .int .u64 0, .slice none 0 0]⟩, ⟨3, 1, (obj ca), 1, [iN k]⟩, ⟨28, 1, (obj ce), 1, [.int .i64 21]⟩]) := by
 refine callsD_of 20 Tryz.func20 ?_
 refine GoR.seq (x := csub (cd Tryz.f20) [0]) (y := csub (cd Tryz.f20) [1]) ?_
 refine GoR.region [0, 1] ?_
 refine GoR.take (some 6) ?_
 refine GoR.plain (GoS.told [(0, pq cq), (1, pq ca), (2, pq ce), (6, (.iface 47 (.agg #[iN k])))] (recp_X cq ca ce h u a e k hM _ rfl)) (fun e w' h_ => ⟨h_.1, rfl, h_.2⟩)

set_option maxHeartbeats 1000000 in
theorem recr_X (cq ca ce : Nat) {w : World} (R : Ending → World → Prop) (hR : R = (fun e w' => e = .returned (.tuple #[]) ∧ w = w')) : GoS Tryz.prog 20 R 20 [.inRegion (cops (csub (cd Tryz.f20) [0])) [1], iC Tryz.f20 [1]] [(0, pq cq), (1, pq ca), (2, pq ce), (6, .nilIface)] w { kind := .deferred } := by
 refine xs ?_
 refine xrk 9 (v := .tuple #[]) Tryz.func20 ?_
 rw [hR]
 refine ⟨rfl, ?_⟩
 exact rfl

theorem recr (cq ca ce : Nat) {w : World} : CallsD Tryz.prog 20 #[pq cq, pq ca, pq ce] (.returning) w (fun e u' w' => e = .returned (.tuple #[]) ∧ settle u' = .returning ∧ w = w') := by
 refine callsD_of 20 Tryz.func20 ?_
 refine GoR.seq (x := csub (cd Tryz.f20) [0]) (y := csub (cd Tryz.f20) [1]) ?_
 refine GoR.region [0, 1] ?_
 refine GoR.nothing (some 6) ?_
 refine GoR.plain (GoS.told [(0, pq cq), (1, pq ca), (2, pq ce), (6, .nilIface)] (recr_X cq ca ce _ rfl)) (fun e w' h_ => ⟨h_.1, rfl, h_.2⟩)


end Go.Proofs.YthpodbngljfdmaaGreatDoor


namespace Go.Proofs.YthpodbngljfdmaaGreatDoor
open Go Go.Gw Go.UtfP Go.TokP Go.QryP Go.SynP Go.RealQ Go.SynV Go.RowKit
set_option linter.unusedVariables false
set_option linter.unusedSimpArgs false
set_option maxRecDepth 20000
theorem pE28 : Plain Tryz.prog 28 := ⟨.int .i64, by kernel_rfl, (fun _ h => by cases h), (fun _ _ h => by cases h)⟩
theorem oT3 : ObjT Tryz.prog 3 1 (.int .i64 0) := ⟨⟨_, rfl, by kernel_rfl, by kernel_rfl⟩, rfl⟩
theorem oT28 : ObjT Tryz.prog 28 1 (.int .i64 0) := ⟨⟨_, rfl, by kernel_rfl, by kernel_rfl⟩, rfl⟩


theorem dieL (s : List UInt8) {w0 w : World} (R : Ending → World → Prop) (hR : R = (fun e w' => ∃ h u T, e = .returned (.tuple #[.agg #[.int .i64 (h.op), sS (h.field), sS (h.text), .int .i64 (h.edits), .int .i64 (h.exact), .int .u64 (h.lo), .int .u64 (h.hi), u], .int .i64 ((((parseQ s).2.1 : Nat)) : Int), .int .i64 (parseQ s).2.2]) ∧ h = (parseQ s).1.h ∧ QT T (parseQ s).1 u ∧ Mem [] w0 w' T)) (cq ca ce : Nat) (h : Hd) (u : Value) (a e : Int) (k : Nat) {L : List Row} (hM : Mem [] w0 w (⟨25, 8, (obj cq), 1, [.int .i64 (h.op), sS (h.field), sS (h.text), .int .i64 (h.edits), .int .i64 (h.exact), .int .u64 (h.lo), .int .u64 (h.hi), u]⟩ :: ⟨3, 1, (obj ca), 1, [.int .i64 a]⟩ :: ⟨28, 1, (obj ce), 1, [.int .i64 e]⟩ :: L)) (hP : parseQ s = (q0, k, 21)) : Lv Tryz.prog Tryz.f11 R 35 [(2, pq cq), (3, pq ca), (4, pq ce)] { defers := [{ target := .fn (.func 20) #[pq cq, pq ca, pq ce], args := #[] }] } (.panicking (flt 47 k)) w := by
 refine Lv.one (rs := [.cell 2 25, .cell 3 3, .cell 4 28]) (by simp) (recp cq ca ce h u a e k (Mem.lend (R := [⟨25, 8, (obj cq), 1, [.int .i64 (h.op), sS (h.field), sS (h.text), .int .i64 (h.edits), .int .i64 (h.exact), .int .u64 (h.lo), .int .u64 (h.hi), u]⟩, ⟨3, 1, (obj ca), 1, [.int .i64 a]⟩, ⟨28, 1, (obj ce), 1, [.int .i64 e]⟩]) hM)) (fun w2 m => ?_)
 have hN : Mem [] w0 w2 (⟨25, 8, (obj cq), 1, [.int .i64 0, sS ([]), sS ([]), .int .i64 0, .int .i64 0, .int .u64 0, .int .u64 0, .slice none 0 0]⟩ :: ⟨3, 1, (obj ca), 1, [iN k]⟩ :: ⟨28, 1, (obj ce), 1, [.int .i64 21]⟩ :: L) := Mem.back (R := [⟨25, 8, (obj cq), 1, [.int .i64 (h.op), sS (h.field), sS (h.text), .int .i64 (h.edits), .int .i64 (h.exact), .int .u64 (h.lo), .int .u64 (h.hi), u]⟩, ⟨3, 1, (obj ca), 1, [.int .i64 a]⟩, ⟨28, 1, (obj ce), 1, [.int .i64 e]⟩]) hM m
 refine ⟨_, (ResC.cell (c := 2) (by kernel_rfl) (show (Instr.loadAt 25 (pq cq)).run Tryz.prog w2 = .ok (.agg #[.int .i64 0, sS ([]), sS ([]), .int .i64 0, .int .i64 0, .int .u64 0, .int .u64 0, .slice none 0 0]) w2 from c_loads (ys := [.int .i64 0, sS ([]), sS ([]), .int .i64 0, .int .i64 0, .int .u64 0, .int .u64 0, .slice none 0 0]) aE25 (hN.rd 0 rfl) (cel_obj cq 0) rfl (by intro j u hj; match j, hj with | 0, hj => exact hj | 1, hj => exact hj | 2, hj => exact hj | 3, hj => exact hj | 4, hj => exact hj | 5, hj => exact hj | 6, hj => exact hj | 7, hj => exact hj | n + 8, hj => cases hj)) (ResC.cell (c := 3) (by kernel_rfl) (show (Instr.loadAt 3 (pq ca)).run Tryz.prog w2 = .ok (iN k) w2 from c_load pE3 (hN.rd 1 rfl) (cel_obj ca 0) rfl) (ResC.cell (c := 4) (by kernel_rfl) (show (Instr.loadAt 28 (pq ce)).run Tryz.prog w2 = .ok (.int .i64 21) w2 from c_load pE28 (hN.rd 2 rfl) (cel_obj ce 0) rfl) ResC.nil))), ?_⟩
 rw [hR, hP]
 exact ⟨q0.h, .slice none 0 0, [⟨25, 8, .slice none 0 0, 0, []⟩], rfl, rfl, QT.whole (M := []) rfl (fun j hj => absurd hj (Nat.not_lt_zero _)) (fun j hj => absurd hj (Nat.not_lt_zero _)), hN.none.nilrow 25 8⟩

theorem retL (s : List UInt8) {w0 w : World} (R : Ending → World → Prop) (hR : R = (fun e w' => ∃ h u T, e = .returned (.tuple #[.agg #[.int .i64 (h.op), sS (h.field), sS (h.text), .int .i64 (h.edits), .int .i64 (h.exact), .int .u64 (h.lo), .int .u64 (h.hi), u], .int .i64 ((((parseQ s).2.1 : Nat)) : Int), .int .i64 (parseQ s).2.2]) ∧ h = (parseQ s).1.h ∧ QT T (parseQ s).1 u ∧ Mem [] w0 w' T)) (cq ca ce : Nat) (h : Hd) (u : Value) (a e : Int) {L T : List Row} (hM : Mem [] w0 w (⟨25, 8, (obj cq), 1, [.int .i64 (h.op), sS (h.field), sS (h.text), .int .i64 (h.edits), .int .i64 (h.exact), .int .u64 (h.lo), .int .u64 (h.hi), u]⟩ :: ⟨3, 1, (obj ca), 1, [.int .i64 a]⟩ :: ⟨28, 1, (obj ce), 1, [.int .i64 e]⟩ :: L)) (h1 : h = (parseQ s).1.h) (h2 : QT T (parseQ s).1 u) (h3 : a = (((parseQ s).2.1 : Nat) : Int)) (h4 : e = (parseQ s).2.2) (hT : Mem [] w0 w T) : Lv Tryz.prog Tryz.f11 R 35 [(2, pq cq), (3, pq ca), (4, pq ce)] { defers := [{ target := .fn (.func 20) #[pq cq, pq ca, pq ce], args := #[] }] } .returning w := by
 refine Lv.one (rs := [.cell 2 25, .cell 3 3, .cell 4 28]) (by simp) (recr cq ca ce) (fun w2 m => ?_)
 subst m
 refine ⟨_, (ResC.cell (c := 2) (by kernel_rfl) (show (Instr.loadAt 25 (pq cq)).run Tryz.prog w = .ok (.agg #[.int .i64 (h.op), sS (h.field), sS (h.text), .int .i64 (h.edits), .int .i64 (h.exact), .int .u64 (h.lo), .int .u64 (h.hi), u]) w from c_loads (ys := [.int .i64 (h.op), sS (h.field), sS (h.text), .int .i64 (h.edits), .int .i64 (h.exact), .int .u64 (h.lo), .int .u64 (h.hi), u]) aE25 (hM.rd 0 rfl) (cel_obj cq 0) rfl (by intro j u hj; match j, hj with | 0, hj => exact hj | 1, hj => exact hj | 2, hj => exact hj | 3, hj => exact hj | 4, hj => exact hj | 5, hj => exact hj | 6, hj => exact hj | 7, hj => exact hj | n + 8, hj => cases hj)) (ResC.cell (c := 3) (by kernel_rfl) (show (Instr.loadAt 3 (pq ca)).run Tryz.prog w = .ok (.int .i64 a) w from c_load pE3 (hM.rd 1 rfl) (cel_obj ca 0) rfl) (ResC.cell (c := 4) (by kernel_rfl) (show (Instr.loadAt 28 (pq ce)).run Tryz.prog w = .ok (.int .i64 e) w from c_load pE28 (hM.rd 2 rfl) (cel_obj ce 0) rfl) ResC.nil))), ?_⟩
 rw [hR, h3, h4]
 exact ⟨h, u, T, rfl, h1, h2, hT⟩

set_option maxHeartbeats 1000000 in
theorem synparse_c (s : List UInt8) (hs : s.length ≤ 140737488351232) {w : World} (hG : GS [] w) :
  Calls Tryz.prog 11 #[sS s] w (fun e w' => ∃ h u T, e = .returned (.tuple #[.agg #[.int .i64 (h.op), sS (h.field), sS (h.text), .int .i64 (h.edits), .int .i64 (h.exact), .int .u64 (h.lo), .int .u64 (h.hi), u], .int .i64 ((((parseQ s).2.1 : Nat)) : Int), .int .i64 (parseQ s).2.2]) ∧ h = (parseQ s).1.h ∧ QT T (parseQ s).1 u ∧ Mem [] w w' T) := by
 refine xe 35 Tryz.func11 (fun R hR => ?_)
 have hM0 := Mem.start w
 refine xx 2 (m_alloc oT25 hM0) (fun b1 w2 hM4 => ?_)
 refine xx 0 (m_alloc oT3 hM4) (fun b6 w7 hM9 => ?_)
 refine xx 0 (m_alloc oT28 hM9) (fun b11 w12 hM14 => ?_)
 refine xn 5 s ?_
 refine xc 2 (((s.length : Nat) : Int) > 8192) (fun h17p => ?_) (fun h17p => ?_)
 ·
  refine xst 3 (c_stores (ys := [.int .i64 0, sS ([]), sS ([]), .int .i64 0, .int .i64 0, .int .u64 0, .int .u64 0, .slice none 0 0]) aE25 hM14 2 rfl (cel_obj b1 0) rfl (by decide) (oneL rfl)) (fun w18 hM20 => ?_)
  refine xst 0 (c_store (E := 3) (u := .int .i64 0) (by kernel_rfl) hM20 1 rfl (cel_obj b6 0) (by decide) rfl rfl) (fun w22 hM24 => ?_)
  refine xst 0 (c_store (E := 28) (u := .int .i64 4) (by kernel_rfl) hM24 0 rfl (cel_obj b11 0) (by decide) rfl rfl) (fun w26 hM28 => ?_)
  exact xrc 1 (v := .tuple #[.agg #[.int .i64 0, sS ([]), sS ([]), .int .i64 0, .int .i64 0, .int .u64 0, .int .u64 0, .slice none 0 0], .int .i64 0, .int .i64 4]) Tryz.func11 (ResC.cell (c := 2) (by kernel_rfl) (show (Instr.loadAt 25 (pq b1)).run Tryz.prog w26 = .ok (.agg #[.int .i64 0, sS ([]), sS ([]), .int .i64 0, .int .i64 0, .int .u64 0, .int .u64 0, .slice none 0 0]) w26 from c_loads (ys := [.int .i64 0, sS ([]), sS ([]), .int .i64 0, .int .i64 0, .int .u64 0, .int .u64 0, .slice none 0 0]) aE25 (hM28.rd 2 rfl) (cel_obj b1 0) rfl (lq rfl)) (ResC.cell (c := 3) (by kernel_rfl) (show (Instr.loadAt 3 (pq b6)).run Tryz.prog w26 = .ok (.int .i64 0) w26 from c_load pE3 (hM28.rd 1 rfl) (cel_obj b6 0) rfl) (ResC.cell (c := 4) (by kernel_rfl) (show (Instr.loadAt 28 (pq b11)).run Tryz.prog w26 = .ok (.int .i64 4) w26 from c_load pE28 (hM28.rd 0 rfl) (cel_obj b11 0) rfl) ResC.nil))) hR (⟨q0.h, .slice none 0 0, [⟨25, 8, .slice none 0 0, 0, []⟩], by rw [parse_long (by omega)]; rfl, by rw [parse_long (by omega)], by rw [parse_long (by omega)]; exact QT.whole (M := []) rfl (fun j hj => absurd hj (Nat.not_lt_zero _)) (fun j hj => absurd hj (Nat.not_lt_zero _)), hM28.none.nilrow 25 8⟩)
 ·
  refine xdf 4 (d := { target := .fn (.func 20) #[pq b1, pq b6, pq b11], args := #[] }) ?_
  refine xx 5 (m_box (T := 51) (k := 2) (u := .agg #[sS s, .int .i64 0]) rfl rfl hM14) (fun b33 w34 hM36 => ?_)
  have hM39 : Mem [] w w34 [⟨28, 1, (obj b11), 1, [.int .i64 0]⟩, ⟨51, 2, (obj b33), 1, [sS s, .int .i64 0]⟩, ⟨3, 1, (obj b6), 1, [.int .i64 0]⟩, ⟨25, 8, (obj b1), 1, [.int .i64 0, sS ([]), sS ([]), .int .i64 0, .int .i64 0, .int .u64 0, .int .u64 0, .slice none 0 0]⟩] := hM36.perm (pS pR)
  have hM40 : Mem [] w w34 [⟨3, 1, (obj b6), 1, [.int .i64 0]⟩, ⟨28, 1, (obj b11), 1, [.int .i64 0]⟩, ⟨51, 2, (obj b33), 1, [sS s, .int .i64 0]⟩, ⟨25, 8, (obj b1), 1, [.int .i64 0, sS ([]), sS ([]), .int .i64 0, .int .i64 0, .int .u64 0, .int .u64 0, .slice none 0 0]⟩] := hM39.perm (pS (pS pR))
  have hM41 : Mem [] w w34 [⟨25, 8, (obj b1), 1, [.int .i64 0, sS ([]), sS ([]), .int .i64 0, .int .i64 0, .int .u64 0, .int .u64 0, .slice none 0 0]⟩, ⟨3, 1, (obj b6), 1, [.int .i64 0]⟩, ⟨28, 1, (obj b11), 1, [.int .i64 0]⟩, ⟨51, 2, (obj b33), 1, [sS s, .int .i64 0]⟩] := hM40.perm (pS (pS (pS pR)))
  have hM42 : Mem [] w w34 [⟨51, 2, (obj b33), 1, [sS s, .int .i64 0]⟩, ⟨25, 8, (obj b1), 1, [.int .i64 0, sS ([]), sS ([]), .int .i64 0, .int .i64 0, .int .u64 0, .int .u64 0, .slice none 0 0]⟩, ⟨3, 1, (obj b6), 1, [.int .i64 0]⟩, ⟨28, 1, (obj b11), 1, [.int .i64 0]⟩] := hM41.perm (pS (pS (pS pR)))
  refine xkpd 5 Tryz.func11 (either_c s (by omega) b33 (GS.fresh hG hM42) hM42.lend1) (fun k43 w44 hs45 m46 => Lv.told [(2, pq b1), (3, pq b6), (4, pq b11)] (dieL s R hR b1 b6 b11 (opH 0) (.slice none 0 0) 0 0 k43 (hM42.back1 m46) (parse_err (by omega) hs45))) (fun ⟨a47q, a47j⟩ v48 w44 hs45 m46 => ?_)
  obtain ⟨h49, u50, T51, rfl, he52, hqt53, m54⟩ := m46
  have hx_ := prs_inv _ _ _ _ _ (by omega) hs45
  simp only [below] at hx_
  have hbk_ := prs_bulk (s := s) _ .E 0 _ _ (by omega) trivial hs45
  simp only [bulkB] at hbk_
  have hM55 : Mem [] w w44 (⟨51, 2, (obj b33), 1, [sS s, iN a47j]⟩ :: ⟨25, 8, (obj b1), 1, [.int .i64 0, sS ([]), sS ([]), .int .i64 0, .int .i64 0, .int .u64 0, .int .u64 0, .slice none 0 0]⟩ :: ⟨3, 1, (obj b6), 1, [.int .i64 0]⟩ :: ⟨28, 1, (obj b11), 1, [.int .i64 0]⟩ :: T51) := Mem.backT0 (A := [⟨25, 8, (obj b1), 1, [.int .i64 0, sS ([]), sS ([]), .int .i64 0, .int .i64 0, .int .u64 0, .int .u64 0, .slice none 0 0]⟩, ⟨3, 1, (obj b6), 1, [.int .i64 0]⟩, ⟨28, 1, (obj b11), 1, [.int .i64 0]⟩]) hM42 m54
  refine xst 0 (c_stores (ys := [.int .i64 (h49.op), sS (h49.field), sS (h49.text), .int .i64 (h49.edits), .int .i64 (h49.exact), .int .u64 (h49.lo), .int .u64 (h49.hi), u50]) aE25 hM55 1 rfl (cel_obj b1 0) rfl (by decide) (by intro u hu; simp at hu; rcases hu with rfl | rfl | rfl | rfl | rfl | rfl | rfl | rfl <;> first | rfl | exact (QT.rd hM55 (fun r_ h_ => mS (mS (mS (mS (h_))))) hqt53).one.1)) (fun w56 hM58 => ?_)
  refine xk 5 (blanks_c s (by omega) b33 a47j (by omega) hM58.lend1) (fun w61 m62 => ?_)
  have hM63 := hM58.back1 m62
  have hk64 := skip_le s a47j
  refine xv 6 (c_load pE3 (hM63.rd 0 rfl) (cel_obj b33 1) rfl) ?_
  refine xn 1 s ?_
  refine xc 2 ((((skipP s a47j) : Nat) : Int) < ((s.length : Nat) : Int)) (fun h67p => ?_) (fun h67p => ?_)
  ·
   exact xkdd 2 Tryz.func11 (fail_c s (skipP s a47j) b33 (hM63.rd 0 rfl)) (fun w68 m69 => Lv.told [(2, pq b1), (3, pq b6), (4, pq b11)] (dieL s R hR b1 b6 b11 h49 u50 0 0 _ ((hM63.j m69).sub (sD sR)) (parse_more (by omega) hs45 (by omega))))
  ·
   have hM71 := hM63.sub (sD (sK (sK (sK sR))))
   refine xv 4 (c_loads (ys := [.int .i64 (h49.op), sS (h49.field), sS (h49.text), .int .i64 (h49.edits), .int .i64 (h49.exact), .int .u64 (h49.lo), .int .u64 (h49.hi), u50]) aE25 (hM71.rd 0 rfl) (cel_obj b1 0) rfl (lq rfl)) ?_
   refine xk 0 (check_c a47q h49 he52 u50 (QT.rd hM71 (fun r_ h_ => mS (mS (mS (h_)))) hqt53) (by omega)) (fun w73 m74 => ?_)
   have hM75 : Mem [] w w73 (⟨25, 8, (obj b1), 1, [.int .i64 (h49.op), sS (h49.field), sS (h49.text), .int .i64 (h49.edits), .int .i64 (h49.exact), .int .u64 (h49.lo), .int .u64 (h49.hi), u50]⟩ :: ⟨3, 1, (obj b6), 1, [.int .i64 0]⟩ :: ⟨28, 1, (obj b11), 1, [.int .i64 0]⟩ :: T51) := Mem.join (R := []) hM71 m74
   refine xcn 7 ((checkQ a47q) = 0) (fun h76p => ?_) (fun h76p => ?_)
   ·
    refine xst 4 (c_stores (ys := [.int .i64 0, sS ([]), sS ([]), .int .i64 0, .int .i64 0, .int .u64 0, .int .u64 0, .slice none 0 0]) aE25 hM75 0 rfl (cel_obj b1 0) rfl (by decide) (oneL rfl)) (fun w77 hM79 => ?_)
    refine xst 0 (c_store (E := 3) (u := .int .i64 0) (by kernel_rfl) hM79 1 rfl (cel_obj b6 0) (by decide) rfl rfl) (fun w81 hM83 => ?_)
    refine xst 0 (c_store (E := 28) (u := .int .i64 (checkQ a47q)) (by kernel_rfl) hM83 2 rfl (cel_obj b11 0) (by decide) rfl rfl) (fun w85 hM87 => ?_)
    exact xrd 1 [(2, pq b1), (3, pq b6), (4, pq b11)] Tryz.func11 (retL s R hR b1 b6 b11 (opH 0) (.slice none 0 0) 0 (checkQ a47q) (T := [⟨25, 8, .slice none 0 0, 0, []⟩]) hM87 (by rw [parse_bad (by omega) hs45 (by omega) (by omega)]; rfl) (by rw [parse_bad (by omega) hs45 (by omega) (by omega)]; exact QT.whole (M := []) rfl (fun j hj => absurd hj (Nat.not_lt_zero _)) (fun j hj => absurd hj (Nat.not_lt_zero _))) (by rw [parse_bad (by omega) hs45 (by omega) (by omega)]; rfl) (by rw [parse_bad (by omega) hs45 (by omega) (by omega)]) (hM87.none.nilrow 25 8))
   ·
    refine xv 3 (c_loads (ys := [.int .i64 (h49.op), sS (h49.field), sS (h49.text), .int .i64 (h49.edits), .int .i64 (h49.exact), .int .u64 (h49.lo), .int .u64 (h49.hi), u50]) aE25 (hM75.rd 0 rfl) (cel_obj b1 0) rfl (lq rfl)) ?_
    refine xst 0 (c_stores (ys := [.int .i64 (h49.op), sS (h49.field), sS (h49.text), .int .i64 (h49.edits), .int .i64 (h49.exact), .int .u64 (h49.lo), .int .u64 (h49.hi), u50]) aE25 hM75 0 rfl (cel_obj b1 0) rfl (by decide) (by intro u hu; simp at hu; rcases hu with rfl | rfl | rfl | rfl | rfl | rfl | rfl | rfl <;> first | rfl | exact (QT.rd hM75 (fun r_ h_ => mS (mS (mS (h_)))) hqt53).one.1)) (fun w92 hM94 => ?_)
    refine xst 0 (c_store (E := 3) (u := .int .i64 0) (by kernel_rfl) hM94 1 rfl (cel_obj b6 0) (by decide) rfl rfl) (fun w96 hM98 => ?_)
    refine xst 0 (c_store (E := 28) (u := .int .i64 0) (by kernel_rfl) hM98 2 rfl (cel_obj b11 0) (by decide) rfl rfl) (fun w100 hM102 => ?_)
    exact xrd 1 [(2, pq b1), (3, pq b6), (4, pq b11)] Tryz.func11 (retL s R hR b1 b6 b11 h49 u50 0 0 (T := T51) hM102 (by rw [parse_ok (by omega) hs45 (by omega) (by omega)]; exact he52) (by rw [parse_ok (by omega) hs45 (by omega) (by omega)]; exact hqt53) (by rw [parse_ok (by omega) hs45 (by omega) (by omega)]; rfl) (by rw [parse_ok (by omega) hs45 (by omega) (by omega)]) (hM102.sub (sD (sD (sD sR)))))


end Go.Proofs.YthpodbngljfdmaaGreatDoor


namespace Go.Proofs.YthpodbngljfdmaaGreatDoor
open Go Go.Gw Go.UtfP Go.TokP Go.QryP Go.SynP Go.RealQ Go.SynV Go.RowKit
set_option linter.unusedVariables false
set_option linter.unusedSimpArgs false
set_option maxRecDepth 20000


set_option maxHeartbeats 400000 in
theorem pow2_c (w : World) :
  Calls Tryz.prog 116 #[.int .i64 16] w (fun e w' => e = .returned (.bool true) ∧ w = w') := by
 refine xe 8 Tryz.func116 (fun R hR => ?_)
 refine xv 9 (show (binOp .and 3 (.int .i64 16) (.int .i64 15)).run Tryz.prog w = .ok (.int .i64 0) w from (by kernel_rfl)) ?_
 exact xr 3 Tryz.func116 hR ⟨rfl, rfl⟩

set_option maxHeartbeats 400000 in
theorem tz64_c (w : World) (hdb : w.cell? ⟨3, 15, none⟩ = some (.int .u8 4)) :
  Calls Tryz.prog 135 #[.int .u64 16] w (fun e w' => e = .returned (.int .i64 4) ∧ w = w') := by
 refine xe 14 Tryz.func135 (fun R hR => ?_)
 refine xv 17 (show (binOp .and 22 (.int .u64 16) (.int .u64 18446744073709551600)).run Tryz.prog w = .ok (.int .u64 16) w from (by kernel_rfl)) ?_
 refine xv 0 (show (binOp .mul 22 (.int .u64 16) (.int .u64 285870213051353865)).run Tryz.prog w = .ok (.int .u64 4573923408821661840) w from (by kernel_rfl)) ?_
 refine xv 0 (show (binOp .shr 22 (.int .u64 4573923408821661840) (.int .u64 58)).run Tryz.prog w = .ok (.int .u64 15) w from (by kernel_rfl)) ?_
 refine xv 1 (show (Instr.loadAt 5 (.pointer (some (⟨3, 15, none⟩)))).run Tryz.prog w = .ok (.int .u8 4) w from cell_load pE5 hdb) ?_
 exact xr 3 Tryz.func135 hR ⟨rfl, rfl⟩

set_option maxHeartbeats 400000 in
theorem tz_c (w : World) (hdb : w.cell? ⟨3, 15, none⟩ = some (.int .u8 4)) :
  Calls Tryz.prog 117 #[.int .u64 16] w (fun e w' => e = .returned (.int .i64 4) ∧ w = w') := by
 refine xe 8 Tryz.func117 (fun R hR => ?_)
 refine xka 10 (tz64_c w hdb) ?_
 exact xr 2 Tryz.func117 hR ⟨rfl, rfl⟩


end Go.Proofs.YthpodbngljfdmaaGreatDoor


namespace Go.Proofs.YthpodbngljfdmaaGreatDoor
open Go Go.Gw Go.UtfP Go.TokP Go.QryP Go.SynP Go.RealQ Go.SynV Go.RowKit
set_option linter.unusedVariables false
set_option linter.unusedSimpArgs false
set_option maxRecDepth 20000
theorem oT155 : ObjT Tryz.prog 155 65 (.agg #[.int .u8 0, .int .u8 0, .int .u8 0, .int .u8 0, .int .u8 0, .int .u8 0, .int .u8 0, .int .u8 0, .int .u8 0, .int .u8 0, .int .u8 0, .int .u8 0, .int .u8 0, .int .u8 0, .int .u8 0, .int .u8 0, .int .u8 0, .int .u8 0, .int .u8 0, .int .u8 0, .int .u8 0, .int .u8 0, .int .u8 0, .int .u8 0, .int .u8 0, .int .u8 0, .int .u8 0, .int .u8 0, .int .u8 0, .int .u8 0, .int .u8 0, .int .u8 0, .int .u8 0, .int .u8 0, .int .u8 0, .int .u8 0, .int .u8 0, .int .u8 0, .int .u8 0, .int .u8 0, .int .u8 0, .int .u8 0, .int .u8 0, .int .u8 0, .int .u8 0, .int .u8 0, .int .u8 0, .int .u8 0, .int .u8 0, .int .u8 0, .int .u8 0, .int .u8 0, .int .u8 0, .int .u8 0, .int .u8 0, .int .u8 0, .int .u8 0, .int .u8 0, .int .u8 0, .int .u8 0, .int .u8 0, .int .u8 0, .int .u8 0, .int .u8 0, .int .u8 0]) := ⟨⟨_, rfl, by kernel_rfl, by kernel_rfl⟩, rfl⟩


set_option maxHeartbeats 1000000 in
theorem fbits_L (b : Nat) (X : List Int) {w : World} (R : Ending → World → Prop) (hR : R = (fun e w' => e = .returned (.tuple #[.slice none 0 0, sS (bytesOf X)]) ∧ Mem [] w w' [])) : ∀ (N : Nat) (n i u : Nat) (l : List Int) (w1 : World) (hl : l.length = 65) (hi : n + 1 ≤ i) (hi2 : i ≤ 65) (hu : u < 16 ^ (n + 1)) (hX : hexF n u ++ l.drop i = X) (hbd : ∀ x ∈ l, 0 ≤ x ∧ x ≤ 255) (hM : Mem [] w w1 [⟨155, 65, (obj b), 1, (ivals .u8 l)⟩]) (hN : n < N), GoS Tryz.prog 92 R 102 [iC Tryz.f92 [1,1,1,1,1,0,1,0,1,1,1,0,0,0], iL Tryz.f92 [1,1,1,1,1,0,1,0,1,1,1,0,0,0], .inBlock 0, iC Tryz.f92 [1,1,1,1,1,0,1,0,1,1,1,1], iC Tryz.f92 [1,1,1,1,1,1]] [(0, .slice none 0 0), (1, .int .u64 ((u : Nat) : Int)), (3, .bool false), (4, .bool false), (10, .slice none 0 0), (11, sS ([])), (12, pq b), (13, iN i), (14, .int .u64 4), (15, .int .u64 16), (16, .int .u64 15)] w1 := by
 intro N
 induction N with
 | zero => intro n i u l w1 hl hi hi2 hu hX hbd hM hN; exact absurd hN (Nat.not_lt_zero _)
 | succ N ih =>
  intro n i u l w1 hl hi hi2 hu hX hbd hM hN
  refine xs ?_
  refine xc 7 (((u : Nat) : Int) ≥ 16) (fun h1p => ?_) (fun h1p => ?_)
  ·
   refine xsub 5 .i64 ((i : Nat) : Int) 1 (((i - 1) : Nat) : Int) (by rw [show ((i : Nat) : Int) - 1 = (((i - 1) : Nat) : Int) by omega]; exact IntWalk.i64_in _ (by omega)) ?_
   refine xo 7 .and (.int .u64 ((u : Nat) : Int)) (.int .u64 15) (v := .int .u64 (((u % 16) : Nat) : Int)) (fun _ => f_and ((and_u64 _ 4 15 (by decide) (by decide)).trans (by omega))) ?_
   have hb13 := bl_bd ([48, 49, 50, 51, 52, 53, 54, 55, 56, 57, 97, 98, 99, 100, 101, 102, 103, 104, 105, 106, 107, 108, 109, 110, 111, 112, 113, 114, 115, 116, 117, 118, 119, 120, 121, 122] : List UInt8) (u % 16)
   refine xv 0 (show (Instr.index 9 (sS ([48, 49, 50, 51, 52, 53, 54, 55, 56, 57, 97, 98, 99, 100, 101, 102, 103, 104, 105, 106, 107, 108, 109, 110, 111, 112, 113, 114, 115, 116, 117, 118, 119, 120, 121, 122] : List UInt8)) (.int .u64 (((u % 16) : Nat) : Int))).run Tryz.prog w1 = .ok (.int .u8 (bl ([48, 49, 50, 51, 52, 53, 54, 55, 56, 57, 97, 98, 99, 100, 101, 102, 103, 104, 105, 106, 107, 108, 109, 110, 111, 112, 113, 114, 115, 116, 117, 118, 119, 120, 121, 122] : List UInt8) (u % 16))) w1 from f_index (u % 16) (by kernel_rfl) (by omega) (by first | omega | (show u % 16 < 36; omega) | (show u < 36; omega) | (dsimp only; omega))) ?_
   refine xv 0 (show (Instr.indexAt 155 (pq b) (iN (i - 1))).run Tryz.prog w1 = .ok (.pointer (some (Addr.add (⟨b, 0, none⟩) ((i - 1) * 1)))) w1 from f_arrAt (n := 65) (m := 1) Tryz.underlying155 (fun W => by kernel_rfl) (i - 1) (by omega) (by first | omega | (show u % 16 < 36; omega) | (show u < 36; omega) | (dsimp only; omega)) _ _ _) ?_
   refine xst 0 (c_store (E := 5) (u := .int .u8 (bl ([48, 49, 50, 51, 52, 53, 54, 55, 56, 57, 97, 98, 99, 100, 101, 102, 103, 104, 105, 106, 107, 108, 109, 110, 111, 112, 113, 114, 115, 116, 117, 118, 119, 120, 121, 122] : List UInt8) (u % 16))) (by kernel_rfl) hM 0 rfl (Cel.cast (d := (i - 1)) (Cel.add (cel_obj b 0) ((i - 1) * 1)) (by omega)) (by first | omega | (show u % 16 < 36; omega) | (show u < 36; omega) | (dsimp only; omega)) rfl rfl) (fun w14 hM16 => ?_)
   have hM17 : Mem [] w w14 [⟨155, 65, (obj b), 1, (ivals .u8 (List.set l (i - 1) (bl ([48, 49, 50, 51, 52, 53, 54, 55, 56, 57, 97, 98, 99, 100, 101, 102, 103, 104, 105, 106, 107, 108, 109, 110, 111, 112, 113, 114, 115, 116, 117, 118, 119, 120, 121, 122] : List UInt8) (u % 16))))⟩] := hM16.cast (by simp [ivals, svals, bvals, nvals, u8s, List.map_set])
   refine xo 4 .shr (.int .u64 ((u : Nat) : Int)) (.int .u64 4) (v := .int .u64 (((u / 16) : Nat) : Int)) (fun _ => f_shr (by decide) (by rw [show min (Int.toNat 4) (IntKind.bits .u64) = 4 by decide]; exact (fdiv_pow _ 4 16 (by decide) (by decide)).trans (by omega))) ?_
   obtain ⟨m, rfl, hm⟩ := fb_step hu (by omega)
   exact xl 4 (ih m (i - 1) (u / 16) (List.set l (i - 1) (bl ([48, 49, 50, 51, 52, 53, 54, 55, 56, 57, 97, 98, 99, 100, 101, 102, 103, 104, 105, 106, 107, 108, 109, 110, 111, 112, 113, 114, 115, 116, 117, 118, 119, 120, 121, 122] : List UInt8) (u % 16))) _ (by simp; omega) (by omega) (by omega) hm (by rw [← hX, hexF_step (by omega), drop_set (by omega), hexC_of (by omega), show i - 1 + 1 = i by omega, List.append_assoc]; rfl) (by intro x_ hx_; rcases List.mem_or_eq_of_mem_set hx_ with g | g; exact hbd x_ g; rw [g, hexC_of (by omega)]; exact hexC_bd (by omega)) (hM17.sub (sK sN)) (by omega))
  ·
   refine xsub 4 .i64 ((i : Nat) : Int) 1 (((i - 1) : Nat) : Int) (by rw [show ((i : Nat) : Int) - 1 = (((i - 1) : Nat) : Int) by omega]; exact IntWalk.i64_in _ (by omega)) ?_
   have hb2 := bl_bd ([48, 49, 50, 51, 52, 53, 54, 55, 56, 57, 97, 98, 99, 100, 101, 102, 103, 104, 105, 106, 107, 108, 109, 110, 111, 112, 113, 114, 115, 116, 117, 118, 119, 120, 121, 122] : List UInt8) u
   refine xv 5 (show (Instr.index 9 (sS ([48, 49, 50, 51, 52, 53, 54, 55, 56, 57, 97, 98, 99, 100, 101, 102, 103, 104, 105, 106, 107, 108, 109, 110, 111, 112, 113, 114, 115, 116, 117, 118, 119, 120, 121, 122] : List UInt8)) (.int .u64 ((u : Nat) : Int))).run Tryz.prog w1 = .ok (.int .u8 (bl ([48, 49, 50, 51, 52, 53, 54, 55, 56, 57, 97, 98, 99, 100, 101, 102, 103, 104, 105, 106, 107, 108, 109, 110, 111, 112, 113, 114, 115, 116, 117, 118, 119, 120, 121, 122] : List UInt8) u)) w1 from f_index u (by kernel_rfl) (by omega) (by first | omega | (show u % 16 < 36; omega) | (show u < 36; omega) | (dsimp only; omega))) ?_
   refine xv 0 (show (Instr.indexAt 155 (pq b) (iN (i - 1))).run Tryz.prog w1 = .ok (.pointer (some (Addr.add (⟨b, 0, none⟩) ((i - 1) * 1)))) w1 from f_arrAt (n := 65) (m := 1) Tryz.underlying155 (fun W => by kernel_rfl) (i - 1) (by omega) (by first | omega | (show u % 16 < 36; omega) | (show u < 36; omega) | (dsimp only; omega)) _ _ _) ?_
   refine xst 0 (c_store (E := 5) (u := .int .u8 (bl ([48, 49, 50, 51, 52, 53, 54, 55, 56, 57, 97, 98, 99, 100, 101, 102, 103, 104, 105, 106, 107, 108, 109, 110, 111, 112, 113, 114, 115, 116, 117, 118, 119, 120, 121, 122] : List UInt8) u)) (by kernel_rfl) hM 0 rfl (Cel.cast (d := (i - 1)) (Cel.add (cel_obj b 0) ((i - 1) * 1)) (by omega)) (by first | omega | (show u % 16 < 36; omega) | (show u < 36; omega) | (dsimp only; omega)) rfl rfl) (fun w3 hM5 => ?_)
   have hM6 : Mem [] w w3 [⟨155, 65, (obj b), 1, (ivals .u8 (List.set l (i - 1) (bl ([48, 49, 50, 51, 52, 53, 54, 55, 56, 57, 97, 98, 99, 100, 101, 102, 103, 104, 105, 106, 107, 108, 109, 110, 111, 112, 113, 114, 115, 116, 117, 118, 119, 120, 121, 122] : List UInt8) u)))⟩] := hM5.cast (by simp [ivals, svals, bvals, nvals, u8s, List.map_set])
   refine xv 18 (show (Instr.sliceAt 155 (pq b) (some (iN (i - 1))) none none).run Tryz.prog w3 = .ok (.slice (some ⟨b, (i - 1), none⟩) (65 - (i - 1)) (65 - (i - 1))) w3 from arr_slice (E := 5) (by kernel_rfl) (by kernel_rfl) (by omega) (by omega)) ?_
   refine xv 0 (show (convert 76 9 ((.slice (some ⟨b, (i - 1), none⟩) (65 - (i - 1)) (65 - (i - 1))))).run Tryz.prog w3 = .ok (sS (bytesOf (List.drop (i - 1) (List.set l (i - 1) (bl ([48, 49, 50, 51, 52, 53, 54, 55, 56, 57, 97, 98, 99, 100, 101, 102, 103, 104, 105, 106, 107, 108, 109, 110, 111, 112, 113, 114, 115, 116, 117, 118, 119, 120, 121, 122] : List UInt8) u))))) w3 from f_string_i sT76 (by kernel_rfl) (by kernel_rfl) (arr_rdi (hM6.rd 0 rfl) (by omega) (by decide)) (by intro x_ hx_; rcases List.mem_or_eq_of_mem_set (List.mem_of_mem_drop hx_) with g | g; exact hbd x_ g; rw [g, hexC_of (by omega)]; exact hexC_bd (by omega))) ?_
   exact xr 2 (v := .tuple #[.slice none 0 0, sS (bytesOf (List.drop (i - 1) (List.set l (i - 1) (bl ([48, 49, 50, 51, 52, 53, 54, 55, 56, 57, 97, 98, 99, 100, 101, 102, 103, 104, 105, 106, 107, 108, 109, 110, 111, 112, 113, 114, 115, 116, 117, 118, 119, 120, 121, 122] : List UInt8) u))))]) Tryz.func92 hR ⟨by rw [← hX, hexF_small (by omega), drop_set (by omega), hexC_of (by omega), show i - 1 + 1 = i by omega]; rfl, hM6.none⟩

set_option maxHeartbeats 400000 in
theorem fbits_c (u : Nat) (hu : u < 18446744073709551616) {w : World} (hdb : w.cell? ⟨3, 15, none⟩ = some (.int .u8 4)) :
  Calls Tryz.prog 92 #[.slice none 0 0, .int .u64 ((u : Nat) : Int), .int .i64 16, .bool false, .bool false] w (fun e w' => e = .returned (.tuple #[.slice none 0 0, sS (bytesOf (hexF 15 u))]) ∧ Mem [] w w' []) := by
 refine xe 102 Tryz.func92 (fun R hR => ?_)
 have hM0 := Mem.start w
 refine xx 23 (m_alloc oT155 hM0) (fun b1 w2 hM4 => ?_)
 have hM5 : Mem [] w w2 [⟨155, 65, (obj b1), 1, (ivals .u8 ([0, 0, 0, 0, 0, 0, 0, 0, 0, 0, 0, 0, 0, 0, 0, 0, 0, 0, 0, 0, 0, 0, 0, 0, 0, 0, 0, 0, 0, 0, 0, 0, 0, 0, 0, 0, 0, 0, 0, 0, 0, 0, 0, 0, 0, 0, 0, 0, 0, 0, 0, 0, 0, 0, 0, 0, 0, 0, 0, 0, 0, 0, 0, 0, 0] : List Int))⟩] := hM4
 refine xka 16 (pow2_c w2) ?_
 refine xka 6 (tz_c w2 (cell_kept hdb hM5.kept)) ?_
 exact xl 19 (fbits_L b1 (hexF 15 u) R hR 16 15 65 u (List.replicate 65 0) _ rfl (by decide) (by decide) (by omega) (List.append_nil _) (by decide) (hM5.sub (sK sN)) (by decide))

set_option maxHeartbeats 400000 in
theorem ifu_c (u : Nat) (hu : u < 18446744073709551616) {w : World} (hdb : w.cell? ⟨3, 15, none⟩ = some (.int .u8 4)) :
  Calls Tryz.prog 64 #[.int .u64 ((u : Nat) : Int), .int .i64 16] w (fun e w' => e = .returned (sS (bytesOf (hexF 15 u))) ∧ Mem [] w w' []) := by
 refine xe 32 Tryz.func64 (fun R hR => ?_)
 have hM0 := Mem.start w
 refine xk 16 (fbits_c u (by omega) (cell_kept hdb hM0.kept)) (fun w1 m2 => ?_)
 have hM3 : Mem [] w w1 [] := Mem.join (R := []) hM0 m2
 exact xr 11 Tryz.func64 hR ⟨rfl, hM3.none⟩

set_option maxHeartbeats 400000 in
theorem fu_c (u : Nat) (hu : u < 18446744073709551616) {w : World} (hdb : w.cell? ⟨3, 15, none⟩ = some (.int .u8 4)) :
  Calls Tryz.prog 49 #[.int .u64 ((u : Nat) : Int), .int .i64 16] w (fun e w' => e = .returned (sS (bytesOf (hexF 15 u))) ∧ Mem [] w w' []) := by
 refine xe 8 Tryz.func49 (fun R hR => ?_)
 have hM0 := Mem.start w
 refine xk 8 (ifu_c u (by omega) (cell_kept hdb hM0.kept)) (fun w1 m2 => ?_)
 have hM3 : Mem [] w w1 [] := Mem.join (R := []) hM0 m2
 exact xr 2 Tryz.func49 hR ⟨rfl, hM3.none⟩

theorem rept_c (c : Nat) (hc : c ≤ 16) (w : World) : Calls Tryz.prog 50 #[sS [48], iN c] w (fun e w' => e = .returned (sS (List.replicate c 48)) ∧ Mem [] w w' []) :=
 calls_imp (Go.Proofs.Any.strings_Repeat lays105 bldX (sb [48]) c w (by omega) (by show 1 * c ≤ _; omega)) (fun e w' h => ⟨by rw [h.1, ← rep_one]; rfl, Mem.bare (Kept.of_below h.2)⟩)

theorem rept_m (x : Int) (c : Nat) (hx : x = ((c : Nat) : Int)) (hc : c ≤ 16) (w : World) : Calls Tryz.prog 50 #[sS [48], .int .i64 x] w (fun e w' => e = .returned (sS (List.replicate c 48)) ∧ Mem [] w w' []) := hx ▸ rept_c c hc w

set_option maxHeartbeats 400000 in
theorem bits_c (u : Nat) (hu : u < 18446744073709551616) {w : World} (hdb : w.cell? ⟨3, 15, none⟩ = some (.int .u8 4)) :
  Calls Tryz.prog 31 #[.int .u64 ((u : Nat) : Int)] w (fun e w' => e = .returned (sS (bitsP u)) ∧ Mem [] w w' []) := by
 have hfl := bits_len u
 refine xe 13 Tryz.func31 (fun R hR => ?_)
 have hM0 := Mem.start w
 refine xk 7 (fu_c u (by omega) (cell_kept hdb hM0.kept)) (fun w1 m2 => ?_)
 have hM3 : Mem [] w w1 [] := Mem.join (R := []) hM0 m2
 refine xn 5 (bytesOf (hexF 15 u)) ?_
 refine xm 0 16 (((bytesOf (hexF 15 u)).length : Nat) : Int) (16 - (((bytesOf (hexF 15 u)).length : Nat) : Int)) ?_
 refine xk 0 (rept_m (16 - (((bytesOf (hexF 15 u)).length : Nat) : Int)) (16 - (bytesOf (hexF 15 u)).length) (by omega) (by omega) w1) (fun w6 m7 => ?_)
 have hM8 : Mem [] w w6 [] := Mem.join (R := []) hM3 m7
 refine xqa 0 ([35] : List UInt8) (List.replicate (16 - (bytesOf (hexF 15 u)).length) 48) ?_ (hl := (by simp only [List.length_append, List.length_cons, List.length_nil, List.length_replicate]; omega))
 refine xqa 1 (([35] : List UInt8) ++ (List.replicate (16 - (bytesOf (hexF 15 u)).length) 48)) (bytesOf (hexF 15 u)) ?_ (hl := (by simp only [List.length_append, List.length_cons, List.length_nil, List.length_replicate]; omega))
 exact xr 2 (v := sS ((([35] : List UInt8) ++ (List.replicate (16 - (bytesOf (hexF 15 u)).length) 48)) ++ (bytesOf (hexF 15 u)))) Tryz.func31 hR ⟨by rw [bits_eq], hM8.none⟩


end Go.Proofs.YthpodbngljfdmaaGreatDoor


namespace Go.Gw
set_option linter.unusedVariables false
set_option linter.unusedSimpArgs false
section
variable {P : Program} {t E : TypeId} {bb : Nat} {z : Value} {w w0 : World} {S : List Nat} {L : List Row}
/-- v[j:] -/
def subv : Value → Nat → Value
  | .slice (some ⟨b, o, q⟩) n c, j => .slice (some ⟨b, o + j, q⟩) (n - j) (c - j)
  | v, _ => v
theorem f_subv (hT : SliceT P t E 1 bb z) {v : Value} {n : Nat} {xs : List Value} (h : w.ownsRow 0 E 1 v n xs) {i : Int} (j : Nat) (hi : i = (j : Int)) (hj : j < n) (kk : IntKind) (W : World) :
    (Instr.sliceAt t v (some (.int kk i)) none none).run P W = .ok (subv v j) W := by
  subst hi
  rcases h.2 with ⟨rfl, h0, _⟩ | ⟨g, c, cur, rfl, _, hg, hn, hcm, hsz, ht⟩
  · omega
  · have h1 : ¬ c = j := by omega
    simp [Instr.sliceAt, Instr.slice, run_underlying hT.under, Instr.sureAddr, Instr.sliceBounds, Instr.sliceBound, asIntOf, hT.size, h1, Addr.add, subv]
    rw [if_pos (show j ≤ n by omega)]
    by_cases h0 : j = 0
    · subst h0; rfl
    · simp [h0]
theorem m_copy (hT : SliceT P t E 1 bb z) (hM : Mem S w0 w L) (i : Nat) {v : Value} {n : Nat} {xs : List Value} (hr : L[i]? = some ⟨E, 1, v, n, xs⟩) {x : Value} {m : Nat} {ys : List Value} (hx : Rd w 1 x m ys) (h1 : ∀ u ∈ ys, u.oneCell' = true) (j : Nat) (hj : j + m ≤ n) (hm : 0 < m) (t2 ty : TypeId) :
    ∃ w', (Builtin.copy_ #[t, t2] ty #[subv v j, x]).run P w = .ok (.int .i64 ((m : Nat) : Int)) w' ∧ Mem S w0 w' (L.set i ⟨E, 1, v, n, splice xs j ys⟩) := by
  have hown : w.ownsRow 0 E 1 v n xs := hM.get i hr
  have hs : (P.info? E).map (·.size) = some 1 := by
    obtain ⟨q, h2, _, h3, _⟩ := hT.info
    rw [h2]; simp [h3]
  obtain ⟨hxl, a, c, rfl, hxn, _, hnil, hcell⟩ := hx
  match a, hnil, hcell with
  | none, hnil, _ => exact absurd (hnil rfl).1 (by omega)
  | some a, _, hcell =>
  rcases hown.2 with ⟨_, h0, _⟩ | ⟨g, cap, cur, rfl, hb, hg, hn, hcm, hsz, ht⟩
  · omega
  have hyl : ys.length = m := by omega
  have hac := hcell a rfl
  have hcp := run_copy_row (P := P) w t t2 ty E g (0 + j) (n - j) (cap - j) a m c cur E ys hT.under hs hg (by rw [hyl]; exact (Nat.min_eq_left (by omega)).symm) (fun q u hq => by
      have := hac.2 q u hq
      rw [← this]; congr 1
      obtain ⟨ab, ao, ap⟩ := a
      have hp : ap = none ∨ True := .inr trivial
      unfold Addr.add
      have h3 := hac.1
      cases ap with
      | none => split <;> simp_all
      | some _ => simp_all) (by rw [hyl]; omega) h1
  refine ⟨w.setRow g (cur.toList.take (0 + j) ++ ys ++ cur.toList.drop (0 + j + ys.length)).toArray, ?_, hM.grow i hr (.inr rfl) (row := (Value.slice (some ⟨g, 0, none⟩) n cap).ownBlock) ?_ _ _ _ ?_ (fun b hb => .inl hb)⟩
  · have := hcp
    rw [hyl] at this
    simpa [subv, goInt, hyl] using this
  · exact ⟨rfl, rfl, rfl, by simp, fun q _ hq => setRow_other w g q _ (fun e => hq (by simp [Value.ownBlock, e]))⟩
  · have hlen : (cur.toList.take (0 + j) ++ ys ++ cur.toList.drop (0 + j + ys.length)).length = cap * 1 := by
      simp [hsz]; omega
    refine ⟨?_, .inr ⟨g, cap, _, rfl, Nat.zero_le _, setRow_heap w g cur _ E _ hg, hn, hcm, by simpa using hlen, ?_⟩⟩
    · have := hown.1
      simp only [splice, List.length_append, List.length_take, List.length_drop]
      omega
    · rw [← ht]
      simp only [Nat.zero_add, splice, List.take_append, List.length_append, List.length_take, List.drop_take, List.take_take, Array.length_toList]
      have a1 : min (n * 1) j = j := by omega
      have a2 : min j (n * 1) = j := by omega
      have a3 : min j cur.size = j := by omega
      have a4 : List.take (n * 1 - j) ys = ys := List.take_of_length_le (by omega)
      rw [a1, a2, a3, a4]

/-! ### the table -/
abbrev nil0 : Value := .slice none 0 0
/-- 256 slices and one more: those at 34 and 92 are told -/
def rp (zz x y : Value) : List Value := (((List.replicate 257 nil0).set 256 zz).set 34 x).set 92 y
/-- the slice at a byte -/
def rsel (c : Int) (x y : Value) : Value := if c = 34 then x else if c = 92 then y else nil0
theorem set_at {l : List Value} {i : Nat} {u : Value} (h : i < l.length) : (l.set i u)[i]? = some u := by rw [List.getElem?_set]; simp [h]
theorem rp_z (a b x y : Value) : (rp a x y).set 256 b = rp b x y := by
  have : ∀ l : List Value, ((l.set 34 x).set 92 y).set 256 b = ((l.set 256 b).set 34 x).set 92 y := by
    intro l
    rw [List.set_comm y b (show (92 : Nat) ≠ 256 by decide), List.set_comm x b (show (34 : Nat) ≠ 256 by decide)]
  unfold rp; rw [this, List.set_set]
theorem rp_x (zz a b y : Value) : (rp zz a y).set 34 b = rp zz b y := by
  have : ∀ l : List Value, (l.set 92 y).set 34 b = (l.set 34 b).set 92 y := fun l => List.set_comm y b (show (92 : Nat) ≠ 34 by decide)
  unfold rp; rw [this, List.set_set]
theorem rp_y (zz x a b : Value) : (rp zz x a).set 92 b = rp zz x b := by
  unfold rp; rw [List.set_set]
theorem rp_len (zz x y : Value) : (rp zz x y).length = 257 := by unfold rp; rw [List.length_set, List.length_set, List.length_set, List.length_replicate]
theorem rp_at (zz x y : Value) (c : Nat) (h : c < 256) : (rp zz x y)[c]? = some (rsel (c : Int) x y) := by
  unfold rp rsel
  by_cases h1 : c = 34
  · subst h1; rw [List.getElem?_set_ne (by decide), set_at (by rw [List.length_set, List.length_replicate]; decide)]; rfl
  · by_cases h2 : c = 92
    · subst h2; rw [set_at (by rw [List.length_set, List.length_set, List.length_replicate]; decide)]; rfl
    · rw [List.getElem?_set_ne (by omega), List.getElem?_set_ne (by omega), List.getElem?_set_ne (by omega), List.getElem?_replicate, if_pos (by omega), if_neg (by omega), if_neg (by omega)]
theorem rp_end (zz x y : Value) : (rp zz x y)[256]? = some zz := by
  unfold rp
  rw [List.getElem?_set_ne (by decide), List.getElem?_set_ne (by decide), set_at (by rw [List.length_replicate]; decide)]
end
end Go.Gw
namespace Go.Gw
section
variable {P : Program} {w w0 : World} {S : List Nat} {L : List Row} {T : TypeId} {k b c : Nat} {xs : List Value}
theorem m_set (hM : Mem S w0 w L) (i : Nat) (hr : L[i]? = some ⟨T, k, obj b, 1, xs⟩) (u : Value) : Mem S w0 (w.setCell ⟨b, c, none⟩ u) (L.set i ⟨T, k, obj b, 1, xs.set c u⟩) := by
  have hown : w.ownsRow 0 T k (obj b) 1 xs := hM.get i hr
  have hst := World.ownsRow.stored (g := b) (cap := 1) hown c u
  exact hM.grow i hr (.inr rfl) (row := (obj b).ownBlock) hst.2 _ _ _ hst.1 (fun b hb => .inl hb)
theorem m_cell (hM : Mem S w0 w L) (i : Nat) (hr : L[i]? = some ⟨T, k, obj b, 1, xs⟩) (hc : c < k) : w.cell? ⟨b, c, none⟩ = xs[c]? := World.ownsRow.cellAt (g := b) (cap := 1) (hM.get i hr) c (by show c < 1 * k; omega)
theorem m_froz (hM : Mem S w0 w L) (i : Nat) (hr : L[i]? = some ⟨T, k, obj b, 1, xs⟩) (c : Nat) : w.frozen? ⟨b, c, none⟩ = false := World.ownsRow.frozenAt (g := b) (cap := 1) (hM.get i hr) c
end
end Go.Gw
namespace Go.Gw
set_option linter.unusedVariables false
set_option linter.unusedSimpArgs false
section
variable {P : Program} {t E : TypeId} {k bb : Nat} {z : Value} {w w0 w' : World} {S : List Nat} {L L' : List Row}
/-- make([]T, 0, n) -/
theorem m_make0 (hT : SliceT P t E 1 bb z) (hM : Mem S w0 w L) (n : Nat) (hbytes : bb * n ≤ 281474976710656) (hn : n ≤ maxLen) (kl kc : IntKind) :
    ∃ v w', (Instr.makeSlice t (.int kl 0) (.int kc ((n : Nat) : Int))).run P w = .ok v w' ∧ Mem S w0 w' (⟨E, 1, v, 0, []⟩ :: L) := by
  obtain ⟨i, hi, hz, hk, hb⟩ := hT.info
  obtain ⟨w', hrun, hown, hg⟩ := run_make_own (P := P) w 0 t E i z 1 hT.under hi hz hk kl kc n (by rw [hb]; exact hbytes) hn (Nat.zero_le _)
  refine ⟨_, w', hrun, hM.push hg ⟨E, 1, _, 0, []⟩ hown (fun c hc => ?_)⟩
  simp [Value.ownBlock] at hc
  omega
/-- a slice that reads so, and lies in no row -/
structure Fz (w : World) (L : List Row) (x : Value) (l : List Int) : Prop where
  rd : Rd w 1 x l.length (ivals .u8 l)
  own : ∃ g, x.ownBlock = some g ∧ g < w.heap.size
  out : ∀ g, x.ownBlock = some g → g ∉ blocks L
theorem blocks_lt (h : Mem S w0 w L) {b : Nat} (hb : b ∈ blocks L) : b < w.heap.size := by
  obtain ⟨r, hr, hrb⟩ := mem_blocks.1 hb
  exact own_lt (h.owns r hr) b hrb
/-- all rows lent -/
theorem Mem.all (h : Mem S w0 w L) : Mem (blocks L) w w L := Mem.lend (R := L) (L := []) (by rw [List.append_nil]; exact h)
theorem Mem.home (h : Mem S w0 w L) (c : Mem (blocks L) w w' L') : Mem S w0 w' L' := by
  have := Mem.back (R := L) (L := []) (by rw [List.append_nil]; exact h) c
  rwa [List.append_nil] at this
theorem Fz.go {x : Value} {l : List Int} (h : Fz w L x l) (c : Mem (blocks L) w w' L') : Fz w' L' x l := by
  obtain ⟨g, hg, hlt⟩ := h.own
  refine ⟨h.rd.kept c.kept h.out, ⟨g, hg, Nat.lt_of_lt_of_le hlt c.kept.size⟩, fun g' hg' hb => ?_⟩
  obtain rfl : g = g' := by rw [hg] at hg'; exact Option.some.inj hg'
  obtain ⟨r, hr, hrb⟩ := mem_blocks.1 hb
  rcases c.mine r hr g hrb with z | z
  · exact h.out g hg z
  · omega
theorem Fz.sub {x : Value} {l : List Int} (h : Fz w L x l) (hs : ∀ r ∈ L', r ∈ L) : Fz w L' x l := ⟨h.rd, h.own, fun g hg hb => by
  obtain ⟨r, hr, hrb⟩ := mem_blocks.1 hb
  exact h.out g hg (mem_blocks.2 ⟨r, hs r hr, hrb⟩)⟩
/-- []byte(s) -/
theorem b_of {src dst e : TypeId} (hs : P.underlying src = some .string) (hd : P.underlying dst = some (.slice e)) (he : P.underlying e = some (.int .u8)) (hM : Mem S w0 w L) (l : List UInt8) (hl : l.length ≤ 140737488355328) :
    ∃ v w', (convert src dst (.string (sb l))).run P w = .ok v w' ∧ Mem S w0 w' L ∧ Fz w' L v (numsOf l) ∧ ∀ (L2 : List Row) (x : Value) (m : List Int), Fz w L2 x m → Fz w' L2 x m := by
  obtain ⟨v, w', h1, h2, h3⟩ := bts_of hs hd he (Mem.start w) l hl
  refine ⟨v, w', h1, hM.ext h2.kept, ⟨h3.rd, ?_, ?_⟩, fun L2 x m hf => ⟨hf.rd.kept0 h2.kept, ?_, hf.out⟩⟩
  · obtain ⟨_, g, cap, cur, ee, fz, rfl, g1, g2, _⟩ := h3
    exact ⟨g, rfl, (Array.getElem?_eq_some_iff.1 g2).1⟩
  · obtain ⟨_, g, cap, cur, ee, fz, rfl, g1, g2, _⟩ := h3
    intro g' hg' hb
    obtain rfl : g = g' := by simpa [Value.ownBlock] using hg'
    have := blocks_lt hM hb
    omega
  · obtain ⟨g, hg, hlt⟩ := hf.own
    exact ⟨g, hg, Nat.lt_of_lt_of_le hlt h2.kept.size⟩
theorem Fz.one {x : Value} {l : List Int} (h : Fz w L x l) : x.oneCell' = true ∧ x.cells = #[x] ∧ x.cells.toList = [x] := ⟨rd_one h.rd, rd_cells h.rd, rd_cellsl h.rd⟩
theorem Fz.some {x : Value} {l : List Int} (h : Fz w L x l) : ∃ a n c, x = .slice (Option.some a) n c := by
  obtain ⟨a, n, c, rfl⟩ := rd_form h.rd
  obtain ⟨g, hg, _⟩ := h.own
  cases a with
  | none => simp [Value.ownBlock] at hg
  | some a => exact ⟨a, n, c, rfl⟩
end
end Go.Gw
namespace Go.Gw
theorem rp_one {zz x y : Value} (hz : zz.oneCell' = true) (hx : x.oneCell' = true) (hy : y.oneCell' = true) : ∀ u ∈ rp zz x y, u.oneCell' = true := by
  intro u hu
  unfold rp at hu
  rcases List.mem_or_eq_of_mem_set hu with hu | rfl
  · rcases List.mem_or_eq_of_mem_set hu with hu | rfl
    · rcases List.mem_or_eq_of_mem_set hu with hu | rfl
      · rw [List.eq_of_mem_replicate hu]; rfl
      · exact hz
    · exact hx
  · exact hy
theorem rp_all (zz x y a b c : Value) : splice (rp zz x y) 0 (rp a b c) = rp a b c := by
  unfold splice
  rw [List.take_zero, List.nil_append, rp_len, List.drop_of_length_le (by rw [rp_len]; decide), List.append_nil]
end Go.Gw
namespace Go.Gw
theorem rp_34 (zz x y : Value) : (rp zz x y)[34]? = some x := (rp_at zz x y 34 (by decide)).trans (by unfold rsel; rw [if_pos (by decide)])
theorem rp_92 (zz x y : Value) : (rp zz x y)[92]? = some y := (rp_at zz x y 92 (by decide)).trans (by unfold rsel; rw [if_neg (by decide), if_pos (by decide)])
end Go.Gw
namespace Go.Gw
section
variable {P : Program} {R : Ending → World → Prop} {w wA wB : World} {n : Nat} {l : Sl}
/-- two calls put off -/
theorem Lv.two {fn : Func} {g1 g2 : FuncId} {fv1 fv2 : Fn} {cap1 cap2 a1 a2 d1 d2 : Array Value} {rs : List ResultVar} {v1 v2 : Value}
    (h1 : CallsD P g1 a1 .returning w (fun e u' w' => u' = .returning ∧ (e = .returned v1 ∧ w' = wA))) (h2 : CallsD P g2 a2 .returning wA (fun e u' w' => u' = .returning ∧ (e = .returned v2 ∧ w' = wB)))
    (hk : ∃ vs, ResC P wB l rs vs ∧ R (.returned (oneOf vs)) wB)
    (hi1 : (invoke (.fn fv1 cap1) d1).run P w = .ok (.enter g1 a1) w := by kernel_rfl) (hi2 : (invoke (.fn fv2 cap2) d2).run P wA = .ok (.enter g2 a2) wA := by kernel_rfl) (he : fn.results.toList = rs := by kernel_rfl) :
    Lv P fn R n l { defers := [{ target := .fn fv1 cap1, args := d1 }, { target := .fn fv2 cap2, args := d2 }] } .returning w := by
  intro a ha
  rw [ha.defers]
  refine leaves_cons (by simp) hi1 (h1.mono ?_)
  rintro e u' w' ⟨rfl, rfl, rfl⟩
  refine leaves_cons (by simp [settle]) hi2 (h2.mono ?_)
  rintro e u' w' ⟨rfl, rfl, rfl⟩
  obtain ⟨vs, h3, h4⟩ := hk
  exact ⟨oneOf vs, resultsC_run ha he h3, h4⟩
end
end Go.Gw
namespace Go.Gw
theorem rp_no (zz x y : Value) {c : Nat} (h : c < 256) (h1 : ¬ c = 34) (h2 : ¬ c = 92) : (rp zz x y)[c]? = some nil0 := (rp_at zz x y c h).trans (by unfold rsel; rw [if_neg (by omega), if_neg (by omega)])
end Go.Gw


namespace Go.Proofs.YthpodbngljfdmaaGreatDoor
open Go Go.Gw
set_option linter.unusedVariables false
set_option linter.unusedSimpArgs false
abbrev mul : Go.Conc.Locks.MuLink := { lock := 119, unlock := 120, ilock := 136, iunlock := 137, lockSlow := 153, unlockSlow := 156, disable := 149, enable := 151, acquire := 152, relMerge := 154, cas32 := 150, add32 := 155, tMutex := 107, tIMutex := 105, tPMutex := 181, tPIMutex := 204, tPI32 := 206, tUP := 150, tNoCopy := 99, tU32 := 101 }
theorem muLib : Go.Conc.Locks.MuLib Tryz.prog mul := ⟨Tryz.func119, Tryz.func120, Tryz.func136, Tryz.func137, Tryz.func149, Tryz.func151, Tryz.func152, Tryz.func154, Tryz.func150, Tryz.func155, Tryz.underlying105, Tryz.runUnderlying105, Tryz.sizeOf105, Tryz.isAgg105, Tryz.zeroValue105, Tryz.underlying107, Tryz.runUnderlying107, Tryz.sizeOf107, Tryz.isAgg107, Tryz.zeroValue107, Tryz.underlying181, Tryz.runUnderlying181, Tryz.sizeOf181, Tryz.isAgg181, Tryz.zeroValue181, Tryz.underlying204, Tryz.runUnderlying204, Tryz.sizeOf204, Tryz.isAgg204, Tryz.zeroValue204, Tryz.underlying206, Tryz.runUnderlying206, Tryz.sizeOf206, Tryz.isAgg206, Tryz.zeroValue206, Tryz.underlying150, Tryz.runUnderlying150, Tryz.sizeOf150, Tryz.isAgg150, Tryz.zeroValue150, Tryz.underlying99, Tryz.runUnderlying99, Tryz.sizeOf99, Tryz.isAgg99, Tryz.zeroValue99, Tryz.underlying21, Tryz.runUnderlying21, Tryz.sizeOf21, Tryz.isAgg21, Tryz.zeroValue21, (by kernel_rfl)⟩
theorem bload_c (a : Addr) (w : World) (h0 : w.cell? a = some (.int .u32 0)) : Calls Tryz.prog 96 #[.pointer (some a)] w fun e w' => e = .returned (.bool false) ∧ w = w' := by
  have hl := run_call_load (P := Tryz.prog) Tryz.func118 (by kernel_rfl) (by kernel_rfl) (by kernel_rfl) .u32 (by kernel_rfl) h0
  go_enter Tryz.func96, Tryz.ntmps96
  go_wp2
  first | (go_end0; exact ⟨rfl, rfl⟩) | (go_ret; exact ⟨rfl, rfl⟩)
theorem bstore_d (a : Addr) (x : Value) (u : FrameMode) (w : World) (hc : w.cell? a = some x) (hz : w.frozen? a = false) :
    CallsD Tryz.prog 121 #[.pointer (some a), .bool true] u w fun e u' w' => u' = u ∧ (e = .returned (.tuple #[]) ∧ w' = w.drew.setCell a (.int .u32 1)) := by
  have hc' : w.drew.cell? a = some x := by go_simp
  have hz' : w.drew.frozen? a = false := by go_simp
  have hst := run_call_store (P := Tryz.prog) Tryz.func138 (by kernel_rfl) (by kernel_rfl) (by kernel_rfl) (by kernel_rfl) (k := .u32) (y := 1) hc' hz'
  go_enter_d Tryz.func121, Tryz.ntmps121
  go_wp2
  go_region_calls
  all_goals (go_end0; exact ⟨rfl, rfl⟩)
theorem lock_c (a : Addr) (w : World) (hc : w.cell? a = some (.int .i32 0)) (hz : w.frozen? a = false) :
    Calls Tryz.prog 119 #[.pointer (some a)] w fun e w' => e = .returned (.tuple #[]) ∧ w' = w.setCell a (.int .i32 1) := Go.MuLone.lock_free muLib a w hc hz
theorem unlock_d (a : Addr) (u : FrameMode) (w : World) (hc : w.cell? a = some (.int .i32 1)) (hz : w.frozen? a = false) :
    CallsD Tryz.prog 120 #[.pointer (some a)] u w fun e u' w' => u' = u ∧ (e = .returned (.tuple #[]) ∧ w' = w.setCell a (.int .i32 0)) := Go.MuLone.unlock_deferred muLib a u w hc hz
open Go.Shelf Go.RowKit Go.Lib
set_option maxHeartbeats 1000000 in
set_option maxRecDepth 100000 in
theorem count_s (s : ByteArray) (c : UInt8) (w : World) :
    Calls Tryz.prog 224 #[.string s, .string ⟨#[c]⟩] w fun e w' => e = .returned (.int .i64 (Lib.countByte s.data.toList c)) ∧ w' = w := by
  go_enter Tryz.func224, Tryz.ntmps224
  go_wp2
  rw [run_callFunc_extern Tryz.func226 (by kernel_rfl) (by kernel_rfl) (by kernel_rfl) (e := Extern.BytealgCount.count) (by kernel_rfl), Lib.run_countString]
  simp only [Result.andThen]
  rw [Oper.upon_value]
  go_wp2
  go_ret
  exact ⟨rfl, rfl⟩
theorem count_c (s : List UInt8) (c : UInt8) (w : World) : Calls Tryz.prog 224 #[.string (sb s), .string (sb [c])] w fun e w' => e = .returned (.int .i64 ((s.count c : Nat) : Int)) ∧ w = w' := (count_s (sb s) c w).mono (fun e w' h => ⟨by rw [h.1]; simp [sb, Lib.countByte], h.2.symm⟩)
end Go.Proofs.YthpodbngljfdmaaGreatDoor


namespace Go.Proofs.YthpodbngljfdmaaGreatDoor
open Go Go.Gw Go.UtfP Go.TokP Go.QryP Go.SynP Go.RealQ Go.SynV Go.RowKit
set_option linter.unusedVariables false
set_option linter.unusedSimpArgs false
set_option maxRecDepth 20000
theorem sT64 : SliceT Tryz.prog 64 9 1 16 (.string (sb ([]))) := ⟨by kernel_rfl, ⟨_, rfl, by kernel_rfl, by kernel_rfl, by kernel_rfl⟩, rfl, by decide⟩
theorem pE64 : Plain Tryz.prog 64 := ⟨.slice 9, by kernel_rfl, (fun _ h => by cases h), (fun _ _ h => by cases h)⟩
theorem pE76 : Plain Tryz.prog 76 := ⟨.slice 5, by kernel_rfl, (fun _ h => by cases h), (fun _ _ h => by cases h)⟩
theorem oT170 : ObjT Tryz.prog 170 257 (.agg #[.slice none 0 0, .slice none 0 0, .slice none 0 0, .slice none 0 0, .slice none 0 0, .slice none 0 0, .slice none 0 0, .slice none 0 0, .slice none 0 0, .slice none 0 0, .slice none 0 0, .slice none 0 0, .slice none 0 0, .slice none 0 0, .slice none 0 0, .slice none 0 0, .slice none 0 0, .slice none 0 0, .slice none 0 0, .slice none 0 0, .slice none 0 0, .slice none 0 0, .slice none 0 0, .slice none 0 0, .slice none 0 0, .slice none 0 0, .slice none 0 0, .slice none 0 0, .slice none 0 0, .slice none 0 0, .slice none 0 0, .slice none 0 0, .slice none 0 0, .slice none 0 0, .slice none 0 0, .slice none 0 0, .slice none 0 0, .slice none 0 0, .slice none 0 0, .slice none 0 0, .slice none 0 0, .slice none 0 0, .slice none 0 0, .slice none 0 0, .slice none 0 0, .slice none 0 0, .slice none 0 0, .slice none 0 0, .slice none 0 0, .slice none 0 0, .slice none 0 0, .slice none 0 0, .slice none 0 0, .slice none 0 0, .slice none 0 0, .slice none 0 0, .slice none 0 0, .slice none 0 0, .slice none 0 0, .slice none 0 0, .slice none 0 0, .slice none 0 0, .slice none 0 0, .slice none 0 0, .slice none 0 0, .slice none 0 0, .slice none 0 0, .slice none 0 0, .slice none 0 0, .slice none 0 0, .slice none 0 0, .slice none 0 0, .slice none 0 0, .slice none 0 0, .slice none 0 0, .slice none 0 0, .slice none 0 0, .slice none 0 0, .slice none 0 0, .slice none 0 0, .slice none 0 0, .slice none 0 0, .slice none 0 0, .slice none 0 0, .slice none 0 0, .slice none 0 0, .slice none 0 0, .slice none 0 0, .slice none 0 0, .slice none 0 0, .slice none 0 0, .slice none 0 0, .slice none 0 0, .slice none 0 0, .slice none 0 0, .slice none 0 0, .slice none 0 0, .slice none 0 0, .slice none 0 0, .slice none 0 0, .slice none 0 0, .slice none 0 0, .slice none 0 0, .slice none 0 0, .slice none 0 0, .slice none 0 0, .slice none 0 0, .slice none 0 0, .slice none 0 0, .slice none 0 0, .slice none 0 0, .slice none 0 0, .slice none 0 0, .slice none 0 0, .slice none 0 0, .slice none 0 0, .slice none 0 0, .slice none 0 0, .slice none 0 0, .slice none 0 0, .slice none 0 0, .slice none 0 0, .slice none 0 0, .slice none 0 0, .slice none 0 0, .slice none 0 0, .slice none 0 0, .slice none 0 0, .slice none 0 0, .slice none 0 0, .slice none 0 0, .slice none 0 0, .slice none 0 0, .slice none 0 0, .slice none 0 0, .slice none 0 0, .slice none 0 0, .slice none 0 0, .slice none 0 0, .slice none 0 0, .slice none 0 0, .slice none 0 0, .slice none 0 0, .slice none 0 0, .slice none 0 0, .slice none 0 0, .slice none 0 0, .slice none 0 0, .slice none 0 0, .slice none 0 0, .slice none 0 0, .slice none 0 0, .slice none 0 0, .slice none 0 0, .slice none 0 0, .slice none 0 0, .slice none 0 0, .slice none 0 0, .slice none 0 0, .slice none 0 0, .slice none 0 0, .slice none 0 0, .slice none 0 0, .slice none 0 0, .slice none 0 0, .slice none 0 0, .slice none 0 0, .slice none 0 0, .slice none 0 0, .slice none 0 0, .slice none 0 0, .slice none 0 0, .slice none 0 0, .slice none 0 0, .slice none 0 0, .slice none 0 0, .slice none 0 0, .slice none 0 0, .slice none 0 0, .slice none 0 0, .slice none 0 0, .slice none 0 0, .slice none 0 0, .slice none 0 0, .slice none 0 0, .slice none 0 0, .slice none 0 0, .slice none 0 0, .slice none 0 0, .slice none 0 0, .slice none 0 0, .slice none 0 0, .slice none 0 0, .slice none 0 0, .slice none 0 0, .slice none 0 0, .slice none 0 0, .slice none 0 0, .slice none 0 0, .slice none 0 0, .slice none 0 0, .slice none 0 0, .slice none 0 0, .slice none 0 0, .slice none 0 0, .slice none 0 0, .slice none 0 0, .slice none 0 0, .slice none 0 0, .slice none 0 0, .slice none 0 0, .slice none 0 0, .slice none 0 0, .slice none 0 0, .slice none 0 0, .slice none 0 0, .slice none 0 0, .slice none 0 0, .slice none 0 0, .slice none 0 0, .slice none 0 0, .slice none 0 0, .slice none 0 0, .slice none 0 0, .slice none 0 0, .slice none 0 0, .slice none 0 0, .slice none 0 0, .slice none 0 0, .slice none 0 0, .slice none 0 0, .slice none 0 0, .slice none 0 0, .slice none 0 0, .slice none 0 0, .slice none 0 0, .slice none 0 0, .slice none 0 0, .slice none 0 0, .slice none 0 0, .slice none 0 0, .slice none 0 0, .slice none 0 0, .slice none 0 0, .slice none 0 0, .slice none 0 0, .slice none 0 0, .slice none 0 0, .slice none 0 0, .slice none 0 0, .slice none 0 0, .slice none 0 0, .slice none 0 0, .slice none 0 0, .slice none 0 0, .slice none 0 0, .slice none 0 0]) := ⟨⟨_, rfl, by kernel_rfl, by kernel_rfl⟩, rfl⟩
theorem aE170 : Agged Tryz.prog 170 257 := ⟨⟨_, Tryz.underlying170, .inl ⟨_, rfl⟩⟩, _, rfl, by kernel_rfl⟩


set_option maxHeartbeats 2000000 in
theorem rbuild_c {S : List Nat} {w0 w : World} {L : List Row} (b : Nat) (on : Value) (d m q : Int) (hM : Mem S w0 w (⟨113, 5, (obj b), 1, [.int .u32 d, .int .i32 m, .int .u32 q, .nilIface, on]⟩ :: ⟨9, 1, on, 4, [sS ([92] : List UInt8), sS ([92, 92] : List UInt8), sS ([34] : List UInt8), sS ([92, 34] : List UInt8)]⟩ :: L)) :
  Calls Tryz.prog 98 #[pq b] w (fun e w' => ∃ c x y z, e = .returned (.iface 171 (.pointer (some ⟨c, 0, none⟩))) ∧ Mem S w0 w' (⟨170, 257, obj c, 1, rp z x y⟩ :: ⟨9, 1, z, 2, svals [[34], [92]]⟩ :: ⟨113, 5, (obj b), 1, [.int .u32 d, .int .i32 m, .int .u32 q, .nilIface, on]⟩ :: ⟨9, 1, on, 4, [sS ([92] : List UInt8), sS ([92, 92] : List UInt8), sS ([34] : List UInt8), sS ([92, 34] : List UInt8)]⟩ :: L) ∧ Fz w' (⟨170, 257, obj c, 1, rp z x y⟩ :: ⟨9, 1, z, 2, svals [[34], [92]]⟩ :: ⟨113, 5, (obj b), 1, [.int .u32 d, .int .i32 m, .int .u32 q, .nilIface, on]⟩ :: ⟨9, 1, on, 4, [sS ([92] : List UInt8), sS ([92, 92] : List UInt8), sS ([34] : List UInt8), sS ([92, 34] : List UInt8)]⟩ :: L) x [92, 34] ∧ Fz w' (⟨170, 257, obj c, 1, rp z x y⟩ :: ⟨9, 1, z, 2, svals [[34], [92]]⟩ :: ⟨113, 5, (obj b), 1, [.int .u32 d, .int .i32 m, .int .u32 q, .nilIface, on]⟩ :: ⟨9, 1, on, 4, [sS ([92] : List UInt8), sS ([92, 92] : List UInt8), sS ([34] : List UInt8), sS ([92, 34] : List UInt8)]⟩ :: L) y [92, 92]) := by
 refine xe 132 Tryz.func98 (fun R hR => ?_)
 refine xv 9 (c_load pE64 (hM.rd 0 rfl) (cel_obj b 4) rfl) ?_
 refine xv 6 (f_slen sT64 (hM.rd 1 rfl) 3 w) ?_
 refine xv 27 (f_slen sT64 (hM.rd 1 rfl) 3 w) ?_
 refine xat 11 sT64 (hM.rd 1 rfl) 0 0 (fun p1 hp2 => ?_)
 refine xv 0 (at_load pE9 (hM.rd 1 rfl) hp2 rfl) ?_
 refine xat 10 sT64 (hM.rd 1 rfl) 1 1 (fun p4 hp5 => ?_)
 refine xv 0 (at_load pE9 (hM.rd 1 rfl) hp5 rfl) ?_
 refine xv 19 (f_slen sT64 (hM.rd 1 rfl) 3 w) ?_
 refine xat 11 sT64 (hM.rd 1 rfl) 2 2 (fun p7 hp8 => ?_)
 refine xv 0 (at_load pE9 (hM.rd 1 rfl) hp8 rfl) ?_
 refine xat 10 sT64 (hM.rd 1 rfl) 3 3 (fun p10 hp11 => ?_)
 refine xv 0 (at_load pE9 (hM.rd 1 rfl) hp11 rfl) ?_
 refine xv 19 (f_slen sT64 (hM.rd 1 rfl) 3 w) ?_
 refine xv 14 (f_slen sT64 (hM.rd 1 rfl) 3 w) ?_
 refine xv 0 (show (binOp .quo 3 (.int .i64 4) (.int .i64 2)).run Tryz.prog w = .ok (.int .i64 2) w from (by kernel_rfl)) ?_
 refine xx 0 (m_make0 sT64 hM 2 (by decide) (by decide) .i64 .i64) (fun v13 w14 hM16 => ?_)
 refine xv 0 (show (Instr.build 170 #[(1, v13)]).run Tryz.prog w14 = .ok (.agg (rp v13 nil0 nil0).toArray) w14 from (by obtain ⟨a0_, m0_, c0_, e0_⟩ : ∃ a m c, v13 = Value.slice a m c := rd_form (hM16.rd 0 rfl); rw [e0_]; kernel_rfl)) ?_
 refine xx 0 (m_alloc oT170 hM16) (fun b17 w18 hM20 => ?_)
 have hM21 : Mem S w0 w18 (⟨170, 257, (obj b17), 1, (rp (.slice none 0 0) (.slice none 0 0) (.slice none 0 0))⟩ :: ⟨9, 1, v13, 0, []⟩ :: ⟨113, 5, (obj b), 1, [.int .u32 d, .int .i32 m, .int .u32 q, .nilIface, on]⟩ :: ⟨9, 1, on, 4, [sS ([92] : List UInt8), sS ([92, 92] : List UInt8), sS ([34] : List UInt8), sS ([92, 34] : List UInt8)]⟩ :: L) := hM20
 refine xst 0 (c_stores (ys := rp v13 nil0 nil0) aE170 hM21 0 rfl (cel_obj b17 0) (rp_len _ _ _) (by decide) (rp_one (rd_one (hM21.rd 1 rfl)) rfl rfl)) (fun w22 hM24 => ?_)
 have hM25 : Mem S w0 w22 (⟨170, 257, (obj b17), 1, (rp v13 (.slice none 0 0) (.slice none 0 0))⟩ :: ⟨9, 1, v13, 0, []⟩ :: ⟨113, 5, (obj b), 1, [.int .u32 d, .int .i32 m, .int .u32 q, .nilIface, on]⟩ :: ⟨9, 1, on, 4, [sS ([92] : List UInt8), sS ([92, 92] : List UInt8), sS ([34] : List UInt8), sS ([92, 34] : List UInt8)]⟩ :: L) := hM24.cast (by show List.set _ _ _ = _; rw [rp_all]; rfl)
 refine xv 5 (f_slen sT64 (hM25.rd 3 rfl) 3 w22) ?_
 refine xat 19 sT64 (hM25.rd 3 rfl) 2 2 (fun p26 hp27 => ?_)
 refine xv 0 (at_load pE9 (hM25.rd 3 rfl) hp27 rfl) ?_
 refine xat 8 sT64 (hM25.rd 3 rfl) 3 3 (fun p29 hp30 => ?_)
 refine xv 0 (at_load pE9 (hM25.rd 3 rfl) hp30 rfl) ?_
 refine xv 7 (show (Instr.indexAt 168 (pq b17) (.int .u8 34)).run Tryz.prog w22 = .ok (.pointer (some (Addr.add (⟨b17, 0, none⟩) (34 * 1)))) w22 from f_arrAt (n := 256) (m := 1) Tryz.underlying168 (fun W => by kernel_rfl) 34 (by omega) (by first | omega | (dsimp only; omega)) _ _ _) ?_
 refine xv 0 (c_load pE76 (hM25.rd 0 rfl) (Cel.cast (d := 34) (Cel.add (cel_obj b17 0) (34 * 1)) (by omega)) (rp_34 _ _ _)) ?_
 refine xv 5 (c_load pE64 (hM25.rd 0 rfl) (cel_obj b17 256) (rp_end _ _ _)) ?_
 refine xx 1 (m_lit sT76 hM25 (n := 1) (parts := #[(0, .int .u8 34)]) (cs := [.int .u8 34]) (by decide) (by kernel_rfl) rfl) (fun v32 w33 hM35 => ?_)
 refine xv 0 (show (convert 76 9 (v32)).run Tryz.prog w33 = .ok (sS (bytesOf ([34] : List Int))) w33 from f_string_i sT76 (by kernel_rfl) (by kernel_rfl) (hM35.rd 0 rfl) (by intro x_ hx_; simp at hx_; omega)) ?_
 refine xx 0 (m_lit sT64 hM35 (n := 1) (parts := #[(0, sS (bytesOf ([34] : List Int)))]) (cs := [sS (bytesOf ([34] : List Int))]) (by decide) (by kernel_rfl) rfl) (fun v36 w37 hM39 => ?_)
 refine xx 0 (m_append sT64 hM39 3 rfl (hM39.rd 0 rfl) (oneL rfl) (by first | omega | (dsimp only; omega) | (simp only [List.length_cons, List.length_nil]; omega)) (by first | omega | (dsimp only; omega) | (simp only [List.length_cons, List.length_nil]; omega)) 64) (fun v40 w41 hM43 => ?_)
 have hM44 : Mem S w0 w41 (⟨9, 1, v36, 1, [sS (bytesOf ([34] : List Int))]⟩ :: ⟨5, 1, v32, 1, [.int .u8 34]⟩ :: ⟨170, 257, (obj b17), 1, (rp v13 (.slice none 0 0) (.slice none 0 0))⟩ :: ⟨9, 1, v40, (List.length ([(bytesOf ([34] : List Int))] : List (List UInt8))), (svals ([(bytesOf ([34] : List Int))] : List (List UInt8)))⟩ :: ⟨113, 5, (obj b), 1, [.int .u32 d, .int .i32 m, .int .u32 q, .nilIface, on]⟩ :: ⟨9, 1, on, 4, [sS ([92] : List UInt8), sS ([92, 92] : List UInt8), sS ([34] : List UInt8), sS ([92, 34] : List UInt8)]⟩ :: L) := hM43.cast (by simp [ivals, svals, bvals, nvals, u8s, Nat.add_assoc])
 refine xst 1 (c_store (E := 64) (u := v40) (by kernel_rfl) hM44 2 rfl (cel_obj b17 256) (by decide) (rd_one (hM44.rd 3 rfl)) (rd_cells (hM44.rd 3 rfl))) (fun w45 hM47 => ?_)
 have hM48 : Mem S w0 w45 (⟨9, 1, v36, 1, [sS (bytesOf ([34] : List Int))]⟩ :: ⟨5, 1, v32, 1, [.int .u8 34]⟩ :: ⟨170, 257, (obj b17), 1, (rp v40 (.slice none 0 0) (.slice none 0 0))⟩ :: ⟨9, 1, v40, (List.length ([(bytesOf ([34] : List Int))] : List (List UInt8))), (svals ([(bytesOf ([34] : List Int))] : List (List UInt8)))⟩ :: ⟨113, 5, (obj b), 1, [.int .u32 d, .int .i32 m, .int .u32 q, .nilIface, on]⟩ :: ⟨9, 1, on, 4, [sS ([92] : List UInt8), sS ([92, 92] : List UInt8), sS ([34] : List UInt8), sS ([92, 34] : List UInt8)]⟩ :: L) := hM47.cast (by show List.set _ _ _ = _; rw [rp_z]; rfl)
 refine xx 4 (b_of (src := 9) (dst := 76) (e := 5) (by kernel_rfl) (by kernel_rfl) (by kernel_rfl) hM48 ([92, 34] : List UInt8) (by decide)) (fun v49 w50 ⟨hM52, hF53, hG54⟩ => ?_)
 have hM55 := hM52.all
 refine xv 1 (show (Instr.indexAt 168 (pq b17) (.int .u8 34)).run Tryz.prog w50 = .ok (.pointer (some (Addr.add (⟨b17, 0, none⟩) (34 * 1)))) w50 from f_arrAt (n := 256) (m := 1) Tryz.underlying168 (fun W => by kernel_rfl) 34 (by omega) (by first | omega | (dsimp only; omega)) _ _ _) ?_
 refine xst 0 (c_store (E := 76) (u := v49) (by kernel_rfl) hM55 2 rfl (Cel.cast (d := 34) (Cel.add (cel_obj b17 0) (34 * 1)) (by omega)) (by decide) hF53.one.1 hF53.one.2.1) (fun w56 hM58 => ?_)
 have hM59 : Mem (blocks (⟨9, 1, v36, 1, [sS (bytesOf ([34] : List Int))]⟩ :: ⟨5, 1, v32, 1, [.int .u8 34]⟩ :: ⟨170, 257, (obj b17), 1, (rp v40 (.slice none 0 0) (.slice none 0 0))⟩ :: ⟨9, 1, v40, (List.length ([(bytesOf ([34] : List Int))] : List (List UInt8))), (svals ([(bytesOf ([34] : List Int))] : List (List UInt8)))⟩ :: ⟨113, 5, (obj b), 1, [.int .u32 d, .int .i32 m, .int .u32 q, .nilIface, on]⟩ :: ⟨9, 1, on, 4, [sS ([92] : List UInt8), sS ([92, 92] : List UInt8), sS ([34] : List UInt8), sS ([92, 34] : List UInt8)]⟩ :: L)) w50 w56 (⟨9, 1, v36, 1, [sS (bytesOf ([34] : List Int))]⟩ :: ⟨5, 1, v32, 1, [.int .u8 34]⟩ :: ⟨170, 257, (obj b17), 1, (rp v40 v49 (.slice none 0 0))⟩ :: ⟨9, 1, v40, (List.length ([(bytesOf ([34] : List Int))] : List (List UInt8))), (svals ([(bytesOf ([34] : List Int))] : List (List UInt8)))⟩ :: ⟨113, 5, (obj b), 1, [.int .u32 d, .int .i32 m, .int .u32 q, .nilIface, on]⟩ :: ⟨9, 1, on, 4, [sS ([92] : List UInt8), sS ([92, 92] : List UInt8), sS ([34] : List UInt8), sS ([92, 34] : List UInt8)]⟩ :: L) := hM58.cast (by show List.set _ _ _ = _; rw [rp_x]; rfl)
 refine xat 22 sT64 (hM59.rd 5 rfl) 0 0 (fun p60 hp61 => ?_)
 refine xv 0 (at_load pE9 (hM59.rd 5 rfl) hp61 rfl) ?_
 refine xat 8 sT64 (hM59.rd 5 rfl) 1 1 (fun p63 hp64 => ?_)
 refine xv 0 (at_load pE9 (hM59.rd 5 rfl) hp64 rfl) ?_
 refine xv 7 (show (Instr.indexAt 168 (pq b17) (.int .u8 92)).run Tryz.prog w56 = .ok (.pointer (some (Addr.add (⟨b17, 0, none⟩) (92 * 1)))) w56 from f_arrAt (n := 256) (m := 1) Tryz.underlying168 (fun W => by kernel_rfl) 92 (by omega) (by first | omega | (dsimp only; omega)) _ _ _) ?_
 refine xv 0 (c_load pE76 (hM59.rd 2 rfl) (Cel.cast (d := 92) (Cel.add (cel_obj b17 0) (92 * 1)) (by omega)) (rp_92 _ _ _)) ?_
 refine xv 5 (c_load pE64 (hM59.rd 2 rfl) (cel_obj b17 256) (rp_end _ _ _)) ?_
 refine xx 1 (m_lit sT76 hM59 (n := 1) (parts := #[(0, .int .u8 92)]) (cs := [.int .u8 92]) (by decide) (by kernel_rfl) rfl) (fun v66 w67 hM69 => ?_)
 refine xv 0 (show (convert 76 9 (v66)).run Tryz.prog w67 = .ok (sS (bytesOf ([92] : List Int))) w67 from f_string_i sT76 (by kernel_rfl) (by kernel_rfl) (hM69.rd 0 rfl) (by intro x_ hx_; simp at hx_; omega)) ?_
 refine xx 0 (m_lit sT64 hM69 (n := 1) (parts := #[(0, sS (bytesOf ([92] : List Int)))]) (cs := [sS (bytesOf ([92] : List Int))]) (by decide) (by kernel_rfl) rfl) (fun v70 w71 hM73 => ?_)
 refine xx 0 (m_append sT64 hM73 5 rfl (hM73.rd 0 rfl) (oneL rfl) (by first | omega | (dsimp only; omega) | (simp only [List.length_cons, List.length_nil]; omega)) (by first | omega | (dsimp only; omega) | (simp only [List.length_cons, List.length_nil]; omega)) 64) (fun v74 w75 hM77 => ?_)
 have hM78 : Mem (blocks (⟨9, 1, v36, 1, [sS (bytesOf ([34] : List Int))]⟩ :: ⟨5, 1, v32, 1, [.int .u8 34]⟩ :: ⟨170, 257, (obj b17), 1, (rp v40 (.slice none 0 0) (.slice none 0 0))⟩ :: ⟨9, 1, v40, (List.length ([(bytesOf ([34] : List Int))] : List (List UInt8))), (svals ([(bytesOf ([34] : List Int))] : List (List UInt8)))⟩ :: ⟨113, 5, (obj b), 1, [.int .u32 d, .int .i32 m, .int .u32 q, .nilIface, on]⟩ :: ⟨9, 1, on, 4, [sS ([92] : List UInt8), sS ([92, 92] : List UInt8), sS ([34] : List UInt8), sS ([92, 34] : List UInt8)]⟩ :: L)) w50 w75 (⟨9, 1, v70, 1, [sS (bytesOf ([92] : List Int))]⟩ :: ⟨5, 1, v66, 1, [.int .u8 92]⟩ :: ⟨9, 1, v36, 1, [sS (bytesOf ([34] : List Int))]⟩ :: ⟨5, 1, v32, 1, [.int .u8 34]⟩ :: ⟨170, 257, (obj b17), 1, (rp v40 v49 (.slice none 0 0))⟩ :: ⟨9, 1, v74, (List.length (([(bytesOf ([34] : List Int))] : List (List UInt8)) ++ ([(bytesOf ([92] : List Int))] : List (List UInt8)))), (svals (([(bytesOf ([34] : List Int))] : List (List UInt8)) ++ ([(bytesOf ([92] : List Int))] : List (List UInt8))))⟩ :: ⟨113, 5, (obj b), 1, [.int .u32 d, .int .i32 m, .int .u32 q, .nilIface, on]⟩ :: ⟨9, 1, on, 4, [sS ([92] : List UInt8), sS ([92, 92] : List UInt8), sS ([34] : List UInt8), sS ([92, 34] : List UInt8)]⟩ :: L) := hM77.cast (by simp [ivals, svals, bvals, nvals, u8s, Nat.add_assoc])
 refine xst 1 (c_store (E := 64) (u := v74) (by kernel_rfl) hM78 4 rfl (cel_obj b17 256) (by decide) (rd_one (hM78.rd 5 rfl)) (rd_cells (hM78.rd 5 rfl))) (fun w79 hM81 => ?_)
 have hM82 : Mem (blocks (⟨9, 1, v36, 1, [sS (bytesOf ([34] : List Int))]⟩ :: ⟨5, 1, v32, 1, [.int .u8 34]⟩ :: ⟨170, 257, (obj b17), 1, (rp v40 (.slice none 0 0) (.slice none 0 0))⟩ :: ⟨9, 1, v40, (List.length ([(bytesOf ([34] : List Int))] : List (List UInt8))), (svals ([(bytesOf ([34] : List Int))] : List (List UInt8)))⟩ :: ⟨113, 5, (obj b), 1, [.int .u32 d, .int .i32 m, .int .u32 q, .nilIface, on]⟩ :: ⟨9, 1, on, 4, [sS ([92] : List UInt8), sS ([92, 92] : List UInt8), sS ([34] : List UInt8), sS ([92, 34] : List UInt8)]⟩ :: L)) w50 w79 (⟨9, 1, v70, 1, [sS (bytesOf ([92] : List Int))]⟩ :: ⟨5, 1, v66, 1, [.int .u8 92]⟩ :: ⟨9, 1, v36, 1, [sS (bytesOf ([34] : List Int))]⟩ :: ⟨5, 1, v32, 1, [.int .u8 34]⟩ :: ⟨170, 257, (obj b17), 1, (rp v74 v49 (.slice none 0 0))⟩ :: ⟨9, 1, v74, (List.length (([(bytesOf ([34] : List Int))] : List (List UInt8)) ++ ([(bytesOf ([92] : List Int))] : List (List UInt8)))), (svals (([(bytesOf ([34] : List Int))] : List (List UInt8)) ++ ([(bytesOf ([92] : List Int))] : List (List UInt8))))⟩ :: ⟨113, 5, (obj b), 1, [.int .u32 d, .int .i32 m, .int .u32 q, .nilIface, on]⟩ :: ⟨9, 1, on, 4, [sS ([92] : List UInt8), sS ([92, 92] : List UInt8), sS ([34] : List UInt8), sS ([92, 34] : List UInt8)]⟩ :: L) := hM81.cast (by show List.set _ _ _ = _; rw [rp_z]; rfl)
 refine xx 4 (b_of (src := 9) (dst := 76) (e := 5) (by kernel_rfl) (by kernel_rfl) (by kernel_rfl) hM82 ([92, 92] : List UInt8) (by decide)) (fun v83 w84 ⟨hM86, hF87, hG88⟩ => ?_)
 have hM89 := hM86.all
 have hF90 := hG88 _ _ _ (hF53.go hM82)
 refine xv 1 (show (Instr.indexAt 168 (pq b17) (.int .u8 92)).run Tryz.prog w84 = .ok (.pointer (some (Addr.add (⟨b17, 0, none⟩) (92 * 1)))) w84 from f_arrAt (n := 256) (m := 1) Tryz.underlying168 (fun W => by kernel_rfl) 92 (by omega) (by first | omega | (dsimp only; omega)) _ _ _) ?_
 refine xst 0 (c_store (E := 76) (u := v83) (by kernel_rfl) hM89 4 rfl (Cel.cast (d := 92) (Cel.add (cel_obj b17 0) (92 * 1)) (by omega)) (by decide) hF87.one.1 hF87.one.2.1) (fun w91 hM93 => ?_)
 have hM94 : Mem (blocks (⟨9, 1, v70, 1, [sS (bytesOf ([92] : List Int))]⟩ :: ⟨5, 1, v66, 1, [.int .u8 92]⟩ :: ⟨9, 1, v36, 1, [sS (bytesOf ([34] : List Int))]⟩ :: ⟨5, 1, v32, 1, [.int .u8 34]⟩ :: ⟨170, 257, (obj b17), 1, (rp v74 v49 (.slice none 0 0))⟩ :: ⟨9, 1, v74, (List.length (([(bytesOf ([34] : List Int))] : List (List UInt8)) ++ ([(bytesOf ([92] : List Int))] : List (List UInt8)))), (svals (([(bytesOf ([34] : List Int))] : List (List UInt8)) ++ ([(bytesOf ([92] : List Int))] : List (List UInt8))))⟩ :: ⟨113, 5, (obj b), 1, [.int .u32 d, .int .i32 m, .int .u32 q, .nilIface, on]⟩ :: ⟨9, 1, on, 4, [sS ([92] : List UInt8), sS ([92, 92] : List UInt8), sS ([34] : List UInt8), sS ([92, 34] : List UInt8)]⟩ :: L)) w84 w91 (⟨9, 1, v70, 1, [sS (bytesOf ([92] : List Int))]⟩ :: ⟨5, 1, v66, 1, [.int .u8 92]⟩ :: ⟨9, 1, v36, 1, [sS (bytesOf ([34] : List Int))]⟩ :: ⟨5, 1, v32, 1, [.int .u8 34]⟩ :: ⟨170, 257, (obj b17), 1, (rp v74 v49 v83)⟩ :: ⟨9, 1, v74, (List.length (([(bytesOf ([34] : List Int))] : List (List UInt8)) ++ ([(bytesOf ([92] : List Int))] : List (List UInt8)))), (svals (([(bytesOf ([34] : List Int))] : List (List UInt8)) ++ ([(bytesOf ([92] : List Int))] : List (List UInt8))))⟩ :: ⟨113, 5, (obj b), 1, [.int .u32 d, .int .i32 m, .int .u32 q, .nilIface, on]⟩ :: ⟨9, 1, on, 4, [sS ([92] : List UInt8), sS ([92, 92] : List UInt8), sS ([34] : List UInt8), sS ([92, 34] : List UInt8)]⟩ :: L) := hM93.cast (by show List.set _ _ _ = _; rw [rp_y]; rfl)
 have hM135 : Mem (blocks (⟨9, 1, v70, 1, [sS (bytesOf ([92] : List Int))]⟩ :: ⟨5, 1, v66, 1, [.int .u8 92]⟩ :: ⟨9, 1, v36, 1, [sS (bytesOf ([34] : List Int))]⟩ :: ⟨5, 1, v32, 1, [.int .u8 34]⟩ :: ⟨170, 257, (obj b17), 1, (rp v74 v49 (.slice none 0 0))⟩ :: ⟨9, 1, v74, (List.length (([(bytesOf ([34] : List Int))] : List (List UInt8)) ++ ([(bytesOf ([92] : List Int))] : List (List UInt8)))), (svals (([(bytesOf ([34] : List Int))] : List (List UInt8)) ++ ([(bytesOf ([92] : List Int))] : List (List UInt8))))⟩ :: ⟨113, 5, (obj b), 1, [.int .u32 d, .int .i32 m, .int .u32 q, .nilIface, on]⟩ :: ⟨9, 1, on, 4, [sS ([92] : List UInt8), sS ([92, 92] : List UInt8), sS ([34] : List UInt8), sS ([92, 34] : List UInt8)]⟩ :: L)) w84 w91 (⟨9, 1, on, 4, [sS ([92] : List UInt8), sS ([92, 92] : List UInt8), sS ([34] : List UInt8), sS ([92, 34] : List UInt8)]⟩ :: ⟨9, 1, v70, 1, [sS (bytesOf ([92] : List Int))]⟩ :: ⟨5, 1, v66, 1, [.int .u8 92]⟩ :: ⟨9, 1, v36, 1, [sS (bytesOf ([34] : List Int))]⟩ :: ⟨5, 1, v32, 1, [.int .u8 34]⟩ :: ⟨170, 257, (obj b17), 1, (rp v74 v49 v83)⟩ :: ⟨9, 1, v74, (List.length (([(bytesOf ([34] : List Int))] : List (List UInt8)) ++ ([(bytesOf ([92] : List Int))] : List (List UInt8)))), (svals (([(bytesOf ([34] : List Int))] : List (List UInt8)) ++ ([(bytesOf ([92] : List Int))] : List (List UInt8))))⟩ :: ⟨113, 5, (obj b), 1, [.int .u32 d, .int .i32 m, .int .u32 q, .nilIface, on]⟩ :: L) := hM94.perm (pS (pS (pS (pS (pS (pS (pS pR)))))))
 have hM136 : Mem (blocks (⟨9, 1, v70, 1, [sS (bytesOf ([92] : List Int))]⟩ :: ⟨5, 1, v66, 1, [.int .u8 92]⟩ :: ⟨9, 1, v36, 1, [sS (bytesOf ([34] : List Int))]⟩ :: ⟨5, 1, v32, 1, [.int .u8 34]⟩ :: ⟨170, 257, (obj b17), 1, (rp v74 v49 (.slice none 0 0))⟩ :: ⟨9, 1, v74, (List.length (([(bytesOf ([34] : List Int))] : List (List UInt8)) ++ ([(bytesOf ([92] : List Int))] : List (List UInt8)))), (svals (([(bytesOf ([34] : List Int))] : List (List UInt8)) ++ ([(bytesOf ([92] : List Int))] : List (List UInt8))))⟩ :: ⟨113, 5, (obj b), 1, [.int .u32 d, .int .i32 m, .int .u32 q, .nilIface, on]⟩ :: ⟨9, 1, on, 4, [sS ([92] : List UInt8), sS ([92, 92] : List UInt8), sS ([34] : List UInt8), sS ([92, 34] : List UInt8)]⟩ :: L)) w84 w91 (⟨113, 5, (obj b), 1, [.int .u32 d, .int .i32 m, .int .u32 q, .nilIface, on]⟩ :: ⟨9, 1, on, 4, [sS ([92] : List UInt8), sS ([92, 92] : List UInt8), sS ([34] : List UInt8), sS ([92, 34] : List UInt8)]⟩ :: ⟨9, 1, v70, 1, [sS (bytesOf ([92] : List Int))]⟩ :: ⟨5, 1, v66, 1, [.int .u8 92]⟩ :: ⟨9, 1, v36, 1, [sS (bytesOf ([34] : List Int))]⟩ :: ⟨5, 1, v32, 1, [.int .u8 34]⟩ :: ⟨170, 257, (obj b17), 1, (rp v74 v49 v83)⟩ :: ⟨9, 1, v74, (List.length (([(bytesOf ([34] : List Int))] : List (List UInt8)) ++ ([(bytesOf ([92] : List Int))] : List (List UInt8)))), (svals (([(bytesOf ([34] : List Int))] : List (List UInt8)) ++ ([(bytesOf ([92] : List Int))] : List (List UInt8))))⟩ :: L) := hM135.perm (pS (pS (pS (pS (pS (pS (pS pR)))))))
 have hM137 : Mem (blocks (⟨9, 1, v70, 1, [sS (bytesOf ([92] : List Int))]⟩ :: ⟨5, 1, v66, 1, [.int .u8 92]⟩ :: ⟨9, 1, v36, 1, [sS (bytesOf ([34] : List Int))]⟩ :: ⟨5, 1, v32, 1, [.int .u8 34]⟩ :: ⟨170, 257, (obj b17), 1, (rp v74 v49 (.slice none 0 0))⟩ :: ⟨9, 1, v74, (List.length (([(bytesOf ([34] : List Int))] : List (List UInt8)) ++ ([(bytesOf ([92] : List Int))] : List (List UInt8)))), (svals (([(bytesOf ([34] : List Int))] : List (List UInt8)) ++ ([(bytesOf ([92] : List Int))] : List (List UInt8))))⟩ :: ⟨113, 5, (obj b), 1, [.int .u32 d, .int .i32 m, .int .u32 q, .nilIface, on]⟩ :: ⟨9, 1, on, 4, [sS ([92] : List UInt8), sS ([92, 92] : List UInt8), sS ([34] : List UInt8), sS ([92, 34] : List UInt8)]⟩ :: L)) w84 w91 (⟨9, 1, v74, (List.length (([(bytesOf ([34] : List Int))] : List (List UInt8)) ++ ([(bytesOf ([92] : List Int))] : List (List UInt8)))), (svals (([(bytesOf ([34] : List Int))] : List (List UInt8)) ++ ([(bytesOf ([92] : List Int))] : List (List UInt8))))⟩ :: ⟨113, 5, (obj b), 1, [.int .u32 d, .int .i32 m, .int .u32 q, .nilIface, on]⟩ :: ⟨9, 1, on, 4, [sS ([92] : List UInt8), sS ([92, 92] : List UInt8), sS ([34] : List UInt8), sS ([92, 34] : List UInt8)]⟩ :: ⟨9, 1, v70, 1, [sS (bytesOf ([92] : List Int))]⟩ :: ⟨5, 1, v66, 1, [.int .u8 92]⟩ :: ⟨9, 1, v36, 1, [sS (bytesOf ([34] : List Int))]⟩ :: ⟨5, 1, v32, 1, [.int .u8 34]⟩ :: ⟨170, 257, (obj b17), 1, (rp v74 v49 v83)⟩ :: L) := hM136.perm (pS (pS (pS (pS (pS (pS (pS pR)))))))
 have hM138 : Mem (blocks (⟨9, 1, v70, 1, [sS (bytesOf ([92] : List Int))]⟩ :: ⟨5, 1, v66, 1, [.int .u8 92]⟩ :: ⟨9, 1, v36, 1, [sS (bytesOf ([34] : List Int))]⟩ :: ⟨5, 1, v32, 1, [.int .u8 34]⟩ :: ⟨170, 257, (obj b17), 1, (rp v74 v49 (.slice none 0 0))⟩ :: ⟨9, 1, v74, (List.length (([(bytesOf ([34] : List Int))] : List (List UInt8)) ++ ([(bytesOf ([92] : List Int))] : List (List UInt8)))), (svals (([(bytesOf ([34] : List Int))] : List (List UInt8)) ++ ([(bytesOf ([92] : List Int))] : List (List UInt8))))⟩ :: ⟨113, 5, (obj b), 1, [.int .u32 d, .int .i32 m, .int .u32 q, .nilIface, on]⟩ :: ⟨9, 1, on, 4, [sS ([92] : List UInt8), sS ([92, 92] : List UInt8), sS ([34] : List UInt8), sS ([92, 34] : List UInt8)]⟩ :: L)) w84 w91 (⟨170, 257, (obj b17), 1, (rp v74 v49 v83)⟩ :: ⟨9, 1, v74, (List.length (([(bytesOf ([34] : List Int))] : List (List UInt8)) ++ ([(bytesOf ([92] : List Int))] : List (List UInt8)))), (svals (([(bytesOf ([34] : List Int))] : List (List UInt8)) ++ ([(bytesOf ([92] : List Int))] : List (List UInt8))))⟩ :: ⟨113, 5, (obj b), 1, [.int .u32 d, .int .i32 m, .int .u32 q, .nilIface, on]⟩ :: ⟨9, 1, on, 4, [sS ([92] : List UInt8), sS ([92, 92] : List UInt8), sS ([34] : List UInt8), sS ([92, 34] : List UInt8)]⟩ :: ⟨9, 1, v70, 1, [sS (bytesOf ([92] : List Int))]⟩ :: ⟨5, 1, v66, 1, [.int .u8 92]⟩ :: ⟨9, 1, v36, 1, [sS (bytesOf ([34] : List Int))]⟩ :: ⟨5, 1, v32, 1, [.int .u8 34]⟩ :: L) := hM137.perm (pS (pS (pS (pS (pS (pS (pS pR)))))))
 exact xr 21 (v := (.iface 171 (pq b17))) Tryz.func98 hR ⟨b17, v49, v83, v74, rfl, (hM52.home (hM86.home hM138)).sub (sK (sK (sK (sK (sD (sD (sD (sD sR)))))))), ((hF90.go hM138).sub (fun r_ h_ => (List.Sublist.subset (sK (sK (sK (sK (sD (sD (sD (sD sR))))))))) h_)), ((hF87.go hM138).sub (fun r_ h_ => (List.Sublist.subset (sK (sK (sK (sK (sD (sD (sD (sD sR))))))))) h_))⟩


end Go.Proofs.YthpodbngljfdmaaGreatDoor

