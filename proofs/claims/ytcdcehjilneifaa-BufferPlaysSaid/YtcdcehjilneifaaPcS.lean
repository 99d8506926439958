/-
  Rows that are written over without a look at what they hold. No condition beyond those that each theorem names.
-/
import Derived.Test.YtcdcehjilneifaaPcR
namespace Go.PcP
open Go.Gw Go.UtfP Go.TokP
set_option linter.unusedVariables false
set_option linter.unusedSimpArgs false
def SpZ (EN EW ET : TypeId) (T : List Row) (Z : List PZ) : Prop := ∀ z ∈ Z, (∃ xs, (⟨EN, 2, z.nums, z.pc.nums.length, xs⟩ : Row) ∈ T) ∧ ∃ Y : List WZ, z.pc.words = Y.map WZ.wd ∧ (⟨EW, 2, z.words, Y.length, recs wzC Y⟩ : Row) ∈ T ∧ ∀ y ∈ Y, ∃ xs, (⟨ET, 2, y.toks, y.wd.toks.length, xs⟩ : Row) ∈ T
theorem OwZ.sp {EN EW ET : TypeId} {T : List Row} {Z : List PZ} (h : OwZ EN EW ET T Z) : SpZ EN EW ET T Z := fun z hz => by
  obtain ⟨h1, Y, h2, h3, h4⟩ := h z hz
  exact ⟨⟨_, h1⟩, Y, h2, h3, fun y hy => ⟨_, h4 y hy⟩⟩
def Repl (T : List Row) (r : Row) (T' : List Row) : Prop := ∃ A B xs, T = A ++ r :: B ∧ T' = A ++ ⟨r.E, r.k, r.v, r.n, xs⟩ :: B
theorem Repl.other {T T' : List Row} {r q : Row} (h : Repl T r T') (hq : q ∈ T) (hE : q.E ≠ r.E) : q ∈ T' := by
  obtain ⟨A, B, xs, rfl, rfl⟩ := h
  rcases List.mem_append.1 hq with g | g
  · exact List.mem_append_left _ g
  · rcases List.mem_cons.1 g with g | g
    · subst g; exact absurd rfl hE
    · exact List.mem_append_right _ (List.mem_cons_of_mem _ g)
theorem Repl.shape {T T' : List Row} {r : Row} {E k n : Nat} {v : Value} (h : Repl T r T') (hq : ∃ xs, (⟨E, k, v, n, xs⟩ : Row) ∈ T) : ∃ xs, (⟨E, k, v, n, xs⟩ : Row) ∈ T' := by
  obtain ⟨ys, hq⟩ := hq
  obtain ⟨A, B, xs, rfl, rfl⟩ := h
  rcases List.mem_append.1 hq with g | g
  · exact ⟨ys, List.mem_append_left _ g⟩
  · rcases List.mem_cons.1 g with g | g
    · subst g; exact ⟨xs, List.mem_append_right _ (List.mem_cons_self ..)⟩
    · exact ⟨ys, List.mem_append_right _ (List.mem_cons_of_mem _ g)⟩
theorem SpZ.repl {EN EW ET : TypeId} {T T' : List Row} {r : Row} {Z : List PZ} (h : SpZ EN EW ET T Z) (hr : Repl T r T') (hE : EW ≠ r.E) : SpZ EN EW ET T' Z := fun z hz => by
  obtain ⟨h1, Y, h2, h3, h4⟩ := h z hz
  exact ⟨hr.shape h1, Y, h2, hr.other h3 hE, fun y hy => hr.shape (h4 y hy)⟩
theorem sp_rd {S : List Nat} {w0 w : World} {L T : List Row} {E k n : Nat} {v : Value} (h : ∃ xs, (⟨E, k, v, n, xs⟩ : Row) ∈ T) (hM : Mem S w0 w L) (ht : ∀ r ∈ T, r ∈ L) : ∃ xs, Rd w k v n xs := by
  obtain ⟨xs, h⟩ := h
  exact ⟨xs, Mem_rdm hM (ht _ h)⟩
theorem sp_store {P : Program} {S : List Nat} {w0 w : World} {R T : List Row} {E n : Nat} {v : Value} (hE : Agged P E 2) (hM : Mem S w0 w (R ++ T)) (h : ∃ xs, (⟨E, 2, v, n, xs⟩ : Row) ∈ T) {j : Nat} {p : Addr} (hp : At v 2 j p) (hj : j < n) {ys : List Value} (hy : ys.length = 2) (h1 : ∀ u ∈ ys, u.oneCell' = true) :
    ∃ w' T' xs, (Instr.storeAt E (.pointer (some p)) (.agg ys.toArray)).run P w = .ok () w' ∧ Repl T ⟨E, 2, v, n, xs⟩ T' ∧ Mem S w0 w' (R ++ T') := by
  obtain ⟨xs, h⟩ := h
  obtain ⟨A, B, rfl⟩ := List.append_of_mem h
  have hi : (R ++ (A ++ (⟨E, 2, v, n, xs⟩ : Row) :: B))[R.length + A.length]? = some ⟨E, 2, v, n, xs⟩ := by
    rw [List.getElem?_append_right (by omega), List.getElem?_append_right (by omega)]
    have e : R.length + A.length - R.length - A.length = 0 := by omega
    rw [e]; rfl
  have hm : j * 2 + 2 ≤ n * 2 := by omega
  obtain ⟨w', hr, hM'⟩ := c_stores hE hM (R.length + A.length) hi hp.cel hy hm h1
  refine ⟨w', A ++ ⟨E, 2, v, n, splice xs (j * 2) ys⟩ :: B, xs, hr, ⟨A, B, _, rfl, rfl⟩, hM'.cast ?_⟩
  rw [List.set_append_right _ _ (by omega), List.set_append_right _ _ (by omega)]
  have e : R.length + A.length - R.length - A.length = 0 := by omega
  rw [e]; rfl
theorem lendT {S : List Nat} {w0 w : World} {R X T : List Row} {r : Row} (h : Mem S w0 w ((r :: R) ++ (X ++ T))) : Mem S w0 w ((r :: T) ++ (R ++ X)) := by
  refine h.perm ?_
  simp only [List.cons_append]
  refine List.Perm.cons _ ?_
  rw [← List.append_assoc]
  exact List.perm_append_comm
theorem lendT0 {S : List Nat} {w0 w : World} {R T : List Row} {r : Row} (h : Mem S w0 w ((r :: R) ++ T)) : Mem S w0 w ((r :: T) ++ R) := by
  refine h.perm ?_
  simp only [List.cons_append]
  exact List.Perm.cons _ List.perm_append_comm
theorem swapT {S : List Nat} {w0 w : World} {a b : Row} {R T : List Row} (h : Mem S w0 w (a :: b :: (R ++ T))) : Mem S w0 w ((a :: b :: T) ++ R) := by
  refine h.perm ?_
  simp only [List.cons_append]
  exact List.Perm.cons _ (List.Perm.cons _ List.perm_append_comm)
theorem swapT2 {S : List Nat} {w0 w : World} {a b : Row} {R T : List Row} (h : Mem S w0 w ((a :: b :: T) ++ R)) : Mem S w0 w (a :: b :: (R ++ T)) := by
  refine h.perm ?_
  simp only [List.cons_append]
  exact List.Perm.cons _ (List.Perm.cons _ List.perm_append_comm)
theorem swapN {S : List Nat} {w0 w : World} {n m a b : Row} {R T : List Row} (h : Mem S w0 w (n :: m :: a :: b :: (R ++ T))) : Mem S w0 w ((a :: b :: n :: m :: T) ++ R) := by
  refine h.perm ?_
  have e1 : (n :: m :: a :: b :: (R ++ T)) = [n, m] ++ ([a, b] ++ (R ++ T)) := rfl
  have e2 : ((a :: b :: n :: m :: T) ++ R) = [a, b] ++ ([n, m] ++ (T ++ R)) := rfl
  rw [e1, e2]
  exact (List.Perm.append_left _ (List.Perm.append_left _ List.perm_append_comm)).trans (List.perm_append_comm_assoc _ _ _)
theorem joinC {S : List Nat} {w0 w w' : World} {r : Row} {R A T : List Row} (h : Mem S w0 w (R ++ A)) (m : Mem [] w w' (r :: T)) : Mem S w0 w' (r :: (R ++ (A ++ T))) := by
  refine (Mem.join h m).perm ?_
  simp only [List.cons_append]
  refine List.Perm.cons _ ?_
  rw [← List.append_assoc R]
  exact List.perm_append_comm
theorem OwZ.drop {EN EW ET : TypeId} {T : List Row} {Z : List PZ} {key : List UInt8} (h : OwZ EN EW ET T Z) : OwZ EN EW ET T (dropZ key Z) := fun z hz => h z (dropZ_sub z hz)
theorem Rd.away {S : List Nat} {w0 w w' : World} {R L : List Row} (h : Mem S w0 w (R ++ L)) {r : Row} (hr : r ∈ L) (k : Kept (blocks R) w w') : Rd w' r.k r.v r.n r.xs := by
  refine (own_rd (h.owns r (List.mem_append_right _ hr))).kept k fun b hb hm => ?_
  obtain ⟨q, hq, hqb⟩ := mem_blocks.1 hm
  rcases apart_cross h.apart q hq r hr with g | g
  · rw [hqb] at g; cases g
  · exact g (by rw [hqb, hb])
/-- pieces that lie apart from what is lent stay as they are -/
theorem away_rd {S : List Nat} {w0 w : World} {R L T : List Row} {EN EW ET : TypeId} {p : Pc} {nv wv : Value} (h : Mem S w0 w (R ++ L)) (ho : OwP EN EW ET T p nv wv) (ht : ∀ r ∈ T, r ∈ L) : ∀ w', Kept (blocks R) w w' → RdP w' p nv wv := fun w' k => by
  obtain ⟨h1, Z, h2, h3, h4⟩ := ho
  exact ⟨Rd.away h (ht _ h1) k, Z, h2, Rd.away h (ht _ h3) k, fun z hz => Rd.away h (ht _ (h4 z hz)) k⟩
/-- pieces that are read: those that were there, those of the call's own -/
def WOk (w0 : World) (EN EW ET : TypeId) (T : List Row) (Z : List PZ) : Prop := ∀ z ∈ Z, RdP w0 z.pc z.nums z.words ∨ OwP EN EW ET T z.pc z.nums z.words
theorem WOk.mono {w0 : World} {EN EW ET : TypeId} {T T' : List Row} {Z : List PZ} (h : WOk w0 EN EW ET T Z) (ht : ∀ r ∈ T, r ∈ T') : WOk w0 EN EW ET T' Z := fun z hz => (h z hz).imp id (fun q => q.mono ht)
theorem WOk.rd {w0 w : World} {EN EW ET : TypeId} {L T : List Row} {Z : List PZ} (h : WOk w0 EN EW ET T Z) (hM : Mem [] w0 w L) (ht : ∀ r ∈ T, r ∈ L) : ∀ z ∈ Z, RdP w z.pc z.nums z.words := fun z hz => by
  rcases h z hz with q | q
  · exact q.kept hM.kept
  · exact q.rd hM ht
theorem WOk.wo {w0 : World} {EN EW ET : TypeId} {T : List Row} {Z : List PZ} {key : List UInt8} (h : WOk w0 EN EW ET T Z) : WOk w0 EN EW ET T (woZ key Z) := fun z hz => h z (woZ_sub z hz)
theorem WOk.snoc {w0 : World} {EN EW ET : TypeId} {T : List Row} {Z : List PZ} {p : Pc} {nv wv : Value} (h : WOk w0 EN EW ET T Z) (hp : RdP w0 p nv wv ∨ OwP EN EW ET T p nv wv) : WOk w0 EN EW ET T (Z ++ [PZ.mk p nv wv]) := fun z hz => by
  rcases List.mem_append.1 hz with g | g
  · exact h z g
  · rw [List.mem_singleton.1 g]; exact hp
theorem orp_rd {w0 w : World} {EN EW ET : TypeId} {L T : List Row} {p : Pc} {nv wv : Value} (h : RdP w0 p nv wv ∨ OwP EN EW ET T p nv wv) (hM : Mem [] w0 w L) (ht : ∀ r ∈ T, r ∈ L) : RdP w p nv wv := by
  rcases h with q | q
  · exact q.kept hM.kept
  · exact q.rd hM ht
theorem WOk.nil {w0 : World} {EN EW ET : TypeId} {T : List Row} : WOk w0 EN EW ET T [] := fun z hz => by cases hz
theorem OwZ.nil {EN EW ET : TypeId} {T : List Row} : OwZ EN EW ET T [] := fun z hz => by cases hz
end Go.PcP
