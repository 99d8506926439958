/-
  Documents and their pieces, as a row tells of them. No condition beyond those that each theorem names.
-/
import Derived.Test.YtcdcehjilneifaaRows
import Derived.Test.YtcdcehjilneifaaFrameS
import Derived.Test.YtcdcehjilneifaaPcPl
namespace Go.PcP
set_option linter.unusedVariables false
set_option linter.unusedSimpArgs false
open Go.ChangeShapes Go.WideShapes Go.ChangeAt Go.RowKit Go.Gw Go.UtfP Go.TokP Go.Proofs.Ytcdcehjilneifaa
section
variable {H : Type} {enc : TypeId × Value → H} {P : Program} {W : World} {t e : TypeId}
/-- no weight of the datum is past the reach -/
def Wt (P : Program) (t : TypeId) (d : DataW H) : Prop := ∀ z ∈ d.weights P t, z ≤ 140737488351232
theorem wt_arg {ts : List TypeId} {ds : List (DataW H)} {j : Nat} {d : DataW H} (hsz : (DataW.weightsEach P ts ds).all (· ≤ reachBytes) = true) (ht : ts[j]? = some t) (hd : ds[j]? = some d) : Wt P t d := fun z hz => by
  have := List.all_eq_true.1 hsz _ (DataW.weights_mem_each ht hd z hz)
  have h2 : z ≤ reachBytes := by simpa using this
  exact h2
theorem wt_all {els : List (DataW H)} {y : DataW H} {z : Nat} (hy : y ∈ els) (hz : z ∈ y.weights P e) : z ∈ DataW.weightsAll P e els := by
  induction els with
  | nil => cases hy
  | cons x r ih =>
    unfold DataW.weightsAll
    rcases List.mem_cons.1 hy with g | g
    · subst g; exact List.mem_append_left _ hz
    · exact List.mem_append_right _ (ih g)
theorem wt_slice {els sp : List (DataW H)} (hu : P.underlying t = some (.slice e)) (h : Wt P t (.slice els sp)) : (els.length + sp.length) * P.bytesOf e ≤ 140737488351232 ∧ ∀ y ∈ els, Wt P e y := by
  have e1 : (DataW.slice els sp).weights P t = (els.length + sp.length) * P.bytesOf e :: (DataW.weightsAll P e els ++ DataW.weightsAll P e sp) := by simp [DataW.weights, hu]
  refine ⟨h _ (by rw [e1]; exact List.mem_cons_self ..), fun y hy z hz => h z ?_⟩
  rw [e1]
  exact List.mem_cons_of_mem _ (List.mem_append_left _ (wt_all hy hz))
theorem wt_agg {fs : Array Field} {parts : List (DataW H)} (hu : P.underlying t = some (.struct fs)) (h : Wt P t (.agg parts)) {i : Nat} {f : Field} {y : DataW H} (hf : fs[i]? = some f) (hy : parts[i]? = some y) : Wt P f.type y := fun z hz => h z (by
  have e1 : (DataW.agg parts).weights P t = DataW.weightsEach P (fs.toList.map (·.type)) parts := by simp [DataW.weights, hu]
  rw [e1]
  exact DataW.weights_mem_each (by rw [List.getElem?_map, Array.getElem?_toList, hf]; rfl) hy z hz)
/-- a slice whose elements read as f tells -/
theorem open_list {α : Type} {f : α → List Value} {G : α → Prop} {k fuel : Nat} {cs : List Value} {x : DataW H × List MemPlace} (hu : P.underlying t = some (.slice e)) (hc : P.cellsOf e = k) (h0 : 0 < k)
    (h : DataW.trod enc P W 0 (fun _ => true) true fuel t cs = some x) (hB : Wt P t x.1)
    (each : ∀ (n : Nat) (c : List Value) (y : DataW H × List MemPlace), DataW.trod enc P W 0 (fun _ => true) true n e c = some y → Wt P e y.1 → ∃ z, c = f z ∧ G z) :
    ∃ (v : Value) (L : List α), cs = [v] ∧ Rd W k v L.length (recs f L) ∧ L.length * P.bytesOf e ≤ 140737488351232 ∧ ∀ z ∈ L, G z := by
  rcases DataW.trod_slice hu h with ⟨hcs, hx⟩ | ⟨x', len, cap, elems, rest, n, hfu, hcs, hx, _, hl, hm, hlen, hel, _⟩
  · subst hcs
    exact ⟨_, [], rfl, Rd.nil W k, by rw [List.length_nil, Nat.zero_mul]; exact Nat.zero_le _, fun z hz => by cases hz⟩
  · subst hcs
    rw [hc] at hel
    rw [hx] at hB
    have hw := wt_slice hu hB
    have hlb : len * P.bytesOf e ≤ 140737488351232 := by
      refine Nat.le_trans (Nat.mul_le_mul_right _ ?_) hw.1
      rw [List.length_map]; omega
    have hex : ∀ i, i < len → ∃ z, W.cells? 0 (x'.add (i * k)) k = some (f z) ∧ G z := by
      intro i hi
      have hE := hel i hi
      rw [List.getElem?_eq_getElem (by omega), Option.bind_eq_some_iff] at hE
      obtain ⟨cs, h1, h2⟩ := hE
      have hb : Wt P e (elems[i]'(by omega)).1 := hw.2 _ (List.mem_map_of_mem (List.getElem_mem _))
      obtain ⟨z, hz, hg⟩ := each n cs _ h2 hb
      exact ⟨z, by rw [← hz]; exact h1, hg⟩
    obtain ⟨L, hl1, hat⟩ : ∃ L : List α, L.length = len ∧ ∀ i z, L[i]? = some z → W.cells? 0 (x'.add (i * k)) k = some (f z) ∧ G z := by
      have : ∀ m, m ≤ len → ∃ L : List α, L.length = m ∧ ∀ i z, L[i]? = some z → W.cells? 0 (x'.add (i * k)) k = some (f z) ∧ G z := by
        intro m
        induction m with
        | zero => exact fun _ => ⟨[], rfl, fun i z hz => by simp at hz⟩
        | succ m ih =>
          intro hm'
          obtain ⟨L, h1, h2⟩ := ih (by omega)
          obtain ⟨z, hz⟩ := hex m (by omega)
          refine ⟨L ++ [z], by simp [h1], fun i y hy => ?_⟩
          rcases Nat.lt_or_ge i L.length with g | g
          · rw [List.getElem?_append_left g] at hy; exact h2 i y hy
          · rw [List.getElem?_append_right g] at hy
            obtain ⟨hi0, rfl⟩ : i - L.length = 0 ∧ z = y := by
              cases hq : i - L.length with
              | zero => rw [hq] at hy; exact ⟨rfl, by simpa using hy⟩
              | succ q => rw [hq] at hy; simp at hy
            rw [show i = m by omega]; exact hz
      exact this len (Nat.le_refl _)
    have hk : ∀ c ∈ L.map f, c.length = k := by
      intro c hc'
      obtain ⟨z, hz, rfl⟩ := List.mem_map.1 hc'
      obtain ⟨i, hi⟩ := List.getElem?_of_mem hz
      exact (cells_at (hat i z hi).1).1
    obtain ⟨f1, f2⟩ := flat_at hk h0
    have hrec : recs f L = (L.map f).flatten := by unfold recs; rw [List.flatMap_def]
    refine ⟨_, L, rfl, ?_, by rw [hl1]; exact hlb, fun z hz => ?_⟩
    · rw [hrec]
      rw [List.length_map] at f1
      refine ⟨f1, some x', cap, by rw [hl1], by omega, hm, (fun z => by cases z), fun ad z => ?_⟩
      simp only [Option.some.injEq] at z
      subst z
      have each' : ∀ j' u, (L.map f).flatten[j']? = some u → W.cell? (x'.add j') = some u := by
        intro j' u hj
        obtain ⟨c, h1, h2⟩ := f2 j' u hj
        rw [List.getElem?_map] at h1
        obtain ⟨z, hz1, hz2⟩ := Option.map_eq_some_iff.1 h1
        subst hz2
        have h3 := (cells_at (hat _ z hz1).1).2 _ u h2
        have e1 : (x'.add (j' / k * k)).add (j' % k) = x'.add j' := by
          have e2 : j' / k * k + j' % k = j' := by rw [Nat.mul_comm]; exact Nat.div_add_mod j' k
          rw [Addr.add_add, e2]
        rwa [e1] at h3
      by_cases hpos : (L.map f).flatten = []
      · exact ⟨.inl hpos, fun j' u hj => by rw [hpos] at hj; simp at hj⟩
      · have hsp : x'.spot = none := by
          obtain ⟨u, hu'⟩ : ∃ u, (L.map f).flatten[0]? = some u := by
            cases hz : (L.map f).flatten with
            | nil => exact absurd hz hpos
            | cons z zs => exact ⟨z, rfl⟩
          have := World.cell?_spot (each' 0 u hu')
          simpa [Addr.add] using this
        refine ⟨.inr hsp, fun j' u hj => ?_⟩
        have hadd : x'.add j' = ⟨x'.block, x'.off + j', none⟩ := by obtain ⟨b, o, zz⟩ := x'; simp only at hsp; subst hsp; unfold Addr.add; split <;> simp_all
        rw [← hadd]; exact each' j' u hj
    · obtain ⟨i, hi⟩ := List.getElem?_of_mem hz
      exact (hat i z hi).2
/-- a struct of two fields, of one cell each -/
def Two (P : Program) (e : TypeId) (a b : TypeDesc) : Prop := ∃ f0 f1 : Field, P.underlying e = some (.struct #[f0, f1]) ∧ P.cellsOf e = 2 ∧ P.underlying f0.type = some a ∧ P.underlying f1.type = some b ∧ P.cellsOf f0.type = 1 ∧ P.cellsOf f1.type = 1 ∧ f0.offset = 0 ∧ f1.offset = 1
theorem two_of {a b : TypeDesc} (hT : Two P e a b) {n : Nat} {c : List Value} {y : DataW H × List MemPlace} (h : DataW.trod enc P W 0 (fun _ => true) true n e c = some y) (hB : Wt P e y.1) :
    ∃ (u0 u1 : Value) (t0 t1 : TypeId) (m : Nat) (y0 y1 : DataW H × List MemPlace), c = [u0, u1] ∧ P.underlying t0 = some a ∧ P.underlying t1 = some b ∧ DataW.trod enc P W 0 (fun _ => true) true m t0 [u0] = some y0 ∧ DataW.trod enc P W 0 (fun _ => true) true m t1 [u1] = some y1 ∧ Wt P t0 y0.1 ∧ Wt P t1 y1.1 := by
  obtain ⟨f0, f1, he, hc, h0, h1, c0, c1, o0, o1⟩ := hT
  obtain ⟨xs, m, rfl, rfl, hcl, hxl, hat⟩ := DataW.trod_struct he h
  rw [hc] at hcl
  match c, hcl with
  | [u0, u1], _ =>
    match xs, hxl with
    | [x0, x1], _ =>
      have t0 := hat 0 f0 rfl
      have t1 := hat 1 f1 rfl
      rw [o0, c0] at t0; rw [o1, c1] at t1
      exact ⟨u0, u1, _, _, m, x0, x1, rfl, h0, h1, t0, t1, wt_agg (i := 0) he hB rfl rfl, wt_agg (i := 1) he hB rfl rfl⟩
theorem str_of {t : TypeId} {n : Nat} {u : Value} {y : DataW H × List MemPlace} (hu : P.underlying t = some .string) (h : DataW.trod enc P W 0 (fun _ => true) true n t [u] = some y) (hB : Wt P t y.1) : ∃ s : List UInt8, u = .string (sb s) ∧ s.length ≤ 140737488351232 := by
  obtain ⟨s, e1, e2, _⟩ := DataW.trod_string hu h
  simp only [List.cons.injEq, and_true] at e1
  rw [e2] at hB
  exact ⟨s.data.toList, by rw [e1, sb_of], hB _ (by simp [DataW.weights])⟩
theorem int_of {t : TypeId} {k : IntKind} {n : Nat} {u : Value} {y : DataW H × List MemPlace} (hu : P.underlying t = some (.int k)) (h : DataW.trod enc P W 0 (fun _ => true) true n t [u] = some y) : ∃ s : Int, u = .int k s := by
  obtain ⟨s, e1, e2, _⟩ := DataW.trod_int hu h
  simp only [List.cons.injEq, and_true] at e1
  exact ⟨s, e1⟩
/-- the types -/
structure PcTy (P : Program) (EF SF EN SN ET ST EW SW : TypeId) : Prop where
  f : Two P EF .string .string
  sf : P.underlying SF = some (.slice EF)
  n : Two P EN .string (.int .u64)
  sn : P.underlying SN = some (.slice EN)
  t : Two P ET .string (.int .i64)
  st : P.underlying ST = some (.slice ET)
  w : Two P EW .string (.slice ET)
  sw : P.underlying SW = some (.slice EW)
  bf : P.bytesOf EF = 32
  bn : P.bytesOf EN = 24
  bt : P.bytesOf ET = 24
  bw : P.bytesOf EW = 40
variable {EF SF EN SN ET ST EW SW : TypeId}
theorem fields_of {t : TypeId} {n : Nat} {u : Value} {y : DataW H × List MemPlace} (hT : Two P EF .string .string) (hu : P.underlying t = some (.slice EF)) (h : DataW.trod enc P W 0 (fun _ => true) true n t [u] = some y) (hB : Wt P t y.1) (hby : P.bytesOf EF = 32) :
    ∃ L : List PcP.Fd, Rd W 2 u L.length (recs fdC L) ∧ L.length ≤ 4398046510976 ∧ ∀ x ∈ L, x.name.length ≤ 140737488351232 := by
  obtain ⟨v, L, e1, h1, h2, h3⟩ := open_list (f := fdC) (G := fun x => x.name.length ≤ 140737488351232) hu (by obtain ⟨_, _, _, hc, _⟩ := hT; exact hc) (by decide) h hB (fun n c y hy hb => by
    obtain ⟨u0, u1, t0, t1, m, y0, y1, rfl, g0, g1, a0, a1, b0, b1⟩ := two_of hT hy hb
    obtain ⟨s0, rfl, l0⟩ := str_of g0 a0 b0
    obtain ⟨s1, rfl, l1⟩ := str_of g1 a1 b1
    exact ⟨⟨s0, s1⟩, rfl, l0⟩)
  simp only [List.cons.injEq, and_true] at e1
  subst e1
  exact ⟨L, h1, by rw [hby] at h2; omega, h3⟩
theorem nums_of {t : TypeId} {n : Nat} {u : Value} {y : DataW H × List MemPlace} (hT : Two P EN .string (.int .u64)) (hu : P.underlying t = some (.slice EN)) (h : DataW.trod enc P W 0 (fun _ => true) true n t [u] = some y) (hB : Wt P t y.1) (hby : P.bytesOf EN = 24) :
    ∃ L : List Nm, Rd W 2 u L.length (recs nmC L) ∧ L.length ≤ 5864062014634 ∧ ∀ x ∈ L, x.name.length ≤ 140737488351232 := by
  obtain ⟨v, L, e1, h1, h2, h3⟩ := open_list (f := nmC) (G := fun x => x.name.length ≤ 140737488351232) hu (by obtain ⟨_, _, _, hc, _⟩ := hT; exact hc) (by decide) h hB (fun n c y hy hb => by
    obtain ⟨u0, u1, t0, t1, m, y0, y1, rfl, g0, g1, a0, a1, b0, b1⟩ := two_of hT hy hb
    obtain ⟨s0, rfl, l0⟩ := str_of g0 a0 b0
    obtain ⟨s1, rfl⟩ := int_of g1 a1
    exact ⟨⟨s0, s1⟩, rfl, l0⟩)
  simp only [List.cons.injEq, and_true] at e1
  subst e1
  exact ⟨L, h1, by rw [hby] at h2; omega, h3⟩
theorem toks_of {t : TypeId} {n : Nat} {u : Value} {y : DataW H × List MemPlace} (hT : Two P ET .string (.int .i64)) (hu : P.underlying t = some (.slice ET)) (h : DataW.trod enc P W 0 (fun _ => true) true n t [u] = some y) (hB : Wt P t y.1) (hby : P.bytesOf ET = 24) :
    ∃ L : List Tok, Rd W 2 u L.length (recs tokc L) ∧ L.length ≤ 5864062014634 := by
  obtain ⟨v, L, e1, h1, h2, h3⟩ := open_list (f := tokc) (G := fun _ => True) hu (by obtain ⟨_, _, _, hc, _⟩ := hT; exact hc) (by decide) h hB (fun n c y hy hb => by
    obtain ⟨u0, u1, t0, t1, m, y0, y1, rfl, g0, g1, a0, a1, b0, b1⟩ := two_of hT hy hb
    obtain ⟨s0, rfl, l0⟩ := str_of g0 a0 b0
    obtain ⟨s1, rfl⟩ := int_of g1 a1
    exact ⟨⟨s0, s1⟩, rfl, trivial⟩)
  simp only [List.cons.injEq, and_true] at e1
  subst e1
  exact ⟨L, h1, by rw [hby] at h2; omega⟩
theorem words_of {t : TypeId} {n : Nat} {u : Value} {y : DataW H × List MemPlace} (hT : Two P EW .string (.slice ET)) (hE : Two P ET .string (.int .i64)) (hbt : P.bytesOf ET = 24) (hu : P.underlying t = some (.slice EW)) (h : DataW.trod enc P W 0 (fun _ => true) true n t [u] = some y) (hB : Wt P t y.1) (hby : P.bytesOf EW = 40) :
    ∃ L : List WZ, Rd W 2 u L.length (recs wzC L) ∧ L.length ≤ 3518437208780 ∧ ∀ x ∈ L, x.wd.name.length ≤ 140737488351232 ∧ x.wd.toks.length ≤ 5864062014634 ∧ Rd W 2 x.toks x.wd.toks.length (recs tokc x.wd.toks) := by
  obtain ⟨v, L, e1, h1, h2, h3⟩ := open_list (f := wzC) (G := fun x => x.wd.name.length ≤ 140737488351232 ∧ x.wd.toks.length ≤ 5864062014634 ∧ Rd W 2 x.toks x.wd.toks.length (recs tokc x.wd.toks)) hu (by obtain ⟨_, _, _, hc, _⟩ := hT; exact hc) (by decide) h hB (fun n c y hy hb => by
    obtain ⟨u0, u1, t0, t1, m, y0, y1, rfl, g0, g1, a0, a1, b0, b1⟩ := two_of hT hy hb
    obtain ⟨s0, rfl, l0⟩ := str_of g0 a0 b0
    obtain ⟨L, r1, r2⟩ := toks_of hE g1 a1 b1 hbt
    exact ⟨⟨⟨s0, L⟩, u1⟩, rfl, l0, r2, r1⟩)
  simp only [List.cons.injEq, and_true] at e1
  subst e1
  exact ⟨L, h1, by rw [hby] at h2; omega, h3⟩
/-- a struct of three fields -/
def Thr (P : Program) (e : TypeId) (t0 t1 t2 : TypeId) (k0 k1 k2 : Nat) : Prop := ∃ f0 f1 f2 : Field, P.underlying e = some (.struct #[f0, f1, f2]) ∧ P.cellsOf e = k0 + k1 + k2 ∧ f0.type = t0 ∧ f1.type = t1 ∧ f2.type = t2 ∧ P.cellsOf t0 = k0 ∧ P.cellsOf t1 = k1 ∧ P.cellsOf t2 = k2 ∧ f0.offset = 0 ∧ f1.offset = k0 ∧ f2.offset = k0 + k1
theorem thr_of {t0 t1 t2 : TypeId} {k0 k1 k2 : Nat} (hT : Thr P e t0 t1 t2 k0 k1 k2) {n : Nat} {c : List Value} {y : DataW H × List MemPlace} (h : DataW.trod enc P W 0 (fun _ => true) true n e c = some y) (hB : Wt P e y.1) :
    c.length = k0 + k1 + k2 ∧ ∃ (m : Nat) (y0 y1 y2 : DataW H × List MemPlace), DataW.trod enc P W 0 (fun _ => true) true m t0 ((c.drop 0).take k0) = some y0 ∧ DataW.trod enc P W 0 (fun _ => true) true m t1 ((c.drop k0).take k1) = some y1 ∧ DataW.trod enc P W 0 (fun _ => true) true m t2 ((c.drop (k0 + k1)).take k2) = some y2 ∧ Wt P t0 y0.1 ∧ Wt P t1 y1.1 ∧ Wt P t2 y2.1 := by
  obtain ⟨f0, f1, f2, he, hc, rfl, rfl, rfl, c0, c1, c2, o0, o1, o2⟩ := hT
  obtain ⟨xs, m, rfl, rfl, hcl, hxl, hat⟩ := DataW.trod_struct he h
  rw [hc] at hcl
  match xs, hxl with
  | [x0, x1, x2], _ =>
    have t0 := hat 0 f0 rfl
    have t1 := hat 1 f1 rfl
    have t2 := hat 2 f2 rfl
    rw [o0, c0] at t0; rw [o1, c1] at t1; rw [o2, c2] at t2
    exact ⟨hcl, m, x0, x1, x2, t0, t1, t2, wt_agg (i := 0) he hB rfl rfl, wt_agg (i := 1) he hB rfl rfl, wt_agg (i := 2) he hB rfl rfl⟩
theorem doc_of {ES : TypeId} {n : Nat} {c : List Value} {y : DataW H × List MemPlace} (hE : Thr P e ES SF SN 1 1 1) (hS : P.underlying ES = some .string) (T : PcTy P EF SF EN SN ET ST EW SW) (h : DataW.trod enc P W 0 (fun _ => true) true n e c = some y) (hB : Wt P e y.1) :
    ∃ (d : Dc) (fv nv : Value), c = [.string (sb d.key), fv, nv] ∧ DocR W d fv nv := by
  obtain ⟨hl, m, y0, y1, y2, a0, a1, a2, b0, b1, b2⟩ := thr_of hE h hB
  match c, hl with
  | [u0, u1, u2], _ =>
    obtain ⟨s0, rfl, l0⟩ := str_of hS a0 b0
    obtain ⟨F, r1, r2, r3⟩ := fields_of T.f T.sf a1 b1 T.bf
    obtain ⟨N, q1, q2, q3⟩ := nums_of T.n T.sn a2 b2 T.bn
    exact ⟨⟨s0, F, N⟩, u1, u2, rfl, r1, q1, r2, q2, r3, q3⟩
theorem piece_of {ES : TypeId} {n : Nat} {c : List Value} {y : DataW H × List MemPlace} (hE : Thr P e ES SN SW 1 1 1) (hS : P.underlying ES = some .string) (T : PcTy P EF SF EN SN ET ST EW SW) (h : DataW.trod enc P W 0 (fun _ => true) true n e c = some y) (hB : Wt P e y.1) :
    ∃ (p : Pc) (nv wv : Value), c = [.string (sb p.key), nv, wv] ∧ PieR W p nv wv := by
  obtain ⟨hl, m, y0, y1, y2, a0, a1, a2, b0, b1, b2⟩ := thr_of hE h hB
  match c, hl with
  | [u0, u1, u2], _ =>
    obtain ⟨s0, rfl, l0⟩ := str_of hS a0 b0
    obtain ⟨N, q1, q2, q3⟩ := nums_of T.n T.sn a1 b1 T.bn
    obtain ⟨Z, r1, r2, r3⟩ := words_of T.w T.t T.bt T.sw a2 b2 T.bw
    refine ⟨⟨s0, N, Z.map WZ.wd⟩, u1, u2, rfl, ⟨q1, Z, rfl, r1, fun z hz => (r3 z hz).2.2⟩, q2, by simpa using r2, fun x hx => ?_, q3, fun x hx => ?_⟩
    · obtain ⟨z, hz, rfl⟩ := List.mem_map.1 hx; exact (r3 z hz).2.1
    · obtain ⟨z, hz, rfl⟩ := List.mem_map.1 hx; exact (r3 z hz).1
theorem step_of {ES EI ED EP : TypeId} {n : Nat} {c : List Value} {y : DataW H × List MemPlace} (hE : Thr P e EI ED EP 1 3 3) (hI : P.underlying EI = some (.int .i64)) (hD : Thr P ED ES SF SN 1 1 1) (hP : Thr P EP ES SN SW 1 1 1) (hS : P.underlying ES = some .string) (T : PcTy P EF SF EN SN ET ST EW SW) (h : DataW.trod enc P W 0 (fun _ => true) true n e c = some y) (hB : Wt P e y.1) :
    ∃ x : St, c = stC x ∧ StR W x := by
  obtain ⟨hl, m, y0, y1, y2, a0, a1, a2, b0, b1, b2⟩ := thr_of hE h hB
  match c, hl with
  | [u0, u1, u2, u3, u4, u5, u6], _ =>
    obtain ⟨k, rfl⟩ := int_of hI a0
    obtain ⟨d, fv, nv, e1, r1⟩ := doc_of hD hS T a1 b1
    obtain ⟨p, pn, pw, e2, r2⟩ := piece_of hP hS T a2 b2
    simp at e1 e2
    obtain ⟨rfl, rfl, rfl⟩ := e1
    obtain ⟨rfl, rfl, rfl⟩ := e2
    exact ⟨⟨k, d, u2, u3, p, u5, u6⟩, rfl, r1, r2⟩
theorem recs_svals : ∀ L : List (List UInt8), recs (fun s : List UInt8 => [Value.string (sb s)]) L = svals L
  | [] => rfl
  | a :: l => by
    have ih := recs_svals l
    show [Value.string (sb a)] ++ recs (fun s : List UInt8 => [Value.string (sb s)]) l = Value.string (sb a) :: svals l
    rw [ih]; rfl
theorem strs_of {t : TypeId} {n : Nat} {u : Value} {y : DataW H × List MemPlace} (he : P.underlying e = some .string) (hc : P.cellsOf e = 1) (hu : P.underlying t = some (.slice e)) (h : DataW.trod enc P W 0 (fun _ => true) true n t [u] = some y) (hB : Wt P t y.1) :
    ∃ L : List (List UInt8), Rd W 1 u L.length (svals L) := by
  obtain ⟨v, L, e1, h1, h2, h3⟩ := open_list (f := fun s : List UInt8 => [Value.string (sb s)]) (G := fun x => x.length ≤ 140737488351232) hu hc (by decide) h hB (fun n c y hy hb => by
    have hl : ∃ u, c = [u] := by
      obtain ⟨s, e1, _⟩ := DataW.trod_string he hy
      exact ⟨_, e1⟩
    obtain ⟨u, rfl⟩ := hl
    obtain ⟨s, rfl, l0⟩ := str_of he hy hb
    exact ⟨s, rfl, l0⟩)
  simp only [List.cons.injEq, and_true] at e1
  subst e1
  refine ⟨L, ?_⟩
  have e2 := recs_svals L
  rw [← e2]; exact h1
theorem open_doc {r : Reach} {b0 : Nat} {v : Value} {d : DataW H} {p : List MemPlace} {ES : TypeId} (hE : Thr P e ES SF SN 1 1 1) (hS : P.underlying ES = some .string) (T : PcTy P EF SF EN SN ET ST EW SW) (hval : Value.okWide P W r b0 e v) (h : DataW.Trod enc P W 0 (fun _ => true) true e v d p) (hB : Wt P e d) :
    ∃ (c : Dc) (fv nv : Value), v = .agg #[.string (sb c.key), fv, nv] ∧ DocR W c fv nv := by
  obtain ⟨f0, f1, f2, he, hrest⟩ := hE
  obtain ⟨cs, rfl, hsz⟩ := okWide_struct he hval
  obtain ⟨fuel, hf⟩ := h
  obtain ⟨c, fv, nv, h1, h2⟩ := doc_of ⟨f0, f1, f2, he, hrest⟩ hS T hf hB
  refine ⟨c, fv, nv, ?_, h2⟩
  have hcs : (Value.agg cs).cells.toList = cs.toList := rfl
  rw [hcs] at h1
  congr 1; apply Array.toList_inj.1; rw [h1]
end
end Go.PcP
