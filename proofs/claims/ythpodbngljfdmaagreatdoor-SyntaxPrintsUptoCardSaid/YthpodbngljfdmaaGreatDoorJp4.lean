/-
  Joined texts. No condition beyond those that each theorem names. What they say:
  The walks of the replacer and of quote.
  The walks of inner and joined, over shorter texts.
  The walk of text.
  The walks of Print and awake.
  The walks of the document's digits, bits, quotes.
  The walk of the document's printer.
  The walk of SyntaxPrints.
  A query, as a row tells of it: the struct's eight cells, the last a slice of such structs. No condition beyond those that each theorem names.
  A query, as a row tells of it: its bounds are bits. No condition beyond those that each theorem names.
-/
import Derived.Test.YthpodbngljfdmaaGreatDoorRows
import Derived.Test.YthpodbngljfdmaaGreatDoorJp3
namespace Go.Proofs.YthpodbngljfdmaaGreatDoor
open Go Go.Gw Go.UtfP Go.TokP Go.QryP Go.SynP Go.RealQ Go.SynV Go.RowKit
set_option linter.unusedVariables false
set_option linter.unusedSimpArgs false
set_option maxRecDepth 20000
theorem pE111 : Plain Tryz.prog 111 := ⟨.interface #[("Replace", 62), ("WriteString", 264)], by kernel_rfl, (fun _ h => by cases h), (fun _ _ h => by cases h)⟩


set_option maxHeartbeats 1000000 in
theorem rpl_c {S : List Nat} {w0 w : World} {L : List Row} (b : Nat) (on : Value) (q : Int) (s : List UInt8) (hs : s.length ≤ 17592186044416) (hM : Mem S w0 w (⟨113, 5, (obj b), 1, [.int .u32 0, .int .i32 0, .int .u32 q, .nilIface, on]⟩ :: ⟨9, 1, on, 4, [sS ([92] : List UInt8), sS ([92, 92] : List UInt8), sS ([34] : List UInt8), sS ([92, 34] : List UInt8)]⟩ :: L)) :
  Calls Tryz.prog 52 #[pq b, sS s] w (fun e w' => e = .returned (sS (escW s)) ∧ Mem S w0 w' L) := by
 refine xe 17 Tryz.func52 (fun R hR => ?_)
 refine xcg 11 (do_c b on q hM) ?_
 rintro _ w5 ⟨c1, x2, y3, z4, rfl, hM6, hF7, hF8⟩
 refine ⟨_, rfl, ?_⟩
 have hM9 := hM6.all
 refine xv 6 (c_load pE111 (hM9.rd 2 rfl) (cel_obj b 3) rfl) ?_
 refine xl 1 (k := [.inRegion (cops (csub (cd Tryz.f52) [1,1,0])) [5,6], iC Tryz.f52 [1,1,1]]) (l := [(14, (.iface 171 (.pointer (some ⟨c1, 0, none⟩)))), (15, sS s)]) ?_
 have oe10 : (execAt (cops (csub (cd Tryz.f52) [1,1,0])) 5 [(14, (.iface 171 (.pointer (some ⟨c1, 0, none⟩)))), (15, sS s)]).run Tryz.prog w5 = .ok (.enter 222 #[pq c1, sS s]) w5 := by kernel_rfl
 obtain ⟨ax_, n1_, m1_, rfl⟩ := hF7.some
 obtain ⟨ay_, n2_, m2_, rfl⟩ := hF8.some
 refine GoS.callM [] (cops (csub (cd Tryz.f52) [1,1,0])) 5 [6] [iC Tryz.f52 [1,1,1]] 222 #[pq c1, sS s] (some 16) [] (by kernel_rfl) oe10 (rrep_c s (by omega) c1 z4 ax_ ay_ n1_ m1_ n2_ m2_ (hM9.rd 0 rfl) (hM9.rd 1 rfl) hF7.rd hF8.rd) ?_
 rintro _ w11 ⟨rfl, m12⟩
 refine ⟨_, rfl, ?_⟩
 have hM13 := hM9.ext m12.kept
 refine xs ?_
 exact xr 2 Tryz.func52 hR ⟨rfl, (hM6.home hM13).sub (sD (sD (sD (sD sR))))⟩

set_option maxHeartbeats 1000000 in
theorem newrep_c {w : World} (v : Value) (hv : Rd w 1 v 4 (svals ([([92] : List UInt8), ([92, 92] : List UInt8), ([34] : List UInt8), ([92, 34] : List UInt8)] : List (List UInt8)))) :
  Calls Tryz.prog 51 #[v] w (fun e w' => ∃ b on, e = .returned (.pointer (some ⟨b, 0, none⟩)) ∧ Mem [] w w' [⟨113, 5, (obj b), 1, [.int .u32 0, .int .i32 0, .int .u32 0, .nilIface, on]⟩, ⟨9, 1, on, 4, [sS ([92] : List UInt8), sS ([92, 92] : List UInt8), sS ([34] : List UInt8), sS ([92, 34] : List UInt8)]⟩]) := by
 refine xe 12 Tryz.func51 (fun R hR => ?_)
 have hM0 := Mem.start w
 refine xv 8 (f_slen sT64 (hv.kept0 hM0.kept) 3 w) ?_
 refine xv 0 (show (binOp .rem 3 (.int .i64 4) (.int .i64 2)).run Tryz.prog w = .ok (.int .i64 0) w from (by kernel_rfl)) ?_
 have hM1 := hM0.nilrow 9 1
 refine xx 7 (m_append sT64 hM1 0 rfl (hv.kept0 hM1.kept) (svals_one _) (by first | omega | decide) (by first | omega | decide) 64) (fun v2 w3 hM5 => ?_)
 have hM6 : Mem [] w w3 [⟨9, 1, v2, (List.length ([([92] : List UInt8), ([92, 92] : List UInt8), ([34] : List UInt8), ([92, 34] : List UInt8)] : List (List UInt8))), (svals ([([92] : List UInt8), ([92, 92] : List UInt8), ([34] : List UInt8), ([92, 34] : List UInt8)] : List (List UInt8)))⟩] := hM5.cast (by simp [ivals, svals, bvals, nvals, u8s, Nat.add_assoc])
 refine xv 0 (show (Instr.build 113 #[(2, v2)]).run Tryz.prog w3 = .ok (.agg #[.int .u32 0, .int .i32 0, .int .u32 0, .nilIface, v2]) w3 from (by obtain ⟨a0_, m0_, c0_, e0_⟩ : ∃ a m c, v2 = Value.slice a m c := rd_form (hM6.rd 0 rfl); rw [e0_]; kernel_rfl)) ?_
 refine xx 0 (m_box (T := 113) (k := 5) (u := .agg #[.int .u32 0, .int .i32 0, .int .u32 0, .nilIface, v2]) rfl rfl hM6) (fun b7 w8 hM10 => ?_)
 exact xr 2 (v := pq b7) Tryz.func51 hR ⟨b7, v2, rfl, hM10.sub (sK (sK sN))⟩

set_option maxHeartbeats 1000000 in
theorem quote_c {w : World} (s : List UInt8) (hs : s.length ≤ 17592186044416) :
  Calls Tryz.prog 32 #[sS s] w (fun e w' => e = .returned (sS (quoteW s)) ∧ Mem [] w w' []) := by
 have hbd_ := esc_bd s
 refine xe 9 Tryz.func32 (fun R hR => ?_)
 have hM0 := Mem.start w
 refine xx 6 (m_lit sT64 hM0 (n := 4) (parts := #[(0, sS ([92] : List UInt8)), (1, sS ([92, 92] : List UInt8)), (2, sS ([34] : List UInt8)), (3, sS ([92, 34] : List UInt8))]) (cs := [sS ([92] : List UInt8), sS ([92, 92] : List UInt8), sS ([34] : List UInt8), sS ([92, 34] : List UInt8)]) (by decide) (by kernel_rfl) rfl) (fun v1 w2 hM4 => ?_)
 refine xcg 0 (newrep_c v1 (hM4.rd 0 rfl)) ?_
 rintro _ w7 ⟨b5, on6, rfl, m8⟩
 refine ⟨_, rfl, ?_⟩
 have hM9 := Mem.join hM4 m8
 refine xk 1 (rpl_c b5 on6 0 s (by omega) hM9) (fun w10 hM11 => ?_)
 refine xqa 0 ([34] : List UInt8) (escW s) ?_ (hl := (by simp only [List.length_append, List.length_cons, List.length_nil]; omega))
 refine xqa 0 (([34] : List UInt8) ++ (escW s)) ([34] : List UInt8) ?_ (hl := (by simp only [List.length_append, List.length_cons, List.length_nil]; omega))
 exact xr 2 Tryz.func32 hR ⟨rfl, hM11.none⟩


end Go.Proofs.YthpodbngljfdmaaGreatDoor


namespace Go.Proofs.YthpodbngljfdmaaGreatDoor
open Go Go.Gw Go.UtfP Go.TokP Go.QryP Go.SynP Go.RealQ Go.SynV Go.RowKit
set_option linter.unusedVariables false
set_option linter.unusedSimpArgs false
set_option maxRecDepth 20000


set_option maxHeartbeats 1000000 in
theorem inner7_c (N : Nat) (ih : ∀ (q : Q), bulkQ q < N → ∀ {w : World} (h : Hd) (he : h = q.h) (v : Value) (hq : RdQ w q v) (hb : bulkQ q ≤ 1048576) (hdb : w.cell? ⟨3, 15, none⟩ = some (.int .u8 4)) (hri : rightQ q = true) (hu : numQ q), Calls Tryz.prog 17 #[.agg #[.int .i64 (h.op), sS (h.field), sS (h.text), .int .i64 (h.edits), .int .i64 (h.exact), .int .u64 (h.lo), .int .u64 (h.hi), v]] w (fun e w' => e = .returned (sS (textQ q)) ∧ Mem [] w w' [])) {w : World} (q : Q) (h : Hd) (he : h = q.h) (v : Value) (hq : RdQ w q v) (hb : bulkQ q ≤ 1048576) (o : Value) (ho : Rd w 1 o 2 [.int .i64 7, .int .i64 8]) (hdb : w.cell? ⟨3, 15, none⟩ = some (.int .u8 4)) (hri : rightQ q = true) (hu : numQ q) (hlt : bulkQ q < N) :
  Calls Tryz.prog 29 #[.agg #[.int .i64 (h.op), sS (h.field), sS (h.text), .int .i64 (h.edits), .int .i64 (h.exact), .int .u64 (h.lo), .int .u64 (h.hi), v], o] w (fun e w' => e = .returned (sS (ptext 7 q)) ∧ Mem [] w w' []) := by
 obtain ⟨L, hr, hl, hh, hs⟩ := hq.inv
 have hbl : bulkL q.l + q.h.field.length + q.h.text.length + 1 = bulkQ q := by cases q; rw [bulkQ_mk]; rfl
 have hln := bulk_len q.l
 have htl_ := textQ_len q
 refine xe 24 Tryz.func29 (fun R hR => ?_)
 have hM0 := Mem.start w
 refine xx 2 (m_box (T := 25) (k := 8) (u := .agg #[.int .i64 (h.op), sS (h.field), sS (h.text), .int .i64 (h.edits), .int .i64 (h.exact), .int .u64 (h.lo), .int .u64 (h.hi), v]) rfl rfl hM0) (fun b1 w2 hM4 => ?_)
 refine xv 6 (f_slen sT70 (ho.kept0 hM4.kept) 3 w2) ?_
 refine xat 15 sT70 (ho.kept0 hM4.kept) 0 0 (fun p6 hp7 => ?_)
 refine xv 0 (at_load pE3 (ho.kept0 hM4.kept) hp7 rfl) ?_
 refine xv 5 (c_load pE3 (hM4.rd 0 rfl) (cel_obj b1 0) rfl) ?_
 refine xc 3 (h.op = 7) (fun h14p => ?_) (fun h14p => ?_)
 ·
  refine xv 2 (c_loads (ys := [.int .i64 (h.op), sS (h.field), sS (h.text), .int .i64 (h.edits), .int .i64 (h.exact), .int .u64 (h.lo), .int .u64 (h.hi), v]) aE25 (hM4.rd 0 rfl) (cel_obj b1 0) rfl (lq rfl)) ?_
  have hM16 := hM4.sub (sD sR)
  refine xk 0 (ih q hlt h he v (hq.kept hM16.kept) (by omega) (cell_kept hdb hM16.kept) hri hu) (fun w17 m18 => ?_)
  have hM19 : Mem [] w w17 [] := Mem.join (R := []) hM16 m18
  refine xqa 0 ([40] : List UInt8) (textQ q) ?_ (hl := (by simp only [List.length_append, List.length_cons, List.length_nil]; omega))
  refine xqa 0 (([40] : List UInt8) ++ (textQ q)) ([41] : List UInt8) ?_ (hl := (by simp only [List.length_append, List.length_cons, List.length_nil]; omega))
  exact xr 2 (v := sS ((([40] : List UInt8) ++ (textQ q)) ++ ([41] : List UInt8))) Tryz.func29 hR ⟨by rw [ptx_yes (br7_yes (by rw [← he]; omega))]; rfl, hM19.none⟩
 ·
  refine xat 18 sT70 (ho.kept0 hM4.kept) 1 1 (fun p22 hp23 => ?_)
  refine xv 0 (at_load pE3 (ho.kept0 hM4.kept) hp23 rfl) ?_
  refine xv 5 (c_load pE3 (hM4.rd 0 rfl) (cel_obj b1 0) rfl) ?_
  refine xc 3 (h.op = 8) (fun h28p => ?_) (fun h28p => ?_)
  ·
   refine xv 2 (c_loads (ys := [.int .i64 (h.op), sS (h.field), sS (h.text), .int .i64 (h.edits), .int .i64 (h.exact), .int .u64 (h.lo), .int .u64 (h.hi), v]) aE25 (hM4.rd 0 rfl) (cel_obj b1 0) rfl (lq rfl)) ?_
   have hM30 := hM4.sub (sD sR)
   refine xk 0 (ih q hlt h he v (hq.kept hM30.kept) (by omega) (cell_kept hdb hM30.kept) hri hu) (fun w31 m32 => ?_)
   have hM33 : Mem [] w w31 [] := Mem.join (R := []) hM30 m32
   refine xqa 0 ([40] : List UInt8) (textQ q) ?_ (hl := (by simp only [List.length_append, List.length_cons, List.length_nil]; omega))
   refine xqa 0 (([40] : List UInt8) ++ (textQ q)) ([41] : List UInt8) ?_ (hl := (by simp only [List.length_append, List.length_cons, List.length_nil]; omega))
   exact xr 2 (v := sS ((([40] : List UInt8) ++ (textQ q)) ++ ([41] : List UInt8))) Tryz.func29 hR ⟨by rw [ptx_yes (br7_yes (by rw [← he]; omega))]; rfl, hM33.none⟩
  ·
   refine xv 16 (c_loads (ys := [.int .i64 (h.op), sS (h.field), sS (h.text), .int .i64 (h.edits), .int .i64 (h.exact), .int .u64 (h.lo), .int .u64 (h.hi), v]) aE25 (hM4.rd 0 rfl) (cel_obj b1 0) rfl (lq rfl)) ?_
   have hM37 := hM4.sub (sD sR)
   refine xk 0 (ih q hlt h he v (hq.kept hM37.kept) (by omega) (cell_kept hdb hM37.kept) hri hu) (fun w38 m39 => ?_)
   have hM40 : Mem [] w w38 [] := Mem.join (R := []) hM37 m39
   exact xr 2 (v := sS (textQ q)) Tryz.func29 hR ⟨by rw [ptx_no (br7_no (by rw [← he]; omega) (by rw [← he]; omega))], hM40.none⟩

set_option maxHeartbeats 1000000 in
theorem inner8_c (N : Nat) (ih : ∀ (q : Q), bulkQ q < N → ∀ {w : World} (h : Hd) (he : h = q.h) (v : Value) (hq : RdQ w q v) (hb : bulkQ q ≤ 1048576) (hdb : w.cell? ⟨3, 15, none⟩ = some (.int .u8 4)) (hri : rightQ q = true) (hu : numQ q), Calls Tryz.prog 17 #[.agg #[.int .i64 (h.op), sS (h.field), sS (h.text), .int .i64 (h.edits), .int .i64 (h.exact), .int .u64 (h.lo), .int .u64 (h.hi), v]] w (fun e w' => e = .returned (sS (textQ q)) ∧ Mem [] w w' [])) {w : World} (q : Q) (h : Hd) (he : h = q.h) (v : Value) (hq : RdQ w q v) (hb : bulkQ q ≤ 1048576) (o : Value) (ho : Rd w 1 o 1 [.int .i64 8]) (hdb : w.cell? ⟨3, 15, none⟩ = some (.int .u8 4)) (hri : rightQ q = true) (hu : numQ q) (hlt : bulkQ q < N) :
  Calls Tryz.prog 29 #[.agg #[.int .i64 (h.op), sS (h.field), sS (h.text), .int .i64 (h.edits), .int .i64 (h.exact), .int .u64 (h.lo), .int .u64 (h.hi), v], o] w (fun e w' => e = .returned (sS (ptext 8 q)) ∧ Mem [] w w' []) := by
 obtain ⟨L, hr, hl, hh, hs⟩ := hq.inv
 have hbl : bulkL q.l + q.h.field.length + q.h.text.length + 1 = bulkQ q := by cases q; rw [bulkQ_mk]; rfl
 have hln := bulk_len q.l
 have htl_ := textQ_len q
 refine xe 24 Tryz.func29 (fun R hR => ?_)
 have hM0 := Mem.start w
 refine xx 2 (m_box (T := 25) (k := 8) (u := .agg #[.int .i64 (h.op), sS (h.field), sS (h.text), .int .i64 (h.edits), .int .i64 (h.exact), .int .u64 (h.lo), .int .u64 (h.hi), v]) rfl rfl hM0) (fun b1 w2 hM4 => ?_)
 refine xv 6 (f_slen sT70 (ho.kept0 hM4.kept) 3 w2) ?_
 refine xat 15 sT70 (ho.kept0 hM4.kept) 0 0 (fun p6 hp7 => ?_)
 refine xv 0 (at_load pE3 (ho.kept0 hM4.kept) hp7 rfl) ?_
 refine xv 5 (c_load pE3 (hM4.rd 0 rfl) (cel_obj b1 0) rfl) ?_
 refine xc 3 (h.op = 8) (fun h14p => ?_) (fun h14p => ?_)
 ·
  refine xv 2 (c_loads (ys := [.int .i64 (h.op), sS (h.field), sS (h.text), .int .i64 (h.edits), .int .i64 (h.exact), .int .u64 (h.lo), .int .u64 (h.hi), v]) aE25 (hM4.rd 0 rfl) (cel_obj b1 0) rfl (lq rfl)) ?_
  have hM16 := hM4.sub (sD sR)
  refine xk 0 (ih q hlt h he v (hq.kept hM16.kept) (by omega) (cell_kept hdb hM16.kept) hri hu) (fun w17 m18 => ?_)
  have hM19 : Mem [] w w17 [] := Mem.join (R := []) hM16 m18
  refine xqa 0 ([40] : List UInt8) (textQ q) ?_ (hl := (by simp only [List.length_append, List.length_cons, List.length_nil]; omega))
  refine xqa 0 (([40] : List UInt8) ++ (textQ q)) ([41] : List UInt8) ?_ (hl := (by simp only [List.length_append, List.length_cons, List.length_nil]; omega))
  exact xr 2 (v := sS ((([40] : List UInt8) ++ (textQ q)) ++ ([41] : List UInt8))) Tryz.func29 hR ⟨by rw [ptx_yes (br8_yes (by rw [← he]; omega))]; rfl, hM19.none⟩
 ·
  refine xv 16 (c_loads (ys := [.int .i64 (h.op), sS (h.field), sS (h.text), .int .i64 (h.edits), .int .i64 (h.exact), .int .u64 (h.lo), .int .u64 (h.hi), v]) aE25 (hM4.rd 0 rfl) (cel_obj b1 0) rfl (lq rfl)) ?_
  have hM23 := hM4.sub (sD sR)
  refine xk 0 (ih q hlt h he v (hq.kept hM23.kept) (by omega) (cell_kept hdb hM23.kept) hri hu) (fun w24 m25 => ?_)
  have hM26 : Mem [] w w24 [] := Mem.join (R := []) hM23 m25
  exact xr 2 (v := sS (textQ q)) Tryz.func29 hR ⟨by rw [ptx_no (br8_no (by rw [← he]; omega))], hM26.none⟩

set_option maxHeartbeats 1000000 in
theorem joined7_L (N : Nat) (ih : ∀ (q : Q), bulkQ q < N → ∀ {w : World} (h : Hd) (he : h = q.h) (v : Value) (hq : RdQ w q v) (hb : bulkQ q ≤ 1048576) (hdb : w.cell? ⟨3, 15, none⟩ = some (.int .u8 4)) (hri : rightQ q = true) (hu : numQ q), Calls Tryz.prog 17 #[.agg #[.int .i64 (h.op), sS (h.field), sS (h.text), .int .i64 (h.edits), .int .i64 (h.exact), .int .u64 (h.lo), .int .u64 (h.hi), v]] w (fun e w' => e = .returned (sS (textQ q)) ∧ Mem [] w w' [])) {w0 : World} (q : Q) (h : Hd) (he : h = q.h) (v : Value) (hq : RdQ w0 q v) (hb : bulkQ q ≤ 1048576) (L : List QN) (hr : Rd w0 8 v L.length (recs qnC L)) (hl : L.length = q.l.length) (hh : ∀ j, j < q.l.length → (L.getD j qz).h = (q.l.getD j q0).h) (hs : ∀ j, j < q.l.length → RdQ w0 (q.l.getD j q0) (L.getD j qz).parts) (o : Value) (ho : Rd w0 1 o 2 [.int .i64 7, .int .i64 8]) (hdb : w0.cell? ⟨3, 15, none⟩ = some (.int .u8 4)) (hri : rightQ q = true) (hu : numQ q) (h2 : 2 ≤ q.l.length) (hlt : bulkL q.l < N) (R : Ending → World → Prop) (hR : R = (fun e w' => e = .returned (sS (joinW ([32] : List UInt8) (q.l.map (ptext 7)))) ∧ Mem [] w0 w' [])) : ∀ (M_ : Nat) (i : Nat) (u : Value) (X : List (List UInt8)) (w : World) (hi : i ≤ L.length) (hX : X = (q.l.take i).map (ptext 7)) (hM : Mem [] w0 w [⟨9, 1, u, (List.length X), (svals X)⟩]) (hN : L.length - i < M_), GoS Tryz.prog 30 R 26 [iC Tryz.f30 [1,1,0,1,0,0], iL Tryz.f30 [1,1,0,1,0,0], .inBlock 0, iC Tryz.f30 [1,1,1]] [(1, sS ([32] : List UInt8)), (2, o), (7, u), (10, v), (11, iN (List.length L)), (12, iN i)] w := by
 intro M_
 induction M_ with
 | zero => intro i u X w hi hX hM hN; exact absurd hN (Nat.not_lt_zero _)
 | succ M_ ih_ =>
  intro i u X w hi hX hM hN
  have hbl : bulkL q.l + q.h.field.length + q.h.text.length + 1 = bulkQ q := by cases q; rw [bulkQ_mk]; rfl
  have hln := bulk_len q.l
  have hXl_ : X.length = i := by rw [hX, List.length_map, List.length_take]; omega
  refine xs ?_
  refine xc 5 (((i : Nat) : Int) < (((List.length L) : Nat) : Int)) (fun h1p => ?_) (fun h1p => ?_)
  ·
   refine xat 5 sT23 (hr.kept0 hM.kept) ((i : Nat) : Int) i (fun p6 hp7 => ?_)
   refine xv 0 (r_loads (f := qnC) (l := L) aE25 (hr.kept0 hM.kept) qnC_len hp7 (by first | omega | (dsimp only; omega)) qz) ?_
   refine xx 0 (m_alloc oT25 hM) (fun b9 w10 hM12 => ?_)
   refine xst 0 (c_stores (ys := [.int .i64 ((List.getD L i qz).h.op), sS ((List.getD L i qz).h.field), sS ((List.getD L i qz).h.text), .int .i64 ((List.getD L i qz).h.edits), .int .i64 ((List.getD L i qz).h.exact), .int .u64 ((List.getD L i qz).h.lo), .int .u64 ((List.getD L i qz).h.hi), ((List.getD L i qz).parts)]) aE25 hM12 0 rfl (cel_obj b9 0) rfl (by decide) (by intro u hu; simp at hu; rcases hu with rfl | rfl | rfl | rfl | rfl | rfl | rfl | rfl <;> first | rfl | exact ((hs i (by omega)).kept hM12.kept).one.1)) (fun w14 hM16 => ?_)
   refine xv 3 (c_loads (ys := [.int .i64 ((List.getD L i qz).h.op), sS ((List.getD L i qz).h.field), sS ((List.getD L i qz).h.text), .int .i64 ((List.getD L i qz).h.edits), .int .i64 ((List.getD L i qz).h.exact), .int .u64 ((List.getD L i qz).h.lo), .int .u64 ((List.getD L i qz).h.hi), ((List.getD L i qz).parts)]) aE25 (hM16.rd 0 rfl) (cel_obj b9 0) rfl (lq rfl)) ?_
   have hM22 := hM16.sub (sD (sK sR))
   have hkb26 := bulk_kid (l := q.l) (i := i) (by omega)
   have hks27 := size_le (List.getD q.l i q0)
   have hbs28 := bulk_step (l := q.l) (i := i) (by omega)
   have hpl29 := ptext_len 7 (List.getD q.l i q0)
   refine xk 1 (inner7_c N ih (List.getD q.l i q0) ((List.getD L i qz).h) (hh i (by omega)) ((List.getD L i qz).parts) ((hs i (by omega)).kept hM22.kept) (by omega) o (ho.kept0 hM22.kept) (cell_kept hdb hM22.kept) (kid_right (by omega) (right_q hri).1) (kid_num (by omega) (num_q hu).2.2) (by omega)) (fun w23 m24 => ?_)
   have hM25 : Mem [] w0 w23 [⟨9, 1, u, (List.length X), (svals X)⟩] := Mem.join (R := []) hM22 m24
   refine xx 0 (m_lit sT64 hM25 (n := 1) (parts := #[(0, sS (ptext 7 (List.getD q.l i q0)))]) (cs := [sS (ptext 7 (List.getD q.l i q0))]) (by decide) (by kernel_rfl) rfl) (fun v30 w31 hM33 => ?_)
   refine xx 0 (m_append sT64 hM33 1 rfl (hM33.rd 0 rfl) (oneL rfl) (by first | omega | (dsimp only; omega)) (by first | omega | (dsimp only; omega)) 64) (fun v34 w35 hM37 => ?_)
   have hM38 : Mem [] w0 w35 [⟨9, 1, v30, 1, [sS (ptext 7 (List.getD q.l i q0))]⟩, ⟨9, 1, v34, (List.length (X ++ ([(ptext 7 (List.getD q.l i q0))] : List (List UInt8)))), (svals (X ++ ([(ptext 7 (List.getD q.l i q0))] : List (List UInt8))))⟩] := hM37.cast (by simp [ivals, svals, bvals, nvals, u8s, Nat.add_assoc])
   refine xa 4 ((i : Nat) : Int) 1 (((i + 1) : Nat) : Int) ?_
   have hM40 := hM38.sub (sD (sK sR))
   exact xl 3 (ih_ (i + 1) v34 _ _ (by omega) (by rw [map_snoc (show i < q.l.length by omega), hX]) (hM40.sub (sK sN)) (by omega))
  ·
   have hjl_ := join_lenQ ([32] : List UInt8) (by decide) 7 q.l
   have hXa_ : X = q.l.map (ptext 7) := by rw [hX, tk_all (by omega)]
   refine xk 5 (join_m ([32] : List UInt8) X u (hM.rd 0 rfl) (by omega) (by omega) (by rw [hXa_]; omega)) (fun w2 m3 => ?_)
   have hM4 := Mem.ext hM m3.kept
   have hM5 := hM4.sub (sD sR)
   exact xr 2 (v := sS (joinW ([32] : List UInt8) X)) Tryz.func30 hR ⟨by rw [hXa_], hM5.none⟩

set_option maxHeartbeats 1000000 in
theorem joined7_c (N : Nat) (ih : ∀ (q : Q), bulkQ q < N → ∀ {w : World} (h : Hd) (he : h = q.h) (v : Value) (hq : RdQ w q v) (hb : bulkQ q ≤ 1048576) (hdb : w.cell? ⟨3, 15, none⟩ = some (.int .u8 4)) (hri : rightQ q = true) (hu : numQ q), Calls Tryz.prog 17 #[.agg #[.int .i64 (h.op), sS (h.field), sS (h.text), .int .i64 (h.edits), .int .i64 (h.exact), .int .u64 (h.lo), .int .u64 (h.hi), v]] w (fun e w' => e = .returned (sS (textQ q)) ∧ Mem [] w w' [])) {w : World} (q : Q) (h : Hd) (he : h = q.h) (v : Value) (hq : RdQ w q v) (hb : bulkQ q ≤ 1048576) (o : Value) (ho : Rd w 1 o 2 [.int .i64 7, .int .i64 8]) (hdb : w.cell? ⟨3, 15, none⟩ = some (.int .u8 4)) (hri : rightQ q = true) (hu : numQ q) (h2 : 2 ≤ q.l.length) (hlt : bulkL q.l < N) :
  Calls Tryz.prog 30 #[v, sS ([32] : List UInt8), o] w (fun e w' => e = .returned (sS (joinW ([32] : List UInt8) (q.l.map (ptext 7)))) ∧ Mem [] w w' []) := by
 obtain ⟨L, hr, hl, hh, hs⟩ := hq.inv
 have hbl : bulkL q.l + q.h.field.length + q.h.text.length + 1 = bulkQ q := by cases q; rw [bulkQ_mk]; rfl
 have hln := bulk_len q.l
 refine xe 26 Tryz.func30 (fun R hR => ?_)
 have hM0 := Mem.start w
 refine xv 12 (f_slen sT23 (hr.kept0 hM0.kept) 3 w) ?_
 have hM2 := hM0.nilrow 9 1
 exact xl 4 (joined7_L N ih q h he v hq hb L hr hl hh hs o ho hdb hri hu h2 hlt R hR (L.length + 1) 0 (.slice none 0 0) [] w (Nat.zero_le _) (by rw [List.take_zero]; rfl) (hM2.sub (sK sN)) (by omega))

set_option maxHeartbeats 1000000 in
theorem joined8_L (N : Nat) (ih : ∀ (q : Q), bulkQ q < N → ∀ {w : World} (h : Hd) (he : h = q.h) (v : Value) (hq : RdQ w q v) (hb : bulkQ q ≤ 1048576) (hdb : w.cell? ⟨3, 15, none⟩ = some (.int .u8 4)) (hri : rightQ q = true) (hu : numQ q), Calls Tryz.prog 17 #[.agg #[.int .i64 (h.op), sS (h.field), sS (h.text), .int .i64 (h.edits), .int .i64 (h.exact), .int .u64 (h.lo), .int .u64 (h.hi), v]] w (fun e w' => e = .returned (sS (textQ q)) ∧ Mem [] w w' [])) {w0 : World} (q : Q) (h : Hd) (he : h = q.h) (v : Value) (hq : RdQ w0 q v) (hb : bulkQ q ≤ 1048576) (L : List QN) (hr : Rd w0 8 v L.length (recs qnC L)) (hl : L.length = q.l.length) (hh : ∀ j, j < q.l.length → (L.getD j qz).h = (q.l.getD j q0).h) (hs : ∀ j, j < q.l.length → RdQ w0 (q.l.getD j q0) (L.getD j qz).parts) (o : Value) (ho : Rd w0 1 o 1 [.int .i64 8]) (hdb : w0.cell? ⟨3, 15, none⟩ = some (.int .u8 4)) (hri : rightQ q = true) (hu : numQ q) (h2 : 2 ≤ q.l.length) (hlt : bulkL q.l < N) (R : Ending → World → Prop) (hR : R = (fun e w' => e = .returned (sS (joinW ([32, 124, 32] : List UInt8) (q.l.map (ptext 8)))) ∧ Mem [] w0 w' [])) : ∀ (M_ : Nat) (i : Nat) (u : Value) (X : List (List UInt8)) (w : World) (hi : i ≤ L.length) (hX : X = (q.l.take i).map (ptext 8)) (hM : Mem [] w0 w [⟨9, 1, u, (List.length X), (svals X)⟩]) (hN : L.length - i < M_), GoS Tryz.prog 30 R 26 [iC Tryz.f30 [1,1,0,1,0,0], iL Tryz.f30 [1,1,0,1,0,0], .inBlock 0, iC Tryz.f30 [1,1,1]] [(1, sS ([32, 124, 32] : List UInt8)), (2, o), (7, u), (10, v), (11, iN (List.length L)), (12, iN i)] w := by
 intro M_
 induction M_ with
 | zero => intro i u X w hi hX hM hN; exact absurd hN (Nat.not_lt_zero _)
 | succ M_ ih_ =>
  intro i u X w hi hX hM hN
  have hbl : bulkL q.l + q.h.field.length + q.h.text.length + 1 = bulkQ q := by cases q; rw [bulkQ_mk]; rfl
  have hln := bulk_len q.l
  have hXl_ : X.length = i := by rw [hX, List.length_map, List.length_take]; omega
  refine xs ?_
  refine xc 5 (((i : Nat) : Int) < (((List.length L) : Nat) : Int)) (fun h1p => ?_) (fun h1p => ?_)
  ·
   refine xat 5 sT23 (hr.kept0 hM.kept) ((i : Nat) : Int) i (fun p6 hp7 => ?_)
   refine xv 0 (r_loads (f := qnC) (l := L) aE25 (hr.kept0 hM.kept) qnC_len hp7 (by first | omega | (dsimp only; omega)) qz) ?_
   refine xx 0 (m_alloc oT25 hM) (fun b9 w10 hM12 => ?_)
   refine xst 0 (c_stores (ys := [.int .i64 ((List.getD L i qz).h.op), sS ((List.getD L i qz).h.field), sS ((List.getD L i qz).h.text), .int .i64 ((List.getD L i qz).h.edits), .int .i64 ((List.getD L i qz).h.exact), .int .u64 ((List.getD L i qz).h.lo), .int .u64 ((List.getD L i qz).h.hi), ((List.getD L i qz).parts)]) aE25 hM12 0 rfl (cel_obj b9 0) rfl (by decide) (by intro u hu; simp at hu; rcases hu with rfl | rfl | rfl | rfl | rfl | rfl | rfl | rfl <;> first | rfl | exact ((hs i (by omega)).kept hM12.kept).one.1)) (fun w14 hM16 => ?_)
   refine xv 3 (c_loads (ys := [.int .i64 ((List.getD L i qz).h.op), sS ((List.getD L i qz).h.field), sS ((List.getD L i qz).h.text), .int .i64 ((List.getD L i qz).h.edits), .int .i64 ((List.getD L i qz).h.exact), .int .u64 ((List.getD L i qz).h.lo), .int .u64 ((List.getD L i qz).h.hi), ((List.getD L i qz).parts)]) aE25 (hM16.rd 0 rfl) (cel_obj b9 0) rfl (lq rfl)) ?_
   have hM22 := hM16.sub (sD (sK sR))
   have hkb26 := bulk_kid (l := q.l) (i := i) (by omega)
   have hks27 := size_le (List.getD q.l i q0)
   have hbs28 := bulk_step (l := q.l) (i := i) (by omega)
   have hpl29 := ptext_len 8 (List.getD q.l i q0)
   refine xk 1 (inner8_c N ih (List.getD q.l i q0) ((List.getD L i qz).h) (hh i (by omega)) ((List.getD L i qz).parts) ((hs i (by omega)).kept hM22.kept) (by omega) o (ho.kept0 hM22.kept) (cell_kept hdb hM22.kept) (kid_right (by omega) (right_q hri).1) (kid_num (by omega) (num_q hu).2.2) (by omega)) (fun w23 m24 => ?_)
   have hM25 : Mem [] w0 w23 [⟨9, 1, u, (List.length X), (svals X)⟩] := Mem.join (R := []) hM22 m24
   refine xx 0 (m_lit sT64 hM25 (n := 1) (parts := #[(0, sS (ptext 8 (List.getD q.l i q0)))]) (cs := [sS (ptext 8 (List.getD q.l i q0))]) (by decide) (by kernel_rfl) rfl) (fun v30 w31 hM33 => ?_)
   refine xx 0 (m_append sT64 hM33 1 rfl (hM33.rd 0 rfl) (oneL rfl) (by first | omega | (dsimp only; omega)) (by first | omega | (dsimp only; omega)) 64) (fun v34 w35 hM37 => ?_)
   have hM38 : Mem [] w0 w35 [⟨9, 1, v30, 1, [sS (ptext 8 (List.getD q.l i q0))]⟩, ⟨9, 1, v34, (List.length (X ++ ([(ptext 8 (List.getD q.l i q0))] : List (List UInt8)))), (svals (X ++ ([(ptext 8 (List.getD q.l i q0))] : List (List UInt8))))⟩] := hM37.cast (by simp [ivals, svals, bvals, nvals, u8s, Nat.add_assoc])
   refine xa 4 ((i : Nat) : Int) 1 (((i + 1) : Nat) : Int) ?_
   have hM40 := hM38.sub (sD (sK sR))
   exact xl 3 (ih_ (i + 1) v34 _ _ (by omega) (by rw [map_snoc (show i < q.l.length by omega), hX]) (hM40.sub (sK sN)) (by omega))
  ·
   have hjl_ := join_lenQ ([32, 124, 32] : List UInt8) (by decide) 8 q.l
   have hXa_ : X = q.l.map (ptext 8) := by rw [hX, tk_all (by omega)]
   refine xk 5 (join_m ([32, 124, 32] : List UInt8) X u (hM.rd 0 rfl) (by omega) (by omega) (by rw [hXa_]; omega)) (fun w2 m3 => ?_)
   have hM4 := Mem.ext hM m3.kept
   have hM5 := hM4.sub (sD sR)
   exact xr 2 (v := sS (joinW ([32, 124, 32] : List UInt8) X)) Tryz.func30 hR ⟨by rw [hXa_], hM5.none⟩

set_option maxHeartbeats 1000000 in
theorem joined8_c (N : Nat) (ih : ∀ (q : Q), bulkQ q < N → ∀ {w : World} (h : Hd) (he : h = q.h) (v : Value) (hq : RdQ w q v) (hb : bulkQ q ≤ 1048576) (hdb : w.cell? ⟨3, 15, none⟩ = some (.int .u8 4)) (hri : rightQ q = true) (hu : numQ q), Calls Tryz.prog 17 #[.agg #[.int .i64 (h.op), sS (h.field), sS (h.text), .int .i64 (h.edits), .int .i64 (h.exact), .int .u64 (h.lo), .int .u64 (h.hi), v]] w (fun e w' => e = .returned (sS (textQ q)) ∧ Mem [] w w' [])) {w : World} (q : Q) (h : Hd) (he : h = q.h) (v : Value) (hq : RdQ w q v) (hb : bulkQ q ≤ 1048576) (o : Value) (ho : Rd w 1 o 1 [.int .i64 8]) (hdb : w.cell? ⟨3, 15, none⟩ = some (.int .u8 4)) (hri : rightQ q = true) (hu : numQ q) (h2 : 2 ≤ q.l.length) (hlt : bulkL q.l < N) :
  Calls Tryz.prog 30 #[v, sS ([32, 124, 32] : List UInt8), o] w (fun e w' => e = .returned (sS (joinW ([32, 124, 32] : List UInt8) (q.l.map (ptext 8)))) ∧ Mem [] w w' []) := by
 obtain ⟨L, hr, hl, hh, hs⟩ := hq.inv
 have hbl : bulkL q.l + q.h.field.length + q.h.text.length + 1 = bulkQ q := by cases q; rw [bulkQ_mk]; rfl
 have hln := bulk_len q.l
 refine xe 26 Tryz.func30 (fun R hR => ?_)
 have hM0 := Mem.start w
 refine xv 12 (f_slen sT23 (hr.kept0 hM0.kept) 3 w) ?_
 have hM2 := hM0.nilrow 9 1
 exact xl 4 (joined8_L N ih q h he v hq hb L hr hl hh hs o ho hdb hri hu h2 hlt R hR (L.length + 1) 0 (.slice none 0 0) [] w (Nat.zero_le _) (by rw [List.take_zero]; rfl) (hM2.sub (sK sN)) (by omega))


end Go.Proofs.YthpodbngljfdmaaGreatDoor


namespace Go.Proofs.YthpodbngljfdmaaGreatDoor
open Go Go.Gw Go.UtfP Go.TokP Go.QryP Go.SynP Go.RealQ Go.SynV Go.RowKit
set_option linter.unusedVariables false
set_option linter.unusedSimpArgs false
set_option maxRecDepth 20000


theorem bits_m (x : Int) (hx : 0 ≤ x ∧ x < 18446744073709551616) {w : World} (hdb : w.cell? ⟨3, 15, none⟩ = some (.int .u8 4)) : Calls Tryz.prog 31 #[.int .u64 x] w (fun e w' => e = .returned (sS (bitsP x.toNat)) ∧ Mem [] w w' []) := by
 have h := bits_c x.toNat (by omega) hdb
 rwa [show ((x.toNat : Nat) : Int) = x by omega] at h

set_option maxHeartbeats 4000000 in
theorem text_s (N : Nat) (ih : ∀ (q : Q), bulkQ q < N → ∀ {w : World} (h : Hd) (he : h = q.h) (v : Value) (hq : RdQ w q v) (hb : bulkQ q ≤ 1048576) (hdb : w.cell? ⟨3, 15, none⟩ = some (.int .u8 4)) (hri : rightQ q = true) (hu : numQ q), Calls Tryz.prog 17 #[.agg #[.int .i64 (h.op), sS (h.field), sS (h.text), .int .i64 (h.edits), .int .i64 (h.exact), .int .u64 (h.lo), .int .u64 (h.hi), v]] w (fun e w' => e = .returned (sS (textQ q)) ∧ Mem [] w w' [])) {w : World} (q : Q) (h : Hd) (he : h = q.h) (v : Value) (hq : RdQ w q v) (hb : bulkQ q ≤ 1048576) (hdb : w.cell? ⟨3, 15, none⟩ = some (.int .u8 4)) (hri : rightQ q = true) (hu : numQ q) (hN : bulkQ q = N) :
  Calls Tryz.prog 17 #[.agg #[.int .i64 (h.op), sS (h.field), sS (h.text), .int .i64 (h.edits), .int .i64 (h.exact), .int .u64 (h.lo), .int .u64 (h.hi), v]] w (fun e w' => e = .returned (sS (textQ q)) ∧ Mem [] w w' []) := by
 obtain ⟨L, hr, hl, hh, hs⟩ := hq.inv
 have hbl : bulkL q.l + q.h.field.length + q.h.text.length + 1 = bulkQ q := by cases q; rw [bulkQ_mk]; rfl
 have hln := bulk_len q.l
 have hfl_ : h.field.length = q.h.field.length := by rw [he]
 have htx_ : h.text.length = q.h.text.length := by rw [he]
 have hnq_ := num_q hu
 rw [← he] at hnq_
 have hn1_ : h.op = 9 → q.l.length = 1 := fun z => node_not1 hri (by rw [← he]; exact z)
 have hlf_ : ¬ h.op = 7 → ¬ h.op = 8 → ¬ h.op = 9 → ¬ h.op = 10 → Lf h := fun a b c d => by have z := node_op hri (by rw [← he]; exact a) (by rw [← he]; exact b) (by rw [← he]; exact c) (by rw [← he]; exact d); rwa [← he] at z
 have hop_ : ¬ h.op = 7 → ¬ h.op = 8 → ¬ h.op = 9 → ¬ h.op = 10 → 1 ≤ h.op ∧ h.op ≤ 6 := fun a b c d => (hlf_ a b c d).op
 have hfz_ : h.op = 4 → (0 ≤ h.edits ∧ h.edits ≤ 99) ∧ (0 ≤ h.exact ∧ h.exact ≤ 99) := fun z => (hlf_ (by omega) (by omega) (by omega) (by omega)).fuzzy z
 refine xe 79 Tryz.func17 (fun R hR => ?_)
 have hM0 := Mem.start w
 refine xx 2 (m_box (T := 25) (k := 8) (u := .agg #[.int .i64 (h.op), sS (h.field), sS (h.text), .int .i64 (h.edits), .int .i64 (h.exact), .int .u64 (h.lo), .int .u64 (h.hi), v]) rfl rfl hM0) (fun b1 w2 hM4 => ?_)
 refine xv 6 (c_load pE3 (hM4.rd 0 rfl) (cel_obj b1 0) rfl) ?_
 refine xc 7 (h.op = 10) (fun h8p => ?_) (fun h8p => ?_)
 ·
  have hM9 := hM4.sub (sD sR)
  exact xr 4 (v := sS ([42] : List UInt8)) Tryz.func17 hR ⟨by rw [text_all (by rw [← he]; omega)], hM9.none⟩
 ·
  refine xc 5 (h.op = 9) (fun h10p => ?_) (fun h10p => ?_)
  ·
   refine xv 3 (c_load pE23 (hM4.rd 0 rfl) (cel_obj b1 7) rfl) ?_
   refine xat 0 sT23 (hr.kept0 hM4.kept) 0 0 (fun p11 hp12 => ?_)
   refine xv 0 (r_loads (f := qnC) (l := L) aE25 (hr.kept0 hM4.kept) qnC_len hp12 (by omega) qz) ?_
   refine xx 0 (m_lit sT70 hM4 (n := 2) (parts := #[(0, .int .i64 7), (1, .int .i64 8)]) (cs := [.int .i64 7, .int .i64 8]) (by decide) (by kernel_rfl) rfl) (fun v14 w15 hM17 => ?_)
   have hM21 := hM17.sub (sK (sD sR))
   have hkb25 := bulk_kid (l := q.l) (i := 0) (by omega)
   have hks26 := size_le (List.getD q.l 0 q0)
   have hbs27 := bulk_step (l := q.l) (i := 0) (by omega)
   have hpl28 := ptext_len 7 (List.getD q.l 0 q0)
   refine xk 0 (inner7_c N ih (List.getD q.l 0 q0) ((List.getD L 0 qz).h) (hh 0 (by omega)) ((List.getD L 0 qz).parts) ((hs 0 (by omega)).kept hM21.kept) (by omega) v14 (hM21.rd 0 rfl) (cell_kept hdb hM21.kept) (kid_right (by omega) (right_q hri).1) (kid_num (by omega) (num_q hu).2.2) (by omega)) (fun w22 m23 => ?_)
   have hM24 : Mem [] w w22 [⟨3, 1, v14, 2, [.int .i64 7, .int .i64 8]⟩] := Mem.join (R := []) hM21 m23
   refine xqa 0 ([45] : List UInt8) (ptext 7 (List.getD q.l 0 q0)) ?_ (hl := (by simp only [List.length_append, List.length_cons, List.length_nil]; omega))
   have hM30 := hM24.sub (sD sR)
   exact xr 2 (v := sS (([45] : List UInt8) ++ (ptext 7 (List.getD q.l 0 q0)))) Tryz.func17 hR ⟨by rw [text_not (by rw [← he]; omega) (node_not1 hri (by rw [← he]; omega))]; rfl, hM30.none⟩
  ·
   refine xc 5 (h.op = 7) (fun h31p => ?_) (fun h31p => ?_)
   ·
    refine xv 3 (c_load pE23 (hM4.rd 0 rfl) (cel_obj b1 7) rfl) ?_
    refine xx 0 (m_lit sT70 hM4 (n := 2) (parts := #[(0, .int .i64 7), (1, .int .i64 8)]) (cs := [.int .i64 7, .int .i64 8]) (by decide) (by kernel_rfl) rfl) (fun v32 w33 hM35 => ?_)
    have hM37 := hM35.sub (sK (sD sR))
    have hjl41 := join_lenQ ([32] : List UInt8) (by decide) 7 q.l
    have hn2_ := node_join2 hri (by rw [← he]; omega)
    refine xk 0 (joined7_c N ih q h he v (hq.kept hM37.kept) hb v32 (hM37.rd 0 rfl) (cell_kept hdb hM37.kept) hri hu hn2_ (by omega)) (fun w38 m39 => ?_)
    have hM40 : Mem [] w w38 [⟨3, 1, v32, 2, [.int .i64 7, .int .i64 8]⟩] := Mem.join (R := []) hM37 m39
    have hM42 := hM40.sub (sD sR)
    exact xr 2 (v := sS (joinW ([32] : List UInt8) (q.l.map (ptext 7)))) Tryz.func17 hR ⟨by rw [text_and (by rw [← he]; omega)], hM42.none⟩
   ·
    refine xc 5 (h.op = 8) (fun h43p => ?_) (fun h43p => ?_)
    ·
     refine xv 3 (c_load pE23 (hM4.rd 0 rfl) (cel_obj b1 7) rfl) ?_
     refine xx 0 (m_lit sT70 hM4 (n := 1) (parts := #[(0, .int .i64 8)]) (cs := [.int .i64 8]) (by decide) (by kernel_rfl) rfl) (fun v44 w45 hM47 => ?_)
     have hM49 := hM47.sub (sK (sD sR))
     have hjl53 := join_lenQ ([32, 124, 32] : List UInt8) (by decide) 8 q.l
     have hn2_ := node_join2 hri (by rw [← he]; omega)
     refine xk 0 (joined8_c N ih q h he v (hq.kept hM49.kept) hb v44 (hM49.rd 0 rfl) (cell_kept hdb hM49.kept) hri hu hn2_ (by omega)) (fun w50 m51 => ?_)
     have hM52 : Mem [] w w50 [⟨3, 1, v44, 1, [.int .i64 8]⟩] := Mem.join (R := []) hM49 m51
     have hM54 := hM52.sub (sD sR)
     exact xr 2 (v := sS (joinW ([32, 124, 32] : List UInt8) (q.l.map (ptext 8)))) Tryz.func17 hR ⟨by rw [text_or (by rw [← he]; omega)], hM54.none⟩
    ·
     refine xc 5 (h.op = 6) (fun h55p => ?_) (fun h55p => ?_)
     ·
      refine xh 1 [] hM4 (sK sR) (fun w56 hM57 hS58 => ?_)
      refine yl [0] 1 hS58 pE9 0 rfl (cel_obj b1 1) rfl ?_
      refine yv [] 2 (fun W_ hW_ => (show (binOp .add 9 (sS (h.field)) (sS ([58, 91] : List UInt8))).run Tryz.prog W_ = .ok (sS (h.field ++ ([58, 91] : List UInt8))) W_ from f_stradd (by simp only [List.length_append, List.length_cons, List.length_nil]; omega))) hS58 ?_
      refine yl [3] 4 hS58 pE22 0 rfl (cel_obj b1 5) rfl ?_
      refine yl [8] 9 hS58 pE22 0 rfl (cel_obj b1 6) rfl ?_
      have hbl63 := bitsP_len (Int.toNat (h.lo))
      refine yck [] 5 (bits_m (h.lo) (by omega) (cell_kept hdb hM57.kept)) hS58 (fun w60 m61 => ?_)
      have hM62 : Mem [] w w60 [⟨25, 8, (obj b1), 1, [.int .i64 (h.op), sS (h.field), sS (h.text), .int .i64 (h.edits), .int .i64 (h.exact), .int .u64 (h.lo), .int .u64 (h.hi), v]⟩] := Mem.join (R := []) hM57 m61
      have hS64 := hM62.sub (sK sR)
      refine ⟨hS64, ?_⟩
      refine yv [] 6 (fun W_ hW_ => (show (binOp .add 9 (sS (h.field ++ ([58, 91] : List UInt8))) (sS (bitsP (Int.toNat (h.lo))))).run Tryz.prog W_ = .ok (sS ((h.field ++ ([58, 91] : List UInt8)) ++ (bitsP (Int.toNat (h.lo))))) W_ from f_stradd (by simp only [List.length_append, List.length_cons, List.length_nil]; omega))) hS64 ?_
      refine yv [] 7 (fun W_ hW_ => (show (binOp .add 9 (sS ((h.field ++ ([58, 91] : List UInt8)) ++ (bitsP (Int.toNat (h.lo))))) (sS ([32] : List UInt8))).run Tryz.prog W_ = .ok (sS (((h.field ++ ([58, 91] : List UInt8)) ++ (bitsP (Int.toNat (h.lo)))) ++ ([32] : List UInt8))) W_ from f_stradd (by simp only [List.length_append, List.length_cons, List.length_nil]; omega))) hS64 ?_
      have hbl68 := bitsP_len (Int.toNat (h.hi))
      refine yck [] 10 (bits_m (h.hi) (by omega) (cell_kept hdb hM62.kept)) hS64 (fun w65 m66 => ?_)
      have hM67 : Mem [] w w65 [⟨25, 8, (obj b1), 1, [.int .i64 (h.op), sS (h.field), sS (h.text), .int .i64 (h.edits), .int .i64 (h.exact), .int .u64 (h.lo), .int .u64 (h.hi), v]⟩] := Mem.join (R := []) hM62 m66
      have hS69 := hM67.sub (sK sR)
      refine ⟨hS69, ?_⟩
      refine yv [] 11 (fun W_ hW_ => (show (binOp .add 9 (sS (((h.field ++ ([58, 91] : List UInt8)) ++ (bitsP (Int.toNat (h.lo)))) ++ ([32] : List UInt8))) (sS (bitsP (Int.toNat (h.hi))))).run Tryz.prog W_ = .ok (sS ((((h.field ++ ([58, 91] : List UInt8)) ++ (bitsP (Int.toNat (h.lo)))) ++ ([32] : List UInt8)) ++ (bitsP (Int.toNat (h.hi))))) W_ from f_stradd (by simp only [List.length_append, List.length_cons, List.length_nil]; omega))) hS69 ?_
      refine yv [] 12 (fun W_ hW_ => (show (binOp .add 9 (sS ((((h.field ++ ([58, 91] : List UInt8)) ++ (bitsP (Int.toNat (h.lo)))) ++ ([32] : List UInt8)) ++ (bitsP (Int.toNat (h.hi))))) (sS ([93] : List UInt8))).run Tryz.prog W_ = .ok (sS (((((h.field ++ ([58, 91] : List UInt8)) ++ (bitsP (Int.toNat (h.lo)))) ++ ([32] : List UInt8)) ++ (bitsP (Int.toNat (h.hi)))) ++ ([93] : List UInt8))) W_ from f_stradd (by simp only [List.length_append, List.length_cons, List.length_nil]; omega))) hS69 ?_
      refine ydp [13] hS69 ?_
      have hM70 := hM67.sub (sD sR)
      exact xr 0 (v := sS (((((h.field ++ ([58, 91] : List UInt8)) ++ (bitsP (Int.toNat (h.lo)))) ++ ([32] : List UInt8)) ++ (bitsP (Int.toNat (h.hi)))) ++ ([93] : List UInt8))) Tryz.func17 hR ⟨by rw [tx_range he (by omega)], hM70.none⟩
     ·
      refine xh 3 [] hM4 (sK sR) (fun w71 hM72 hS73 => ?_)
      refine yl [0] 1 hS73 pE9 0 rfl (cel_obj b1 1) rfl ?_
      refine yv [] 2 (fun W_ hW_ => (show (binOp .add 9 (sS (h.field)) (sS ([58] : List UInt8))).run Tryz.prog W_ = .ok (sS (h.field ++ ([58] : List UInt8))) W_ from f_stradd (by simp only [List.length_append, List.length_cons, List.length_nil]; omega))) hS73 ?_
      refine yl [3] 4 hS73 pE9 0 rfl (cel_obj b1 2) rfl ?_
      have hql78 := quoteW_len (h.text)
      refine yck [] 5 (quote_c (w := w71) (h.text) (by omega)) hS73 (fun w75 m76 => ?_)
      have hM77 : Mem [] w w75 [⟨25, 8, (obj b1), 1, [.int .i64 (h.op), sS (h.field), sS (h.text), .int .i64 (h.edits), .int .i64 (h.exact), .int .u64 (h.lo), .int .u64 (h.hi), v]⟩] := Mem.join (R := []) hM72 m76
      have hS79 := hM77.sub (sK sR)
      refine ⟨hS79, ?_⟩
      refine yv [] 6 (fun W_ hW_ => (show (binOp .add 9 (sS (h.field ++ ([58] : List UInt8))) (sS (quoteW (h.text)))).run Tryz.prog W_ = .ok (sS ((h.field ++ ([58] : List UInt8)) ++ (quoteW (h.text)))) W_ from f_stradd (by simp only [List.length_append, List.length_cons, List.length_nil]; omega))) hS79 ?_
      refine ydp [7] hS79 ?_
      refine xv 4 (c_load pE3 (hM77.rd 0 rfl) (cel_obj b1 0) rfl) ?_
      refine xc 7 (h.op = 2) (fun h81p => ?_) (fun h81p => ?_)
      ·
       refine xqa 2 ((h.field ++ ([58] : List UInt8)) ++ (quoteW (h.text))) ([42] : List UInt8) ?_ (hl := (by simp only [List.length_append, List.length_cons, List.length_nil]; omega))
       have hM83 := hM77.sub (sD sR)
       exact xr 8 (v := sS (((h.field ++ ([58] : List UInt8)) ++ (quoteW (h.text))) ++ ([42] : List UInt8))) Tryz.func17 hR ⟨by rw [tx_2 he (by omega)], hM83.none⟩
      ·
       refine xc 5 (h.op = 3) (fun h84p => ?_) (fun h84p => ?_)
       ·
        refine xqa 2 ((h.field ++ ([58] : List UInt8)) ++ (quoteW (h.text))) ([63] : List UInt8) ?_ (hl := (by simp only [List.length_append, List.length_cons, List.length_nil]; omega))
        have hM86 := hM77.sub (sD sR)
        exact xr 8 (v := sS (((h.field ++ ([58] : List UInt8)) ++ (quoteW (h.text))) ++ ([63] : List UInt8))) Tryz.func17 hR ⟨by rw [tx_3 he (by omega)], hM86.none⟩
       ·
        refine xc 5 (h.op = 5) (fun h87p => ?_) (fun h87p => ?_)
        ·
         refine xqa 2 ((h.field ++ ([58] : List UInt8)) ++ (quoteW (h.text))) ([43] : List UInt8) ?_ (hl := (by simp only [List.length_append, List.length_cons, List.length_nil]; omega))
         have hM89 := hM77.sub (sD sR)
         exact xr 8 (v := sS (((h.field ++ ([58] : List UInt8)) ++ (quoteW (h.text))) ++ ([43] : List UInt8))) Tryz.func17 hR ⟨by rw [tx_5 he (by omega)], hM89.none⟩
        ·
         refine xc 5 (h.op = 4) (fun h90p => ?_) (fun h90p => ?_)
         ·
          refine xh 0 [] hM77 (sK sR) (fun w91 hM92 hS93 => ?_)
          refine yl [0,1] 2 hS93 pE3 0 rfl (cel_obj b1 3) rfl ?_
          refine yl [6] 7 hS93 pE3 0 rfl (cel_obj b1 4) rfl ?_
          have hdl95 := decW_len (h.edits)
          refine ycg [] 3 (itoa_m (h.edits) (by omega) w91) hS93 ?_
          rintro _ _ ⟨rfl, rfl⟩
          have hS96 := hM92.sub (sK sR)
          refine ⟨sS (decW (h.edits)), rfl, hS96, ?_⟩
          refine yv [] 4 (fun W_ hW_ => (show (binOp .add 9 (sS ([126] : List UInt8)) (sS (decW (h.edits)))).run Tryz.prog W_ = .ok (sS (([126] : List UInt8) ++ (decW (h.edits)))) W_ from f_stradd (by simp only [List.length_append, List.length_cons, List.length_nil]; omega))) hS96 ?_
          refine yv [] 5 (fun W_ hW_ => (show (binOp .add 9 (sS (([126] : List UInt8) ++ (decW (h.edits)))) (sS ([44] : List UInt8))).run Tryz.prog W_ = .ok (sS ((([126] : List UInt8) ++ (decW (h.edits))) ++ ([44] : List UInt8))) W_ from f_stradd (by simp only [List.length_append, List.length_cons, List.length_nil]; omega))) hS96 ?_
          have hdl97 := decW_len (h.exact)
          refine ycg [] 8 (itoa_m (h.exact) (by omega) w91) hS96 ?_
          rintro _ _ ⟨rfl, rfl⟩
          have hS98 := hM92.sub (sK sR)
          refine ⟨sS (decW (h.exact)), rfl, hS98, ?_⟩
          refine yv [] 9 (fun W_ hW_ => (show (binOp .add 9 (sS ((([126] : List UInt8) ++ (decW (h.edits))) ++ ([44] : List UInt8))) (sS (decW (h.exact)))).run Tryz.prog W_ = .ok (sS (((([126] : List UInt8) ++ (decW (h.edits))) ++ ([44] : List UInt8)) ++ (decW (h.exact)))) W_ from f_stradd (by simp only [List.length_append, List.length_cons, List.length_nil]; omega))) hS98 ?_
          refine yv [] 10 (fun W_ hW_ => (show (binOp .add 9 (sS ((h.field ++ ([58] : List UInt8)) ++ (quoteW (h.text)))) (sS (((([126] : List UInt8) ++ (decW (h.edits))) ++ ([44] : List UInt8)) ++ (decW (h.exact))))).run Tryz.prog W_ = .ok (sS (((h.field ++ ([58] : List UInt8)) ++ (quoteW (h.text))) ++ (((([126] : List UInt8) ++ (decW (h.edits))) ++ ([44] : List UInt8)) ++ (decW (h.exact))))) W_ from f_stradd (by simp only [List.length_append, List.length_cons, List.length_nil]; omega))) hS98 ?_
          refine ydp [11] hS98 ?_
          have hM99 := hM92.sub (sD sR)
          exact xr 6 (v := sS (((h.field ++ ([58] : List UInt8)) ++ (quoteW (h.text))) ++ (((([126] : List UInt8) ++ (decW (h.edits))) ++ ([44] : List UInt8)) ++ (decW (h.exact))))) Tryz.func17 hR ⟨by rw [tx_4 he (by omega)], hM99.none⟩
         ·
          have hM100 := hM77.sub (sD sR)
          exact xr 7 (v := sS ((h.field ++ ([58] : List UInt8)) ++ (quoteW (h.text)))) Tryz.func17 hR ⟨by rw [tx_1 he (by omega)], hM100.none⟩

theorem text_n : ∀ (N : Nat), ∀ (q : Q), bulkQ q ≤ N → ∀ {w : World} (h : Hd) (he : h = q.h) (v : Value) (hq : RdQ w q v) (hb : bulkQ q ≤ 1048576) (hdb : w.cell? ⟨3, 15, none⟩ = some (.int .u8 4)) (hri : rightQ q = true) (hu : numQ q), Calls Tryz.prog 17 #[.agg #[.int .i64 (h.op), sS (h.field), sS (h.text), .int .i64 (h.edits), .int .i64 (h.exact), .int .u64 (h.lo), .int .u64 (h.hi), v]] w (fun e w' => e = .returned (sS (textQ q)) ∧ Mem [] w w' []) := by
 intro N
 induction N with
 | zero => intro q hn; have := bulk_pos q; omega
 | succ N ihn => intro q hn w h he v hq hb hdb hri hu; exact text_s (bulkQ q) (fun c hc => ihn c (by omega)) q h he v hq hb hdb hri hu rfl

theorem text_c {w : World} (q : Q) (h : Hd) (he : h = q.h) (v : Value) (hq : RdQ w q v) (hb : bulkQ q ≤ 1048576) (hdb : w.cell? ⟨3, 15, none⟩ = some (.int .u8 4)) (hri : rightQ q = true) (hu : numQ q) : Calls Tryz.prog 17 #[.agg #[.int .i64 (h.op), sS (h.field), sS (h.text), .int .i64 (h.edits), .int .i64 (h.exact), .int .u64 (h.lo), .int .u64 (h.hi), v]] w (fun e w' => e = .returned (sS (textQ q)) ∧ Mem [] w w' []) := text_n (bulkQ q) q (Nat.le_refl _) h he v hq hb hdb hri hu


end Go.Proofs.YthpodbngljfdmaaGreatDoor


namespace Go.Proofs.YthpodbngljfdmaaGreatDoor
open Go Go.Gw Go.UtfP Go.TokP Go.QryP Go.SynP Go.RealQ Go.SynV Go.RowKit
set_option linter.unusedVariables false
set_option linter.unusedSimpArgs false
set_option maxRecDepth 20000


set_option maxHeartbeats 1000000 in
theorem print_c {w : World} (q : Q) (h : Hd) (he : h = q.h) (v : Value) (hq : RdQ w q v) (hb : bulkQ q ≤ 1048576) (hdb : w.cell? ⟨3, 15, none⟩ = some (.int .u8 4)) (hu : numQ q) :
  Calls Tryz.prog 9 #[.agg #[.int .i64 (h.op), sS (h.field), sS (h.text), .int .i64 (h.edits), .int .i64 (h.exact), .int .u64 (h.lo), .int .u64 (h.hi), v]] w (fun e w' => e = .returned (.tuple #[sS ((printQ q).1), .int .i64 ((printQ q).2)]) ∧ Mem [] w w' []) := by
 obtain ⟨L, hr, hl, hh, hs⟩ := hq.inv
 have hbl : bulkL q.l + q.h.field.length + q.h.text.length + 1 = bulkQ q := by cases q; rw [bulkQ_mk]; rfl
 have hln := bulk_len q.l
 have htl_ := textQ_len q
 refine xe 17 Tryz.func9 (fun R hR => ?_)
 have hM0 := Mem.start w
 refine xx 2 (m_box (T := 25) (k := 8) (u := .agg #[.int .i64 (h.op), sS (h.field), sS (h.text), .int .i64 (h.edits), .int .i64 (h.exact), .int .u64 (h.lo), .int .u64 (h.hi), v]) rfl rfl hM0) (fun b1 w2 hM4 => ?_)
 refine xv 6 (c_loads (ys := [.int .i64 (h.op), sS (h.field), sS (h.text), .int .i64 (h.edits), .int .i64 (h.exact), .int .u64 (h.lo), .int .u64 (h.hi), v]) aE25 (hM4.rd 0 rfl) (cel_obj b1 0) rfl (lq rfl)) ?_
 refine xk 0 (check_c q h he v (hq.kept hM4.kept) (by omega)) (fun w8 m9 => ?_)
 have hM10 : Mem [] w w8 [⟨25, 8, (obj b1), 1, [.int .i64 (h.op), sS (h.field), sS (h.text), .int .i64 (h.edits), .int .i64 (h.exact), .int .u64 (h.lo), .int .u64 (h.hi), v]⟩] := Mem.join (R := []) hM4 m9
 refine xcn 7 ((checkQ q) = 0) (fun h11p => ?_) (fun h11p => ?_)
 ·
  have hM12 := hM10.sub (sD sR)
  exact xr 6 (v := .tuple #[sS ([]), .int .i64 (checkQ q)]) Tryz.func9 hR ⟨by rw [print_bad (by omega)], hM12.none⟩
 ·
  refine xv 3 (c_loads (ys := [.int .i64 (h.op), sS (h.field), sS (h.text), .int .i64 (h.edits), .int .i64 (h.exact), .int .u64 (h.lo), .int .u64 (h.hi), v]) aE25 (hM10.rd 0 rfl) (cel_obj b1 0) rfl (lq rfl)) ?_
  have hM14 := hM10.sub (sD sR)
  refine xk 0 (text_c q h he v (hq.kept hM14.kept) (by omega) (cell_kept hdb hM14.kept) (check_right (by omega)) hu) (fun w15 m16 => ?_)
  have hM17 : Mem [] w w15 [] := Mem.join (R := []) hM14 m16
  refine xn 6 (textQ q) ?_
  refine xc 2 ((((textQ q).length : Nat) : Int) > 8192) (fun h19p => ?_) (fun h19p => ?_)
  ·
   exact xr 5 (v := .tuple #[sS ([]), .int .i64 4]) Tryz.func9 hR ⟨by rw [print_long (by omega) (by omega)], hM17.none⟩
  ·
   exact xr 7 (v := .tuple #[sS (textQ q), .int .i64 0]) Tryz.func9 hR ⟨by rw [print_ok (by omega) (by omega)], hM17.none⟩

set_option maxHeartbeats 1000000 in
theorem awake_c {w : World} (hG : GS [] w) :
  Calls Tryz.prog 8 #[] w (fun e w' => e = .returned (.bool true) ∧ Mem [] w w' []) := by
 refine xe 26 Tryz.func8 (fun R hR => ?_)
 have hM0 := Mem.start w
 refine xcg 6 (synparse_c ([116, 58, 34, 102, 111, 120, 34, 32, 45, 40, 110, 58, 91, 49, 46, 53, 32, 105, 110, 102, 93, 32, 124, 32, 116, 58, 34, 97, 34, 42, 41] : List UInt8) (by decide) (hG.kept hM0.kept)) ?_
 rintro _ w4 ⟨h1, u2, T3, rfl, he5, hqt6, m7⟩
 refine ⟨_, rfl, ?_⟩
 have hpb_ := parse_bulk ([116, 58, 34, 102, 111, 120, 34, 32, 45, 40, 110, 58, 91, 49, 46, 53, 32, 105, 110, 102, 93, 32, 124, 32, 116, 58, 34, 97, 34, 42, 41] : List UInt8)
 have hM8 : Mem [] w w4 (T3) := Mem.join0 (A := []) hM0 m7
 refine xx 4 (m_alloc oT25 hM8) (fun b9 w10 hM12 => ?_)
 refine xst 0 (c_stores (ys := [.int .i64 (h1.op), sS (h1.field), sS (h1.text), .int .i64 (h1.edits), .int .i64 (h1.exact), .int .u64 (h1.lo), .int .u64 (h1.hi), u2]) aE25 hM12 0 rfl (cel_obj b9 0) rfl (by decide) (by intro u hu; simp at hu; rcases hu with rfl | rfl | rfl | rfl | rfl | rfl | rfl | rfl <;> first | rfl | exact (QT.rd hM12 (fun r_ h_ => mS (h_)) hqt6).one.1)) (fun w14 hM16 => ?_)
 refine xv 5 (c_loads (ys := [.int .i64 (h1.op), sS (h1.field), sS (h1.text), .int .i64 (h1.edits), .int .i64 (h1.exact), .int .u64 (h1.lo), .int .u64 (h1.hi), u2]) aE25 (hM16.rd 0 rfl) (cel_obj b9 0) rfl (lq rfl)) ?_
 have hM20 := hM16.sub (sD sR)
 refine xk 0 (print_c (parseQ ([116, 58, 34, 102, 111, 120, 34, 32, 45, 40, 110, 58, 91, 49, 46, 53, 32, 105, 110, 102, 93, 32, 124, 32, 116, 58, 34, 97, 34, 42, 41] : List UInt8)).1 h1 he5 u2 (QT.rd hM20 (fun r_ h_ => h_) hqt6) (by omega) (hG.kept hM20.kept).now.deb (parse_num _)) (fun w21 m22 => ?_)
 have hM23 : Mem [] w w21 (T3) := Mem.join (R := []) hM20 m22
 refine xfc 11 18 ((parseQ ([116, 58, 34, 102, 111, 120, 34, 32, 45, 40, 110, 58, 91, 49, 46, 53, 32, 105, 110, 102, 93, 32, 124, 32, 116, 58, 34, 97, 34, 42, 41] : List UInt8)).2.2 = 0) (fun h24p => ?_) (fun h24p => ?_)
 ·
  refine xfc 4 22 ((printQ ((parseQ ([116, 58, 34, 102, 111, 120, 34, 32, 45, 40, 110, 58, 91, 49, 46, 53, 32, 105, 110, 102, 93, 32, 124, 32, 116, 58, 34, 97, 34, 42, 41] : List UInt8)).1)).2 = 0) (fun h25p => ?_) (fun h25p => ?_)
  ·
   refine xq 1 ((printQ ((parseQ ([116, 58, 34, 102, 111, 120, 34, 32, 45, 40, 110, 58, 91, 49, 46, 53, 32, 105, 110, 102, 93, 32, 124, 32, 116, 58, 34, 97, 34, 42, 41] : List UInt8)).1)).1) ([116, 58, 34, 102, 111, 120, 34, 32, 45, 40, 110, 58, 91, 35, 51, 102, 102, 56, 48, 48, 48, 48, 48, 48, 48, 48, 48, 48, 48, 48, 32, 35, 55, 102, 102, 48, 48, 48, 48, 48, 48, 48, 48, 48, 48, 48, 48, 48, 93, 32, 124, 32, 116, 58, 34, 97, 34, 42, 41] : List UInt8) ?_
   exact xr 3 (v := .bool (decide ((printQ ((parseQ ([116, 58, 34, 102, 111, 120, 34, 32, 45, 40, 110, 58, 91, 49, 46, 53, 32, 105, 110, 102, 93, 32, 124, 32, 116, 58, 34, 97, 34, 42, 41] : List UInt8)).1)).1 = ([116, 58, 34, 102, 111, 120, 34, 32, 45, 40, 110, 58, 91, 35, 51, 102, 102, 56, 48, 48, 48, 48, 48, 48, 48, 48, 48, 48, 48, 48, 32, 35, 55, 102, 102, 48, 48, 48, 48, 48, 48, 48, 48, 48, 48, 48, 48, 48, 93, 32, 124, 32, 116, 58, 34, 97, 34, 42, 41] : List UInt8)))) Tryz.func8 hR ⟨ret_bool (decide_eq_true (congrArg Prod.fst awk_print)), hM23.none⟩
  ·
   have h25 : ((printQ ((parseQ ([116, 58, 34, 102, 111, 120, 34, 32, 45, 40, 110, 58, 91, 49, 46, 53, 32, 105, 110, 102, 93, 32, 124, 32, 116, 58, 34, 97, 34, 42, 41] : List UInt8)).1)).2 == 0) = false := by simpa using h25p
   exact absurd (congrArg Prod.snd awk_print) (ne_of_beq_false h25)
 ·
  have h24 : ((parseQ ([116, 58, 34, 102, 111, 120, 34, 32, 45, 40, 110, 58, 91, 49, 46, 53, 32, 105, 110, 102, 93, 32, 124, 32, 116, 58, 34, 97, 34, 42, 41] : List UInt8)).2.2 == 0) = false := by simpa using h24p
  exact absurd awk_read (ne_of_beq_false h24)


end Go.Proofs.YthpodbngljfdmaaGreatDoor


namespace Go.Proofs.YthpodbngljfdmaaGreatDoor
open Go Go.Gw Go.UtfP Go.TokP Go.QryP Go.SynP Go.RealQ Go.SynV Go.RowKit
set_option linter.unusedVariables false
set_option linter.unusedSimpArgs false
set_option maxRecDepth 20000


set_option maxHeartbeats 400000 in
theorem rdig1_c (x : Int) (hx : 0 ≤ x ∧ x < 10) {w : World} :
  Calls Tryz.prog 39 #[.int .i64 x] w (fun e w' => e = .returned (sS (decW x)) ∧ Mem [] w w' []) := by
 have hb1_ : (bytesOf ([(48 + (x % 10))] : List Int)).length = 1 := rfl
 refine xe 18 Tryz.func39 (fun R hR => ?_)
 have hM0 := Mem.start w
 refine xo 7 .rem (.int .i64 x) (.int .i64 10) (v := .int .i64 (x % 10)) (fun _ => f_rem (by decide) (IntWalk.rem_in _ _ (by omega))) ?_
 refine xa 0 48 (x % 10) (48 + (x % 10)) ?_
 refine xcv 0 .i64 .u8 (48 + (x % 10)) (48 + (x % 10)) (IntWalk.u8_in _ (by omega)) ?_
 refine xx 0 (m_lit sT76 hM0 (n := 1) (parts := #[(0, .int .u8 (48 + (x % 10)))]) (cs := [.int .u8 (48 + (x % 10))]) (by decide) (by kernel_rfl) rfl) (fun v1 w2 hM4 => ?_)
 refine xv 0 (show (convert 76 9 (v1)).run Tryz.prog w2 = .ok (sS (bytesOf ([(48 + (x % 10))] : List Int))) w2 from f_string_i sT76 (by kernel_rfl) (by kernel_rfl) (hM4.rd 0 rfl) (by intro x_ hx_; simp at hx_; omega)) ?_
 have hM9 := hM4.sub (sD sR)
 refine xc 8 (x ≥ 10) (fun h10p => ?_) (fun h10p => ?_)
 ·
  exfalso
  omega
 ·
  exact xr 6 (v := sS (bytesOf ([(48 + (x % 10))] : List Int))) Tryz.func39 hR ⟨by rw [dec1 (by omega)], hM9.none⟩

set_option maxHeartbeats 400000 in
theorem rdig2_c (x : Int) (hx : 0 ≤ x ∧ x < 100) {w : World} :
  Calls Tryz.prog 39 #[.int .i64 x] w (fun e w' => e = .returned (sS (decW x)) ∧ Mem [] w w' []) := by
 have hb1_ : (bytesOf ([(48 + (x % 10))] : List Int)).length = 1 := rfl
 refine xe 18 Tryz.func39 (fun R hR => ?_)
 have hM0 := Mem.start w
 refine xo 7 .rem (.int .i64 x) (.int .i64 10) (v := .int .i64 (x % 10)) (fun _ => f_rem (by decide) (IntWalk.rem_in _ _ (by omega))) ?_
 refine xa 0 48 (x % 10) (48 + (x % 10)) ?_
 refine xcv 0 .i64 .u8 (48 + (x % 10)) (48 + (x % 10)) (IntWalk.u8_in _ (by omega)) ?_
 refine xx 0 (m_lit sT76 hM0 (n := 1) (parts := #[(0, .int .u8 (48 + (x % 10)))]) (cs := [.int .u8 (48 + (x % 10))]) (by decide) (by kernel_rfl) rfl) (fun v1 w2 hM4 => ?_)
 refine xv 0 (show (convert 76 9 (v1)).run Tryz.prog w2 = .ok (sS (bytesOf ([(48 + (x % 10))] : List Int))) w2 from f_string_i sT76 (by kernel_rfl) (by kernel_rfl) (hM4.rd 0 rfl) (by intro x_ hx_; simp at hx_; omega)) ?_
 have hM9 := hM4.sub (sD sR)
 refine xc 8 (x ≥ 10) (fun h10p => ?_) (fun h10p => ?_)
 ·
  refine xo 2 .quo (.int .i64 x) (.int .i64 10) (v := .int .i64 (x / 10)) (fun _ => f_quo (by decide) (IntWalk.i64_quo _ _ (by omega))) ?_
  have hdl15 := decW_len (x / 10)
  refine xk 0 (rdig1_c (w := w2) (x / 10) (by omega)) (fun w12 m13 => ?_)
  have hM14 : Mem [] w w12 [] := Mem.join (R := []) hM9 m13
  refine xqa 1 (decW (x / 10)) (bytesOf ([(48 + (x % 10))] : List Int)) ?_ (hl := (by first | omega | (simp only [List.length_append, List.length_cons, List.length_nil, hxd_len, List.length_drop, List.length_take]; omega)))
  exact xr 7 (v := sS ((decW (x / 10)) ++ (bytesOf ([(48 + (x % 10))] : List Int)))) Tryz.func39 hR ⟨by rw [dec2 (by omega)], hM14.none⟩
 ·
  exact xr 6 (v := sS (bytesOf ([(48 + (x % 10))] : List Int))) Tryz.func39 hR ⟨by rw [dec1 (by omega)], hM9.none⟩

set_option maxHeartbeats 400000 in
theorem rhex_L (u : Nat) (hu : u < 18446744073709551616) {w : World} (R : Ending → World → Prop) (hR : R = (fun e w' => e = .returned (sS (bitsP u)) ∧ w = w')) : ∀ (N : Nat) (i n : Nat) (X : List UInt8) (hi : i ≤ 16) (hn : n < 18446744073709551616) (hX : lowD (16 - i) n ++ X = lowD 16 u) (hl : X.length = i) (hN : 16 - i < N), GoS Tryz.prog 37 R 21 [iC Tryz.f37 [1,1,0,1,0,0], iL Tryz.f37 [1,1,0,1,0,0], .inBlock 0, iC Tryz.f37 [1,1,1]] [(0, .int .u64 ((n : Nat) : Int)), (3, sS X), (4, iN i)] w := by
 intro N
 induction N with
 | zero => intro i n X hi hn hX hl hN; exact absurd hN (Nat.not_lt_zero _)
 | succ N ih =>
  intro i n X hi hn hX hl hN
  refine xs ?_
  refine xc 6 (((i : Nat) : Int) < 16) (fun h1p => ?_) (fun h1p => ?_)
  ·
   refine xo 6 .rem (.int .u64 ((n : Nat) : Int)) (.int .u64 16) (v := .int .u64 (((n % 16) : Nat) : Int)) (fun _ => f_rem (by decide) ((IntWalk.rem_in _ _ (by omega)).trans (by omega))) ?_
   refine xo 1 .rem (.int .u64 ((n : Nat) : Int)) (.int .u64 16) (v := .int .u64 (((n % 16) : Nat) : Int)) (fun _ => f_rem (by decide) ((IntWalk.rem_in _ _ (by omega)).trans (by omega))) ?_
   refine xadd 0 .u64 (((n % 16) : Nat) : Int) 1 ((((n % 16) + 1) : Nat) : Int) (by rw [show (((n % 16) : Nat) : Int) + 1 = ((((n % 16) + 1) : Nat) : Int) by omega]; exact IntWalk.u64_in _ (by omega)) ?_
   refine xv 0 (show (Instr.sliceAt 9 (sS ([48, 49, 50, 51, 52, 53, 54, 55, 56, 57, 97, 98, 99, 100, 101, 102] : List UInt8)) (some (.int .u64 (((n % 16) : Nat) : Int))) (some (.int .u64 ((((n % 16) + 1) : Nat) : Int))) none).run Tryz.prog w = .ok (sS (hxd (n % 16))) w from (by rw [← hexS_of n]; exact f_slice_lohi (n % 16) (n % 16 + 1) (by kernel_rfl) (by omega) (by omega) (by omega) (by show n % 16 + 1 ≤ 16; omega))) ?_
   refine xqa 1 (hxd (n % 16)) X ?_ (hl := (by first | omega | (simp only [List.length_append, List.length_cons, List.length_nil, hxd_len, List.length_drop, List.length_take]; omega)))
   refine xo 4 .quo (.int .u64 ((n : Nat) : Int)) (.int .u64 16) (v := .int .u64 (((n / 16) : Nat) : Int)) (fun _ => f_quo (by decide) ((IntWalk.u64_quo _ _ (by omega)).trans (by omega))) ?_
   refine xa 5 ((i : Nat) : Int) 1 (((i + 1) : Nat) : Int) ?_
   obtain ⟨j, hj⟩ : ∃ j, 16 - i = j + 1 := ⟨15 - i, by omega⟩
   exact xl 3 (ih (i + 1) (n / 16) _ (by omega) (by omega) (by rw [← hX, hj, show 16 - (i + 1) = j by omega, ← List.append_assoc]; rfl) (by rw [List.length_append, hxd_len]; omega) (by omega))
  ·
   refine xqa 4 ([35] : List UInt8) X ?_ (hl := (by first | omega | (simp only [List.length_append, List.length_cons, List.length_nil, hxd_len, List.length_drop, List.length_take]; omega)))
   exact xr 2 (v := sS (([35] : List UInt8) ++ X)) Tryz.func37 hR ⟨by rw [← hex_all hu, ← hX, show 16 - i = 0 by omega]; rfl, rfl⟩

set_option maxHeartbeats 400000 in
theorem rhex_c (u : Nat) (hu : u < 18446744073709551616) {w : World} :
  Calls Tryz.prog 37 #[.int .u64 ((u : Nat) : Int)] w (fun e w' => e = .returned (sS (bitsP u)) ∧ w = w') := by
 refine xe 21 Tryz.func37 (fun R hR => ?_)
 exact xl 15 (rhex_L u hu R hR 17 0 u [] (by omega) (by omega) (by show lowD 16 u ++ [] = _; rw [List.append_nil]) rfl (by omega))

theorem rhex_m (x : Int) (hx : 0 ≤ x ∧ x < 18446744073709551616) (w : World) : Calls Tryz.prog 37 #[.int .u64 x] w (fun e w' => e = .returned (sS (bitsP x.toNat)) ∧ w = w') := by
 have h := rhex_c x.toNat (by omega) (w := w)
 rwa [show ((x.toNat : Nat) : Int) = x by omega] at h

set_option maxHeartbeats 400000 in
theorem rquote_L (s : List UInt8) (hs : s.length ≤ 17592186044416) {w : World} (R : Ending → World → Prop) (hR : R = (fun e w' => e = .returned (sS (quoteW s)) ∧ w = w')) : ∀ (N : Nat) (i : Nat) (X : List UInt8) (hi : i ≤ s.length) (hX : X = quoI s i) (hN : s.length - i < N), GoS Tryz.prog 38 R 32 [iC Tryz.f38 [1,1,0,1,0,0], iL Tryz.f38 [1,1,0,1,0,0], .inBlock 0, iC Tryz.f38 [1,1,1]] [(0, sS s), (3, sS X), (4, iN i)] w := by
 intro N
 induction N with
 | zero => intro i X hi hX hN; exact absurd hN (Nat.not_lt_zero _)
 | succ N ih =>
  intro i X hi hX hN
  have hXl_ : X.length ≤ 2 * s.length + 1 := by rw [hX]; exact quoI_len s i
  refine xs ?_
  refine xn 5 s ?_
  refine xc 2 (((i : Nat) : Int) < ((s.length : Nat) : Int)) (fun h2p => ?_) (fun h2p => ?_)
  ·
   have hb4 := bl_bd s i
   refine xi 8 s ((i : Nat) : Int) i ?_
   refine xfc 2 15 ((bl s i) = 34) (fun h6p => ?_) (fun h6p => ?_)
   ·
    refine xqa 9 X ([92] : List UInt8) ?_ (hl := (by first | omega | (simp only [List.length_append, List.length_cons, List.length_nil, hxd_len, List.length_drop, List.length_take]; omega)))
    refine xa 7 ((i : Nat) : Int) 1 (((i + 1) : Nat) : Int) ?_
    refine xsb 0 s ((i : Nat) : Int) (((i + 1) : Nat) : Int) i (i + 1) ?_
    refine xqa 0 (X ++ ([92] : List UInt8)) (List.drop i (List.take (i + 1) s)) ?_ (hl := (by first | omega | (simp only [List.length_append, List.length_cons, List.length_nil, hxd_len, List.length_drop, List.length_take]; omega)))
    refine xa 5 ((i : Nat) : Int) 1 (((i + 1) : Nat) : Int) ?_
    exact xl 3 (ih (i + 1) ((X ++ ([92] : List UInt8)) ++ (List.drop i (List.take (i + 1) s))) (by omega) (by rw [hX, quoI_two (by omega) (by omega)]) (by omega))
   ·
    have hb7 := bl_bd s i
    refine xi 2 s ((i : Nat) : Int) i ?_
    refine xc 3 ((bl s i) = 92) (fun h14p => ?_) (fun h14p => ?_)
    ·
     refine xqa 2 X ([92] : List UInt8) ?_ (hl := (by first | omega | (simp only [List.length_append, List.length_cons, List.length_nil, hxd_len, List.length_drop, List.length_take]; omega)))
     refine xa 7 ((i : Nat) : Int) 1 (((i + 1) : Nat) : Int) ?_
     refine xsb 0 s ((i : Nat) : Int) (((i + 1) : Nat) : Int) i (i + 1) ?_
     refine xqa 0 (X ++ ([92] : List UInt8)) (List.drop i (List.take (i + 1) s)) ?_ (hl := (by first | omega | (simp only [List.length_append, List.length_cons, List.length_nil, hxd_len, List.length_drop, List.length_take]; omega)))
     refine xa 5 ((i : Nat) : Int) 1 (((i + 1) : Nat) : Int) ?_
     exact xl 3 (ih (i + 1) ((X ++ ([92] : List UInt8)) ++ (List.drop i (List.take (i + 1) s))) (by omega) (by rw [hX, quoI_two (by omega) (by omega)]) (by omega))
    ·
     refine xa 6 ((i : Nat) : Int) 1 (((i + 1) : Nat) : Int) ?_
     refine xsb 0 s ((i : Nat) : Int) (((i + 1) : Nat) : Int) i (i + 1) ?_
     refine xqa 0 X (List.drop i (List.take (i + 1) s)) ?_ (hl := (by first | omega | (simp only [List.length_append, List.length_cons, List.length_nil, hxd_len, List.length_drop, List.length_take]; omega)))
     refine xa 5 ((i : Nat) : Int) 1 (((i + 1) : Nat) : Int) ?_
     exact xl 3 (ih (i + 1) (X ++ (List.drop i (List.take (i + 1) s))) (by omega) (by rw [hX, quoI_one (by omega) (by omega) (by omega)]) (by omega))
  ·
   refine xqa 4 X ([34] : List UInt8) ?_ (hl := (by first | omega | (simp only [List.length_append, List.length_cons, List.length_nil, hxd_len, List.length_drop, List.length_take]; omega)))
   exact xr 2 (v := sS (X ++ ([34] : List UInt8))) Tryz.func38 hR ⟨by rw [hX, quoI_all (by omega)], rfl⟩

set_option maxHeartbeats 400000 in
theorem rquote_c (s : List UInt8) (hs : s.length ≤ 17592186044416) {w : World} :
  Calls Tryz.prog 38 #[sS s] w (fun e w' => e = .returned (sS (quoteW s)) ∧ w = w') := by
 refine xe 32 Tryz.func38 (fun R hR => ?_)
 exact xl 15 (rquote_L s hs R hR (s.length + 1) 0 [34] (by omega) rfl (by omega))


end Go.Proofs.YthpodbngljfdmaaGreatDoor


namespace Go.Proofs.YthpodbngljfdmaaGreatDoor
open Go Go.Gw Go.UtfP Go.TokP Go.QryP Go.SynP Go.RealQ Go.SynV Go.RowKit
set_option linter.unusedVariables false
set_option linter.unusedSimpArgs false
set_option maxRecDepth 20000

abbrev uRefB0 : List Nat := [1,0,1,0,1,1,1,1,1,0,1,0,1,0,0]
abbrev uRefB1 : List Nat := [1,0,1,0,1,1,1,1,1,0,1,1]
set_option maxHeartbeats 4000000 in
theorem rtext_L (N : Nat) (ih : ∀ (q : Q), bulkQ q < N → ∀ {w : World} (h : Hd) (he : h = q.h) (v : Value) (hq : RdQ w q v) (hb : bulkQ q ≤ 1048576) (hri : rightQ q = true) (hu : numQ q), Calls Tryz.prog 19 #[.agg #[.int .i64 (h.op), sS (h.field), sS (h.text), .int .i64 (h.edits), .int .i64 (h.exact), .int .u64 (h.lo), .int .u64 (h.hi), v]] w (fun e w' => e = .returned (sS (textQ q)) ∧ Mem [] w w' [])) {w0 : World} (q : Q) (h : Hd) (he : h = q.h) (v : Value) (hq : RdQ w0 q v) (hb : bulkQ q ≤ 1048576) (L : List QN) (hr : Rd w0 8 v L.length (recs qnC L)) (hl : L.length = q.l.length) (hh : ∀ j, j < q.l.length → (L.getD j qz).h = (q.l.getD j q0).h) (hs : ∀ j, j < q.l.length → RdQ w0 (q.l.getD j q0) (L.getD j qz).parts) (hri : rightQ q = true) (hu : numQ q) (hN : bulkQ q = N) (hop : q.h.op = 7 ∨ q.h.op = 8) (b : Nat) (R : Ending → World → Prop) (hR : R = (fun e w' => e = .returned (sS (textQ q)) ∧ Mem [] w0 w' [])) : ∀ (M_ : Nat) (i : Nat) (X : List UInt8) (w : World) (hi : i ≤ L.length) (hX : X = rowI q i) (hM : Mem [] w0 w [⟨25, 8, (obj b), 1, [.int .i64 (h.op), sS (h.field), sS (h.text), .int .i64 (h.edits), .int .i64 (h.exact), .int .u64 (h.lo), .int .u64 (h.hi), v]⟩]) (hN : L.length - i < M_), GoS Tryz.prog 19 R 143 [iC Tryz.f19 uRefB0, iL Tryz.f19 uRefB0, .inBlock 1, iC Tryz.f19 uRefB1, .inBlock 0, iC Tryz.f19 [1,1]] [(1, pq b), (4, sS X), (5, iN i)] w := by
 intro M_
 induction M_ with
 | zero => intro i X w hi hX hM hN; exact absurd hN (Nat.not_lt_zero _)
 | succ M_ ih_ =>
  intro i X w hi hX hM hN
  have hbl : bulkL q.l + q.h.field.length + q.h.text.length + 1 = bulkQ q := by cases q; rw [bulkQ_mk]; rfl
  have hln := bulk_len q.l
  have hoq_ : q.h.op = h.op := by rw [he]
  have hXl_ : X.length ≤ 64 * bulkL q.l := by rw [hX]; exact rowI_len hop
  refine xs ?_
  refine xv 5 (c_load pE23 (hM.rd 0 rfl) (cel_obj b 7) rfl) ?_
  refine xv 0 (f_slen sT23 (hr.kept0 hM.kept) 3 w) ?_
  refine xc 2 (((i : Nat) : Int) < (((List.length L) : Nat) : Int)) (fun h3p => ?_) (fun h3p => ?_)
  ·
   refine xv 6 (c_load pE23 (hM.rd 0 rfl) (cel_obj b 7) rfl) ?_
   refine xat 1 sT23 (hr.kept0 hM.kept) ((i : Nat) : Int) i (fun p5 hp6 => ?_) (hj := (by first | omega | (dsimp only; omega) | (show Int.toNat h.op < 6; omega)))
   refine xv 0 (r_loads (f := qnC) (l := L) aE25 (hr.kept0 hM.kept) qnC_len hp6 (by first | omega | (dsimp only; omega) | (show Int.toNat h.op < 6; omega)) qz) ?_
   have hkb14 := bulk_kid (l := q.l) (i := i) (by omega)
   have hks15 := size_le (List.getD q.l i q0)
   have hbs16 := bulk_step (l := q.l) (i := i) (by omega)
   have htl17 := textQ_len (List.getD q.l i q0)
   refine xk 0 (ih (List.getD q.l i q0) (by omega) ((List.getD L i qz).h) (hh i (by omega)) ((List.getD L i qz).parts) ((hs i (by omega)).kept hM.kept) (by omega) (kid_right (by omega) (right_q hri).1) (kid_num (by omega) (num_q hu).2.2)) (fun w11 m12 => ?_)
   have hM13 : Mem [] w0 w11 [⟨25, 8, (obj b), 1, [.int .i64 (h.op), sS (h.field), sS (h.text), .int .i64 (h.edits), .int .i64 (h.exact), .int .u64 (h.lo), .int .u64 (h.hi), v]⟩] := Mem.join (R := []) hM m12
   refine xv 6 (c_load pE23 (hM13.rd 0 rfl) (cel_obj b 7) rfl) ?_
   refine xat 1 sT23 (hr.kept0 hM13.kept) ((i : Nat) : Int) i (fun p18 hp19 => ?_) (hj := (by first | omega | (dsimp only; omega) | (show Int.toNat h.op < 6; omega)))
   refine xv 1 (c_load pE3 (hr.kept0 hM13.kept) (Cel.add (At.cel hp19) 0) (recs_at (i := 0) qnC_len qz (by first | omega | (dsimp only; omega) | (show Int.toNat h.op < 6; omega)) rfl)) ?_
   refine xfc 2 61 (((List.getD L i qz).h.op) = 8) (fun h24p => ?_) (fun h24p => ?_)
   ·
    refine xqa 17 ([40] : List UInt8) (textQ (List.getD q.l i q0)) ?_ (hl := (by first | omega | (simp only [List.length_append, List.length_cons, List.length_nil, hxd_len, List.length_drop, List.length_take]; omega)))
    refine xqa 0 (([40] : List UInt8) ++ (textQ (List.getD q.l i q0))) ([41] : List UInt8) ?_ (hl := (by first | omega | (simp only [List.length_append, List.length_cons, List.length_nil, hxd_len, List.length_drop, List.length_take]; omega)))
    refine xfc 8 80 (((i : Nat) : Int) > 0) (fun h35p => ?_) (fun h35p => ?_)
    ·
     have h35 : (decide (((i : Nat) : Int) > 0)) = true := decide_eq_true h35p
     refine xv 1 (c_load pE3 (hM13.rd 0 rfl) (cel_obj b 0) rfl) ?_
     refine xc 3 (h.op = 7) (fun h37p => ?_) (fun h37p => ?_)
     ·
      refine xqa 2 X ([32] : List UInt8) ?_ (hl := (by first | omega | (simp only [List.length_append, List.length_cons, List.length_nil, hxd_len, List.length_drop, List.length_take]; omega)))
      refine xfc 8 89 (((i : Nat) : Int) > 0) (fun h39p => ?_) (fun h39p => ?_)
      ·
       refine xv 1 (c_load pE3 (hM13.rd 0 rfl) (cel_obj b 0) rfl) ?_
       refine xc 3 (h.op = 8) (fun h41p => ?_) (fun h41p => ?_)
       ·
        refine xqa 2 (X ++ ([32] : List UInt8)) ([32, 124, 32] : List UInt8) ?_ (hl := (by first | omega | (simp only [List.length_append, List.length_cons, List.length_nil, hxd_len, List.length_drop, List.length_take]; omega)))
        refine xqa 5 ((X ++ ([32] : List UInt8)) ++ ([32, 124, 32] : List UInt8)) ((([40] : List UInt8) ++ (textQ (List.getD q.l i q0))) ++ ([41] : List UInt8)) ?_ (hl := (by first | omega | (simp only [List.length_append, List.length_cons, List.length_nil, hxd_len, List.length_drop, List.length_take]; omega)))
        refine xa 5 ((i : Nat) : Int) 1 (((i + 1) : Nat) : Int) ?_
        refine xl 3 (k := [iC Tryz.f19 uRefB0, iL Tryz.f19 uRefB0, .inBlock 1, iC Tryz.f19 uRefB1, .inBlock 0, iC Tryz.f19 [1,1]]) (l := [(1, pq b), (4, sS (((X ++ ([32] : List UInt8)) ++ ([32, 124, 32] : List UInt8)) ++ ((([40] : List UInt8) ++ (textQ (List.getD q.l i q0))) ++ ([41] : List UInt8)))), (5, iN (i + 1))]) ?_
        exfalso
        omega
       ·
        refine xqa 4 (X ++ ([32] : List UInt8)) ((([40] : List UInt8) ++ (textQ (List.getD q.l i q0))) ++ ([41] : List UInt8)) ?_ (hl := (by first | omega | (simp only [List.length_append, List.length_cons, List.length_nil, hxd_len, List.length_drop, List.length_take]; omega)))
        refine xa 5 ((i : Nat) : Int) 1 (((i + 1) : Nat) : Int) ?_
        refine xl 3 (k := [iC Tryz.f19 uRefB0, iL Tryz.f19 uRefB0, .inBlock 1, iC Tryz.f19 uRefB1, .inBlock 0, iC Tryz.f19 [1,1]]) (l := [(1, pq b), (4, sS ((X ++ ([32] : List UInt8)) ++ ((([40] : List UInt8) ++ (textQ (List.getD q.l i q0))) ++ ([41] : List UInt8)))), (5, iN (i + 1))]) ?_
        have hkh_ := hh i (by omega)
        refine ih_ (i + 1) _ _ (by omega) ?_ (hM13.sub (sK sN)) (by omega)
        rw [← rowI_step (show i < q.l.length by omega) (by omega), ← pt_yes (q := q) hkh_ (by omega) hop, hX, show sepQ q.h.op = [32] from if_pos (by omega)]
      ·
       have h39 : (decide (((i : Nat) : Int) > 0)) = false := decide_eq_false h39p
       rw [h35] at h39; cases h39
     ·
      refine xfc 7 89 (((i : Nat) : Int) > 0) (fun h47p => ?_) (fun h47p => ?_)
      ·
       refine xv 1 (c_load pE3 (hM13.rd 0 rfl) (cel_obj b 0) rfl) ?_
       refine xc 3 (h.op = 8) (fun h49p => ?_) (fun h49p => ?_)
       ·
        refine xqa 2 X ([32, 124, 32] : List UInt8) ?_ (hl := (by first | omega | (simp only [List.length_append, List.length_cons, List.length_nil, hxd_len, List.length_drop, List.length_take]; omega)))
        refine xqa 5 (X ++ ([32, 124, 32] : List UInt8)) ((([40] : List UInt8) ++ (textQ (List.getD q.l i q0))) ++ ([41] : List UInt8)) ?_ (hl := (by first | omega | (simp only [List.length_append, List.length_cons, List.length_nil, hxd_len, List.length_drop, List.length_take]; omega)))
        refine xa 5 ((i : Nat) : Int) 1 (((i + 1) : Nat) : Int) ?_
        refine xl 3 (k := [iC Tryz.f19 uRefB0, iL Tryz.f19 uRefB0, .inBlock 1, iC Tryz.f19 uRefB1, .inBlock 0, iC Tryz.f19 [1,1]]) (l := [(1, pq b), (4, sS ((X ++ ([32, 124, 32] : List UInt8)) ++ ((([40] : List UInt8) ++ (textQ (List.getD q.l i q0))) ++ ([41] : List UInt8)))), (5, iN (i + 1))]) ?_
        have hkh_ := hh i (by omega)
        refine ih_ (i + 1) _ _ (by omega) ?_ (hM13.sub (sK sN)) (by omega)
        rw [← rowI_step (show i < q.l.length by omega) (by omega), ← pt_yes (q := q) hkh_ (by omega) hop, hX, show sepQ q.h.op = [32, 124, 32] from if_neg (by omega)]
       ·
        refine xqa 4 X ((([40] : List UInt8) ++ (textQ (List.getD q.l i q0))) ++ ([41] : List UInt8)) ?_ (hl := (by first | omega | (simp only [List.length_append, List.length_cons, List.length_nil, hxd_len, List.length_drop, List.length_take]; omega)))
        refine xa 5 ((i : Nat) : Int) 1 (((i + 1) : Nat) : Int) ?_
        refine xl 3 (k := [iC Tryz.f19 uRefB0, iL Tryz.f19 uRefB0, .inBlock 1, iC Tryz.f19 uRefB1, .inBlock 0, iC Tryz.f19 [1,1]]) (l := [(1, pq b), (4, sS (X ++ ((([40] : List UInt8) ++ (textQ (List.getD q.l i q0))) ++ ([41] : List UInt8)))), (5, iN (i + 1))]) ?_
        have hkh_ := hh i (by omega)
        obtain rfl : i = 0 := by omega
        refine ih_ 1 _ _ (by omega) ?_ (hM13.sub (sK sN)) (by omega)
        rw [← rowI_first (show 0 < q.l.length by omega), ← pt_yes (q := q) hkh_ (by omega) hop, hX, rowI_zero, List.nil_append]
      ·
       have h47 : (decide (((i : Nat) : Int) > 0)) = false := decide_eq_false h47p
       rw [h35] at h47; cases h47
    ·
     have h35 : (decide (((i : Nat) : Int) > 0)) = false := decide_eq_false h35p
     refine xfc 13 89 (((i : Nat) : Int) > 0) (fun h55p => ?_) (fun h55p => ?_)
     ·
      have h55 : (decide (((i : Nat) : Int) > 0)) = true := decide_eq_true h55p
      rw [h35] at h55; cases h55
     ·
      refine xqa 10 X ((([40] : List UInt8) ++ (textQ (List.getD q.l i q0))) ++ ([41] : List UInt8)) ?_ (hl := (by first | omega | (simp only [List.length_append, List.length_cons, List.length_nil, hxd_len, List.length_drop, List.length_take]; omega)))
      refine xa 5 ((i : Nat) : Int) 1 (((i + 1) : Nat) : Int) ?_
      refine xl 3 (k := [iC Tryz.f19 uRefB0, iL Tryz.f19 uRefB0, .inBlock 1, iC Tryz.f19 uRefB1, .inBlock 0, iC Tryz.f19 [1,1]]) (l := [(1, pq b), (4, sS (X ++ ((([40] : List UInt8) ++ (textQ (List.getD q.l i q0))) ++ ([41] : List UInt8)))), (5, iN (i + 1))]) ?_
      have hkh_ := hh i (by omega)
      obtain rfl : i = 0 := by omega
      refine ih_ 1 _ _ (by omega) ?_ (hM13.sub (sK sN)) (by omega)
      rw [← rowI_first (show 0 < q.l.length by omega), ← pt_yes (q := q) hkh_ (by omega) hop, hX, rowI_zero, List.nil_append]
   ·
    refine xv 1 (c_load pE23 (hM13.rd 0 rfl) (cel_obj b 7) rfl) ?_
    refine xat 1 sT23 (hr.kept0 hM13.kept) ((i : Nat) : Int) i (fun p25 hp26 => ?_) (hj := (by first | omega | (dsimp only; omega) | (show Int.toNat h.op < 6; omega)))
    refine xv 1 (c_load pE3 (hr.kept0 hM13.kept) (Cel.add (At.cel hp26) 0) (recs_at (i := 0) qnC_len qz (by first | omega | (dsimp only; omega) | (show Int.toNat h.op < 6; omega)) rfl)) ?_
    refine xfc 2 69 (((List.getD L i qz).h.op) = 7) (fun h31p => ?_) (fun h31p => ?_)
    ·
     refine xv 1 (c_load pE3 (hM13.rd 0 rfl) (cel_obj b 0) rfl) ?_
     refine xc 4 (h.op = 7) (fun h58p => ?_) (fun h58p => ?_)
     ·
      have h58 : (h.op == 7) = true := by simpa using h58p
      refine xqa 2 ([40] : List UInt8) (textQ (List.getD q.l i q0)) ?_ (hl := (by first | omega | (simp only [List.length_append, List.length_cons, List.length_nil, hxd_len, List.length_drop, List.length_take]; omega)))
      refine xqa 0 (([40] : List UInt8) ++ (textQ (List.getD q.l i q0))) ([41] : List UInt8) ?_ (hl := (by first | omega | (simp only [List.length_append, List.length_cons, List.length_nil, hxd_len, List.length_drop, List.length_take]; omega)))
      refine xfc 8 80 (((i : Nat) : Int) > 0) (fun h61p => ?_) (fun h61p => ?_)
      ·
       have h61 : (decide (((i : Nat) : Int) > 0)) = true := decide_eq_true h61p
       refine xv 1 (c_load pE3 (hM13.rd 0 rfl) (cel_obj b 0) rfl) ?_
       refine xc 3 (h.op = 7) (fun h63p => ?_) (fun h63p => ?_)
       ·
        refine xqa 2 X ([32] : List UInt8) ?_ (hl := (by first | omega | (simp only [List.length_append, List.length_cons, List.length_nil, hxd_len, List.length_drop, List.length_take]; omega)))
        refine xfc 8 89 (((i : Nat) : Int) > 0) (fun h65p => ?_) (fun h65p => ?_)
        ·
         refine xv 1 (c_load pE3 (hM13.rd 0 rfl) (cel_obj b 0) rfl) ?_
         refine xc 3 (h.op = 8) (fun h67p => ?_) (fun h67p => ?_)
         ·
          refine xqa 2 (X ++ ([32] : List UInt8)) ([32, 124, 32] : List UInt8) ?_ (hl := (by first | omega | (simp only [List.length_append, List.length_cons, List.length_nil, hxd_len, List.length_drop, List.length_take]; omega)))
          refine xqa 5 ((X ++ ([32] : List UInt8)) ++ ([32, 124, 32] : List UInt8)) ((([40] : List UInt8) ++ (textQ (List.getD q.l i q0))) ++ ([41] : List UInt8)) ?_ (hl := (by first | omega | (simp only [List.length_append, List.length_cons, List.length_nil, hxd_len, List.length_drop, List.length_take]; omega)))
          refine xa 5 ((i : Nat) : Int) 1 (((i + 1) : Nat) : Int) ?_
          refine xl 3 (k := [iC Tryz.f19 uRefB0, iL Tryz.f19 uRefB0, .inBlock 1, iC Tryz.f19 uRefB1, .inBlock 0, iC Tryz.f19 [1,1]]) (l := [(1, pq b), (4, sS (((X ++ ([32] : List UInt8)) ++ ([32, 124, 32] : List UInt8)) ++ ((([40] : List UInt8) ++ (textQ (List.getD q.l i q0))) ++ ([41] : List UInt8)))), (5, iN (i + 1))]) ?_
          exfalso
          omega
         ·
          refine xqa 4 (X ++ ([32] : List UInt8)) ((([40] : List UInt8) ++ (textQ (List.getD q.l i q0))) ++ ([41] : List UInt8)) ?_ (hl := (by first | omega | (simp only [List.length_append, List.length_cons, List.length_nil, hxd_len, List.length_drop, List.length_take]; omega)))
          refine xa 5 ((i : Nat) : Int) 1 (((i + 1) : Nat) : Int) ?_
          refine xl 3 (k := [iC Tryz.f19 uRefB0, iL Tryz.f19 uRefB0, .inBlock 1, iC Tryz.f19 uRefB1, .inBlock 0, iC Tryz.f19 [1,1]]) (l := [(1, pq b), (4, sS ((X ++ ([32] : List UInt8)) ++ ((([40] : List UInt8) ++ (textQ (List.getD q.l i q0))) ++ ([41] : List UInt8)))), (5, iN (i + 1))]) ?_
          have hkh_ := hh i (by omega)
          refine ih_ (i + 1) _ _ (by omega) ?_ (hM13.sub (sK sN)) (by omega)
          rw [← rowI_step (show i < q.l.length by omega) (by omega), ← pt_yes (q := q) hkh_ (by omega) hop, hX, show sepQ q.h.op = [32] from if_pos (by omega)]
        ·
         have h65 : (decide (((i : Nat) : Int) > 0)) = false := decide_eq_false h65p
         rw [h61] at h65; cases h65
       ·
        have h63 : (h.op == 7) = false := by simpa using h63p
        rw [h58] at h63; cases h63
      ·
       have h61 : (decide (((i : Nat) : Int) > 0)) = false := decide_eq_false h61p
       refine xfc 13 89 (((i : Nat) : Int) > 0) (fun h73p => ?_) (fun h73p => ?_)
       ·
        have h73 : (decide (((i : Nat) : Int) > 0)) = true := decide_eq_true h73p
        rw [h61] at h73; cases h73
       ·
        refine xqa 10 X ((([40] : List UInt8) ++ (textQ (List.getD q.l i q0))) ++ ([41] : List UInt8)) ?_ (hl := (by first | omega | (simp only [List.length_append, List.length_cons, List.length_nil, hxd_len, List.length_drop, List.length_take]; omega)))
        refine xa 5 ((i : Nat) : Int) 1 (((i + 1) : Nat) : Int) ?_
        refine xl 3 (k := [iC Tryz.f19 uRefB0, iL Tryz.f19 uRefB0, .inBlock 1, iC Tryz.f19 uRefB1, .inBlock 0, iC Tryz.f19 [1,1]]) (l := [(1, pq b), (4, sS (X ++ ((([40] : List UInt8) ++ (textQ (List.getD q.l i q0))) ++ ([41] : List UInt8)))), (5, iN (i + 1))]) ?_
        have hkh_ := hh i (by omega)
        obtain rfl : i = 0 := by omega
        refine ih_ 1 _ _ (by omega) ?_ (hM13.sub (sK sN)) (by omega)
        rw [← rowI_first (show 0 < q.l.length by omega), ← pt_yes (q := q) hkh_ (by omega) hop, hX, rowI_zero, List.nil_append]
     ·
      have h58 : (h.op == 7) = false := by simpa using h58p
      refine xfc 7 80 (((i : Nat) : Int) > 0) (fun h76p => ?_) (fun h76p => ?_)
      ·
       have h76 : (decide (((i : Nat) : Int) > 0)) = true := decide_eq_true h76p
       refine xv 1 (c_load pE3 (hM13.rd 0 rfl) (cel_obj b 0) rfl) ?_
       refine xc 3 (h.op = 7) (fun h78p => ?_) (fun h78p => ?_)
       ·
        have h78 : (h.op == 7) = true := by simpa using h78p
        rw [h58] at h78; cases h78
       ·
        refine xfc 7 89 (((i : Nat) : Int) > 0) (fun h79p => ?_) (fun h79p => ?_)
        ·
         refine xv 1 (c_load pE3 (hM13.rd 0 rfl) (cel_obj b 0) rfl) ?_
         refine xc 3 (h.op = 8) (fun h81p => ?_) (fun h81p => ?_)
         ·
          refine xqa 2 X ([32, 124, 32] : List UInt8) ?_ (hl := (by first | omega | (simp only [List.length_append, List.length_cons, List.length_nil, hxd_len, List.length_drop, List.length_take]; omega)))
          refine xqa 5 (X ++ ([32, 124, 32] : List UInt8)) (textQ (List.getD q.l i q0)) ?_ (hl := (by first | omega | (simp only [List.length_append, List.length_cons, List.length_nil, hxd_len, List.length_drop, List.length_take]; omega)))
          refine xa 5 ((i : Nat) : Int) 1 (((i + 1) : Nat) : Int) ?_
          refine xl 3 (k := [iC Tryz.f19 uRefB0, iL Tryz.f19 uRefB0, .inBlock 1, iC Tryz.f19 uRefB1, .inBlock 0, iC Tryz.f19 [1,1]]) (l := [(1, pq b), (4, sS ((X ++ ([32, 124, 32] : List UInt8)) ++ (textQ (List.getD q.l i q0)))), (5, iN (i + 1))]) ?_
          have hkh_ := hh i (by omega)
          refine ih_ (i + 1) _ _ (by omega) ?_ (hM13.sub (sK sN)) (by omega)
          rw [← rowI_step (show i < q.l.length by omega) (by omega), ← pt_no (q := q) hkh_ (by omega) (by omega) hop, hX, show sepQ q.h.op = [32, 124, 32] from if_neg (by omega)]
         ·
          refine xqa 4 X (textQ (List.getD q.l i q0)) ?_ (hl := (by first | omega | (simp only [List.length_append, List.length_cons, List.length_nil, hxd_len, List.length_drop, List.length_take]; omega)))
          refine xa 5 ((i : Nat) : Int) 1 (((i + 1) : Nat) : Int) ?_
          refine xl 3 (k := [iC Tryz.f19 uRefB0, iL Tryz.f19 uRefB0, .inBlock 1, iC Tryz.f19 uRefB1, .inBlock 0, iC Tryz.f19 [1,1]]) (l := [(1, pq b), (4, sS (X ++ (textQ (List.getD q.l i q0)))), (5, iN (i + 1))]) ?_
          have hkh_ := hh i (by omega)
          obtain rfl : i = 0 := by omega
          refine ih_ 1 _ _ (by omega) ?_ (hM13.sub (sK sN)) (by omega)
          rw [← rowI_first (show 0 < q.l.length by omega), ← pt_no (q := q) hkh_ (by omega) (by omega) hop, hX, rowI_zero, List.nil_append]
        ·
         have h79 : (decide (((i : Nat) : Int) > 0)) = false := decide_eq_false h79p
         rw [h76] at h79; cases h79
      ·
       have h76 : (decide (((i : Nat) : Int) > 0)) = false := decide_eq_false h76p
       refine xfc 13 89 (((i : Nat) : Int) > 0) (fun h87p => ?_) (fun h87p => ?_)
       ·
        have h87 : (decide (((i : Nat) : Int) > 0)) = true := decide_eq_true h87p
        rw [h76] at h87; cases h87
       ·
        refine xqa 10 X (textQ (List.getD q.l i q0)) ?_ (hl := (by first | omega | (simp only [List.length_append, List.length_cons, List.length_nil, hxd_len, List.length_drop, List.length_take]; omega)))
        refine xa 5 ((i : Nat) : Int) 1 (((i + 1) : Nat) : Int) ?_
        refine xl 3 (k := [iC Tryz.f19 uRefB0, iL Tryz.f19 uRefB0, .inBlock 1, iC Tryz.f19 uRefB1, .inBlock 0, iC Tryz.f19 [1,1]]) (l := [(1, pq b), (4, sS (X ++ (textQ (List.getD q.l i q0)))), (5, iN (i + 1))]) ?_
        have hkh_ := hh i (by omega)
        obtain rfl : i = 0 := by omega
        refine ih_ 1 _ _ (by omega) ?_ (hM13.sub (sK sN)) (by omega)
        rw [← rowI_first (show 0 < q.l.length by omega), ← pt_no (q := q) hkh_ (by omega) (by omega) hop, hX, rowI_zero, List.nil_append]
    ·
     refine xfc 14 80 (((i : Nat) : Int) > 0) (fun h90p => ?_) (fun h90p => ?_)
     ·
      have h90 : (decide (((i : Nat) : Int) > 0)) = true := decide_eq_true h90p
      refine xv 1 (c_load pE3 (hM13.rd 0 rfl) (cel_obj b 0) rfl) ?_
      refine xc 3 (h.op = 7) (fun h92p => ?_) (fun h92p => ?_)
      ·
       refine xqa 2 X ([32] : List UInt8) ?_ (hl := (by first | omega | (simp only [List.length_append, List.length_cons, List.length_nil, hxd_len, List.length_drop, List.length_take]; omega)))
       refine xfc 8 89 (((i : Nat) : Int) > 0) (fun h94p => ?_) (fun h94p => ?_)
       ·
        refine xv 1 (c_load pE3 (hM13.rd 0 rfl) (cel_obj b 0) rfl) ?_
        refine xc 3 (h.op = 8) (fun h96p => ?_) (fun h96p => ?_)
        ·
         refine xqa 2 (X ++ ([32] : List UInt8)) ([32, 124, 32] : List UInt8) ?_ (hl := (by first | omega | (simp only [List.length_append, List.length_cons, List.length_nil, hxd_len, List.length_drop, List.length_take]; omega)))
         refine xqa 5 ((X ++ ([32] : List UInt8)) ++ ([32, 124, 32] : List UInt8)) (textQ (List.getD q.l i q0)) ?_ (hl := (by first | omega | (simp only [List.length_append, List.length_cons, List.length_nil, hxd_len, List.length_drop, List.length_take]; omega)))
         refine xa 5 ((i : Nat) : Int) 1 (((i + 1) : Nat) : Int) ?_
         refine xl 3 (k := [iC Tryz.f19 uRefB0, iL Tryz.f19 uRefB0, .inBlock 1, iC Tryz.f19 uRefB1, .inBlock 0, iC Tryz.f19 [1,1]]) (l := [(1, pq b), (4, sS (((X ++ ([32] : List UInt8)) ++ ([32, 124, 32] : List UInt8)) ++ (textQ (List.getD q.l i q0)))), (5, iN (i + 1))]) ?_
         exfalso
         omega
        ·
         refine xqa 4 (X ++ ([32] : List UInt8)) (textQ (List.getD q.l i q0)) ?_ (hl := (by first | omega | (simp only [List.length_append, List.length_cons, List.length_nil, hxd_len, List.length_drop, List.length_take]; omega)))
         refine xa 5 ((i : Nat) : Int) 1 (((i + 1) : Nat) : Int) ?_
         refine xl 3 (k := [iC Tryz.f19 uRefB0, iL Tryz.f19 uRefB0, .inBlock 1, iC Tryz.f19 uRefB1, .inBlock 0, iC Tryz.f19 [1,1]]) (l := [(1, pq b), (4, sS ((X ++ ([32] : List UInt8)) ++ (textQ (List.getD q.l i q0)))), (5, iN (i + 1))]) ?_
         have hkh_ := hh i (by omega)
         refine ih_ (i + 1) _ _ (by omega) ?_ (hM13.sub (sK sN)) (by omega)
         rw [← rowI_step (show i < q.l.length by omega) (by omega), ← pt_no (q := q) hkh_ (by omega) (by omega) hop, hX, show sepQ q.h.op = [32] from if_pos (by omega)]
       ·
        have h94 : (decide (((i : Nat) : Int) > 0)) = false := decide_eq_false h94p
        rw [h90] at h94; cases h94
      ·
       refine xfc 7 89 (((i : Nat) : Int) > 0) (fun h102p => ?_) (fun h102p => ?_)
       ·
        refine xv 1 (c_load pE3 (hM13.rd 0 rfl) (cel_obj b 0) rfl) ?_
        refine xc 3 (h.op = 8) (fun h104p => ?_) (fun h104p => ?_)
        ·
         refine xqa 2 X ([32, 124, 32] : List UInt8) ?_ (hl := (by first | omega | (simp only [List.length_append, List.length_cons, List.length_nil, hxd_len, List.length_drop, List.length_take]; omega)))
         refine xqa 5 (X ++ ([32, 124, 32] : List UInt8)) (textQ (List.getD q.l i q0)) ?_ (hl := (by first | omega | (simp only [List.length_append, List.length_cons, List.length_nil, hxd_len, List.length_drop, List.length_take]; omega)))
         refine xa 5 ((i : Nat) : Int) 1 (((i + 1) : Nat) : Int) ?_
         refine xl 3 (k := [iC Tryz.f19 uRefB0, iL Tryz.f19 uRefB0, .inBlock 1, iC Tryz.f19 uRefB1, .inBlock 0, iC Tryz.f19 [1,1]]) (l := [(1, pq b), (4, sS ((X ++ ([32, 124, 32] : List UInt8)) ++ (textQ (List.getD q.l i q0)))), (5, iN (i + 1))]) ?_
         have hkh_ := hh i (by omega)
         refine ih_ (i + 1) _ _ (by omega) ?_ (hM13.sub (sK sN)) (by omega)
         rw [← rowI_step (show i < q.l.length by omega) (by omega), ← pt_no (q := q) hkh_ (by omega) (by omega) hop, hX, show sepQ q.h.op = [32, 124, 32] from if_neg (by omega)]
        ·
         refine xqa 4 X (textQ (List.getD q.l i q0)) ?_ (hl := (by first | omega | (simp only [List.length_append, List.length_cons, List.length_nil, hxd_len, List.length_drop, List.length_take]; omega)))
         refine xa 5 ((i : Nat) : Int) 1 (((i + 1) : Nat) : Int) ?_
         refine xl 3 (k := [iC Tryz.f19 uRefB0, iL Tryz.f19 uRefB0, .inBlock 1, iC Tryz.f19 uRefB1, .inBlock 0, iC Tryz.f19 [1,1]]) (l := [(1, pq b), (4, sS (X ++ (textQ (List.getD q.l i q0)))), (5, iN (i + 1))]) ?_
         have hkh_ := hh i (by omega)
         obtain rfl : i = 0 := by omega
         refine ih_ 1 _ _ (by omega) ?_ (hM13.sub (sK sN)) (by omega)
         rw [← rowI_first (show 0 < q.l.length by omega), ← pt_no (q := q) hkh_ (by omega) (by omega) hop, hX, rowI_zero, List.nil_append]
       ·
        have h102 : (decide (((i : Nat) : Int) > 0)) = false := decide_eq_false h102p
        rw [h90] at h102; cases h102
     ·
      have h90 : (decide (((i : Nat) : Int) > 0)) = false := decide_eq_false h90p
      refine xfc 13 89 (((i : Nat) : Int) > 0) (fun h110p => ?_) (fun h110p => ?_)
      ·
       have h110 : (decide (((i : Nat) : Int) > 0)) = true := decide_eq_true h110p
       rw [h90] at h110; cases h110
      ·
       refine xqa 10 X (textQ (List.getD q.l i q0)) ?_ (hl := (by first | omega | (simp only [List.length_append, List.length_cons, List.length_nil, hxd_len, List.length_drop, List.length_take]; omega)))
       refine xa 5 ((i : Nat) : Int) 1 (((i + 1) : Nat) : Int) ?_
       refine xl 3 (k := [iC Tryz.f19 uRefB0, iL Tryz.f19 uRefB0, .inBlock 1, iC Tryz.f19 uRefB1, .inBlock 0, iC Tryz.f19 [1,1]]) (l := [(1, pq b), (4, sS (X ++ (textQ (List.getD q.l i q0)))), (5, iN (i + 1))]) ?_
       have hkh_ := hh i (by omega)
       obtain rfl : i = 0 := by omega
       refine ih_ 1 _ _ (by omega) ?_ (hM13.sub (sK sN)) (by omega)
       rw [← rowI_first (show 0 < q.l.length by omega), ← pt_no (q := q) hkh_ (by omega) (by omega) hop, hX, rowI_zero, List.nil_append]
  ·
   have hM4 := hM.sub (sD sR)
   exact xr 6 (v := sS X) Tryz.func19 hR ⟨by rw [hX, rowI_all (by omega) hop], hM4.none⟩

set_option maxHeartbeats 4000000 in
theorem rtext_s (N : Nat) (ih : ∀ (q : Q), bulkQ q < N → ∀ {w : World} (h : Hd) (he : h = q.h) (v : Value) (hq : RdQ w q v) (hb : bulkQ q ≤ 1048576) (hri : rightQ q = true) (hu : numQ q), Calls Tryz.prog 19 #[.agg #[.int .i64 (h.op), sS (h.field), sS (h.text), .int .i64 (h.edits), .int .i64 (h.exact), .int .u64 (h.lo), .int .u64 (h.hi), v]] w (fun e w' => e = .returned (sS (textQ q)) ∧ Mem [] w w' [])) {w : World} (q : Q) (h : Hd) (he : h = q.h) (v : Value) (hq : RdQ w q v) (hb : bulkQ q ≤ 1048576) (hri : rightQ q = true) (hu : numQ q) (hN : bulkQ q = N) :
  Calls Tryz.prog 19 #[.agg #[.int .i64 (h.op), sS (h.field), sS (h.text), .int .i64 (h.edits), .int .i64 (h.exact), .int .u64 (h.lo), .int .u64 (h.hi), v]] w (fun e w' => e = .returned (sS (textQ q)) ∧ Mem [] w w' []) := by
 obtain ⟨L, hr, hl, hh, hs⟩ := hq.inv
 have hbl : bulkL q.l + q.h.field.length + q.h.text.length + 1 = bulkQ q := by cases q; rw [bulkQ_mk]; rfl
 have hln := bulk_len q.l
 have hfl_ : h.field.length = q.h.field.length := by rw [he]
 have htx_ : h.text.length = q.h.text.length := by rw [he]
 have hnq_ := num_q hu
 rw [← he] at hnq_
 have hn1_ : h.op = 9 → q.l.length = 1 := fun z => node_not1 hri (by rw [← he]; exact z)
 have hlf_ : ¬ h.op = 7 → ¬ h.op = 8 → ¬ h.op = 9 → ¬ h.op = 10 → Lf h := fun a b c d => by have z := node_op hri (by rw [← he]; exact a) (by rw [← he]; exact b) (by rw [← he]; exact c) (by rw [← he]; exact d); rwa [← he] at z
 have hop_ : ¬ h.op = 7 → ¬ h.op = 8 → ¬ h.op = 9 → ¬ h.op = 10 → 1 ≤ h.op ∧ h.op ≤ 6 := fun a b c d => (hlf_ a b c d).op
 have hfz_ : h.op = 4 → (0 ≤ h.edits ∧ h.edits ≤ 99) ∧ (0 ≤ h.exact ∧ h.exact ≤ 99) := fun z => (hlf_ (by omega) (by omega) (by omega) (by omega)).fuzzy z
 have hsl_ := suf_len h.op.toNat
 have hoq_ : q.h.op = h.op := by rw [he]
 refine xe 143 Tryz.func19 (fun R hR => ?_)
 have hM0 := Mem.start w
 refine xx 2 (m_box (T := 25) (k := 8) (u := .agg #[.int .i64 (h.op), sS (h.field), sS (h.text), .int .i64 (h.edits), .int .i64 (h.exact), .int .u64 (h.lo), .int .u64 (h.hi), v]) rfl rfl hM0) (fun b1 w2 hM4 => ?_)
 refine xv 6 (c_load pE3 (hM4.rd 0 rfl) (cel_obj b1 0) rfl) ?_
 refine xc 7 (h.op = 10) (fun h8p => ?_) (fun h8p => ?_)
 ·
  have hM9 := hM4.sub (sD sR)
  exact xr 4 (v := sS ([42] : List UInt8)) Tryz.func19 hR ⟨by rw [text_all (by omega)], hM9.none⟩
 ·
  refine xc 5 (h.op = 9) (fun h10p => ?_) (fun h10p => ?_)
  ·
   refine xv 3 (c_load pE23 (hM4.rd 0 rfl) (cel_obj b1 7) rfl) ?_
   refine xat 0 sT23 (hr.kept0 hM4.kept) 0 0 (fun p11 hp12 => ?_) (hj := (by first | omega | (dsimp only; omega) | (show Int.toNat h.op < 6; omega)))
   refine xv 0 (r_loads (f := qnC) (l := L) aE25 (hr.kept0 hM4.kept) qnC_len hp12 (by first | omega | (dsimp only; omega) | (show Int.toNat h.op < 6; omega)) qz) ?_
   have hkb20 := bulk_kid (l := q.l) (i := 0) (by omega)
   have hks21 := size_le (List.getD q.l 0 q0)
   have hbs22 := bulk_step (l := q.l) (i := 0) (by omega)
   have htl23 := textQ_len (List.getD q.l 0 q0)
   refine xk 0 (ih (List.getD q.l 0 q0) (by omega) ((List.getD L 0 qz).h) (hh 0 (by omega)) ((List.getD L 0 qz).parts) ((hs 0 (by omega)).kept hM4.kept) (by omega) (kid_right (by omega) (right_q hri).1) (kid_num (by omega) (num_q hu).2.2)) (fun w17 m18 => ?_)
   have hM19 : Mem [] w w17 [⟨25, 8, (obj b1), 1, [.int .i64 (h.op), sS (h.field), sS (h.text), .int .i64 (h.edits), .int .i64 (h.exact), .int .u64 (h.lo), .int .u64 (h.hi), v]⟩] := Mem.join (R := []) hM4 m18
   refine xv 6 (c_load pE23 (hM19.rd 0 rfl) (cel_obj b1 7) rfl) ?_
   refine xat 0 sT23 (hr.kept0 hM19.kept) 0 0 (fun p24 hp25 => ?_) (hj := (by first | omega | (dsimp only; omega) | (show Int.toNat h.op < 6; omega)))
   refine xv 1 (c_load pE3 (hr.kept0 hM19.kept) (Cel.add (At.cel hp25) 0) (recs_at (i := 0) qnC_len qz (by first | omega | (dsimp only; omega) | (show Int.toNat h.op < 6; omega)) rfl)) ?_
   refine xfc 2 25 (((List.getD L 0 qz).h.op) = 7) (fun h30p => ?_) (fun h30p => ?_)
   ·
    have hM31 := hM19.sub (sD sR)
    refine xqa 11 ([40] : List UInt8) (textQ (List.getD q.l 0 q0)) ?_ (hl := (by first | omega | (simp only [List.length_append, List.length_cons, List.length_nil, hxd_len, List.length_drop, List.length_take]; omega)))
    refine xqa 0 (([40] : List UInt8) ++ (textQ (List.getD q.l 0 q0))) ([41] : List UInt8) ?_ (hl := (by first | omega | (simp only [List.length_append, List.length_cons, List.length_nil, hxd_len, List.length_drop, List.length_take]; omega)))
    refine xqa 5 ([45] : List UInt8) ((([40] : List UInt8) ++ (textQ (List.getD q.l 0 q0))) ++ ([41] : List UInt8)) ?_ (hl := (by first | omega | (simp only [List.length_append, List.length_cons, List.length_nil, hxd_len, List.length_drop, List.length_take]; omega)))
    exact xr 2 (v := sS (([45] : List UInt8) ++ ((([40] : List UInt8) ++ (textQ (List.getD q.l 0 q0))) ++ ([41] : List UInt8)))) Tryz.func19 hR ⟨by rw [← not_yes (hh 0 (by omega)) (by omega) (by omega) (by omega)], hM31.none⟩
   ·
    refine xv 1 (c_load pE23 (hM19.rd 0 rfl) (cel_obj b1 7) rfl) ?_
    refine xat 0 sT23 (hr.kept0 hM19.kept) 0 0 (fun p32 hp33 => ?_) (hj := (by first | omega | (dsimp only; omega) | (show Int.toNat h.op < 6; omega)))
    refine xv 1 (c_load pE3 (hr.kept0 hM19.kept) (Cel.add (At.cel hp33) 0) (recs_at (i := 0) qnC_len qz (by first | omega | (dsimp only; omega) | (show Int.toNat h.op < 6; omega)) rfl)) ?_
    have hM38 := hM19.sub (sD sR)
    refine xc 3 (((List.getD L 0 qz).h.op) = 8) (fun h42p => ?_) (fun h42p => ?_)
    ·
     refine xqa 2 ([40] : List UInt8) (textQ (List.getD q.l 0 q0)) ?_ (hl := (by first | omega | (simp only [List.length_append, List.length_cons, List.length_nil, hxd_len, List.length_drop, List.length_take]; omega)))
     refine xqa 0 (([40] : List UInt8) ++ (textQ (List.getD q.l 0 q0))) ([41] : List UInt8) ?_ (hl := (by first | omega | (simp only [List.length_append, List.length_cons, List.length_nil, hxd_len, List.length_drop, List.length_take]; omega)))
     refine xqa 5 ([45] : List UInt8) ((([40] : List UInt8) ++ (textQ (List.getD q.l 0 q0))) ++ ([41] : List UInt8)) ?_ (hl := (by first | omega | (simp only [List.length_append, List.length_cons, List.length_nil, hxd_len, List.length_drop, List.length_take]; omega)))
     exact xr 2 (v := sS (([45] : List UInt8) ++ ((([40] : List UInt8) ++ (textQ (List.getD q.l 0 q0))) ++ ([41] : List UInt8)))) Tryz.func19 hR ⟨by rw [← not_yes (hh 0 (by omega)) (by omega) (by omega) (by omega)], hM38.none⟩
    ·
     refine xqa 4 ([45] : List UInt8) (textQ (List.getD q.l 0 q0)) ?_ (hl := (by first | omega | (simp only [List.length_append, List.length_cons, List.length_nil, hxd_len, List.length_drop, List.length_take]; omega)))
     exact xr 2 (v := sS (([45] : List UInt8) ++ (textQ (List.getD q.l 0 q0)))) Tryz.func19 hR ⟨by rw [← not_no (hh 0 (by omega)) (by omega) (by omega) (by omega) (by omega)], hM38.none⟩
  ·
   refine xc 6 (h.op = 7) (fun h47p => ?_) (fun h47p => ?_)
   ·
    have h47 : (h.op == 7) = true := by simpa using h47p
    refine xc 1 (h.op = 7) (fun h48p => ?_) (fun h48p => ?_)
    ·
     exact xl 11 (rtext_L N ih q h he v hq hb L hr hl hh hs hri hu hN (by omega) b1 R hR (L.length + 1) 0 [] w2 (Nat.zero_le _) rfl (hM4.sub (sK sN)) (by omega))
    ·
     have h48 : (h.op == 7) = false := by simpa using h48p
     rw [h47] at h48; cases h48
   ·
    refine xc 4 (h.op = 8) (fun h49p => ?_) (fun h49p => ?_)
    ·
     exact xl 11 (rtext_L N ih q h he v hq hb L hr hl hh hs hri hu hN (by omega) b1 R hR (L.length + 1) 0 [] w2 (Nat.zero_le _) rfl (hM4.sub (sK sN)) (by omega))
    ·
     refine xc 5 (h.op = 6) (fun h50p => ?_) (fun h50p => ?_)
     ·
      refine xh 1 [] hM4 (sK sR) (fun w51 hM52 hS53 => ?_)
      refine yl [0] 1 hS53 pE9 0 rfl (cel_obj b1 1) rfl ?_
      refine yv [] 2 (fun W_ hW_ => (show (binOp .add 9 (sS (h.field)) (sS ([58, 91] : List UInt8))).run Tryz.prog W_ = .ok (sS (h.field ++ ([58, 91] : List UInt8))) W_ from f_stradd (by first | omega | (simp only [List.length_append, List.length_cons, List.length_nil, hxd_len, List.length_drop, List.length_take]; omega)))) hS53 ?_
      refine yl [3] 4 hS53 pE22 0 rfl (cel_obj b1 5) rfl ?_
      refine yl [8] 9 hS53 pE22 0 rfl (cel_obj b1 6) rfl ?_
      have hbl55 := bitsP_len (Int.toNat (h.lo))
      refine ycg [] 5 (rhex_m (h.lo) (by omega) w51) hS53 ?_
      rintro _ _ ⟨rfl, rfl⟩
      have hS56 := hM52.sub (sK sR)
      refine ⟨sS (bitsP (Int.toNat (h.lo))), rfl, hS56, ?_⟩
      refine yv [] 6 (fun W_ hW_ => (show (binOp .add 9 (sS (h.field ++ ([58, 91] : List UInt8))) (sS (bitsP (Int.toNat (h.lo))))).run Tryz.prog W_ = .ok (sS ((h.field ++ ([58, 91] : List UInt8)) ++ (bitsP (Int.toNat (h.lo))))) W_ from f_stradd (by first | omega | (simp only [List.length_append, List.length_cons, List.length_nil, hxd_len, List.length_drop, List.length_take]; omega)))) hS56 ?_
      refine yv [] 7 (fun W_ hW_ => (show (binOp .add 9 (sS ((h.field ++ ([58, 91] : List UInt8)) ++ (bitsP (Int.toNat (h.lo))))) (sS ([32] : List UInt8))).run Tryz.prog W_ = .ok (sS (((h.field ++ ([58, 91] : List UInt8)) ++ (bitsP (Int.toNat (h.lo)))) ++ ([32] : List UInt8))) W_ from f_stradd (by first | omega | (simp only [List.length_append, List.length_cons, List.length_nil, hxd_len, List.length_drop, List.length_take]; omega)))) hS56 ?_
      have hbl57 := bitsP_len (Int.toNat (h.hi))
      refine ycg [] 10 (rhex_m (h.hi) (by omega) w51) hS56 ?_
      rintro _ _ ⟨rfl, rfl⟩
      have hS58 := hM52.sub (sK sR)
      refine ⟨sS (bitsP (Int.toNat (h.hi))), rfl, hS58, ?_⟩
      refine yv [] 11 (fun W_ hW_ => (show (binOp .add 9 (sS (((h.field ++ ([58, 91] : List UInt8)) ++ (bitsP (Int.toNat (h.lo)))) ++ ([32] : List UInt8))) (sS (bitsP (Int.toNat (h.hi))))).run Tryz.prog W_ = .ok (sS ((((h.field ++ ([58, 91] : List UInt8)) ++ (bitsP (Int.toNat (h.lo)))) ++ ([32] : List UInt8)) ++ (bitsP (Int.toNat (h.hi))))) W_ from f_stradd (by first | omega | (simp only [List.length_append, List.length_cons, List.length_nil, hxd_len, List.length_drop, List.length_take]; omega)))) hS58 ?_
      refine yv [] 12 (fun W_ hW_ => (show (binOp .add 9 (sS ((((h.field ++ ([58, 91] : List UInt8)) ++ (bitsP (Int.toNat (h.lo)))) ++ ([32] : List UInt8)) ++ (bitsP (Int.toNat (h.hi))))) (sS ([93] : List UInt8))).run Tryz.prog W_ = .ok (sS (((((h.field ++ ([58, 91] : List UInt8)) ++ (bitsP (Int.toNat (h.lo)))) ++ ([32] : List UInt8)) ++ (bitsP (Int.toNat (h.hi)))) ++ ([93] : List UInt8))) W_ from f_stradd (by first | omega | (simp only [List.length_append, List.length_cons, List.length_nil, hxd_len, List.length_drop, List.length_take]; omega)))) hS58 ?_
      refine ydp [13] hS58 ?_
      have hM59 := hM52.sub (sD sR)
      exact xr 0 (v := sS (((((h.field ++ ([58, 91] : List UInt8)) ++ (bitsP (Int.toNat (h.lo)))) ++ ([32] : List UInt8)) ++ (bitsP (Int.toNat (h.hi)))) ++ ([93] : List UInt8))) Tryz.func19 hR ⟨by rw [tx_range he (by omega)], hM59.none⟩
     ·
      refine xh 3 [] hM4 (sK sR) (fun w60 hM61 hS62 => ?_)
      refine yl [0] 1 hS62 pE9 0 rfl (cel_obj b1 1) rfl ?_
      refine yv [] 2 (fun W_ hW_ => (show (binOp .add 9 (sS (h.field)) (sS ([58] : List UInt8))).run Tryz.prog W_ = .ok (sS (h.field ++ ([58] : List UInt8))) W_ from f_stradd (by first | omega | (simp only [List.length_append, List.length_cons, List.length_nil, hxd_len, List.length_drop, List.length_take]; omega)))) hS62 ?_
      refine yl [3] 4 hS62 pE9 0 rfl (cel_obj b1 2) rfl ?_
      have hql64 := quoteW_len (h.text)
      refine yca [] 5 (rquote_c (w := w60) (h.text) (by omega)) hS62 ?_
      refine yv [] 6 (fun W_ hW_ => (show (binOp .add 9 (sS (h.field ++ ([58] : List UInt8))) (sS (quoteW (h.text)))).run Tryz.prog W_ = .ok (sS ((h.field ++ ([58] : List UInt8)) ++ (quoteW (h.text)))) W_ from f_stradd (by first | omega | (simp only [List.length_append, List.length_cons, List.length_nil, hxd_len, List.length_drop, List.length_take]; omega)))) hS62 ?_
      refine ydp [7] hS62 ?_
      refine xv 4 (c_load pE3 (hM61.rd 0 rfl) (cel_obj b1 0) rfl) ?_
      refine xc 2 (h.op = 4) (fun h66p => ?_) (fun h66p => ?_)
      ·
       refine xh 1 [] hM61 (sK sR) (fun w67 hM68 hS69 => ?_)
       refine yv [0] 1 (fun W_ hW_ => (show (binOp .add 9 (sS ((h.field ++ ([58] : List UInt8)) ++ (quoteW (h.text)))) (sS ([126] : List UInt8))).run Tryz.prog W_ = .ok (sS (((h.field ++ ([58] : List UInt8)) ++ (quoteW (h.text))) ++ ([126] : List UInt8))) W_ from f_stradd (by first | omega | (simp only [List.length_append, List.length_cons, List.length_nil, hxd_len, List.length_drop, List.length_take]; omega)))) hS69 ?_
       refine yl [2] 3 hS69 pE3 0 rfl (cel_obj b1 3) rfl ?_
       refine yl [7] 8 hS69 pE3 0 rfl (cel_obj b1 4) rfl ?_
       have hdl74 := decW_len (h.edits)
       refine yck [] 4 (rdig2_c (w := w67) (h.edits) (by omega)) hS69 (fun w71 m72 => ?_)
       have hM73 : Mem [] w w71 [⟨25, 8, (obj b1), 1, [.int .i64 (h.op), sS (h.field), sS (h.text), .int .i64 (h.edits), .int .i64 (h.exact), .int .u64 (h.lo), .int .u64 (h.hi), v]⟩] := Mem.join (R := []) hM68 m72
       have hS75 := hM73.sub (sK sR)
       refine ⟨hS75, ?_⟩
       refine yv [] 5 (fun W_ hW_ => (show (binOp .add 9 (sS (((h.field ++ ([58] : List UInt8)) ++ (quoteW (h.text))) ++ ([126] : List UInt8))) (sS (decW (h.edits)))).run Tryz.prog W_ = .ok (sS ((((h.field ++ ([58] : List UInt8)) ++ (quoteW (h.text))) ++ ([126] : List UInt8)) ++ (decW (h.edits)))) W_ from f_stradd (by first | omega | (simp only [List.length_append, List.length_cons, List.length_nil, hxd_len, List.length_drop, List.length_take]; omega)))) hS75 ?_
       refine yv [] 6 (fun W_ hW_ => (show (binOp .add 9 (sS ((((h.field ++ ([58] : List UInt8)) ++ (quoteW (h.text))) ++ ([126] : List UInt8)) ++ (decW (h.edits)))) (sS ([44] : List UInt8))).run Tryz.prog W_ = .ok (sS (((((h.field ++ ([58] : List UInt8)) ++ (quoteW (h.text))) ++ ([126] : List UInt8)) ++ (decW (h.edits))) ++ ([44] : List UInt8))) W_ from f_stradd (by first | omega | (simp only [List.length_append, List.length_cons, List.length_nil, hxd_len, List.length_drop, List.length_take]; omega)))) hS75 ?_
       have hdl79 := decW_len (h.exact)
       refine yck [] 9 (rdig2_c (w := w71) (h.exact) (by omega)) hS75 (fun w76 m77 => ?_)
       have hM78 : Mem [] w w76 [⟨25, 8, (obj b1), 1, [.int .i64 (h.op), sS (h.field), sS (h.text), .int .i64 (h.edits), .int .i64 (h.exact), .int .u64 (h.lo), .int .u64 (h.hi), v]⟩] := Mem.join (R := []) hM73 m77
       have hS80 := hM78.sub (sK sR)
       refine ⟨hS80, ?_⟩
       refine yv [] 10 (fun W_ hW_ => (show (binOp .add 9 (sS (((((h.field ++ ([58] : List UInt8)) ++ (quoteW (h.text))) ++ ([126] : List UInt8)) ++ (decW (h.edits))) ++ ([44] : List UInt8))) (sS (decW (h.exact)))).run Tryz.prog W_ = .ok (sS ((((((h.field ++ ([58] : List UInt8)) ++ (quoteW (h.text))) ++ ([126] : List UInt8)) ++ (decW (h.edits))) ++ ([44] : List UInt8)) ++ (decW (h.exact)))) W_ from f_stradd (by first | omega | (simp only [List.length_append, List.length_cons, List.length_nil, hxd_len, List.length_drop, List.length_take]; omega)))) hS80 ?_
       refine ydp [11] hS80 ?_
       have hM81 := hM78.sub (sD sR)
       exact xr 0 (v := sS ((((((h.field ++ ([58] : List UInt8)) ++ (quoteW (h.text))) ++ ([126] : List UInt8)) ++ (decW (h.edits))) ++ ([44] : List UInt8)) ++ (decW (h.exact)))) Tryz.func19 hR ⟨by rw [tx_fuzzy he (by omega)], hM81.none⟩
      ·
       refine xx 4 (m_lit sT64 hM61 (n := 6) (parts := #[(0, sS ([])), (1, sS ([])), (2, sS ([42] : List UInt8)), (3, sS ([63] : List UInt8)), (4, sS ([])), (5, sS ([43] : List UInt8))]) (cs := [sS ([]), sS ([]), sS ([42] : List UInt8), sS ([63] : List UInt8), sS ([]), sS ([43] : List UInt8)]) (by decide) (by kernel_rfl) rfl) (fun v82 w83 hM85 => ?_)
       refine xv 1 (c_load pE3 (hM85.rd 1 rfl) (cel_obj b1 0) rfl) ?_
       refine xat 0 sT64 (hM85.rd 0 rfl) (h.op) (Int.toNat (h.op)) (fun p86 hp87 => ?_) (hj := (by first | omega | (dsimp only; omega) | (show Int.toNat h.op < 6; omega)))
       refine xv 0 (at_load pE9 (hM85.rd 0 rfl) hp87 (svals_at (l := ([[], [], ([42] : List UInt8), ([63] : List UInt8), [], ([43] : List UInt8)] : List (List UInt8))) (j := (Int.toNat (h.op))) (by show (Int.toNat (h.op)) < 6; omega))) ?_
       refine xqa 0 ((h.field ++ ([58] : List UInt8)) ++ (quoteW (h.text))) (List.getD ([[], [], ([42] : List UInt8), ([63] : List UInt8), [], ([43] : List UInt8)] : List (List UInt8)) (Int.toNat (h.op)) []) ?_ (hl := (by first | omega | (simp only [List.length_append, List.length_cons, List.length_nil, hxd_len, List.length_drop, List.length_take]; omega)))
       have hM93 := hM85.sub (sD (sD sR))
       exact xr 2 (v := sS (((h.field ++ ([58] : List UInt8)) ++ (quoteW (h.text))) ++ (List.getD ([[], [], ([42] : List UInt8), ([63] : List UInt8), [], ([43] : List UInt8)] : List (List UInt8)) (Int.toNat (h.op)) []))) Tryz.func19 hR ⟨by rw [tx_word he (by omega) (by omega)], hM93.none⟩

theorem rtext_n : ∀ (N : Nat), ∀ (q : Q), bulkQ q ≤ N → ∀ {w : World} (h : Hd) (he : h = q.h) (v : Value) (hq : RdQ w q v) (hb : bulkQ q ≤ 1048576) (hri : rightQ q = true) (hu : numQ q), Calls Tryz.prog 19 #[.agg #[.int .i64 (h.op), sS (h.field), sS (h.text), .int .i64 (h.edits), .int .i64 (h.exact), .int .u64 (h.lo), .int .u64 (h.hi), v]] w (fun e w' => e = .returned (sS (textQ q)) ∧ Mem [] w w' []) := by
 intro N
 induction N with
 | zero => intro q hn; have := bulk_pos q; omega
 | succ N ihn => intro q hn w h he v hq hb hri hu; exact rtext_s (bulkQ q) (fun c hc => ihn c (by omega)) q h he v hq hb hri hu rfl

theorem rtext_c {w : World} (q : Q) (h : Hd) (he : h = q.h) (v : Value) (hq : RdQ w q v) (hb : bulkQ q ≤ 1048576) (hri : rightQ q = true) (hu : numQ q) : Calls Tryz.prog 19 #[.agg #[.int .i64 (h.op), sS (h.field), sS (h.text), .int .i64 (h.edits), .int .i64 (h.exact), .int .u64 (h.lo), .int .u64 (h.hi), v]] w (fun e w' => e = .returned (sS (textQ q)) ∧ Mem [] w w' []) := rtext_n (bulkQ q) q (Nat.le_refl _) h he v hq hb hri hu

set_option maxHeartbeats 1000000 in
theorem rprint_c {w : World} (q : Q) (h : Hd) (he : h = q.h) (v : Value) (hq : RdQ w q v) (hb : bulkQ q ≤ 1048576) (hu : numQ q) :
  Calls Tryz.prog 10 #[.agg #[.int .i64 (h.op), sS (h.field), sS (h.text), .int .i64 (h.edits), .int .i64 (h.exact), .int .u64 (h.lo), .int .u64 (h.hi), v]] w (fun e w' => e = .returned (.tuple #[sS ((printQ q).1), .int .i64 ((printQ q).2)]) ∧ Mem [] w w' []) := by
 obtain ⟨L, hr, hl, hh, hs⟩ := hq.inv
 have hbl : bulkL q.l + q.h.field.length + q.h.text.length + 1 = bulkQ q := by cases q; rw [bulkQ_mk]; rfl
 have hln := bulk_len q.l
 have htl_ := textQ_len q
 refine xe 17 Tryz.func10 (fun R hR => ?_)
 have hM0 := Mem.start w
 refine xx 2 (m_box (T := 25) (k := 8) (u := .agg #[.int .i64 (h.op), sS (h.field), sS (h.text), .int .i64 (h.edits), .int .i64 (h.exact), .int .u64 (h.lo), .int .u64 (h.hi), v]) rfl rfl hM0) (fun b1 w2 hM4 => ?_)
 refine xv 5 (c_loads (ys := [.int .i64 (h.op), sS (h.field), sS (h.text), .int .i64 (h.edits), .int .i64 (h.exact), .int .u64 (h.lo), .int .u64 (h.hi), v]) aE25 (hM4.rd 0 rfl) (cel_obj b1 0) rfl (lq rfl)) ?_
 refine xk 0 (rcheck_c q h he v (hq.kept hM4.kept) (by omega)) (fun w8 m9 => ?_)
 have hM10 : Mem [] w w8 [⟨25, 8, (obj b1), 1, [.int .i64 (h.op), sS (h.field), sS (h.text), .int .i64 (h.edits), .int .i64 (h.exact), .int .u64 (h.lo), .int .u64 (h.hi), v]⟩] := Mem.join (R := []) hM4 m9
 refine xcn 8 ((checkQ q) = 0) (fun h11p => ?_) (fun h11p => ?_)
 ·
  have hM12 := hM10.sub (sD sR)
  exact xr 6 (v := .tuple #[sS ([]), .int .i64 (checkQ q)]) Tryz.func10 hR ⟨by rw [print_bad (by omega)], hM12.none⟩
 ·
  refine xv 3 (c_loads (ys := [.int .i64 (h.op), sS (h.field), sS (h.text), .int .i64 (h.edits), .int .i64 (h.exact), .int .u64 (h.lo), .int .u64 (h.hi), v]) aE25 (hM10.rd 0 rfl) (cel_obj b1 0) rfl (lq rfl)) ?_
  have hM14 := hM10.sub (sD sR)
  refine xk 0 (rtext_c q h he v (hq.kept hM14.kept) (by omega) (check_right (by omega)) hu) (fun w15 m16 => ?_)
  have hM17 : Mem [] w w15 [] := Mem.join (R := []) hM14 m16
  refine xn 6 (textQ q) ?_
  refine xc 2 ((((textQ q).length : Nat) : Int) > 8192) (fun h19p => ?_) (fun h19p => ?_)
  ·
   exact xr 5 (v := .tuple #[sS ([]), .int .i64 4]) Tryz.func10 hR ⟨by rw [print_long (by omega) (by omega)], hM17.none⟩
  ·
   exact xr 7 (v := .tuple #[sS (textQ q), .int .i64 0]) Tryz.func10 hR ⟨by rw [print_ok (by omega) (by omega)], hM17.none⟩


end Go.Proofs.YthpodbngljfdmaaGreatDoor


namespace Go.Proofs.YthpodbngljfdmaaGreatDoor
open Go Go.Gw Go.UtfP Go.TokP Go.QryP Go.SynP Go.RealQ Go.SynV Go.RowKit
set_option linter.unusedVariables false
set_option linter.unusedSimpArgs false
set_option maxRecDepth 20000


set_option maxHeartbeats 1000000 in
theorem lprints_c {w : World} (q : Q) (h : Hd) (he : h = q.h) (v : Value) (hq : RdQ w q v) (hb : bulkQ q ≤ 1048576) (hu : numQ q) (hG : GS [] w) :
  Calls Tryz.prog 3 #[.agg #[.int .i64 (h.op), sS (h.field), sS (h.text), .int .i64 (h.edits), .int .i64 (h.exact), .int .u64 (h.lo), .int .u64 (h.hi), v]] w (fun e w' => e = .returned (.bool true) ∧ Below w.heap.size w w') := by
 obtain ⟨L, hr, hl, hh, hs⟩ := hq.inv
 have hbl : bulkL q.l + q.h.field.length + q.h.text.length + 1 = bulkQ q := by cases q; rw [bulkQ_mk]; rfl
 have hln := bulk_len q.l
 refine xe 32 Tryz.func3 (fun R hR => ?_)
 have hM0 := Mem.start w
 refine xx 2 (m_box (T := 25) (k := 8) (u := .agg #[.int .i64 (h.op), sS (h.field), sS (h.text), .int .i64 (h.edits), .int .i64 (h.exact), .int .u64 (h.lo), .int .u64 (h.hi), v]) rfl rfl hM0) (fun b1 w2 hM4 => ?_)
 refine xv 5 (c_loads (ys := [.int .i64 (h.op), sS (h.field), sS (h.text), .int .i64 (h.edits), .int .i64 (h.exact), .int .u64 (h.lo), .int .u64 (h.hi), v]) aE25 (hM4.rd 0 rfl) (cel_obj b1 0) rfl (lq rfl)) ?_
 refine xk 0 (fewb_c q h he v (hq.kept hM4.kept) (by omega)) (fun w8 m9 => ?_)
 have hM10 : Mem [] w w8 [⟨25, 8, (obj b1), 1, [.int .i64 (h.op), sS (h.field), sS (h.text), .int .i64 (h.edits), .int .i64 (h.exact), .int .u64 (h.lo), .int .u64 (h.hi), v]⟩] := Mem.join (R := []) hM4 m9
 refine xcn 2 (((fewQ q 0 : Nat) : Int) ≤ 5000) (fun h11p => ?_) (fun h11p => ?_)
 ·
  have hM12 := hM10.sub (sD sR)
  refine xk 2 (awake_c (hG.kept hM12.kept)) (fun w13 m14 => ?_)
  have hM15 : Mem [] w w13 [] := Mem.join (R := []) hM12 m14
  exact xr 2 Tryz.func3 hR ⟨rfl, hM15.none.below⟩
 ·
  refine xv 3 (c_loads (ys := [.int .i64 (h.op), sS (h.field), sS (h.text), .int .i64 (h.edits), .int .i64 (h.exact), .int .u64 (h.lo), .int .u64 (h.hi), v]) aE25 (hM10.rd 0 rfl) (cel_obj b1 0) rfl (lq rfl)) ?_
  refine xk 0 (print_c q h he v (hq.kept hM10.kept) (by omega) (hG.kept hM10.kept).now.deb hu) (fun w17 m18 => ?_)
  have hM19 : Mem [] w w17 [⟨25, 8, (obj b1), 1, [.int .i64 (h.op), sS (h.field), sS (h.text), .int .i64 (h.edits), .int .i64 (h.exact), .int .u64 (h.lo), .int .u64 (h.hi), v]⟩] := Mem.join (R := []) hM10 m18
  refine xv 8 (c_loads (ys := [.int .i64 (h.op), sS (h.field), sS (h.text), .int .i64 (h.edits), .int .i64 (h.exact), .int .u64 (h.lo), .int .u64 (h.hi), v]) aE25 (hM19.rd 0 rfl) (cel_obj b1 0) rfl (lq rfl)) ?_
  have hM21 := hM19.sub (sD sR)
  refine xk 0 (rprint_c q h he v (hq.kept hM21.kept) (by omega) hu) (fun w22 m23 => ?_)
  have hM24 : Mem [] w w22 [] := Mem.join (R := []) hM21 m23
  refine xk 8 (awake_c (hG.kept hM24.kept)) (fun w25 m26 => ?_)
  have hM27 : Mem [] w w25 [] := Mem.join (R := []) hM24 m26
  refine xqc 3 .eql ((printQ q).1) ((printQ q).1) true (fun _ => f_streq_yes (rfl)) ?_
  refine xp 4 (.bool true) (w' := w25) (show (IntKind.i64 = IntKind.i64) ∧ w25 = w25 ∧ Value.bool true = .bool ((printQ q).2 == (printQ q).2) from ⟨rfl, rfl, congrArg Value.bool (Eq.symm (beq_self_eq_true _))⟩) ?_
  exact xr 3 Tryz.func3 hR ⟨rfl, hM27.none.below⟩


end Go.Proofs.YthpodbngljfdmaaGreatDoor


namespace Go.Gw
set_option linter.unusedVariables false
set_option linter.unusedSimpArgs false
open Go.ChangeShapes Go.WideShapes Go.ChangeAt Go.RowKit Go.QryP Go.Proofs.YthpodbngljfdmaaGreatDoor
section
variable {H : Type} {enc : TypeId × Value → H} {P : Program} {W : World} {t e : TypeId}
/-- a slice whose elements are k cells each, of whatever weight: the cells of each, and each one's reading -/
theorem slice_rd {k fuel : Nat} {cs : List Value} {x : DataW H × List MemPlace} (hu : P.underlying t = some (.slice e)) (hc : P.cellsOf e = k) (h0 : 0 < k)
    (h : DataW.trod enc P W 0 (fun _ => true) true fuel t cs = some x) :
    ∃ (v : Value) (css : List (List Value)) (els sp : List (DataW H)) (n : Nat), cs = [v] ∧ els.length = css.length ∧ (∀ c ∈ css, c.length = k) ∧ Rd W k v css.length css.flatten ∧
      (x.1 = .nil ∧ css = [] ∨ x.1 = .slice els sp) ∧ ∀ (i : Nat) (c : List Value), css[i]? = some c → n < fuel ∧ ∃ y q, els[i]? = some y ∧ DataW.trod enc P W 0 (fun _ => true) true n e c = some (y, q) := by
  rcases DataW.trod_slice hu h with ⟨hcs, hx⟩ | ⟨x', len, cap, elems, rest, n, hfu, hcs, hx, _, hl, hm, hlen, hel, _⟩
  · subst hcs
    exact ⟨_, [], [], [], 0, rfl, rfl, by simp, by simpa using Rd.nil W k, .inl ⟨by rw [hx], rfl⟩, by simp⟩
  · subst hcs
    rw [hc] at hel
    have hex : ∀ i, i < len → ∃ cs, W.cells? 0 (x'.add (i * k)) k = some cs ∧ ∃ y q, (elems.map (·.1))[i]? = some y ∧ DataW.trod enc P W 0 (fun _ => true) true n e cs = some (y, q) := by
      intro i hi
      have hE := hel i hi
      rw [List.getElem?_eq_getElem (by omega), Option.bind_eq_some_iff] at hE
      obtain ⟨cs, h1, h2⟩ := hE
      exact ⟨cs, h1, elems[i].1, elems[i].2, by rw [List.getElem?_map, List.getElem?_eq_getElem (by omega)]; rfl, h2⟩
    obtain ⟨css, hl1, hat⟩ : ∃ css : List (List Value), css.length = len ∧ ∀ i c, css[i]? = some c → W.cells? 0 (x'.add (i * k)) k = some c ∧ ∃ y q, (elems.map (·.1))[i]? = some y ∧ DataW.trod enc P W 0 (fun _ => true) true n e c = some (y, q) := by
      refine ⟨(List.range len).map fun i => (W.cells? 0 (x'.add (i * k)) k).getD [], by simp, fun i c hi => ?_⟩
      have hi2 : i < len := by
        have := (List.getElem?_eq_some_iff.1 hi).1
        simpa using this
      obtain ⟨cs, h1, h2⟩ := hex i hi2
      have : c = cs := by
        simp [List.getElem?_map, List.getElem?_range hi2, h1] at hi
        exact hi.symm
      subst this
      exact ⟨h1, h2⟩
    have hk : ∀ c ∈ css, c.length = k := by
      intro c hc'
      obtain ⟨i, hi⟩ := List.getElem?_of_mem hc'
      exact (cells_at (hat i c hi).1).1
    obtain ⟨f1, f2⟩ := flat_at hk h0
    refine ⟨_, css, elems.map (·.1), rest.map (·.1), n, rfl, by simp [hlen, hl1], hk, ?_, .inr (by rw [hx]), fun i c hi => ⟨by omega, (hat i c hi).2⟩⟩
    refine ⟨f1, some x', cap, by rw [hl1], by omega, hm, (fun z => by cases z), fun ad z => ?_⟩
    simp only [Option.some.injEq] at z
    subst z
    have each : ∀ j' u, css.flatten[j']? = some u → W.cell? (x'.add j') = some u := by
      intro j' u hj
      obtain ⟨c, h1, h2⟩ := f2 j' u hj
      have h3 := (cells_at (hat _ c h1).1).2 _ u h2
      have e1 : (x'.add (j' / k * k)).add (j' % k) = x'.add j' := by
        have e2 : j' / k * k + j' % k = j' := by rw [Nat.mul_comm]; exact Nat.div_add_mod j' k
        rw [Addr.add_add, e2]
      rwa [e1] at h3
    by_cases hpos : css.flatten = []
    · exact ⟨.inl hpos, fun j' u hj => by rw [hpos] at hj; simp at hj⟩
    · have hsp : x'.spot = none := by
        obtain ⟨u, hu'⟩ : ∃ u, css.flatten[0]? = some u := by
          cases hz : css.flatten with
          | nil => exact absurd hz hpos
          | cons z zs => exact ⟨z, rfl⟩
        have := World.cell?_spot (each 0 u hu')
        simpa [Addr.add] using this
      refine ⟨.inr hsp, fun j' u hj => ?_⟩
      have hadd : x'.add j' = ⟨x'.block, x'.off + j', none⟩ := by obtain ⟨b, o, zz⟩ := x'; simp only at hsp; subst hsp; unfold Addr.add; split <;> simp_all
      rw [← hadd]; exact each j' u hj
/-- the type of queries -/
def QTy (P : Program) (e : TypeId) : Prop := ∃ f0 f1 f2 f3 f4 f5 f6 f7 : Field, P.underlying e = some (.struct #[f0, f1, f2, f3, f4, f5, f6, f7]) ∧ P.cellsOf e = 8 ∧
  (P.underlying f0.type = some (.int .i64) ∧ P.underlying f1.type = some .string ∧ P.underlying f2.type = some .string ∧ P.underlying f3.type = some (.int .i64) ∧ P.underlying f4.type = some (.int .i64) ∧ P.underlying f5.type = some (.int .u64) ∧ P.underlying f6.type = some (.int .u64) ∧ P.underlying f7.type = some (.slice e)) ∧
  (P.cellsOf f0.type = 1 ∧ P.cellsOf f1.type = 1 ∧ P.cellsOf f2.type = 1 ∧ P.cellsOf f3.type = 1 ∧ P.cellsOf f4.type = 1 ∧ P.cellsOf f5.type = 1 ∧ P.cellsOf f6.type = 1 ∧ P.cellsOf f7.type = 1) ∧
  (f0.offset = 0 ∧ f1.offset = 1 ∧ f2.offset = 2 ∧ f3.offset = 3 ∧ f4.offset = 4 ∧ f5.offset = 5 ∧ f6.offset = 6 ∧ f7.offset = 7)
end
end Go.Gw


namespace Go.Gw
set_option linter.unusedVariables false
set_option linter.unusedSimpArgs false
open Go.ChangeShapes Go.WideShapes Go.ChangeAt Go.RowKit Go.QryP Go.SynP Go.Proofs.YthpodbngljfdmaaGreatDoor
section
variable {H : Type} {enc : TypeId × Value → H} {P : Program} {W : World} {t e : TypeId}
theorem u64_wf {n : Int} (h : (Lit.int .u64 n).wf = true) : 0 ≤ n ∧ n < 18446744073709551616 := by have := bounds_u64 h; omega
theorem kids_n {els : List (DataW H)} : ∀ {css : List (List Value)}, els.length = css.length → (∀ (i : Nat) (c : List Value), css[i]? = some c → ∃ y, els[i]? = some y ∧ ∃ (z : QN) (q : Q), c = qnC z ∧ z.h = q.h ∧ RdQ W q z.parts ∧ bulkQ q ≤ Rows.uptoBulk y ∧ numQ q) →
    ∃ (L : List QN) (l : List Q), css.flatten = recs qnC L ∧ L.length = css.length ∧ l.length = css.length ∧ (∀ j, j < l.length → (L.getD j qz).h = (l.getD j q0).h) ∧ (∀ j, j < l.length → RdQ W (l.getD j q0) (L.getD j qz).parts) ∧ bulkL l ≤ Rows.uptoBulkAll els ∧ numL l := by
  induction els with
  | nil =>
    intro css hl h
    obtain rfl : css = [] := List.length_eq_zero_iff.1 hl.symm
    exact ⟨[], [], rfl, rfl, rfl, fun j hj => absurd hj (Nat.not_lt_zero _), fun j hj => absurd hj (Nat.not_lt_zero _), Nat.le_refl _, by rw [numL]; trivial⟩
  | cons d els ih =>
    intro css hl h
    match css, hl with
    | c :: css, hl =>
      obtain ⟨y, hy, z, q, hz, hh, hr, hb, hnn⟩ := h 0 c rfl
      obtain rfl : d = y := by simpa using hy
      obtain ⟨L, l, h1, h2, h3, h4, h5, h6, hnl⟩ := ih (css := css) (by simpa using hl) fun i c hi => by simpa using h (i + 1) c (by simpa using hi)
      refine ⟨z :: L, q :: l, by rw [List.flatten_cons, hz, h1]; rfl, by simp [h2], by simp [h3], fun j hj => ?_, fun j hj => ?_, ?_, by rw [numL]; exact ⟨hnn, hnl⟩⟩
      · match j, hj with
        | 0, _ => exact hh
        | j + 1, hj => exact h4 j (by simpa using hj)
      · match j, hj with
        | 0, _ => exact hr
        | j + 1, hj => exact h5 j (by simpa using hj)
      · have e1 : bulkL (q :: l) = bulkQ q + bulkL l := by rw [bulkL]
        rw [e1]; simp only [Rows.uptoBulkAll]; omega
theorem query_cells_n (hT : QTy P e) : ∀ (fuel : Nat) (cs : List Value) (x : DataW H × List MemPlace), DataW.trod enc P W 0 (fun _ => true) true fuel e cs = some x →
    ∃ (z : QN) (q : Q), cs = qnC z ∧ z.h = q.h ∧ RdQ W q z.parts ∧ bulkQ q + 8 ≤ Rows.uptoBulk x.1 ∧ numQ q := by
  obtain ⟨f0, f1, f2, f3, f4, f5, f6, f7, he, hc, ⟨u0, u1, u2, u3, u4, u5, u6, u7⟩, ⟨c0, c1, c2, c3, c4, c5, c6, c7⟩, ⟨o0, o1, o2, o3, o4, o5, o6, o7⟩⟩ := hT
  intro fuel
  induction fuel using Nat.strongRecOn with
  | _ fuel ih =>
    intro cs x h
    obtain ⟨xs, n, rfl, rfl, hcl, hxl, hat⟩ := DataW.trod_struct he h
    rw [hc] at hcl
    match cs, hcl with
    | [v0, v1, v2, v3, v4, v5, v6, v7], _ =>
      match xs, hxl with
      | [x0, x1, x2, x3, x4, x5, x6, x7], _ =>
        have t0 := hat 0 f0 rfl
        have t1 := hat 1 f1 rfl
        have t2 := hat 2 f2 rfl
        have t3 := hat 3 f3 rfl
        have t4 := hat 4 f4 rfl
        have t5 := hat 5 f5 rfl
        have t6 := hat 6 f6 rfl
        have t7 := hat 7 f7 rfl
        rw [o0, c0] at t0; rw [o1, c1] at t1; rw [o2, c2] at t2; rw [o3, c3] at t3; rw [o4, c4] at t4; rw [o5, c5] at t5; rw [o6, c6] at t6; rw [o7, c7] at t7
        obtain ⟨n0, e0, g0, _⟩ := DataW.trod_int u0 t0
        obtain ⟨n1, e1, g1, _⟩ := DataW.trod_string u1 t1
        obtain ⟨n2, e2, g2, _⟩ := DataW.trod_string u2 t2
        obtain ⟨n3, e3, g3, _⟩ := DataW.trod_int u3 t3
        obtain ⟨n4, e4, g4, _⟩ := DataW.trod_int u4 t4
        obtain ⟨n5, e5, g5, w5⟩ := DataW.trod_int u5 t5
        obtain ⟨n6, e6, g6, w6⟩ := DataW.trod_int u6 t6
        obtain ⟨v, css, els, sp, m, e7, hel, hk, hrd, hdd, hea⟩ := slice_rd u7 hc (by decide) t7
        simp at e0 e1 e2 e3 e4 e5 e6 e7
        subst e0; subst e1; subst e2; subst e3; subst e4; subst e5; subst e6; subst e7
        obtain ⟨L, l, h1, h2, h3, h4, h5, h6, hnl⟩ := kids_n (W := W) (els := els) hel fun i c hi => by
          obtain ⟨hm, y, q, hy, ht⟩ := hea i c hi
          obtain ⟨z, q', a1, a2, a3, a4, a5⟩ := ih m (by omega) c _ ht
          exact ⟨y, hy, z, q', a1, a2, a3, Nat.le_trans (Nat.le_add_right _ 8) a4, a5⟩
        refine ⟨⟨⟨n0, n1.data.toList, n2.data.toList, n3, n4, n5, n6⟩, v7⟩, .mk ⟨n0, n1.data.toList, n2.data.toList, n3, n4, n5, n6⟩ l, ?_, rfl, .mk _ _ _ L (by rw [← h1, h2]; exact hrd) (h2.trans h3.symm) h4 h5, ?_, ?_⟩
        · show _ = [.int .i64 n0, .string (sb n1.data.toList), .string (sb n2.data.toList), .int .i64 n3, .int .i64 n4, .int .u64 n5, .int .u64 n6, v7]
          rw [sb_of, sb_of]
        · rw [bulkQ_mk, g0, g1, g2, g3, g4, g5, g6]
          have h7 : bulkL l + 1 ≤ Rows.uptoBulk x7.1 := by
            rcases hdd with ⟨q1, q2⟩ | q1
            · subst q2
              obtain rfl : l = [] := List.length_eq_zero_iff.1 h3
              rw [q1]; simp [Rows.uptoBulk, bulkL]
            · rw [q1]; simp only [Rows.uptoBulk]; omega
          simp only [List.map_cons, List.map_nil, Rows.uptoBulk, Rows.uptoBulkAll]
          omega
        · rw [numQ_mk]; exact ⟨u64_wf w5, u64_wf w6, hnl⟩
theorem open_query_n {r : Reach} {b0 : Nat} {v : Value} {d : DataW H} {p : List MemPlace} (hT : QTy P e) (hval : Value.okWide P W r b0 e v) (h : DataW.Trod enc P W 0 (fun _ => true) true e v d p) :
    ∃ (z : QN) (q : Q), v = .agg #[.int .i64 z.h.op, .string (sb z.h.field), .string (sb z.h.text), .int .i64 z.h.edits, .int .i64 z.h.exact, .int .u64 z.h.lo, .int .u64 z.h.hi, z.parts] ∧ z.h = q.h ∧ RdQ W q z.parts ∧ bulkQ q + 8 ≤ Rows.uptoBulk d ∧ numQ q := by
  obtain ⟨f0, f1, f2, f3, f4, f5, f6, f7, he, hrest⟩ := hT
  obtain ⟨cs, rfl, hsz⟩ := okWide_struct he hval
  obtain ⟨fuel, hf⟩ := h
  obtain ⟨z, q, h1, h2, h3, h4, h5⟩ := query_cells_n ⟨f0, f1, f2, f3, f4, f5, f6, f7, he, hrest⟩ fuel _ _ hf
  refine ⟨z, q, ?_, h2, h3, h4, h5⟩
  have hcs : (Value.agg cs).cells.toList = cs.toList := rfl
  rw [hcs] at h1
  congr 1; apply Array.toList_inj.1; rw [h1]; rfl
end
end Go.Gw

