/- The questions of RecordAsks at one memory. -/
import Derived.Test.YtepkpfnghgocgaaRecMem
import Derived.Test.YtepkpfnghgocgaaRecCells
import Derived.Test.YtepkpfnghgocgaaRecTold
import Derived.Deep.RegionWith
namespace Go.Proofs.Ytepkpfnghgocgaa
set_option linter.unusedSimpArgs false
set_option linter.unusedVariables false
open Go.RowKit
open Go.ChangeShapes Go.WideShapes Go.ChangeAt

set_option maxRecDepth 100000 in
set_option maxHeartbeats 1000000 in
theorem rOpen_yes (n : Int) (w : World) (h0 : 1 ≤ n) (h1 : n ≤ 64) :
    Calls Try.prog 37 #[.int .i64 n] w fun e w' => ∃ v q, e = .returned (.tuple #[v, .bool true]) ∧ RVal w' v q (3 + 5 * n) [0, 0, 0] 1 ∧ (∀ k, q = some k → w.heap.size ≤ k) ∧ Below w.heap.size w w' := by
  go_enter Try.func37, Try.ntmps37
  go_wp2_with fail
  refine (rNew_any (3 + 5 * n) _).mono ?_
  rintro e w1 ⟨rfl, hb1⟩
  rw [show capOf (3 + 5 * n) = 3 + 5 * n from by unfold capOf; omega]
  have B1 : Below w.heap.size w w1 := Below.trans (by go_grown) (hb1.mono (by simp))
  have z1 : w.heap.size < w1.heap.size := by have := hb1.size; simp at this; omega
  have c0 : w1.cell? ⟨w.heap.size, 0, none⟩ = some (.int .i64 0) := (hb1.cell (p := ⟨w.heap.size, 0, none⟩) (by simp)).trans (by go_simp)
  have f0 : w1.frozen? ⟨w.heap.size, 0, none⟩ = false := (hb1.frozen (p := ⟨w.heap.size, 0, none⟩) (by simp)).trans (by go_simp)
  have c1 : w1.cell? ⟨w.heap.size, 1, none⟩ = some (.slice none 0 0) := (hb1.cell (p := ⟨w.heap.size, 1, none⟩) (by simp)).trans (by go_simp)
  have f1 : w1.frozen? ⟨w.heap.size, 1, none⟩ = false := (hb1.frozen (p := ⟨w.heap.size, 1, none⟩) (by simp)).trans (by go_simp)
  have c2 : w1.cell? ⟨w.heap.size, 2, none⟩ = some (.int .i64 0) := (hb1.cell (p := ⟨w.heap.size, 2, none⟩) (by simp)).trans (by go_simp)
  have f2 : w1.frozen? ⟨w.heap.size, 2, none⟩ = false := (hb1.frozen (p := ⟨w.heap.size, 2, none⟩) (by simp)).trans (by go_simp)
  clear hb1
  go_wp2_with fail
  have hr : RVal w1 (.agg #[.int .i64 (3 + 5 * n), .slice none 0 0, .int .i64 0]) none (3 + 5 * n) [] 0 := ⟨.slice none 0 0, rfl, rfl, Row.nil _⟩
  refine (rAlloc_yes _ _ 3 _ _ _ _ hr (by omega) (by simp; omega) (by omega) (by omega) (by simp; omega) (by omega) (by omega)).mono ?_
  rintro e w2 ⟨v2, q2, rfl, h2, hq2, hb2⟩
  simp only [List.nil_append, show (3 : Int).toNat = 3 from rfl, List.replicate] at h2
  obtain ⟨ao, cap, rfl, -, -⟩ := h2.open
  have B2 : Below w.heap.size w w2 := B1.trans (hb2.mono (by omega))
  have z2 : w.heap.size < w2.heap.size := Nat.lt_of_lt_of_le z1 hb2.size
  have d0 := (hb2.cell (p := ⟨w.heap.size, 0, none⟩) z1).trans c0
  have g0 := (hb2.frozen (p := ⟨w.heap.size, 0, none⟩) z1).trans f0
  have d1 := (hb2.cell (p := ⟨w.heap.size, 1, none⟩) z1).trans c1
  have g1 := (hb2.frozen (p := ⟨w.heap.size, 1, none⟩) z1).trans f1
  have d2 := (hb2.cell (p := ⟨w.heap.size, 2, none⟩) z1).trans c2
  have g2 := (hb2.frozen (p := ⟨w.heap.size, 2, none⟩) z1).trans f2
  have hqn : ∀ k, q2 = some k → k ≠ w.heap.size := fun k e => by have := hq2 k e; omega
  have HX := Lib.hid (And.intro h2 (And.intro hqn (fun k e => Nat.le_trans (Nat.le_of_lt z1) (hq2 k e) : ∀ k, q2 = some k → w.heap.size ≤ k)))
  clear c0 c1 c2 f0 f1 f2 B1 hr hb2 hq2 h2 hqn
  go_wp2
  refine bodyPost_ret (v := .tuple #[.agg #[.int .i64 (3 + 5 * n), .slice ao [0, 0, 0].length cap, .int .i64 1], .bool true]) (by simp [results, Try.results37, go_sem, d0, d1, d2, z2]) rfl ⟨_, q2, rfl, ?_, HX.out.2.2, ?_⟩
  · exact (HX.out.1.kept (kept_set3 _ w.heap.size _ _ _) HX.out.2.1).below (by go_grown)
  · exact (((B2.setCell (by simp) _).setCell (by simp) _).setCell (by simp) _).alloc (by simp; omega) _
set_option maxRecDepth 100000 in
set_option maxHeartbeats 1000000 in
theorem rOpen_no (n : Int) (w : World) (h : n < 1 ∨ 64 < n) :
    Calls Try.prog 37 #[.int .i64 n] w fun e w' => e = .returned (.tuple #[.agg #[.int .i64 0, .slice none 0 0, .int .i64 0], .bool false]) ∧ Below w.heap.size w w' := by
  rcases h with h | h
  all_goals
    go_enter Try.func37, Try.ntmps37
    go_wp2
    refine bodyPost_ret (v := .tuple #[.agg #[.int .i64 0, .slice none 0 0, .int .i64 0], .bool false]) (by simp [results, Try.results37, go_sem]) rfl ⟨rfl, by go_grown⟩

set_option maxRecDepth 100000 in
set_option maxHeartbeats 4000000 in
theorem asks13_core (l : Value) (xs : List Int) (a : Int) (w : World) (hl : Sl w l xs) (hn : xs.length ≤ 1000) (ha2 : a ≤ 9223372036854775807) (P M y0 y1 y2 y3 y4 k4 v4 : Int) (t i4 : Bool) (HP : Hid (nthOf xs.length a = P ∧ nthIs xs.length a = t ∧ recV xs a = .agg #[.int .i64 y0, .int .i64 y1, .int .i64 y2, .int .i64 y3, .int .i64 y4] ∧ wk y4 = k4 ∧ wv y4 = v4 ∧ wis y4 = i4 ∧ manyOf xs.length = M)) :
    Calls Try.prog 39 #[l, .int .i64 a] w fun e w' => e = .returned (.bool true) ∧ Below w.heap.size w w' := by
  go_enter Try.func39, Try.ntmps39
  go_wp2_with fail
  refine (Memory13_f l xs w hl hn).mono ?_
  rintro e w1 ⟨v, b, g, q, rfl, h, -⟩
  obtain ⟨ao, cap, rfl, -, -⟩ := h.rv.open
  have H := Lib.hid h
  have cN0 : ∀ u : World, Below w1.heap.size w1 u → Calls Try.prog 27 #[.pointer (some ⟨b, 0, none⟩), .int .i64 a] u fun e u' => e = .returned (.tuple #[.int .i64 P, .bool t]) ∧ Below u.heap.size u u' := fun u hb => (Nth_f (h.ms.below hb) a ha2).mono fun e u' ⟨e1, e2, e3⟩ => ⟨by rw [e1, HP.out.1, HP.out.2.1], e3⟩
  have cN := Lib.hid cN0
  have cM0 : ∀ u : World, Below w1.heap.size w1 u → Calls Try.prog 51 #[.agg #[.int .i64 xs.length, .slice ao xs.length cap, .int .i64 (1 + xs.length)], .int .i64 a] u fun e u' => e = .returned (.tuple #[.int .i64 P, .bool t]) ∧ Below u.heap.size u u' := fun u hb => (rNth_f (h.rv.below hb) hn a).mono fun e u' ⟨e1, e3⟩ => ⟨by rw [e1, HP.out.1, HP.out.2.1], e3⟩
  have cM := Lib.hid cM0
  have cS0 : ∀ u : World, Below w1.heap.size w1 u → Calls Try.prog 28 #[.pointer (some ⟨b, 0, none⟩), .int .i64 a] u fun e u' => e = .returned (.tuple #[.agg #[.int .i64 y0, .int .i64 y1, .int .i64 y2, .int .i64 y3, .int .i64 y4], .bool t]) ∧ Below u.heap.size u u' := fun u hb => (See_f (h.ms.below hb) a ha2).mono fun e u' ⟨e1, e2, e3⟩ => ⟨by rw [e1, HP.out.2.2.1, HP.out.2.1], e3⟩
  have cS := Lib.hid cS0
  have cR0 : ∀ u : World, Below w1.heap.size w1 u → Calls Try.prog 52 #[.agg #[.int .i64 xs.length, .slice ao xs.length cap, .int .i64 (1 + xs.length)], .int .i64 a] u fun e u' => e = .returned (.tuple #[.agg #[.int .i64 y0, .int .i64 y1, .int .i64 y2, .int .i64 y3, .int .i64 y4], .bool t]) ∧ Below u.heap.size u u' := fun u hb => (rSee_f (h.rv.below hb) hn a).mono fun e u' ⟨e1, e3⟩ => ⟨by rw [e1, HP.out.2.2.1, HP.out.2.1], e3⟩
  have cR := Lib.hid cR0
  have cT0 : ∀ u : World, Calls Try.prog 34 #[.agg #[.int .i64 y0, .int .i64 y1, .int .i64 y2, .int .i64 y3, .int .i64 y4]] u fun e u' => e = .returned (.tuple #[.agg #[.int .u8 k4, .int .i32 v4], .bool i4]) ∧ Below u.heap.size u u' := fun u => (Told_f y0 y1 y2 y3 y4 u).mono fun e u' ⟨e1, e3⟩ => ⟨by rw [e1, HP.out.2.2.2.1, HP.out.2.2.2.2.1, HP.out.2.2.2.2.2.1], e3⟩
  have cT := Lib.hid cT0
  have cO0 : ∀ u : World, Calls Try.prog 46 #[.int .i64 y4] u fun e u' => e = .returned (.tuple #[.agg #[.int .u8 k4, .int .i32 v4], .bool i4]) ∧ Below u.heap.size u u' := fun u => (wOfRes_any y4 u).mono fun e u' ⟨e1, e3⟩ => ⟨by rw [e1, HP.out.2.2.2.1, HP.out.2.2.2.2.1, HP.out.2.2.2.2.2.1], e3⟩
  have cO := Lib.hid cO0
  have cQ0 : ∀ u : World, Below w1.heap.size w1 u → Calls Try.prog 17 #[.pointer (some ⟨b, 0, none⟩)] u fun e u' => e = .returned (.int .i64 M) ∧ Below u.heap.size u u' := fun u hb => (Many_ms (h.ms.below hb)).mono fun e u' ⟨e1, e2, e3⟩ => ⟨by rw [e1, HP.out.2.2.2.2.2.2], e3⟩
  have cQ := Lib.hid cQ0
  have cU0 : ∀ u : World, Below w1.heap.size w1 u → Calls Try.prog 53 #[.agg #[.int .i64 xs.length, .slice ao xs.length cap, .int .i64 (1 + xs.length)]] u fun e u' => e = .returned (.int .i64 M) ∧ Below u.heap.size u u' := fun u hb => (rMany_f (h.rv.below hb) hn).mono fun e u' ⟨e1, e3⟩ => ⟨by rw [e1, HP.out.2.2.2.2.2.2], e3⟩
  have cU := Lib.hid cU0
  clear cN0 cM0 cS0 cR0 cT0 cO0 cQ0 cU0
  have B1 : Below w1.heap.size w1 w1 := Below.refl _ _
  clear h
  go_wp2_with fail
  refine (cN.out _ (by go_grown)).mono ?_
  rintro e w2 ⟨rfl, hb2⟩
  have z2 : w1.heap.size < w2.heap.size := by have := hb2.size; first | omega | (simp at this; omega)
  have B2 : Below w1.heap.size w1 w2 := Below.trans (by go_grown) (hb2.mono (by first | omega | (simp; omega) | (simp; done)))
  have c2_0_0 : w2.cell? ⟨w1.heap.size, 0, none⟩ = some (.int .i64 xs.length) := (hb2.cell (p := ⟨w1.heap.size, 0, none⟩) (by first | omega | (simp; omega) | (simp; done))).trans (by go_simp)
  have c2_0_1 : w2.cell? ⟨w1.heap.size, 1, none⟩ = some (.slice ao xs.length cap) := (hb2.cell (p := ⟨w1.heap.size, 1, none⟩) (by first | omega | (simp; omega) | (simp; done))).trans (by go_simp)
  have c2_0_2 : w2.cell? ⟨w1.heap.size, 2, none⟩ = some (.int .i64 (1 + xs.length)) := (hb2.cell (p := ⟨w1.heap.size, 2, none⟩) (by first | omega | (simp; omega) | (simp; done))).trans (by go_simp)
  clear hb2
  go_wp2_with fail
  refine (cM.out _ (by go_grown)).mono ?_
  rintro e w3 ⟨rfl, hb3⟩
  have z3 : w1.heap.size < w3.heap.size := by have := hb3.size; first | omega | (simp at this; omega)
  have B3 : Below w1.heap.size w1 w3 := Below.trans (by go_grown) (hb3.mono (by first | omega | (simp; omega) | (simp; done)))
  have c3_0_0 : w3.cell? ⟨w1.heap.size, 0, none⟩ = some (.int .i64 xs.length) := (hb3.cell (p := ⟨w1.heap.size, 0, none⟩) (by first | omega | (simp; omega) | (simp; done))).trans (by go_simp)
  have c3_0_1 : w3.cell? ⟨w1.heap.size, 1, none⟩ = some (.slice ao xs.length cap) := (hb3.cell (p := ⟨w1.heap.size, 1, none⟩) (by first | omega | (simp; omega) | (simp; done))).trans (by go_simp)
  have c3_0_2 : w3.cell? ⟨w1.heap.size, 2, none⟩ = some (.int .i64 (1 + xs.length)) := (hb3.cell (p := ⟨w1.heap.size, 2, none⟩) (by first | omega | (simp; omega) | (simp; done))).trans (by go_simp)
  clear hb3 B2 c2_0_0 c2_0_1 c2_0_2
  go_wp2_with fail
  refine (cS.out _ (by go_grown)).mono ?_
  rintro e w4 ⟨rfl, hb4⟩
  have z4 : w1.heap.size < w4.heap.size := by have := hb4.size; first | omega | (simp at this; omega)
  have B4 : Below w1.heap.size w1 w4 := Below.trans (by go_grown) (hb4.mono (by first | omega | (simp; omega) | (simp; done)))
  have c4_0_0 : w4.cell? ⟨w1.heap.size, 0, none⟩ = some (.int .i64 xs.length) := (hb4.cell (p := ⟨w1.heap.size, 0, none⟩) (by first | omega | (simp; omega) | (simp; done))).trans (by go_simp)
  have c4_0_1 : w4.cell? ⟨w1.heap.size, 1, none⟩ = some (.slice ao xs.length cap) := (hb4.cell (p := ⟨w1.heap.size, 1, none⟩) (by first | omega | (simp; omega) | (simp; done))).trans (by go_simp)
  have c4_0_2 : w4.cell? ⟨w1.heap.size, 2, none⟩ = some (.int .i64 (1 + xs.length)) := (hb4.cell (p := ⟨w1.heap.size, 2, none⟩) (by first | omega | (simp; omega) | (simp; done))).trans (by go_simp)
  clear hb4 B3 c3_0_0 c3_0_1 c3_0_2
  go_wp2_with fail
  refine (cR.out _ (by go_grown)).mono ?_
  rintro e w5 ⟨rfl, hb5⟩
  have z5 : w4.heap.size < w5.heap.size := by have := hb5.size; first | omega | (simp at this; omega)
  have z5_0 : w1.heap.size < w5.heap.size := by omega
  have B5 : Below w1.heap.size w1 w5 := Below.trans (by go_grown) (hb5.mono (by first | omega | (simp; omega) | (simp; done)))
  have c5_0_0 : w5.cell? ⟨w1.heap.size, 0, none⟩ = some (.int .i64 xs.length) := (hb5.cell (p := ⟨w1.heap.size, 0, none⟩) (by first | omega | (simp; omega) | (simp; done))).trans (by go_simp)
  have c5_0_1 : w5.cell? ⟨w1.heap.size, 1, none⟩ = some (.slice ao xs.length cap) := (hb5.cell (p := ⟨w1.heap.size, 1, none⟩) (by first | omega | (simp; omega) | (simp; done))).trans (by go_simp)
  have c5_0_2 : w5.cell? ⟨w1.heap.size, 2, none⟩ = some (.int .i64 (1 + xs.length)) := (hb5.cell (p := ⟨w1.heap.size, 2, none⟩) (by first | omega | (simp; omega) | (simp; done))).trans (by go_simp)
  have c5_1_0 : w5.cell? ⟨w4.heap.size, 0, none⟩ = some (.int .i64 y0) := (hb5.cell (p := ⟨w4.heap.size, 0, none⟩) (by first | omega | (simp; omega) | (simp; done))).trans (by go_simp)
  have c5_1_1 : w5.cell? ⟨w4.heap.size, 1, none⟩ = some (.int .i64 y1) := (hb5.cell (p := ⟨w4.heap.size, 1, none⟩) (by first | omega | (simp; omega) | (simp; done))).trans (by go_simp)
  have c5_1_2 : w5.cell? ⟨w4.heap.size, 2, none⟩ = some (.int .i64 y2) := (hb5.cell (p := ⟨w4.heap.size, 2, none⟩) (by first | omega | (simp; omega) | (simp; done))).trans (by go_simp)
  have c5_1_3 : w5.cell? ⟨w4.heap.size, 3, none⟩ = some (.int .i64 y3) := (hb5.cell (p := ⟨w4.heap.size, 3, none⟩) (by first | omega | (simp; omega) | (simp; done))).trans (by go_simp)
  have c5_1_4 : w5.cell? ⟨w4.heap.size, 4, none⟩ = some (.int .i64 y4) := (hb5.cell (p := ⟨w4.heap.size, 4, none⟩) (by first | omega | (simp; omega) | (simp; done))).trans (by go_simp)
  clear hb5 B4 c4_0_0 c4_0_1 c4_0_2
  go_wp2_with fail
  refine (cT.out _).mono ?_
  rintro e w6 ⟨rfl, hb6⟩
  have z6 : w5.heap.size < w6.heap.size := by have := hb6.size; first | omega | (simp at this; omega)
  have z6_0 : w1.heap.size < w6.heap.size := by omega
  have z6_1 : w4.heap.size < w6.heap.size := by omega
  have B6 : Below w1.heap.size w1 w6 := Below.trans (by go_grown) (hb6.mono (by first | omega | (simp; omega) | (simp; done)))
  have c6_0_0 : w6.cell? ⟨w1.heap.size, 0, none⟩ = some (.int .i64 xs.length) := (hb6.cell (p := ⟨w1.heap.size, 0, none⟩) (by first | omega | (simp; omega) | (simp; done))).trans (by go_simp)
  have c6_0_1 : w6.cell? ⟨w1.heap.size, 1, none⟩ = some (.slice ao xs.length cap) := (hb6.cell (p := ⟨w1.heap.size, 1, none⟩) (by first | omega | (simp; omega) | (simp; done))).trans (by go_simp)
  have c6_0_2 : w6.cell? ⟨w1.heap.size, 2, none⟩ = some (.int .i64 (1 + xs.length)) := (hb6.cell (p := ⟨w1.heap.size, 2, none⟩) (by first | omega | (simp; omega) | (simp; done))).trans (by go_simp)
  have c6_1_0 : w6.cell? ⟨w4.heap.size, 0, none⟩ = some (.int .i64 y0) := (hb6.cell (p := ⟨w4.heap.size, 0, none⟩) (by first | omega | (simp; omega) | (simp; done))).trans (by go_simp)
  have c6_1_1 : w6.cell? ⟨w4.heap.size, 1, none⟩ = some (.int .i64 y1) := (hb6.cell (p := ⟨w4.heap.size, 1, none⟩) (by first | omega | (simp; omega) | (simp; done))).trans (by go_simp)
  have c6_1_2 : w6.cell? ⟨w4.heap.size, 2, none⟩ = some (.int .i64 y2) := (hb6.cell (p := ⟨w4.heap.size, 2, none⟩) (by first | omega | (simp; omega) | (simp; done))).trans (by go_simp)
  have c6_1_3 : w6.cell? ⟨w4.heap.size, 3, none⟩ = some (.int .i64 y3) := (hb6.cell (p := ⟨w4.heap.size, 3, none⟩) (by first | omega | (simp; omega) | (simp; done))).trans (by go_simp)
  have c6_1_4 : w6.cell? ⟨w4.heap.size, 4, none⟩ = some (.int .i64 y4) := (hb6.cell (p := ⟨w4.heap.size, 4, none⟩) (by first | omega | (simp; omega) | (simp; done))).trans (by go_simp)
  have c6_2_0 : w6.cell? ⟨w5.heap.size, 0, none⟩ = some (.int .i64 y0) := (hb6.cell (p := ⟨w5.heap.size, 0, none⟩) (by first | omega | (simp; omega) | (simp; done))).trans (by go_simp)
  have c6_2_1 : w6.cell? ⟨w5.heap.size, 1, none⟩ = some (.int .i64 y1) := (hb6.cell (p := ⟨w5.heap.size, 1, none⟩) (by first | omega | (simp; omega) | (simp; done))).trans (by go_simp)
  have c6_2_2 : w6.cell? ⟨w5.heap.size, 2, none⟩ = some (.int .i64 y2) := (hb6.cell (p := ⟨w5.heap.size, 2, none⟩) (by first | omega | (simp; omega) | (simp; done))).trans (by go_simp)
  have c6_2_3 : w6.cell? ⟨w5.heap.size, 3, none⟩ = some (.int .i64 y3) := (hb6.cell (p := ⟨w5.heap.size, 3, none⟩) (by first | omega | (simp; omega) | (simp; done))).trans (by go_simp)
  have c6_2_4 : w6.cell? ⟨w5.heap.size, 4, none⟩ = some (.int .i64 y4) := (hb6.cell (p := ⟨w5.heap.size, 4, none⟩) (by first | omega | (simp; omega) | (simp; done))).trans (by go_simp)
  clear hb6 B5 c5_0_0 c5_0_1 c5_0_2 c5_1_0 c5_1_1 c5_1_2 c5_1_3 c5_1_4
  go_wp2_with fail
  refine (cO.out _).mono ?_
  rintro e w7 ⟨rfl, hb7⟩
  have z7 : w6.heap.size < w7.heap.size := by have := hb7.size; first | omega | (simp at this; omega)
  have z7_0 : w1.heap.size < w7.heap.size := by omega
  have z7_1 : w4.heap.size < w7.heap.size := by omega
  have z7_2 : w5.heap.size < w7.heap.size := by omega
  have B7 : Below w1.heap.size w1 w7 := Below.trans (by go_grown) (hb7.mono (by first | omega | (simp; omega) | (simp; done)))
  have c7_0_0 : w7.cell? ⟨w1.heap.size, 0, none⟩ = some (.int .i64 xs.length) := (hb7.cell (p := ⟨w1.heap.size, 0, none⟩) (by first | omega | (simp; omega) | (simp; done))).trans (by go_simp)
  have c7_0_1 : w7.cell? ⟨w1.heap.size, 1, none⟩ = some (.slice ao xs.length cap) := (hb7.cell (p := ⟨w1.heap.size, 1, none⟩) (by first | omega | (simp; omega) | (simp; done))).trans (by go_simp)
  have c7_0_2 : w7.cell? ⟨w1.heap.size, 2, none⟩ = some (.int .i64 (1 + xs.length)) := (hb7.cell (p := ⟨w1.heap.size, 2, none⟩) (by first | omega | (simp; omega) | (simp; done))).trans (by go_simp)
  have c7_1_0 : w7.cell? ⟨w4.heap.size, 0, none⟩ = some (.int .i64 y0) := (hb7.cell (p := ⟨w4.heap.size, 0, none⟩) (by first | omega | (simp; omega) | (simp; done))).trans (by go_simp)
  have c7_1_1 : w7.cell? ⟨w4.heap.size, 1, none⟩ = some (.int .i64 y1) := (hb7.cell (p := ⟨w4.heap.size, 1, none⟩) (by first | omega | (simp; omega) | (simp; done))).trans (by go_simp)
  have c7_1_2 : w7.cell? ⟨w4.heap.size, 2, none⟩ = some (.int .i64 y2) := (hb7.cell (p := ⟨w4.heap.size, 2, none⟩) (by first | omega | (simp; omega) | (simp; done))).trans (by go_simp)
  have c7_1_3 : w7.cell? ⟨w4.heap.size, 3, none⟩ = some (.int .i64 y3) := (hb7.cell (p := ⟨w4.heap.size, 3, none⟩) (by first | omega | (simp; omega) | (simp; done))).trans (by go_simp)
  have c7_1_4 : w7.cell? ⟨w4.heap.size, 4, none⟩ = some (.int .i64 y4) := (hb7.cell (p := ⟨w4.heap.size, 4, none⟩) (by first | omega | (simp; omega) | (simp; done))).trans (by go_simp)
  have c7_2_0 : w7.cell? ⟨w5.heap.size, 0, none⟩ = some (.int .i64 y0) := (hb7.cell (p := ⟨w5.heap.size, 0, none⟩) (by first | omega | (simp; omega) | (simp; done))).trans (by go_simp)
  have c7_2_1 : w7.cell? ⟨w5.heap.size, 1, none⟩ = some (.int .i64 y1) := (hb7.cell (p := ⟨w5.heap.size, 1, none⟩) (by first | omega | (simp; omega) | (simp; done))).trans (by go_simp)
  have c7_2_2 : w7.cell? ⟨w5.heap.size, 2, none⟩ = some (.int .i64 y2) := (hb7.cell (p := ⟨w5.heap.size, 2, none⟩) (by first | omega | (simp; omega) | (simp; done))).trans (by go_simp)
  have c7_2_3 : w7.cell? ⟨w5.heap.size, 3, none⟩ = some (.int .i64 y3) := (hb7.cell (p := ⟨w5.heap.size, 3, none⟩) (by first | omega | (simp; omega) | (simp; done))).trans (by go_simp)
  have c7_2_4 : w7.cell? ⟨w5.heap.size, 4, none⟩ = some (.int .i64 y4) := (hb7.cell (p := ⟨w5.heap.size, 4, none⟩) (by first | omega | (simp; omega) | (simp; done))).trans (by go_simp)
  have c7_3_0 : w7.cell? ⟨w6.heap.size, 0, none⟩ = some (.int .u8 k4) := (hb7.cell (p := ⟨w6.heap.size, 0, none⟩) (by first | omega | (simp; omega) | (simp; done))).trans (by go_simp)
  have c7_3_1 : w7.cell? ⟨w6.heap.size, 1, none⟩ = some (.int .i32 v4) := (hb7.cell (p := ⟨w6.heap.size, 1, none⟩) (by first | omega | (simp; omega) | (simp; done))).trans (by go_simp)
  clear hb7 B6 c6_0_0 c6_0_1 c6_0_2 c6_1_0 c6_1_1 c6_1_2 c6_1_3 c6_1_4 c6_2_0 c6_2_1 c6_2_2 c6_2_3 c6_2_4
  go_wp2_with fail
  refine (Steps_ms (H.out.ms.below (by go_grown))).mono ?_
  rintro e w' ⟨rfl, rfl⟩
  go_wp2
  obtain ⟨W, hW, hBW, zz0, zz1, zz2, zz3, zz4, x0, x1, x2, x3, x4, x5, x6, x7, x8, x9, x10, x11, x12, x13, x14, x15, x16⟩ : ∃ W, W = w7.alloc (.cells #[.int .u8 k4, .int .i32 v4] 60) ∧ Below w1.heap.size w1 W ∧ w1.heap.size < W.heap.size ∧ w4.heap.size < W.heap.size ∧ w5.heap.size < W.heap.size ∧ w6.heap.size < W.heap.size ∧ w7.heap.size < W.heap.size ∧ W.cell? ⟨w1.heap.size, 0, none⟩ = some (.int .i64 xs.length) ∧ W.cell? ⟨w1.heap.size, 1, none⟩ = some (.slice ao xs.length cap) ∧ W.cell? ⟨w1.heap.size, 2, none⟩ = some (.int .i64 (1 + xs.length)) ∧ W.cell? ⟨w4.heap.size, 0, none⟩ = some (.int .i64 y0) ∧ W.cell? ⟨w4.heap.size, 1, none⟩ = some (.int .i64 y1) ∧ W.cell? ⟨w4.heap.size, 2, none⟩ = some (.int .i64 y2) ∧ W.cell? ⟨w4.heap.size, 3, none⟩ = some (.int .i64 y3) ∧ W.cell? ⟨w4.heap.size, 4, none⟩ = some (.int .i64 y4) ∧ W.cell? ⟨w5.heap.size, 0, none⟩ = some (.int .i64 y0) ∧ W.cell? ⟨w5.heap.size, 1, none⟩ = some (.int .i64 y1) ∧ W.cell? ⟨w5.heap.size, 2, none⟩ = some (.int .i64 y2) ∧ W.cell? ⟨w5.heap.size, 3, none⟩ = some (.int .i64 y3) ∧ W.cell? ⟨w5.heap.size, 4, none⟩ = some (.int .i64 y4) ∧ W.cell? ⟨w6.heap.size, 0, none⟩ = some (.int .u8 k4) ∧ W.cell? ⟨w6.heap.size, 1, none⟩ = some (.int .i32 v4) ∧ W.cell? ⟨w7.heap.size, 0, none⟩ = some (.int .u8 k4) ∧ W.cell? ⟨w7.heap.size, 1, none⟩ = some (.int .i32 v4) :=
    ⟨_, rfl, by go_grown, by first | (simp; done) | (simp; omega), by first | (simp; done) | (simp; omega), by first | (simp; done) | (simp; omega), by first | (simp; done) | (simp; omega), by first | (simp; done) | (simp; omega), by go_simp, by go_simp, by go_simp, by go_simp, by go_simp, by go_simp, by go_simp, by go_simp, by go_simp, by go_simp, by go_simp, by go_simp, by go_simp, by go_simp, by go_simp, by go_simp, by go_simp⟩
  rw [← hW]
  have HBW := Lib.hid hBW
  clear hW hBW B7 c7_0_0 c7_0_1 c7_0_2 c7_1_0 c7_1_1 c7_1_2 c7_1_3 c7_1_4 c7_2_0 c7_2_1 c7_2_2 c7_2_3 c7_2_4 c7_3_0 c7_3_1
  go_region_held3 (fun wz => Below W.heap.size W wz ∧ W.heap.size ≤ wz.heap.size ∧ wz.cell? ⟨w1.heap.size, 0, none⟩ = some (.int .i64 xs.length) ∧ wz.cell? ⟨w1.heap.size, 1, none⟩ = some (.slice ao xs.length cap) ∧ wz.cell? ⟨w1.heap.size, 2, none⟩ = some (.int .i64 (1 + xs.length)) ∧ wz.cell? ⟨w4.heap.size, 0, none⟩ = some (.int .i64 y0) ∧ wz.cell? ⟨w4.heap.size, 1, none⟩ = some (.int .i64 y1) ∧ wz.cell? ⟨w4.heap.size, 2, none⟩ = some (.int .i64 y2) ∧ wz.cell? ⟨w4.heap.size, 3, none⟩ = some (.int .i64 y3) ∧ wz.cell? ⟨w4.heap.size, 4, none⟩ = some (.int .i64 y4) ∧ wz.cell? ⟨w5.heap.size, 0, none⟩ = some (.int .i64 y0) ∧ wz.cell? ⟨w5.heap.size, 1, none⟩ = some (.int .i64 y1) ∧ wz.cell? ⟨w5.heap.size, 2, none⟩ = some (.int .i64 y2) ∧ wz.cell? ⟨w5.heap.size, 3, none⟩ = some (.int .i64 y3) ∧ wz.cell? ⟨w5.heap.size, 4, none⟩ = some (.int .i64 y4) ∧ wz.cell? ⟨w6.heap.size, 0, none⟩ = some (.int .u8 k4) ∧ wz.cell? ⟨w6.heap.size, 1, none⟩ = some (.int .i32 v4) ∧ wz.cell? ⟨w7.heap.size, 0, none⟩ = some (.int .u8 k4) ∧ wz.cell? ⟨w7.heap.size, 1, none⟩ = some (.int .i32 v4))
    (first | (exact ⟨(Below.refl _ _).drew, Nat.le_refl _, x0, x1, x2, x3, x4, x5, x6, x7, x8, x9, x10, x11, x12, x13, x14, x15, x16⟩) | (go_split_ands; refine ⟨?_, ?_, ?_, ?_, ?_, ?_, ?_, ?_, ?_, ?_, ?_, ?_, ?_, ?_, ?_, ?_, ?_, ?_, ?_⟩ <;> first | (with_reducible assumption) | (have := hb.size; omega) | (rw [hb.cell (by simp; omega)]; (with_reducible assumption)) | exact Below.trans (by with_reducible assumption) (hb.mono (by omega))))
    (first | (go_at_call 17; go_split_ands; refine (cQ.out _ (Below.trans HBW.out (Below.mono (B := W.heap.size) (by assumption) HBW.out.size))).mono ?_; rintro e w2 ⟨rfl, hb⟩) | (go_at_call 53; go_split_ands; refine (cU.out _ (Below.trans HBW.out (Below.mono (B := W.heap.size) (by assumption) HBW.out.size))).mono ?_; rintro e w2 ⟨rfl, hb⟩) | (go_at_call 35; refine (Waits_f y0 y1 y2 y3 y4 _).mono ?_; rintro e w2 ⟨rfl, hb⟩) | (go_at_call 26; go_split_ands; refine (Steps_ms (H.out.ms.below (Below.trans HBW.out (Below.mono (B := W.heap.size) (by assumption) HBW.out.size)))).mono ?_; rintro e w2 ⟨rfl, rfl⟩))
  all_goals
    go_split_ands
    have B9 := HBW.out.trans (Below.mono (B := W.heap.size) (by assumption) HBW.out.size)
    have B0 := H.out.ms.B
    go_wp2
    go_ret
    exact ⟨by first | rfl | (simp; done), B0.trans (B9.mono B0.size)⟩
theorem asks13_any (l : Value) (xs : List Int) (a : Int) (w : World) (hl : Sl w l xs) (hn : xs.length ≤ 1000) (ha2 : a ≤ 9223372036854775807) :
    Calls Try.prog 39 #[l, .int .i64 a] w fun e w' => e = .returned (.bool true) ∧ Below w.heap.size w w' :=
  asks13_core l xs a w hl hn ha2 _ _ _ _ _ _ _ _ _ _ _ (Lib.hid ⟨rfl, rfl, rfl, rfl, rfl, rfl, rfl⟩)
theorem i64_le (n : Int) : IntKind.i64.wrap n ≤ 9223372036854775807 := by rw [IntKind.wrap_i64]; omega

end Go.Proofs.Ytepkpfnghgocgaa
