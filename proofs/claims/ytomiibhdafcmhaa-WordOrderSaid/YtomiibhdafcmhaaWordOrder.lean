/- WordOrder: words stand in the order of values, then of kinds; an operation and what is told of the same numbers have one word: the law returns true for every input. -/
import Derived.Test.YtomiibhdafcmhaaWord
import Derived.Test.YtomiibhdafcmhaaWordKnown
import Derived.Test.YtomiibhdafcmhaaFrame
namespace Go.Proofs.Ytomiibhdafcmhaa
open Go.RowKit
open Go.ChangeShapes Go.WideShapes Go.ChangeAt

theorem wAsks_yes (n : Int) (w : World) (h : 0 < n) : Calls Try.prog 11 #[.int .i64 n] w fun e w' => e = .returned (.bool true) ∧ w = w' := by
  have h' := wAsks_any n w
  rw [decide_eq_true h] at h'
  exact h'

set_option maxHeartbeats 2000000 in
theorem wordOrder_a (k v c u : Int) (w : World) (h1 : 0 ≤ k) (h2 : k ≤ 255) (h3 : -2147483648 ≤ v) (h4 : v ≤ 2147483647) (i1 : 0 ≤ c) (i2 : c ≤ 255) (i3 : -2147483648 ≤ u) (i4 : u ≤ 2147483647) (h : v < u) :
    Calls Try.prog 4 #[.agg #[.int .u8 k, .int .i32 v], .agg #[.int .u8 c, .int .i32 u]] w fun e w' => e = .returned (.bool true) ∧ Below w.heap.size w w' := by
  have e0 : (v == u) = false := by rw [beq_eq_false_iff_ne]; omega
  have e1 : wordOf k v < wordOf c u := by unfold wordOf; omega
  have e2 : (wordOf k v == wordOf c u) = false := by rw [beq_eq_false_iff_ne]; unfold wordOf; omega
  have t1 := word_rng h1 h2 h3 h4
  obtain ⟨t2, t3⟩ := t1
  have t4 : 0 < wordOf k v := by omega
  go_enter Try.func4, Try.ntmps4
  go_wp2_with fail
  refine (wOp_any k v _ (by omega) (by omega) (by omega) (by omega)).mono ?_
  rintro e w1 ⟨rfl, hb1⟩
  have z1 : w.heap.size + 1 < w1.heap.size := by have := hb1.size; first | omega | (simp at this; omega)
  have B1 : Below w.heap.size w w1 := Below.trans (by go_grown) (hb1.mono (by first | omega | (simp; omega) | (simp; done)))
  have z1_0 : w.heap.size < w1.heap.size := by omega
  have c1_0_0 : w1.cell? ⟨w.heap.size, 0, none⟩ = some (.int .u8 k) := (hb1.cell (p := ⟨w.heap.size, 0, none⟩) (by first | omega | (simp; omega) | (simp; done))).trans (by go_simp)
  have c1_0_1 : w1.cell? ⟨w.heap.size, 1, none⟩ = some (.int .i32 v) := (hb1.cell (p := ⟨w.heap.size, 1, none⟩) (by first | omega | (simp; omega) | (simp; done))).trans (by go_simp)
  have c1_1_0 : w1.cell? ⟨w.heap.size + 1, 0, none⟩ = some (.int .u8 c) := (hb1.cell (p := ⟨w.heap.size + 1, 0, none⟩) (by first | omega | (simp; omega) | (simp; done))).trans (by go_simp)
  have c1_1_1 : w1.cell? ⟨w.heap.size + 1, 1, none⟩ = some (.int .i32 u) := (hb1.cell (p := ⟨w.heap.size + 1, 1, none⟩) (by first | omega | (simp; omega) | (simp; done))).trans (by go_simp)
  clear hb1
  go_wp2_with fail
  refine (wOp_any c u _ (by omega) (by omega) (by omega) (by omega)).mono ?_
  rintro e w2 ⟨rfl, hb2⟩
  have z2 : w.heap.size + 1 < w2.heap.size := by have := hb2.size; first | omega | (simp at this; omega)
  have B2 : Below w.heap.size w w2 := Below.trans (by go_grown) (hb2.mono (by first | omega | (simp; omega) | (simp; done)))
  have z2_0 : w.heap.size < w2.heap.size := by omega
  have c2_0_0 : w2.cell? ⟨w.heap.size, 0, none⟩ = some (.int .u8 k) := (hb2.cell (p := ⟨w.heap.size, 0, none⟩) (by first | omega | (simp; omega) | (simp; done))).trans (by go_simp)
  have c2_0_1 : w2.cell? ⟨w.heap.size, 1, none⟩ = some (.int .i32 v) := (hb2.cell (p := ⟨w.heap.size, 1, none⟩) (by first | omega | (simp; omega) | (simp; done))).trans (by go_simp)
  have c2_1_0 : w2.cell? ⟨w.heap.size + 1, 0, none⟩ = some (.int .u8 c) := (hb2.cell (p := ⟨w.heap.size + 1, 0, none⟩) (by first | omega | (simp; omega) | (simp; done))).trans (by go_simp)
  have c2_1_1 : w2.cell? ⟨w.heap.size + 1, 1, none⟩ = some (.int .i32 u) := (hb2.cell (p := ⟨w.heap.size + 1, 1, none⟩) (by first | omega | (simp; omega) | (simp; done))).trans (by go_simp)
  clear hb2 B1 c1_0_0 c1_0_1 c1_1_0 c1_1_1
  go_wp2_with fail
  refine (known1_any _).mono ?_
  rintro e w3 ⟨rfl, hb3⟩
  have z3 : w.heap.size + 1 < w3.heap.size := by have := hb3.size; first | omega | (simp at this; omega)
  have B3 : Below w.heap.size w w3 := Below.trans (by go_grown) (hb3.mono (by first | omega | (simp; omega) | (simp; done)))
  have z3_0 : w.heap.size < w3.heap.size := by omega
  have c3_0_0 : w3.cell? ⟨w.heap.size, 0, none⟩ = some (.int .u8 k) := (hb3.cell (p := ⟨w.heap.size, 0, none⟩) (by first | omega | (simp; omega) | (simp; done))).trans (by go_simp)
  have c3_0_1 : w3.cell? ⟨w.heap.size, 1, none⟩ = some (.int .i32 v) := (hb3.cell (p := ⟨w.heap.size, 1, none⟩) (by first | omega | (simp; omega) | (simp; done))).trans (by go_simp)
  have c3_1_0 : w3.cell? ⟨w.heap.size + 1, 0, none⟩ = some (.int .u8 c) := (hb3.cell (p := ⟨w.heap.size + 1, 0, none⟩) (by first | omega | (simp; omega) | (simp; done))).trans (by go_simp)
  have c3_1_1 : w3.cell? ⟨w.heap.size + 1, 1, none⟩ = some (.int .i32 u) := (hb3.cell (p := ⟨w.heap.size + 1, 1, none⟩) (by first | omega | (simp; omega) | (simp; done))).trans (by go_simp)
  clear hb3 B2 c2_0_0 c2_0_1 c2_1_0 c2_1_1
  go_wp2_with fail
  refine (wRes_any k v _ (by omega) (by omega) (by omega) (by omega)).mono ?_
  rintro e w4 ⟨rfl, hb4⟩
  have z4 : w.heap.size + 1 < w4.heap.size := by have := hb4.size; first | omega | (simp at this; omega)
  have B4 : Below w.heap.size w w4 := Below.trans (by go_grown) (hb4.mono (by first | omega | (simp; omega) | (simp; done)))
  have z4_0 : w.heap.size < w4.heap.size := by omega
  have c4_0_0 : w4.cell? ⟨w.heap.size, 0, none⟩ = some (.int .u8 k) := (hb4.cell (p := ⟨w.heap.size, 0, none⟩) (by first | omega | (simp; omega) | (simp; done))).trans (by go_simp)
  have c4_0_1 : w4.cell? ⟨w.heap.size, 1, none⟩ = some (.int .i32 v) := (hb4.cell (p := ⟨w.heap.size, 1, none⟩) (by first | omega | (simp; omega) | (simp; done))).trans (by go_simp)
  have c4_1_0 : w4.cell? ⟨w.heap.size + 1, 0, none⟩ = some (.int .u8 c) := (hb4.cell (p := ⟨w.heap.size + 1, 0, none⟩) (by first | omega | (simp; omega) | (simp; done))).trans (by go_simp)
  have c4_1_1 : w4.cell? ⟨w.heap.size + 1, 1, none⟩ = some (.int .i32 u) := (hb4.cell (p := ⟨w.heap.size + 1, 1, none⟩) (by first | omega | (simp; omega) | (simp; done))).trans (by go_simp)
  clear hb4 B3 c3_0_0 c3_0_1 c3_1_0 c3_1_1
  go_wp2_with fail
  refine (wAsks_yes _ _ t4).mono ?_
  rintro e w' ⟨rfl, rfl⟩
  go_wp2
  go_ret
  exact ⟨by first | rfl | (simp; done) | (simp; omega), by assumption⟩

set_option maxHeartbeats 2000000 in
theorem wordOrder_b (k v c u : Int) (w : World) (h1 : 0 ≤ k) (h2 : k ≤ 255) (h3 : -2147483648 ≤ v) (h4 : v ≤ 2147483647) (i1 : 0 ≤ c) (i2 : c ≤ 255) (i3 : -2147483648 ≤ u) (i4 : u ≤ 2147483647) (h : u < v) :
    Calls Try.prog 4 #[.agg #[.int .u8 k, .int .i32 v], .agg #[.int .u8 c, .int .i32 u]] w fun e w' => e = .returned (.bool true) ∧ Below w.heap.size w w' := by
  have e0 : (v == u) = false := by rw [beq_eq_false_iff_ne]; omega
  have e1 : wordOf c u < wordOf k v := by unfold wordOf; omega
  have e2 : (wordOf k v == wordOf c u) = false := by rw [beq_eq_false_iff_ne]; unfold wordOf; omega
  have t1 := word_rng h1 h2 h3 h4
  obtain ⟨t2, t3⟩ := t1
  have t4 : 0 < wordOf k v := by omega
  go_enter Try.func4, Try.ntmps4
  go_wp2_with fail
  refine (wOp_any k v _ (by omega) (by omega) (by omega) (by omega)).mono ?_
  rintro e w1 ⟨rfl, hb1⟩
  have z1 : w.heap.size + 1 < w1.heap.size := by have := hb1.size; first | omega | (simp at this; omega)
  have B1 : Below w.heap.size w w1 := Below.trans (by go_grown) (hb1.mono (by first | omega | (simp; omega) | (simp; done)))
  have z1_0 : w.heap.size < w1.heap.size := by omega
  have c1_0_0 : w1.cell? ⟨w.heap.size, 0, none⟩ = some (.int .u8 k) := (hb1.cell (p := ⟨w.heap.size, 0, none⟩) (by first | omega | (simp; omega) | (simp; done))).trans (by go_simp)
  have c1_0_1 : w1.cell? ⟨w.heap.size, 1, none⟩ = some (.int .i32 v) := (hb1.cell (p := ⟨w.heap.size, 1, none⟩) (by first | omega | (simp; omega) | (simp; done))).trans (by go_simp)
  have c1_1_0 : w1.cell? ⟨w.heap.size + 1, 0, none⟩ = some (.int .u8 c) := (hb1.cell (p := ⟨w.heap.size + 1, 0, none⟩) (by first | omega | (simp; omega) | (simp; done))).trans (by go_simp)
  have c1_1_1 : w1.cell? ⟨w.heap.size + 1, 1, none⟩ = some (.int .i32 u) := (hb1.cell (p := ⟨w.heap.size + 1, 1, none⟩) (by first | omega | (simp; omega) | (simp; done))).trans (by go_simp)
  clear hb1
  go_wp2_with fail
  refine (wOp_any c u _ (by omega) (by omega) (by omega) (by omega)).mono ?_
  rintro e w2 ⟨rfl, hb2⟩
  have z2 : w.heap.size + 1 < w2.heap.size := by have := hb2.size; first | omega | (simp at this; omega)
  have B2 : Below w.heap.size w w2 := Below.trans (by go_grown) (hb2.mono (by first | omega | (simp; omega) | (simp; done)))
  have z2_0 : w.heap.size < w2.heap.size := by omega
  have c2_0_0 : w2.cell? ⟨w.heap.size, 0, none⟩ = some (.int .u8 k) := (hb2.cell (p := ⟨w.heap.size, 0, none⟩) (by first | omega | (simp; omega) | (simp; done))).trans (by go_simp)
  have c2_0_1 : w2.cell? ⟨w.heap.size, 1, none⟩ = some (.int .i32 v) := (hb2.cell (p := ⟨w.heap.size, 1, none⟩) (by first | omega | (simp; omega) | (simp; done))).trans (by go_simp)
  have c2_1_0 : w2.cell? ⟨w.heap.size + 1, 0, none⟩ = some (.int .u8 c) := (hb2.cell (p := ⟨w.heap.size + 1, 0, none⟩) (by first | omega | (simp; omega) | (simp; done))).trans (by go_simp)
  have c2_1_1 : w2.cell? ⟨w.heap.size + 1, 1, none⟩ = some (.int .i32 u) := (hb2.cell (p := ⟨w.heap.size + 1, 1, none⟩) (by first | omega | (simp; omega) | (simp; done))).trans (by go_simp)
  clear hb2 B1 c1_0_0 c1_0_1 c1_1_0 c1_1_1
  go_wp2_with fail
  refine (known1_any _).mono ?_
  rintro e w3 ⟨rfl, hb3⟩
  have z3 : w.heap.size + 1 < w3.heap.size := by have := hb3.size; first | omega | (simp at this; omega)
  have B3 : Below w.heap.size w w3 := Below.trans (by go_grown) (hb3.mono (by first | omega | (simp; omega) | (simp; done)))
  have z3_0 : w.heap.size < w3.heap.size := by omega
  have c3_0_0 : w3.cell? ⟨w.heap.size, 0, none⟩ = some (.int .u8 k) := (hb3.cell (p := ⟨w.heap.size, 0, none⟩) (by first | omega | (simp; omega) | (simp; done))).trans (by go_simp)
  have c3_0_1 : w3.cell? ⟨w.heap.size, 1, none⟩ = some (.int .i32 v) := (hb3.cell (p := ⟨w.heap.size, 1, none⟩) (by first | omega | (simp; omega) | (simp; done))).trans (by go_simp)
  have c3_1_0 : w3.cell? ⟨w.heap.size + 1, 0, none⟩ = some (.int .u8 c) := (hb3.cell (p := ⟨w.heap.size + 1, 0, none⟩) (by first | omega | (simp; omega) | (simp; done))).trans (by go_simp)
  have c3_1_1 : w3.cell? ⟨w.heap.size + 1, 1, none⟩ = some (.int .i32 u) := (hb3.cell (p := ⟨w.heap.size + 1, 1, none⟩) (by first | omega | (simp; omega) | (simp; done))).trans (by go_simp)
  clear hb3 B2 c2_0_0 c2_0_1 c2_1_0 c2_1_1
  go_wp2_with fail
  refine (wRes_any k v _ (by omega) (by omega) (by omega) (by omega)).mono ?_
  rintro e w4 ⟨rfl, hb4⟩
  have z4 : w.heap.size + 1 < w4.heap.size := by have := hb4.size; first | omega | (simp at this; omega)
  have B4 : Below w.heap.size w w4 := Below.trans (by go_grown) (hb4.mono (by first | omega | (simp; omega) | (simp; done)))
  have z4_0 : w.heap.size < w4.heap.size := by omega
  have c4_0_0 : w4.cell? ⟨w.heap.size, 0, none⟩ = some (.int .u8 k) := (hb4.cell (p := ⟨w.heap.size, 0, none⟩) (by first | omega | (simp; omega) | (simp; done))).trans (by go_simp)
  have c4_0_1 : w4.cell? ⟨w.heap.size, 1, none⟩ = some (.int .i32 v) := (hb4.cell (p := ⟨w.heap.size, 1, none⟩) (by first | omega | (simp; omega) | (simp; done))).trans (by go_simp)
  have c4_1_0 : w4.cell? ⟨w.heap.size + 1, 0, none⟩ = some (.int .u8 c) := (hb4.cell (p := ⟨w.heap.size + 1, 0, none⟩) (by first | omega | (simp; omega) | (simp; done))).trans (by go_simp)
  have c4_1_1 : w4.cell? ⟨w.heap.size + 1, 1, none⟩ = some (.int .i32 u) := (hb4.cell (p := ⟨w.heap.size + 1, 1, none⟩) (by first | omega | (simp; omega) | (simp; done))).trans (by go_simp)
  clear hb4 B3 c3_0_0 c3_0_1 c3_1_0 c3_1_1
  go_wp2_with fail
  refine (wAsks_yes _ _ t4).mono ?_
  rintro e w' ⟨rfl, rfl⟩
  go_wp2
  go_ret
  exact ⟨by first | rfl | (simp; done) | (simp; omega), by assumption⟩

set_option maxHeartbeats 2000000 in
theorem wordOrder_c (k v c : Int) (w : World) (h1 : 0 ≤ k) (h2 : k ≤ 255) (h3 : -2147483648 ≤ v) (h4 : v ≤ 2147483647) (i1 : 0 ≤ c) (i2 : c ≤ 255) (h : k < c) :
    Calls Try.prog 4 #[.agg #[.int .u8 k, .int .i32 v], .agg #[.int .u8 c, .int .i32 v]] w fun e w' => e = .returned (.bool true) ∧ Below w.heap.size w w' := by
  have e0 : (k == c) = false := by rw [beq_eq_false_iff_ne]; omega
  have e1 : wordOf k v < wordOf c v := by unfold wordOf; omega
  have e2 : (wordOf k v == wordOf c v) = false := by rw [beq_eq_false_iff_ne]; unfold wordOf; omega
  have t1 := word_rng h1 h2 h3 h4
  obtain ⟨t2, t3⟩ := t1
  have t4 : 0 < wordOf k v := by omega
  go_enter Try.func4, Try.ntmps4
  go_wp2_with fail
  refine (wOp_any k v _ (by omega) (by omega) (by omega) (by omega)).mono ?_
  rintro e w1 ⟨rfl, hb1⟩
  have z1 : w.heap.size + 1 < w1.heap.size := by have := hb1.size; first | omega | (simp at this; omega)
  have B1 : Below w.heap.size w w1 := Below.trans (by go_grown) (hb1.mono (by first | omega | (simp; omega) | (simp; done)))
  have z1_0 : w.heap.size < w1.heap.size := by omega
  have c1_0_0 : w1.cell? ⟨w.heap.size, 0, none⟩ = some (.int .u8 k) := (hb1.cell (p := ⟨w.heap.size, 0, none⟩) (by first | omega | (simp; omega) | (simp; done))).trans (by go_simp)
  have c1_0_1 : w1.cell? ⟨w.heap.size, 1, none⟩ = some (.int .i32 v) := (hb1.cell (p := ⟨w.heap.size, 1, none⟩) (by first | omega | (simp; omega) | (simp; done))).trans (by go_simp)
  have c1_1_0 : w1.cell? ⟨w.heap.size + 1, 0, none⟩ = some (.int .u8 c) := (hb1.cell (p := ⟨w.heap.size + 1, 0, none⟩) (by first | omega | (simp; omega) | (simp; done))).trans (by go_simp)
  have c1_1_1 : w1.cell? ⟨w.heap.size + 1, 1, none⟩ = some (.int .i32 v) := (hb1.cell (p := ⟨w.heap.size + 1, 1, none⟩) (by first | omega | (simp; omega) | (simp; done))).trans (by go_simp)
  clear hb1
  go_wp2_with fail
  refine (wOp_any c v _ (by omega) (by omega) (by omega) (by omega)).mono ?_
  rintro e w2 ⟨rfl, hb2⟩
  have z2 : w.heap.size + 1 < w2.heap.size := by have := hb2.size; first | omega | (simp at this; omega)
  have B2 : Below w.heap.size w w2 := Below.trans (by go_grown) (hb2.mono (by first | omega | (simp; omega) | (simp; done)))
  have z2_0 : w.heap.size < w2.heap.size := by omega
  have c2_0_0 : w2.cell? ⟨w.heap.size, 0, none⟩ = some (.int .u8 k) := (hb2.cell (p := ⟨w.heap.size, 0, none⟩) (by first | omega | (simp; omega) | (simp; done))).trans (by go_simp)
  have c2_0_1 : w2.cell? ⟨w.heap.size, 1, none⟩ = some (.int .i32 v) := (hb2.cell (p := ⟨w.heap.size, 1, none⟩) (by first | omega | (simp; omega) | (simp; done))).trans (by go_simp)
  have c2_1_0 : w2.cell? ⟨w.heap.size + 1, 0, none⟩ = some (.int .u8 c) := (hb2.cell (p := ⟨w.heap.size + 1, 0, none⟩) (by first | omega | (simp; omega) | (simp; done))).trans (by go_simp)
  have c2_1_1 : w2.cell? ⟨w.heap.size + 1, 1, none⟩ = some (.int .i32 v) := (hb2.cell (p := ⟨w.heap.size + 1, 1, none⟩) (by first | omega | (simp; omega) | (simp; done))).trans (by go_simp)
  clear hb2 B1 c1_0_0 c1_0_1 c1_1_0 c1_1_1
  go_wp2_with fail
  refine (known1_any _).mono ?_
  rintro e w3 ⟨rfl, hb3⟩
  have z3 : w.heap.size + 1 < w3.heap.size := by have := hb3.size; first | omega | (simp at this; omega)
  have B3 : Below w.heap.size w w3 := Below.trans (by go_grown) (hb3.mono (by first | omega | (simp; omega) | (simp; done)))
  have z3_0 : w.heap.size < w3.heap.size := by omega
  have c3_0_0 : w3.cell? ⟨w.heap.size, 0, none⟩ = some (.int .u8 k) := (hb3.cell (p := ⟨w.heap.size, 0, none⟩) (by first | omega | (simp; omega) | (simp; done))).trans (by go_simp)
  have c3_0_1 : w3.cell? ⟨w.heap.size, 1, none⟩ = some (.int .i32 v) := (hb3.cell (p := ⟨w.heap.size, 1, none⟩) (by first | omega | (simp; omega) | (simp; done))).trans (by go_simp)
  have c3_1_0 : w3.cell? ⟨w.heap.size + 1, 0, none⟩ = some (.int .u8 c) := (hb3.cell (p := ⟨w.heap.size + 1, 0, none⟩) (by first | omega | (simp; omega) | (simp; done))).trans (by go_simp)
  have c3_1_1 : w3.cell? ⟨w.heap.size + 1, 1, none⟩ = some (.int .i32 v) := (hb3.cell (p := ⟨w.heap.size + 1, 1, none⟩) (by first | omega | (simp; omega) | (simp; done))).trans (by go_simp)
  clear hb3 B2 c2_0_0 c2_0_1 c2_1_0 c2_1_1
  go_wp2_with fail
  refine (wRes_any k v _ (by omega) (by omega) (by omega) (by omega)).mono ?_
  rintro e w4 ⟨rfl, hb4⟩
  have z4 : w.heap.size + 1 < w4.heap.size := by have := hb4.size; first | omega | (simp at this; omega)
  have B4 : Below w.heap.size w w4 := Below.trans (by go_grown) (hb4.mono (by first | omega | (simp; omega) | (simp; done)))
  have z4_0 : w.heap.size < w4.heap.size := by omega
  have c4_0_0 : w4.cell? ⟨w.heap.size, 0, none⟩ = some (.int .u8 k) := (hb4.cell (p := ⟨w.heap.size, 0, none⟩) (by first | omega | (simp; omega) | (simp; done))).trans (by go_simp)
  have c4_0_1 : w4.cell? ⟨w.heap.size, 1, none⟩ = some (.int .i32 v) := (hb4.cell (p := ⟨w.heap.size, 1, none⟩) (by first | omega | (simp; omega) | (simp; done))).trans (by go_simp)
  have c4_1_0 : w4.cell? ⟨w.heap.size + 1, 0, none⟩ = some (.int .u8 c) := (hb4.cell (p := ⟨w.heap.size + 1, 0, none⟩) (by first | omega | (simp; omega) | (simp; done))).trans (by go_simp)
  have c4_1_1 : w4.cell? ⟨w.heap.size + 1, 1, none⟩ = some (.int .i32 v) := (hb4.cell (p := ⟨w.heap.size + 1, 1, none⟩) (by first | omega | (simp; omega) | (simp; done))).trans (by go_simp)
  clear hb4 B3 c3_0_0 c3_0_1 c3_1_0 c3_1_1
  go_wp2_with fail
  refine (wAsks_yes _ _ t4).mono ?_
  rintro e w' ⟨rfl, rfl⟩
  go_wp2
  go_ret
  exact ⟨by first | rfl | (simp; done) | (simp; omega), by assumption⟩

set_option maxHeartbeats 2000000 in
theorem wordOrder_d (k v c : Int) (w : World) (h1 : 0 ≤ k) (h2 : k ≤ 255) (h3 : -2147483648 ≤ v) (h4 : v ≤ 2147483647) (i1 : 0 ≤ c) (i2 : c ≤ 255) (h : c < k) :
    Calls Try.prog 4 #[.agg #[.int .u8 k, .int .i32 v], .agg #[.int .u8 c, .int .i32 v]] w fun e w' => e = .returned (.bool true) ∧ Below w.heap.size w w' := by
  have e0 : (k == c) = false := by rw [beq_eq_false_iff_ne]; omega
  have e1 : wordOf c v < wordOf k v := by unfold wordOf; omega
  have e2 : (wordOf k v == wordOf c v) = false := by rw [beq_eq_false_iff_ne]; unfold wordOf; omega
  have t1 := word_rng h1 h2 h3 h4
  obtain ⟨t2, t3⟩ := t1
  have t4 : 0 < wordOf k v := by omega
  go_enter Try.func4, Try.ntmps4
  go_wp2_with fail
  refine (wOp_any k v _ (by omega) (by omega) (by omega) (by omega)).mono ?_
  rintro e w1 ⟨rfl, hb1⟩
  have z1 : w.heap.size + 1 < w1.heap.size := by have := hb1.size; first | omega | (simp at this; omega)
  have B1 : Below w.heap.size w w1 := Below.trans (by go_grown) (hb1.mono (by first | omega | (simp; omega) | (simp; done)))
  have z1_0 : w.heap.size < w1.heap.size := by omega
  have c1_0_0 : w1.cell? ⟨w.heap.size, 0, none⟩ = some (.int .u8 k) := (hb1.cell (p := ⟨w.heap.size, 0, none⟩) (by first | omega | (simp; omega) | (simp; done))).trans (by go_simp)
  have c1_0_1 : w1.cell? ⟨w.heap.size, 1, none⟩ = some (.int .i32 v) := (hb1.cell (p := ⟨w.heap.size, 1, none⟩) (by first | omega | (simp; omega) | (simp; done))).trans (by go_simp)
  have c1_1_0 : w1.cell? ⟨w.heap.size + 1, 0, none⟩ = some (.int .u8 c) := (hb1.cell (p := ⟨w.heap.size + 1, 0, none⟩) (by first | omega | (simp; omega) | (simp; done))).trans (by go_simp)
  have c1_1_1 : w1.cell? ⟨w.heap.size + 1, 1, none⟩ = some (.int .i32 v) := (hb1.cell (p := ⟨w.heap.size + 1, 1, none⟩) (by first | omega | (simp; omega) | (simp; done))).trans (by go_simp)
  clear hb1
  go_wp2_with fail
  refine (wOp_any c v _ (by omega) (by omega) (by omega) (by omega)).mono ?_
  rintro e w2 ⟨rfl, hb2⟩
  have z2 : w.heap.size + 1 < w2.heap.size := by have := hb2.size; first | omega | (simp at this; omega)
  have B2 : Below w.heap.size w w2 := Below.trans (by go_grown) (hb2.mono (by first | omega | (simp; omega) | (simp; done)))
  have z2_0 : w.heap.size < w2.heap.size := by omega
  have c2_0_0 : w2.cell? ⟨w.heap.size, 0, none⟩ = some (.int .u8 k) := (hb2.cell (p := ⟨w.heap.size, 0, none⟩) (by first | omega | (simp; omega) | (simp; done))).trans (by go_simp)
  have c2_0_1 : w2.cell? ⟨w.heap.size, 1, none⟩ = some (.int .i32 v) := (hb2.cell (p := ⟨w.heap.size, 1, none⟩) (by first | omega | (simp; omega) | (simp; done))).trans (by go_simp)
  have c2_1_0 : w2.cell? ⟨w.heap.size + 1, 0, none⟩ = some (.int .u8 c) := (hb2.cell (p := ⟨w.heap.size + 1, 0, none⟩) (by first | omega | (simp; omega) | (simp; done))).trans (by go_simp)
  have c2_1_1 : w2.cell? ⟨w.heap.size + 1, 1, none⟩ = some (.int .i32 v) := (hb2.cell (p := ⟨w.heap.size + 1, 1, none⟩) (by first | omega | (simp; omega) | (simp; done))).trans (by go_simp)
  clear hb2 B1 c1_0_0 c1_0_1 c1_1_0 c1_1_1
  go_wp2_with fail
  refine (known1_any _).mono ?_
  rintro e w3 ⟨rfl, hb3⟩
  have z3 : w.heap.size + 1 < w3.heap.size := by have := hb3.size; first | omega | (simp at this; omega)
  have B3 : Below w.heap.size w w3 := Below.trans (by go_grown) (hb3.mono (by first | omega | (simp; omega) | (simp; done)))
  have z3_0 : w.heap.size < w3.heap.size := by omega
  have c3_0_0 : w3.cell? ⟨w.heap.size, 0, none⟩ = some (.int .u8 k) := (hb3.cell (p := ⟨w.heap.size, 0, none⟩) (by first | omega | (simp; omega) | (simp; done))).trans (by go_simp)
  have c3_0_1 : w3.cell? ⟨w.heap.size, 1, none⟩ = some (.int .i32 v) := (hb3.cell (p := ⟨w.heap.size, 1, none⟩) (by first | omega | (simp; omega) | (simp; done))).trans (by go_simp)
  have c3_1_0 : w3.cell? ⟨w.heap.size + 1, 0, none⟩ = some (.int .u8 c) := (hb3.cell (p := ⟨w.heap.size + 1, 0, none⟩) (by first | omega | (simp; omega) | (simp; done))).trans (by go_simp)
  have c3_1_1 : w3.cell? ⟨w.heap.size + 1, 1, none⟩ = some (.int .i32 v) := (hb3.cell (p := ⟨w.heap.size + 1, 1, none⟩) (by first | omega | (simp; omega) | (simp; done))).trans (by go_simp)
  clear hb3 B2 c2_0_0 c2_0_1 c2_1_0 c2_1_1
  go_wp2_with fail
  refine (wRes_any k v _ (by omega) (by omega) (by omega) (by omega)).mono ?_
  rintro e w4 ⟨rfl, hb4⟩
  have z4 : w.heap.size + 1 < w4.heap.size := by have := hb4.size; first | omega | (simp at this; omega)
  have B4 : Below w.heap.size w w4 := Below.trans (by go_grown) (hb4.mono (by first | omega | (simp; omega) | (simp; done)))
  have z4_0 : w.heap.size < w4.heap.size := by omega
  have c4_0_0 : w4.cell? ⟨w.heap.size, 0, none⟩ = some (.int .u8 k) := (hb4.cell (p := ⟨w.heap.size, 0, none⟩) (by first | omega | (simp; omega) | (simp; done))).trans (by go_simp)
  have c4_0_1 : w4.cell? ⟨w.heap.size, 1, none⟩ = some (.int .i32 v) := (hb4.cell (p := ⟨w.heap.size, 1, none⟩) (by first | omega | (simp; omega) | (simp; done))).trans (by go_simp)
  have c4_1_0 : w4.cell? ⟨w.heap.size + 1, 0, none⟩ = some (.int .u8 c) := (hb4.cell (p := ⟨w.heap.size + 1, 0, none⟩) (by first | omega | (simp; omega) | (simp; done))).trans (by go_simp)
  have c4_1_1 : w4.cell? ⟨w.heap.size + 1, 1, none⟩ = some (.int .i32 v) := (hb4.cell (p := ⟨w.heap.size + 1, 1, none⟩) (by first | omega | (simp; omega) | (simp; done))).trans (by go_simp)
  clear hb4 B3 c3_0_0 c3_0_1 c3_1_0 c3_1_1
  go_wp2_with fail
  refine (wAsks_yes _ _ t4).mono ?_
  rintro e w' ⟨rfl, rfl⟩
  go_wp2
  go_ret
  exact ⟨by first | rfl | (simp; done) | (simp; omega), by assumption⟩

set_option maxHeartbeats 2000000 in
theorem wordOrder_e (k v : Int) (w : World) (h1 : 0 ≤ k) (h2 : k ≤ 255) (h3 : -2147483648 ≤ v) (h4 : v ≤ 2147483647)  :
    Calls Try.prog 4 #[.agg #[.int .u8 k, .int .i32 v], .agg #[.int .u8 k, .int .i32 v]] w fun e w' => e = .returned (.bool true) ∧ Below w.heap.size w w' := by
  have t1 := word_rng h1 h2 h3 h4
  obtain ⟨t2, t3⟩ := t1
  have t4 : 0 < wordOf k v := by omega
  go_enter Try.func4, Try.ntmps4
  go_wp2_with fail
  refine (wOp_any k v _ (by omega) (by omega) (by omega) (by omega)).mono ?_
  rintro e w1 ⟨rfl, hb1⟩
  have z1 : w.heap.size + 1 < w1.heap.size := by have := hb1.size; first | omega | (simp at this; omega)
  have B1 : Below w.heap.size w w1 := Below.trans (by go_grown) (hb1.mono (by first | omega | (simp; omega) | (simp; done)))
  have z1_0 : w.heap.size < w1.heap.size := by omega
  have c1_0_0 : w1.cell? ⟨w.heap.size, 0, none⟩ = some (.int .u8 k) := (hb1.cell (p := ⟨w.heap.size, 0, none⟩) (by first | omega | (simp; omega) | (simp; done))).trans (by go_simp)
  have c1_0_1 : w1.cell? ⟨w.heap.size, 1, none⟩ = some (.int .i32 v) := (hb1.cell (p := ⟨w.heap.size, 1, none⟩) (by first | omega | (simp; omega) | (simp; done))).trans (by go_simp)
  have c1_1_0 : w1.cell? ⟨w.heap.size + 1, 0, none⟩ = some (.int .u8 k) := (hb1.cell (p := ⟨w.heap.size + 1, 0, none⟩) (by first | omega | (simp; omega) | (simp; done))).trans (by go_simp)
  have c1_1_1 : w1.cell? ⟨w.heap.size + 1, 1, none⟩ = some (.int .i32 v) := (hb1.cell (p := ⟨w.heap.size + 1, 1, none⟩) (by first | omega | (simp; omega) | (simp; done))).trans (by go_simp)
  clear hb1
  go_wp2_with fail
  refine (wOp_any k v _ (by omega) (by omega) (by omega) (by omega)).mono ?_
  rintro e w2 ⟨rfl, hb2⟩
  have z2 : w.heap.size + 1 < w2.heap.size := by have := hb2.size; first | omega | (simp at this; omega)
  have B2 : Below w.heap.size w w2 := Below.trans (by go_grown) (hb2.mono (by first | omega | (simp; omega) | (simp; done)))
  have z2_0 : w.heap.size < w2.heap.size := by omega
  have c2_0_0 : w2.cell? ⟨w.heap.size, 0, none⟩ = some (.int .u8 k) := (hb2.cell (p := ⟨w.heap.size, 0, none⟩) (by first | omega | (simp; omega) | (simp; done))).trans (by go_simp)
  have c2_0_1 : w2.cell? ⟨w.heap.size, 1, none⟩ = some (.int .i32 v) := (hb2.cell (p := ⟨w.heap.size, 1, none⟩) (by first | omega | (simp; omega) | (simp; done))).trans (by go_simp)
  have c2_1_0 : w2.cell? ⟨w.heap.size + 1, 0, none⟩ = some (.int .u8 k) := (hb2.cell (p := ⟨w.heap.size + 1, 0, none⟩) (by first | omega | (simp; omega) | (simp; done))).trans (by go_simp)
  have c2_1_1 : w2.cell? ⟨w.heap.size + 1, 1, none⟩ = some (.int .i32 v) := (hb2.cell (p := ⟨w.heap.size + 1, 1, none⟩) (by first | omega | (simp; omega) | (simp; done))).trans (by go_simp)
  clear hb2 B1 c1_0_0 c1_0_1 c1_1_0 c1_1_1
  go_wp2_with fail
  refine (known1_any _).mono ?_
  rintro e w3 ⟨rfl, hb3⟩
  have z3 : w.heap.size + 1 < w3.heap.size := by have := hb3.size; first | omega | (simp at this; omega)
  have B3 : Below w.heap.size w w3 := Below.trans (by go_grown) (hb3.mono (by first | omega | (simp; omega) | (simp; done)))
  have z3_0 : w.heap.size < w3.heap.size := by omega
  have c3_0_0 : w3.cell? ⟨w.heap.size, 0, none⟩ = some (.int .u8 k) := (hb3.cell (p := ⟨w.heap.size, 0, none⟩) (by first | omega | (simp; omega) | (simp; done))).trans (by go_simp)
  have c3_0_1 : w3.cell? ⟨w.heap.size, 1, none⟩ = some (.int .i32 v) := (hb3.cell (p := ⟨w.heap.size, 1, none⟩) (by first | omega | (simp; omega) | (simp; done))).trans (by go_simp)
  have c3_1_0 : w3.cell? ⟨w.heap.size + 1, 0, none⟩ = some (.int .u8 k) := (hb3.cell (p := ⟨w.heap.size + 1, 0, none⟩) (by first | omega | (simp; omega) | (simp; done))).trans (by go_simp)
  have c3_1_1 : w3.cell? ⟨w.heap.size + 1, 1, none⟩ = some (.int .i32 v) := (hb3.cell (p := ⟨w.heap.size + 1, 1, none⟩) (by first | omega | (simp; omega) | (simp; done))).trans (by go_simp)
  clear hb3 B2 c2_0_0 c2_0_1 c2_1_0 c2_1_1
  go_wp2_with fail
  refine (wRes_any k v _ (by omega) (by omega) (by omega) (by omega)).mono ?_
  rintro e w4 ⟨rfl, hb4⟩
  have z4 : w.heap.size + 1 < w4.heap.size := by have := hb4.size; first | omega | (simp at this; omega)
  have B4 : Below w.heap.size w w4 := Below.trans (by go_grown) (hb4.mono (by first | omega | (simp; omega) | (simp; done)))
  have z4_0 : w.heap.size < w4.heap.size := by omega
  have c4_0_0 : w4.cell? ⟨w.heap.size, 0, none⟩ = some (.int .u8 k) := (hb4.cell (p := ⟨w.heap.size, 0, none⟩) (by first | omega | (simp; omega) | (simp; done))).trans (by go_simp)
  have c4_0_1 : w4.cell? ⟨w.heap.size, 1, none⟩ = some (.int .i32 v) := (hb4.cell (p := ⟨w.heap.size, 1, none⟩) (by first | omega | (simp; omega) | (simp; done))).trans (by go_simp)
  have c4_1_0 : w4.cell? ⟨w.heap.size + 1, 0, none⟩ = some (.int .u8 k) := (hb4.cell (p := ⟨w.heap.size + 1, 0, none⟩) (by first | omega | (simp; omega) | (simp; done))).trans (by go_simp)
  have c4_1_1 : w4.cell? ⟨w.heap.size + 1, 1, none⟩ = some (.int .i32 v) := (hb4.cell (p := ⟨w.heap.size + 1, 1, none⟩) (by first | omega | (simp; omega) | (simp; done))).trans (by go_simp)
  clear hb4 B3 c3_0_0 c3_0_1 c3_1_0 c3_1_1
  go_wp2_with fail
  refine (wAsks_yes _ _ t4).mono ?_
  rintro e w' ⟨rfl, rfl⟩
  go_wp2
  go_ret
  exact ⟨by first | rfl | (simp; done) | (simp; omega), by assumption⟩

theorem wordOrder_any (k v c u : Int) (w : World) (h1 : 0 ≤ k) (h2 : k ≤ 255) (h3 : -2147483648 ≤ v) (h4 : v ≤ 2147483647) (i1 : 0 ≤ c) (i2 : c ≤ 255) (i3 : -2147483648 ≤ u) (i4 : u ≤ 2147483647) :
    Calls Try.prog 4 #[.agg #[.int .u8 k, .int .i32 v], .agg #[.int .u8 c, .int .i32 u]] w fun e w' => e = .returned (.bool true) ∧ Below w.heap.size w w' := by
  by_cases g1 : v < u
  · exact wordOrder_a k v c u w h1 h2 h3 h4 i1 i2 i3 i4 g1
  · by_cases g2 : u < v
    · exact wordOrder_b k v c u w h1 h2 h3 h4 i1 i2 i3 i4 g2
    · obtain rfl : u = v := by omega
      by_cases g3 : k < c
      · exact wordOrder_c k u c w h1 h2 h3 h4 i1 i2 g3
      · by_cases g4 : c < k
        · exact wordOrder_d k u c w h1 h2 h3 h4 i1 i2 g4
        · obtain rfl : c = k := by omega
          exact wordOrder_e c u w h1 h2 h3 h4

theorem Try.resTypes4 : Try.f4.resultTypes = #[4] := by kernel_rfl
theorem wordOrder_rdop : Try.prog.readableRec 23 = true ∧ 23 < Try.prog.types.size := ⟨by kernel_rfl, of_decide_eq_true (by kernel_rfl)⟩
set_option maxRecDepth 100000 in
theorem wordOrder_lifted (os : Os) (started : os.Started) (H : Type) (enc : TypeId × Value → H) :
    ReturnsInHanded {} Try.checked os 4 .any (Rows.wordOrderSpec.pre6 enc Try.prog Try.f4 Rows.wordOrderRow.domain false) (Rows.wordOrderSpec.post enc Try.prog Try.f4 false true false false) := by
  refine law_lifted (C := Try.checked) (T := 4) Try.own started (by kernel_rfl) Try.func4
    (ChangeSpec.witness6 (enc := enc) (C := Try.checked) false ⟨#[], #[.agg #[.int .u8 0, .int .i32 0], .agg #[.int .u8 0, .int .i32 0]], []⟩ 8 (by kernel_rfl) (by kernel_rfl) (by kernel_rfl) (by kernel_rfl))
    Try.laidOut (fun t ht => ?_) Try.resTypes4 Try.underlying4 rfl (fun ds hd => ?_) ?_
  · rw [Try.params4] at ht
    exact (show ∀ t ∈ [23, 23], Try.prog.readableRec t = true ∧ t < Try.prog.types.size from List.forall_mem_cons.2 ⟨wordOrder_rdop, List.forall_mem_cons.2 ⟨wordOrder_rdop, fun _ h => by cases h⟩⟩) t ht
  · rw [Try.params4] at hd
    match ds, hd with
    | [e0, e1], _ => rfl
  · intro W base args ds p hval0 hA0
    have hval : ∀ (j : Nat) t v, Try.f4.params[j]? = some t → args[j]? = some v → Value.okWide Try.prog W .any base t v := hval0
    have hA : DataW.TrodAll enc Try.prog W 0 (fun _ => true) true Try.f4.params.toList args.toList ds p := hA0
    rw [Try.params4] at hA hval
    obtain ⟨v0, vs0, d0, ds0, p0, q0, hargs, rfl, rfl, h0, r0⟩ := trodAll_cons hA
    obtain ⟨v1, vs1, d1, ds1, p1, q1, rfl, rfl, rfl, h1, r1⟩ := trodAll_cons r0
    obtain ⟨rfl, rfl, rfl⟩ := trodAll_nil r1
    obtain rfl : args = #[v0, v1] := by cases args; simp_all
    obtain ⟨ak, av, rfl, a1, a2, a3, a4⟩ := open_op (hval 0 23 v0 rfl rfl) h0
    obtain ⟨bk, bv, rfl, b1, b2, b3, b4⟩ := open_op (hval 1 23 v1 rfl rfl) h1
    exact wordOrder_any ak av bk bv W a1 a2 a3 a4 b1 b2 b3 b4

/-- WordOrder: for every input the call returns true. -/
theorem wordOrder_said : Rows.WordOrderSaid :=
  OpenClaim.holds_of_wide 4 Try.f4 rfl rfl rfl rfl rfl rfl rfl ⟨rfl, rfl, rfl, rfl, rfl⟩ rfl rfl rfl rfl rfl (by as_aux_lemma => kernel_rfl) Try.func4 (by as_aux_lemma => kernel_rfl)
    (of_decide_eq_true (by as_aux_lemma => kernel_rfl)) (by unfold Func.isWrapper; first | (rw [if_pos (by decide +kernel)]; kernel_rfl) | (rw [if_neg (by decide +kernel)]; exact ⟨rfl, rfl⟩))
    (fun os started H enc _ => wordOrder_lifted os started H enc)
#print axioms wordOrder_said

end Go.Proofs.Ytomiibhdafcmhaa
