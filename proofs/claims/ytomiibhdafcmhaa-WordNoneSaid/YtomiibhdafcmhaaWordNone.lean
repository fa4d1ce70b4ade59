/- WordNone: a number below 1, or above 2^40, is no word, and tells nothing: the law returns true for every input. -/
import Derived.Test.YtomiibhdafcmhaaWord
import Derived.Test.YtomiibhdafcmhaaWordKnown
import Derived.Test.YtomiibhdafcmhaaFrame
namespace Go.Proofs.Ytomiibhdafcmhaa
open Go.RowKit
open Go.ChangeShapes Go.WideShapes Go.ChangeAt

theorem wAsks_no (n : Int) (w : World) (h : n ≤ 0) : Calls Try.prog 11 #[.int .i64 n] w fun e w' => e = .returned (.bool false) ∧ w = w' := by
  have h' := wAsks_any n w
  rw [decide_eq_false (by omega)] at h'
  exact h'
theorem wOfOp_no (n : Int) (w : World) (h : n < 1 ∨ 1099511627776 < n) :
    Calls Try.prog 12 #[.int .i64 n] w fun e w' => e = .returned (.tuple #[.agg #[.int .u8 0, .int .i32 0], .bool false]) ∧ Below w.heap.size w w' := by
  have h' := wOfOp_any n w
  rw [wk_no h, wv_no h, wis_no h] at h'
  exact h'
theorem wOfOp_yes (n : Int) (w : World) (h1 : 1 ≤ n) (h2 : n ≤ 1099511627776) :
    Calls Try.prog 12 #[.int .i64 n] w fun e w' => e = .returned (.tuple #[.agg #[.int .u8 (wk n), .int .i32 (wv n)], .bool true]) ∧ Below w.heap.size w w' := by
  have h' := wOfOp_any n w
  rw [wis_yes h1 h2] at h'
  exact h'
theorem wOfRes_no (n : Int) (w : World) (h : n < 1 ∨ 1099511627776 < n) :
    Calls Try.prog 13 #[.int .i64 n] w fun e w' => e = .returned (.tuple #[.agg #[.int .u8 0, .int .i32 0], .bool false]) ∧ Below w.heap.size w w' := by
  have h' := wOfRes_any n w
  rw [wk_no h, wv_no h, wis_no h] at h'
  exact h'
theorem wOfRes_yes (n : Int) (w : World) (h1 : 1 ≤ n) (h2 : n ≤ 1099511627776) :
    Calls Try.prog 13 #[.int .i64 n] w fun e w' => e = .returned (.tuple #[.agg #[.int .u8 (wk n), .int .i32 (wv n)], .bool true]) ∧ Below w.heap.size w w' := by
  have h' := wOfRes_any n w
  rw [wis_yes h1 h2] at h'
  exact h'

set_option maxHeartbeats 2000000 in
theorem wordNone_low (x n : Int) (w : World) (h1 : 0 ≤ n) (h2 : n ≤ 4294967295) (h : x < 1) :
    Calls Try.prog 5 #[.int .i64 x, .int .u32 n] w fun e w' => e = .returned (.bool true) ∧ Below w.heap.size w w' := by
  go_enter Try.func5, Try.ntmps5
  go_wp2
  refine wp_loop_rounds 4 ?_
  rw [rounds_succ]
  go_wp2_with fail
  refine (wOfOp_no _ _ (.inl (by omega))).mono ?_
  rintro e w1 ⟨rfl, hb1⟩
  have z1 : w.heap.size < w1.heap.size := by have := hb1.size; first | omega | (simp at this; omega)
  have B1 : Below w.heap.size w w1 := Below.trans (by go_grown) (hb1.mono (by first | omega | (simp; omega) | (simp; done)))
  have c1_0_0 : w1.cell? ⟨w.heap.size, 0, none⟩ = some (.int .i64 (-n)) := (hb1.cell (p := ⟨w.heap.size, 0, none⟩) (by first | omega | (simp; omega) | (simp; done))).trans (by go_simp)
  have c1_0_1 : w1.cell? ⟨w.heap.size, 1, none⟩ = some (.int .i64 (1099511627777 + n)) := (hb1.cell (p := ⟨w.heap.size, 1, none⟩) (by first | omega | (simp; omega) | (simp; done))).trans (by go_simp)
  have c1_0_2 : w1.cell? ⟨w.heap.size, 2, none⟩ = some (.int .i64 x) := (hb1.cell (p := ⟨w.heap.size, 2, none⟩) (by first | omega | (simp; omega) | (simp; done))).trans (by go_simp)
  clear hb1
  go_wp2_with fail
  refine (wOfRes_no _ _ (.inl (by omega))).mono ?_
  rintro e w2 ⟨rfl, hb2⟩
  have z2 : w1.heap.size < w2.heap.size := by have := hb2.size; first | omega | (simp at this; omega)
  have B2 : Below w.heap.size w w2 := Below.trans (by go_grown) (hb2.mono (by first | omega | (simp; omega) | (simp; done)))
  have z2_0 : w.heap.size < w2.heap.size := by omega
  have c2_0_0 : w2.cell? ⟨w.heap.size, 0, none⟩ = some (.int .i64 (-n)) := (hb2.cell (p := ⟨w.heap.size, 0, none⟩) (by first | omega | (simp; omega) | (simp; done))).trans (by go_simp)
  have c2_0_1 : w2.cell? ⟨w.heap.size, 1, none⟩ = some (.int .i64 (1099511627777 + n)) := (hb2.cell (p := ⟨w.heap.size, 1, none⟩) (by first | omega | (simp; omega) | (simp; done))).trans (by go_simp)
  have c2_0_2 : w2.cell? ⟨w.heap.size, 2, none⟩ = some (.int .i64 x) := (hb2.cell (p := ⟨w.heap.size, 2, none⟩) (by first | omega | (simp; omega) | (simp; done))).trans (by go_simp)
  have c2_1_0 : w2.cell? ⟨w1.heap.size, 0, none⟩ = some (.int .u8 (0)) := (hb2.cell (p := ⟨w1.heap.size, 0, none⟩) (by first | omega | (simp; omega) | (simp; done))).trans (by go_simp)
  have c2_1_1 : w2.cell? ⟨w1.heap.size, 1, none⟩ = some (.int .i32 (0)) := (hb2.cell (p := ⟨w1.heap.size, 1, none⟩) (by first | omega | (simp; omega) | (simp; done))).trans (by go_simp)
  clear hb2 B1 c1_0_0 c1_0_1 c1_0_2
  go_wp2_with fail
  rw [rounds_succ]
  go_wp2_with fail
  refine (wOfOp_no _ _ (.inr (by omega))).mono ?_
  rintro e w3 ⟨rfl, hb3⟩
  have z3 : w2.heap.size < w3.heap.size := by have := hb3.size; first | omega | (simp at this; omega)
  have B3 : Below w.heap.size w w3 := Below.trans (by go_grown) (hb3.mono (by first | omega | (simp; omega) | (simp; done)))
  have z3_0 : w.heap.size < w3.heap.size := by omega
  have c3_0_0 : w3.cell? ⟨w.heap.size, 0, none⟩ = some (.int .i64 (-n)) := (hb3.cell (p := ⟨w.heap.size, 0, none⟩) (by first | omega | (simp; omega) | (simp; done))).trans (by go_simp)
  have c3_0_1 : w3.cell? ⟨w.heap.size, 1, none⟩ = some (.int .i64 (1099511627777 + n)) := (hb3.cell (p := ⟨w.heap.size, 1, none⟩) (by first | omega | (simp; omega) | (simp; done))).trans (by go_simp)
  have c3_0_2 : w3.cell? ⟨w.heap.size, 2, none⟩ = some (.int .i64 x) := (hb3.cell (p := ⟨w.heap.size, 2, none⟩) (by first | omega | (simp; omega) | (simp; done))).trans (by go_simp)
  clear hb3 B2 c2_0_0 c2_0_1 c2_0_2 c2_1_0 c2_1_1
  go_wp2_with fail
  refine (wOfRes_no _ _ (.inr (by omega))).mono ?_
  rintro e w4 ⟨rfl, hb4⟩
  have z4 : w3.heap.size < w4.heap.size := by have := hb4.size; first | omega | (simp at this; omega)
  have B4 : Below w.heap.size w w4 := Below.trans (by go_grown) (hb4.mono (by first | omega | (simp; omega) | (simp; done)))
  have z4_0 : w.heap.size < w4.heap.size := by omega
  have c4_0_0 : w4.cell? ⟨w.heap.size, 0, none⟩ = some (.int .i64 (-n)) := (hb4.cell (p := ⟨w.heap.size, 0, none⟩) (by first | omega | (simp; omega) | (simp; done))).trans (by go_simp)
  have c4_0_1 : w4.cell? ⟨w.heap.size, 1, none⟩ = some (.int .i64 (1099511627777 + n)) := (hb4.cell (p := ⟨w.heap.size, 1, none⟩) (by first | omega | (simp; omega) | (simp; done))).trans (by go_simp)
  have c4_0_2 : w4.cell? ⟨w.heap.size, 2, none⟩ = some (.int .i64 x) := (hb4.cell (p := ⟨w.heap.size, 2, none⟩) (by first | omega | (simp; omega) | (simp; done))).trans (by go_simp)
  have c4_1_0 : w4.cell? ⟨w3.heap.size, 0, none⟩ = some (.int .u8 (0)) := (hb4.cell (p := ⟨w3.heap.size, 0, none⟩) (by first | omega | (simp; omega) | (simp; done))).trans (by go_simp)
  have c4_1_1 : w4.cell? ⟨w3.heap.size, 1, none⟩ = some (.int .i32 (0)) := (hb4.cell (p := ⟨w3.heap.size, 1, none⟩) (by first | omega | (simp; omega) | (simp; done))).trans (by go_simp)
  clear hb4 B3 c3_0_0 c3_0_1 c3_0_2
  go_wp2_with fail
  rw [rounds_succ]
  go_wp2_with fail
  refine (wOfOp_no _ _ (.inl h)).mono ?_
  rintro e w5 ⟨rfl, hb5⟩
  have z5 : w4.heap.size < w5.heap.size := by have := hb5.size; first | omega | (simp at this; omega)
  have B5 : Below w.heap.size w w5 := Below.trans (by go_grown) (hb5.mono (by first | omega | (simp; omega) | (simp; done)))
  have z5_0 : w.heap.size < w5.heap.size := by omega
  have c5_0_0 : w5.cell? ⟨w.heap.size, 0, none⟩ = some (.int .i64 (-n)) := (hb5.cell (p := ⟨w.heap.size, 0, none⟩) (by first | omega | (simp; omega) | (simp; done))).trans (by go_simp)
  have c5_0_1 : w5.cell? ⟨w.heap.size, 1, none⟩ = some (.int .i64 (1099511627777 + n)) := (hb5.cell (p := ⟨w.heap.size, 1, none⟩) (by first | omega | (simp; omega) | (simp; done))).trans (by go_simp)
  have c5_0_2 : w5.cell? ⟨w.heap.size, 2, none⟩ = some (.int .i64 x) := (hb5.cell (p := ⟨w.heap.size, 2, none⟩) (by first | omega | (simp; omega) | (simp; done))).trans (by go_simp)
  clear hb5 B4 c4_0_0 c4_0_1 c4_0_2 c4_1_0 c4_1_1
  go_wp2_with fail
  refine (wOfRes_no _ _ (.inl h)).mono ?_
  rintro e w6 ⟨rfl, hb6⟩
  have z6 : w5.heap.size < w6.heap.size := by have := hb6.size; first | omega | (simp at this; omega)
  have B6 : Below w.heap.size w w6 := Below.trans (by go_grown) (hb6.mono (by first | omega | (simp; omega) | (simp; done)))
  have z6_0 : w.heap.size < w6.heap.size := by omega
  have c6_0_0 : w6.cell? ⟨w.heap.size, 0, none⟩ = some (.int .i64 (-n)) := (hb6.cell (p := ⟨w.heap.size, 0, none⟩) (by first | omega | (simp; omega) | (simp; done))).trans (by go_simp)
  have c6_0_1 : w6.cell? ⟨w.heap.size, 1, none⟩ = some (.int .i64 (1099511627777 + n)) := (hb6.cell (p := ⟨w.heap.size, 1, none⟩) (by first | omega | (simp; omega) | (simp; done))).trans (by go_simp)
  have c6_0_2 : w6.cell? ⟨w.heap.size, 2, none⟩ = some (.int .i64 x) := (hb6.cell (p := ⟨w.heap.size, 2, none⟩) (by first | omega | (simp; omega) | (simp; done))).trans (by go_simp)
  have c6_1_0 : w6.cell? ⟨w5.heap.size, 0, none⟩ = some (.int .u8 (0)) := (hb6.cell (p := ⟨w5.heap.size, 0, none⟩) (by first | omega | (simp; omega) | (simp; done))).trans (by go_simp)
  have c6_1_1 : w6.cell? ⟨w5.heap.size, 1, none⟩ = some (.int .i32 (0)) := (hb6.cell (p := ⟨w5.heap.size, 1, none⟩) (by first | omega | (simp; omega) | (simp; done))).trans (by go_simp)
  clear hb6 B5 c5_0_0 c5_0_1 c5_0_2
  go_wp2_with fail
  rw [rounds_succ]
  go_wp2_with fail
  refine (known1_any _).mono ?_
  rintro e w7 ⟨rfl, hb7⟩
  have z7 : w6.heap.size < w7.heap.size := by have := hb7.size; first | omega | (simp at this; omega)
  have B7 : Below w.heap.size w w7 := Below.trans (by go_grown) (hb7.mono (by first | omega | (simp; omega) | (simp; done)))
  have z7_0 : w.heap.size < w7.heap.size := by omega
  have c7_0_0 : w7.cell? ⟨w.heap.size, 0, none⟩ = some (.int .i64 (-n)) := (hb7.cell (p := ⟨w.heap.size, 0, none⟩) (by first | omega | (simp; omega) | (simp; done))).trans (by go_simp)
  have c7_0_1 : w7.cell? ⟨w.heap.size, 1, none⟩ = some (.int .i64 (1099511627777 + n)) := (hb7.cell (p := ⟨w.heap.size, 1, none⟩) (by first | omega | (simp; omega) | (simp; done))).trans (by go_simp)
  have c7_0_2 : w7.cell? ⟨w.heap.size, 2, none⟩ = some (.int .i64 x) := (hb7.cell (p := ⟨w.heap.size, 2, none⟩) (by first | omega | (simp; omega) | (simp; done))).trans (by go_simp)
  clear hb7 B6 c6_0_0 c6_0_1 c6_0_2 c6_1_0 c6_1_1
  go_wp2_with fail
  refine (wAsks_no _ _ (by omega)).mono ?_
  rintro e w' ⟨rfl, rfl⟩
  go_wp2
  go_ret
  exact ⟨by first | rfl | (simp; done) | (simp; omega), by assumption⟩

set_option maxHeartbeats 2000000 in
theorem wordNone_in (x n : Int) (w : World) (h1 : 0 ≤ n) (h2 : n ≤ 4294967295) (h : 1 ≤ x) (h0 : x ≤ 1099511627776) :
    Calls Try.prog 5 #[.int .i64 x, .int .u32 n] w fun e w' => e = .returned (.bool true) ∧ Below w.heap.size w w' := by
  go_enter Try.func5, Try.ntmps5
  go_wp2
  refine wp_loop_rounds 4 ?_
  rw [rounds_succ]
  go_wp2_with fail
  refine (wOfOp_no _ _ (.inl (by omega))).mono ?_
  rintro e w1 ⟨rfl, hb1⟩
  have z1 : w.heap.size < w1.heap.size := by have := hb1.size; first | omega | (simp at this; omega)
  have B1 : Below w.heap.size w w1 := Below.trans (by go_grown) (hb1.mono (by first | omega | (simp; omega) | (simp; done)))
  have c1_0_0 : w1.cell? ⟨w.heap.size, 0, none⟩ = some (.int .i64 (-n)) := (hb1.cell (p := ⟨w.heap.size, 0, none⟩) (by first | omega | (simp; omega) | (simp; done))).trans (by go_simp)
  have c1_0_1 : w1.cell? ⟨w.heap.size, 1, none⟩ = some (.int .i64 (1099511627777 + n)) := (hb1.cell (p := ⟨w.heap.size, 1, none⟩) (by first | omega | (simp; omega) | (simp; done))).trans (by go_simp)
  have c1_0_2 : w1.cell? ⟨w.heap.size, 2, none⟩ = some (.int .i64 x) := (hb1.cell (p := ⟨w.heap.size, 2, none⟩) (by first | omega | (simp; omega) | (simp; done))).trans (by go_simp)
  clear hb1
  go_wp2_with fail
  refine (wOfRes_no _ _ (.inl (by omega))).mono ?_
  rintro e w2 ⟨rfl, hb2⟩
  have z2 : w1.heap.size < w2.heap.size := by have := hb2.size; first | omega | (simp at this; omega)
  have B2 : Below w.heap.size w w2 := Below.trans (by go_grown) (hb2.mono (by first | omega | (simp; omega) | (simp; done)))
  have z2_0 : w.heap.size < w2.heap.size := by omega
  have c2_0_0 : w2.cell? ⟨w.heap.size, 0, none⟩ = some (.int .i64 (-n)) := (hb2.cell (p := ⟨w.heap.size, 0, none⟩) (by first | omega | (simp; omega) | (simp; done))).trans (by go_simp)
  have c2_0_1 : w2.cell? ⟨w.heap.size, 1, none⟩ = some (.int .i64 (1099511627777 + n)) := (hb2.cell (p := ⟨w.heap.size, 1, none⟩) (by first | omega | (simp; omega) | (simp; done))).trans (by go_simp)
  have c2_0_2 : w2.cell? ⟨w.heap.size, 2, none⟩ = some (.int .i64 x) := (hb2.cell (p := ⟨w.heap.size, 2, none⟩) (by first | omega | (simp; omega) | (simp; done))).trans (by go_simp)
  have c2_1_0 : w2.cell? ⟨w1.heap.size, 0, none⟩ = some (.int .u8 (0)) := (hb2.cell (p := ⟨w1.heap.size, 0, none⟩) (by first | omega | (simp; omega) | (simp; done))).trans (by go_simp)
  have c2_1_1 : w2.cell? ⟨w1.heap.size, 1, none⟩ = some (.int .i32 (0)) := (hb2.cell (p := ⟨w1.heap.size, 1, none⟩) (by first | omega | (simp; omega) | (simp; done))).trans (by go_simp)
  clear hb2 B1 c1_0_0 c1_0_1 c1_0_2
  go_wp2_with fail
  rw [rounds_succ]
  go_wp2_with fail
  refine (wOfOp_no _ _ (.inr (by omega))).mono ?_
  rintro e w3 ⟨rfl, hb3⟩
  have z3 : w2.heap.size < w3.heap.size := by have := hb3.size; first | omega | (simp at this; omega)
  have B3 : Below w.heap.size w w3 := Below.trans (by go_grown) (hb3.mono (by first | omega | (simp; omega) | (simp; done)))
  have z3_0 : w.heap.size < w3.heap.size := by omega
  have c3_0_0 : w3.cell? ⟨w.heap.size, 0, none⟩ = some (.int .i64 (-n)) := (hb3.cell (p := ⟨w.heap.size, 0, none⟩) (by first | omega | (simp; omega) | (simp; done))).trans (by go_simp)
  have c3_0_1 : w3.cell? ⟨w.heap.size, 1, none⟩ = some (.int .i64 (1099511627777 + n)) := (hb3.cell (p := ⟨w.heap.size, 1, none⟩) (by first | omega | (simp; omega) | (simp; done))).trans (by go_simp)
  have c3_0_2 : w3.cell? ⟨w.heap.size, 2, none⟩ = some (.int .i64 x) := (hb3.cell (p := ⟨w.heap.size, 2, none⟩) (by first | omega | (simp; omega) | (simp; done))).trans (by go_simp)
  clear hb3 B2 c2_0_0 c2_0_1 c2_0_2 c2_1_0 c2_1_1
  go_wp2_with fail
  refine (wOfRes_no _ _ (.inr (by omega))).mono ?_
  rintro e w4 ⟨rfl, hb4⟩
  have z4 : w3.heap.size < w4.heap.size := by have := hb4.size; first | omega | (simp at this; omega)
  have B4 : Below w.heap.size w w4 := Below.trans (by go_grown) (hb4.mono (by first | omega | (simp; omega) | (simp; done)))
  have z4_0 : w.heap.size < w4.heap.size := by omega
  have c4_0_0 : w4.cell? ⟨w.heap.size, 0, none⟩ = some (.int .i64 (-n)) := (hb4.cell (p := ⟨w.heap.size, 0, none⟩) (by first | omega | (simp; omega) | (simp; done))).trans (by go_simp)
  have c4_0_1 : w4.cell? ⟨w.heap.size, 1, none⟩ = some (.int .i64 (1099511627777 + n)) := (hb4.cell (p := ⟨w.heap.size, 1, none⟩) (by first | omega | (simp; omega) | (simp; done))).trans (by go_simp)
  have c4_0_2 : w4.cell? ⟨w.heap.size, 2, none⟩ = some (.int .i64 x) := (hb4.cell (p := ⟨w.heap.size, 2, none⟩) (by first | omega | (simp; omega) | (simp; done))).trans (by go_simp)
  have c4_1_0 : w4.cell? ⟨w3.heap.size, 0, none⟩ = some (.int .u8 (0)) := (hb4.cell (p := ⟨w3.heap.size, 0, none⟩) (by first | omega | (simp; omega) | (simp; done))).trans (by go_simp)
  have c4_1_1 : w4.cell? ⟨w3.heap.size, 1, none⟩ = some (.int .i32 (0)) := (hb4.cell (p := ⟨w3.heap.size, 1, none⟩) (by first | omega | (simp; omega) | (simp; done))).trans (by go_simp)
  clear hb4 B3 c3_0_0 c3_0_1 c3_0_2
  go_wp2_with fail
  rw [rounds_succ]
  go_wp2_with fail
  refine (wOfOp_yes _ _ h h0).mono ?_
  rintro e w5 ⟨rfl, hb5⟩
  have z5 : w4.heap.size < w5.heap.size := by have := hb5.size; first | omega | (simp at this; omega)
  have B5 : Below w.heap.size w w5 := Below.trans (by go_grown) (hb5.mono (by first | omega | (simp; omega) | (simp; done)))
  have z5_0 : w.heap.size < w5.heap.size := by omega
  have c5_0_0 : w5.cell? ⟨w.heap.size, 0, none⟩ = some (.int .i64 (-n)) := (hb5.cell (p := ⟨w.heap.size, 0, none⟩) (by first | omega | (simp; omega) | (simp; done))).trans (by go_simp)
  have c5_0_1 : w5.cell? ⟨w.heap.size, 1, none⟩ = some (.int .i64 (1099511627777 + n)) := (hb5.cell (p := ⟨w.heap.size, 1, none⟩) (by first | omega | (simp; omega) | (simp; done))).trans (by go_simp)
  have c5_0_2 : w5.cell? ⟨w.heap.size, 2, none⟩ = some (.int .i64 x) := (hb5.cell (p := ⟨w.heap.size, 2, none⟩) (by first | omega | (simp; omega) | (simp; done))).trans (by go_simp)
  clear hb5 B4 c4_0_0 c4_0_1 c4_0_2 c4_1_0 c4_1_1
  go_wp2_with fail
  refine (wOfRes_yes _ _ h h0).mono ?_
  rintro e w6 ⟨rfl, hb6⟩
  have z6 : w5.heap.size < w6.heap.size := by have := hb6.size; first | omega | (simp at this; omega)
  have B6 : Below w.heap.size w w6 := Below.trans (by go_grown) (hb6.mono (by first | omega | (simp; omega) | (simp; done)))
  have z6_0 : w.heap.size < w6.heap.size := by omega
  have c6_0_0 : w6.cell? ⟨w.heap.size, 0, none⟩ = some (.int .i64 (-n)) := (hb6.cell (p := ⟨w.heap.size, 0, none⟩) (by first | omega | (simp; omega) | (simp; done))).trans (by go_simp)
  have c6_0_1 : w6.cell? ⟨w.heap.size, 1, none⟩ = some (.int .i64 (1099511627777 + n)) := (hb6.cell (p := ⟨w.heap.size, 1, none⟩) (by first | omega | (simp; omega) | (simp; done))).trans (by go_simp)
  have c6_0_2 : w6.cell? ⟨w.heap.size, 2, none⟩ = some (.int .i64 x) := (hb6.cell (p := ⟨w.heap.size, 2, none⟩) (by first | omega | (simp; omega) | (simp; done))).trans (by go_simp)
  have c6_1_0 : w6.cell? ⟨w5.heap.size, 0, none⟩ = some (.int .u8 (wk x)) := (hb6.cell (p := ⟨w5.heap.size, 0, none⟩) (by first | omega | (simp; omega) | (simp; done))).trans (by go_simp)
  have c6_1_1 : w6.cell? ⟨w5.heap.size, 1, none⟩ = some (.int .i32 (wv x)) := (hb6.cell (p := ⟨w5.heap.size, 1, none⟩) (by first | omega | (simp; omega) | (simp; done))).trans (by go_simp)
  clear hb6 B5 c5_0_0 c5_0_1 c5_0_2
  go_wp2_with fail
  rw [rounds_succ]
  go_wp2_with fail
  refine (known1_any _).mono ?_
  rintro e w7 ⟨rfl, hb7⟩
  have z7 : w6.heap.size < w7.heap.size := by have := hb7.size; first | omega | (simp at this; omega)
  have B7 : Below w.heap.size w w7 := Below.trans (by go_grown) (hb7.mono (by first | omega | (simp; omega) | (simp; done)))
  have z7_0 : w.heap.size < w7.heap.size := by omega
  have c7_0_0 : w7.cell? ⟨w.heap.size, 0, none⟩ = some (.int .i64 (-n)) := (hb7.cell (p := ⟨w.heap.size, 0, none⟩) (by first | omega | (simp; omega) | (simp; done))).trans (by go_simp)
  have c7_0_1 : w7.cell? ⟨w.heap.size, 1, none⟩ = some (.int .i64 (1099511627777 + n)) := (hb7.cell (p := ⟨w.heap.size, 1, none⟩) (by first | omega | (simp; omega) | (simp; done))).trans (by go_simp)
  have c7_0_2 : w7.cell? ⟨w.heap.size, 2, none⟩ = some (.int .i64 x) := (hb7.cell (p := ⟨w.heap.size, 2, none⟩) (by first | omega | (simp; omega) | (simp; done))).trans (by go_simp)
  clear hb7 B6 c6_0_0 c6_0_1 c6_0_2 c6_1_0 c6_1_1
  go_wp2_with fail
  refine (wAsks_no _ _ (by omega)).mono ?_
  rintro e w' ⟨rfl, rfl⟩
  go_wp2
  go_ret
  exact ⟨by first | rfl | (simp; done) | (simp; omega), by assumption⟩

set_option maxHeartbeats 2000000 in
theorem wordNone_high (x n : Int) (w : World) (h1 : 0 ≤ n) (h2 : n ≤ 4294967295) (h : 1099511627776 < x) :
    Calls Try.prog 5 #[.int .i64 x, .int .u32 n] w fun e w' => e = .returned (.bool true) ∧ Below w.heap.size w w' := by
  go_enter Try.func5, Try.ntmps5
  go_wp2
  refine wp_loop_rounds 4 ?_
  rw [rounds_succ]
  go_wp2_with fail
  refine (wOfOp_no _ _ (.inl (by omega))).mono ?_
  rintro e w1 ⟨rfl, hb1⟩
  have z1 : w.heap.size < w1.heap.size := by have := hb1.size; first | omega | (simp at this; omega)
  have B1 : Below w.heap.size w w1 := Below.trans (by go_grown) (hb1.mono (by first | omega | (simp; omega) | (simp; done)))
  have c1_0_0 : w1.cell? ⟨w.heap.size, 0, none⟩ = some (.int .i64 (-n)) := (hb1.cell (p := ⟨w.heap.size, 0, none⟩) (by first | omega | (simp; omega) | (simp; done))).trans (by go_simp)
  have c1_0_1 : w1.cell? ⟨w.heap.size, 1, none⟩ = some (.int .i64 (1099511627777 + n)) := (hb1.cell (p := ⟨w.heap.size, 1, none⟩) (by first | omega | (simp; omega) | (simp; done))).trans (by go_simp)
  have c1_0_2 : w1.cell? ⟨w.heap.size, 2, none⟩ = some (.int .i64 x) := (hb1.cell (p := ⟨w.heap.size, 2, none⟩) (by first | omega | (simp; omega) | (simp; done))).trans (by go_simp)
  clear hb1
  go_wp2_with fail
  refine (wOfRes_no _ _ (.inl (by omega))).mono ?_
  rintro e w2 ⟨rfl, hb2⟩
  have z2 : w1.heap.size < w2.heap.size := by have := hb2.size; first | omega | (simp at this; omega)
  have B2 : Below w.heap.size w w2 := Below.trans (by go_grown) (hb2.mono (by first | omega | (simp; omega) | (simp; done)))
  have z2_0 : w.heap.size < w2.heap.size := by omega
  have c2_0_0 : w2.cell? ⟨w.heap.size, 0, none⟩ = some (.int .i64 (-n)) := (hb2.cell (p := ⟨w.heap.size, 0, none⟩) (by first | omega | (simp; omega) | (simp; done))).trans (by go_simp)
  have c2_0_1 : w2.cell? ⟨w.heap.size, 1, none⟩ = some (.int .i64 (1099511627777 + n)) := (hb2.cell (p := ⟨w.heap.size, 1, none⟩) (by first | omega | (simp; omega) | (simp; done))).trans (by go_simp)
  have c2_0_2 : w2.cell? ⟨w.heap.size, 2, none⟩ = some (.int .i64 x) := (hb2.cell (p := ⟨w.heap.size, 2, none⟩) (by first | omega | (simp; omega) | (simp; done))).trans (by go_simp)
  have c2_1_0 : w2.cell? ⟨w1.heap.size, 0, none⟩ = some (.int .u8 (0)) := (hb2.cell (p := ⟨w1.heap.size, 0, none⟩) (by first | omega | (simp; omega) | (simp; done))).trans (by go_simp)
  have c2_1_1 : w2.cell? ⟨w1.heap.size, 1, none⟩ = some (.int .i32 (0)) := (hb2.cell (p := ⟨w1.heap.size, 1, none⟩) (by first | omega | (simp; omega) | (simp; done))).trans (by go_simp)
  clear hb2 B1 c1_0_0 c1_0_1 c1_0_2
  go_wp2_with fail
  rw [rounds_succ]
  go_wp2_with fail
  refine (wOfOp_no _ _ (.inr (by omega))).mono ?_
  rintro e w3 ⟨rfl, hb3⟩
  have z3 : w2.heap.size < w3.heap.size := by have := hb3.size; first | omega | (simp at this; omega)
  have B3 : Below w.heap.size w w3 := Below.trans (by go_grown) (hb3.mono (by first | omega | (simp; omega) | (simp; done)))
  have z3_0 : w.heap.size < w3.heap.size := by omega
  have c3_0_0 : w3.cell? ⟨w.heap.size, 0, none⟩ = some (.int .i64 (-n)) := (hb3.cell (p := ⟨w.heap.size, 0, none⟩) (by first | omega | (simp; omega) | (simp; done))).trans (by go_simp)
  have c3_0_1 : w3.cell? ⟨w.heap.size, 1, none⟩ = some (.int .i64 (1099511627777 + n)) := (hb3.cell (p := ⟨w.heap.size, 1, none⟩) (by first | omega | (simp; omega) | (simp; done))).trans (by go_simp)
  have c3_0_2 : w3.cell? ⟨w.heap.size, 2, none⟩ = some (.int .i64 x) := (hb3.cell (p := ⟨w.heap.size, 2, none⟩) (by first | omega | (simp; omega) | (simp; done))).trans (by go_simp)
  clear hb3 B2 c2_0_0 c2_0_1 c2_0_2 c2_1_0 c2_1_1
  go_wp2_with fail
  refine (wOfRes_no _ _ (.inr (by omega))).mono ?_
  rintro e w4 ⟨rfl, hb4⟩
  have z4 : w3.heap.size < w4.heap.size := by have := hb4.size; first | omega | (simp at this; omega)
  have B4 : Below w.heap.size w w4 := Below.trans (by go_grown) (hb4.mono (by first | omega | (simp; omega) | (simp; done)))
  have z4_0 : w.heap.size < w4.heap.size := by omega
  have c4_0_0 : w4.cell? ⟨w.heap.size, 0, none⟩ = some (.int .i64 (-n)) := (hb4.cell (p := ⟨w.heap.size, 0, none⟩) (by first | omega | (simp; omega) | (simp; done))).trans (by go_simp)
  have c4_0_1 : w4.cell? ⟨w.heap.size, 1, none⟩ = some (.int .i64 (1099511627777 + n)) := (hb4.cell (p := ⟨w.heap.size, 1, none⟩) (by first | omega | (simp; omega) | (simp; done))).trans (by go_simp)
  have c4_0_2 : w4.cell? ⟨w.heap.size, 2, none⟩ = some (.int .i64 x) := (hb4.cell (p := ⟨w.heap.size, 2, none⟩) (by first | omega | (simp; omega) | (simp; done))).trans (by go_simp)
  have c4_1_0 : w4.cell? ⟨w3.heap.size, 0, none⟩ = some (.int .u8 (0)) := (hb4.cell (p := ⟨w3.heap.size, 0, none⟩) (by first | omega | (simp; omega) | (simp; done))).trans (by go_simp)
  have c4_1_1 : w4.cell? ⟨w3.heap.size, 1, none⟩ = some (.int .i32 (0)) := (hb4.cell (p := ⟨w3.heap.size, 1, none⟩) (by first | omega | (simp; omega) | (simp; done))).trans (by go_simp)
  clear hb4 B3 c3_0_0 c3_0_1 c3_0_2
  go_wp2_with fail
  rw [rounds_succ]
  go_wp2_with fail
  refine (wOfOp_no _ _ (.inr h)).mono ?_
  rintro e w5 ⟨rfl, hb5⟩
  have z5 : w4.heap.size < w5.heap.size := by have := hb5.size; first | omega | (simp at this; omega)
  have B5 : Below w.heap.size w w5 := Below.trans (by go_grown) (hb5.mono (by first | omega | (simp; omega) | (simp; done)))
  have z5_0 : w.heap.size < w5.heap.size := by omega
  have c5_0_0 : w5.cell? ⟨w.heap.size, 0, none⟩ = some (.int .i64 (-n)) := (hb5.cell (p := ⟨w.heap.size, 0, none⟩) (by first | omega | (simp; omega) | (simp; done))).trans (by go_simp)
  have c5_0_1 : w5.cell? ⟨w.heap.size, 1, none⟩ = some (.int .i64 (1099511627777 + n)) := (hb5.cell (p := ⟨w.heap.size, 1, none⟩) (by first | omega | (simp; omega) | (simp; done))).trans (by go_simp)
  have c5_0_2 : w5.cell? ⟨w.heap.size, 2, none⟩ = some (.int .i64 x) := (hb5.cell (p := ⟨w.heap.size, 2, none⟩) (by first | omega | (simp; omega) | (simp; done))).trans (by go_simp)
  clear hb5 B4 c4_0_0 c4_0_1 c4_0_2 c4_1_0 c4_1_1
  go_wp2_with fail
  refine (wOfRes_no _ _ (.inr h)).mono ?_
  rintro e w6 ⟨rfl, hb6⟩
  have z6 : w5.heap.size < w6.heap.size := by have := hb6.size; first | omega | (simp at this; omega)
  have B6 : Below w.heap.size w w6 := Below.trans (by go_grown) (hb6.mono (by first | omega | (simp; omega) | (simp; done)))
  have z6_0 : w.heap.size < w6.heap.size := by omega
  have c6_0_0 : w6.cell? ⟨w.heap.size, 0, none⟩ = some (.int .i64 (-n)) := (hb6.cell (p := ⟨w.heap.size, 0, none⟩) (by first | omega | (simp; omega) | (simp; done))).trans (by go_simp)
  have c6_0_1 : w6.cell? ⟨w.heap.size, 1, none⟩ = some (.int .i64 (1099511627777 + n)) := (hb6.cell (p := ⟨w.heap.size, 1, none⟩) (by first | omega | (simp; omega) | (simp; done))).trans (by go_simp)
  have c6_0_2 : w6.cell? ⟨w.heap.size, 2, none⟩ = some (.int .i64 x) := (hb6.cell (p := ⟨w.heap.size, 2, none⟩) (by first | omega | (simp; omega) | (simp; done))).trans (by go_simp)
  have c6_1_0 : w6.cell? ⟨w5.heap.size, 0, none⟩ = some (.int .u8 (0)) := (hb6.cell (p := ⟨w5.heap.size, 0, none⟩) (by first | omega | (simp; omega) | (simp; done))).trans (by go_simp)
  have c6_1_1 : w6.cell? ⟨w5.heap.size, 1, none⟩ = some (.int .i32 (0)) := (hb6.cell (p := ⟨w5.heap.size, 1, none⟩) (by first | omega | (simp; omega) | (simp; done))).trans (by go_simp)
  clear hb6 B5 c5_0_0 c5_0_1 c5_0_2
  go_wp2_with fail
  rw [rounds_succ]
  go_wp2_with fail
  refine (known1_any _).mono ?_
  rintro e w7 ⟨rfl, hb7⟩
  have z7 : w6.heap.size < w7.heap.size := by have := hb7.size; first | omega | (simp at this; omega)
  have B7 : Below w.heap.size w w7 := Below.trans (by go_grown) (hb7.mono (by first | omega | (simp; omega) | (simp; done)))
  have z7_0 : w.heap.size < w7.heap.size := by omega
  have c7_0_0 : w7.cell? ⟨w.heap.size, 0, none⟩ = some (.int .i64 (-n)) := (hb7.cell (p := ⟨w.heap.size, 0, none⟩) (by first | omega | (simp; omega) | (simp; done))).trans (by go_simp)
  have c7_0_1 : w7.cell? ⟨w.heap.size, 1, none⟩ = some (.int .i64 (1099511627777 + n)) := (hb7.cell (p := ⟨w.heap.size, 1, none⟩) (by first | omega | (simp; omega) | (simp; done))).trans (by go_simp)
  have c7_0_2 : w7.cell? ⟨w.heap.size, 2, none⟩ = some (.int .i64 x) := (hb7.cell (p := ⟨w.heap.size, 2, none⟩) (by first | omega | (simp; omega) | (simp; done))).trans (by go_simp)
  clear hb7 B6 c6_0_0 c6_0_1 c6_0_2 c6_1_0 c6_1_1
  go_wp2_with fail
  refine (wAsks_no _ _ (by omega)).mono ?_
  rintro e w' ⟨rfl, rfl⟩
  go_wp2
  go_ret
  exact ⟨by first | rfl | (simp; done) | (simp; omega), by assumption⟩

theorem wordNone_any (x n : Int) (w : World) (h1 : 0 ≤ n) (h2 : n ≤ 4294967295) :
    Calls Try.prog 5 #[.int .i64 x, .int .u32 n] w fun e w' => e = .returned (.bool true) ∧ Below w.heap.size w w' := by
  by_cases g1 : x < 1
  · exact wordNone_low x n w h1 h2 g1
  · by_cases g2 : x ≤ 1099511627776
    · exact wordNone_in x n w h1 h2 (by omega) g2
    · exact wordNone_high x n w h1 h2 (by omega)

theorem Try.resTypes5 : Try.f5.resultTypes = #[4] := by kernel_rfl
theorem wordNone_rdi64 : Try.prog.readableRec 2 = true ∧ 2 < Try.prog.types.size := ⟨by kernel_rfl, of_decide_eq_true (by kernel_rfl)⟩
theorem wordNone_rdu32 : Try.prog.readableRec 32 = true ∧ 32 < Try.prog.types.size := ⟨by kernel_rfl, of_decide_eq_true (by kernel_rfl)⟩
set_option maxRecDepth 100000 in
theorem wordNone_lifted (os : Os) (started : os.Started) (H : Type) (enc : TypeId × Value → H) :
    ReturnsInHanded {} Try.checked os 5 .any (Rows.wordNoneSpec.pre6 enc Try.prog Try.f5 Rows.wordNoneRow.domain false) (Rows.wordNoneSpec.post enc Try.prog Try.f5 false true false false) := by
  refine law_lifted (C := Try.checked) (T := 4) Try.own started (by kernel_rfl) Try.func5
    (ChangeSpec.witness6 (enc := enc) (C := Try.checked) false ⟨#[], #[.int .i64 0, .int .u32 0], []⟩ 8 (by kernel_rfl) (by kernel_rfl) (by kernel_rfl) (by kernel_rfl))
    Try.laidOut (fun t ht => ?_) Try.resTypes5 Try.underlying4 rfl (fun ds hd => ?_) ?_
  · rw [Try.params5] at ht
    exact (show ∀ t ∈ [2, 32], Try.prog.readableRec t = true ∧ t < Try.prog.types.size from List.forall_mem_cons.2 ⟨wordNone_rdi64, List.forall_mem_cons.2 ⟨wordNone_rdu32, fun _ h => by cases h⟩⟩) t ht
  · rw [Try.params5] at hd
    match ds, hd with
    | [e0, e1], _ => rfl
  · intro W base args ds p hval0 hA0
    have hval : ∀ (j : Nat) t v, Try.f5.params[j]? = some t → args[j]? = some v → Value.okWide Try.prog W .any base t v := hval0
    have hA : DataW.TrodAll enc Try.prog W 0 (fun _ => true) true Try.f5.params.toList args.toList ds p := hA0
    rw [Try.params5] at hA hval
    obtain ⟨v0, vs0, d0, ds0, p0, q0, hargs, rfl, rfl, h0, r0⟩ := trodAll_cons hA
    obtain ⟨v1, vs1, d1, ds1, p1, q1, rfl, rfl, rfl, h1, r1⟩ := trodAll_cons r0
    obtain ⟨rfl, rfl, rfl⟩ := trodAll_nil r1
    obtain rfl : args = #[v0, v1] := by cases args; simp_all
    obtain ⟨x, rfl, _, _, wx⟩ := open_int Try.underlying2 (hval 0 2 v0 rfl rfl) h0
    have bx := bounds_i64 wx
    obtain ⟨n, rfl, _, _, wn⟩ := open_int Try.underlying32 (hval 1 32 v1 rfl rfl) h1
    have bn := bounds_u32 wn
    exact wordNone_any x n W bn.1 bn.2

/-- WordNone: for every input the call returns true. -/
theorem wordNone_said : Rows.WordNoneSaid :=
  OpenClaim.holds_of_wide 5 Try.f5 rfl rfl rfl rfl rfl rfl rfl ⟨rfl, rfl, rfl, rfl, rfl⟩ rfl rfl rfl rfl rfl (by as_aux_lemma => kernel_rfl) Try.func5 (by as_aux_lemma => kernel_rfl)
    (of_decide_eq_true (by as_aux_lemma => kernel_rfl)) (by unfold Func.isWrapper; first | (rw [if_pos (by decide +kernel)]; kernel_rfl) | (rw [if_neg (by decide +kernel)]; exact ⟨rfl, rfl⟩))
    (fun os started H enc _ => wordNone_lifted os started H enc)
#print axioms wordNone_said

end Go.Proofs.Ytomiibhdafcmhaa
