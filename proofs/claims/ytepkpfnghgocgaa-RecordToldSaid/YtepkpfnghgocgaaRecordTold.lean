/- RecordTold: what is stored as told is told; a record waits just as long as its request is above 0: the law returns true for every input. -/
import Derived.Test.YtepkpfnghgocgaaRec
import Derived.Test.YtepkpfnghgocgaaWord
import Derived.Test.YtepkpfnghgocgaaFrame
namespace Go.Proofs.Ytepkpfnghgocgaa
set_option linter.unusedSimpArgs false
set_option linter.unusedVariables false
open Go.RowKit
open Go.ChangeShapes Go.WideShapes Go.ChangeAt

set_option maxRecDepth 100000 in
set_option maxHeartbeats 400000 in
theorem Told_any (y0 y1 y2 y3 y4 : Int) (w : World) :
    Calls Try.prog 34 #[.agg #[.int .i64 y0, .int .i64 y1, .int .i64 y2, .int .i64 y3, .int .i64 y4]] w fun e w' => e = .returned (.tuple #[.agg #[.int .u8 (wk y4), .int .i32 (wv y4)], .bool (wis y4)]) ∧ Below w.heap.size w w' := by
  go_enter Try.func34, Try.ntmps34
  go_wp2_with fail
  refine (wOfRes_any y4 _).mono ?_
  rintro e w1 ⟨rfl, hb1⟩
  have z1 : w.heap.size + 1 < w1.heap.size := by have := hb1.size; first | omega | (simp at this; omega)
  have c1_0_0 : w1.cell? ⟨w.heap.size + 1, 0, none⟩ = some (.int .u8 0) := (hb1.cell (p := ⟨w.heap.size + 1, 0, none⟩) (by first | omega | (simp; omega) | (simp; done))).trans (by go_simp)
  have f1_0_0 : w1.frozen? ⟨w.heap.size + 1, 0, none⟩ = false := (hb1.frozen (p := ⟨w.heap.size + 1, 0, none⟩) (by first | omega | (simp; omega) | (simp; done))).trans (by go_simp)
  have c1_0_1 : w1.cell? ⟨w.heap.size + 1, 1, none⟩ = some (.int .i32 0) := (hb1.cell (p := ⟨w.heap.size + 1, 1, none⟩) (by first | omega | (simp; omega) | (simp; done))).trans (by go_simp)
  have f1_0_1 : w1.frozen? ⟨w.heap.size + 1, 1, none⟩ = false := (hb1.frozen (p := ⟨w.heap.size + 1, 1, none⟩) (by first | omega | (simp; omega) | (simp; done))).trans (by go_simp)
  have B1 : Below w.heap.size w w1 := Below.trans (by go_grown) (hb1.mono (by first | omega | (simp; omega) | (simp; done)))
  clear hb1
  go_wp2
  refine bodyPost_ret (v := .tuple #[.agg #[.int .u8 (wk y4), .int .i32 (wv y4)], .bool (wis y4)]) (by simp [results, Try.results34, go_sem, z1, c1_0_0, c1_0_1]) rfl ⟨rfl, by go_grown⟩
theorem Told_word (y0 y1 y2 y3 k v : Int) (w : World) (h1 : 0 ≤ k) (h2 : k ≤ 255) (h3 : -2147483648 ≤ v) (h4 : v ≤ 2147483647) :
    Calls Try.prog 34 #[.agg #[.int .i64 y0, .int .i64 y1, .int .i64 y2, .int .i64 y3, .int .i64 (wordOf k v)]] w fun e w' => e = .returned (.tuple #[.agg #[.int .u8 k, .int .i32 v], .bool true]) ∧ Below w.heap.size w w' := by
  have h := Told_any y0 y1 y2 y3 (wordOf k v) w
  have r := word_rng h1 h2 h3 h4
  rw [wk_word h1 h2 h3 h4, wv_word h1 h2 h3 h4, wis_yes r.1 r.2] at h
  exact h
set_option maxHeartbeats 400000 in
theorem Waits_any (y0 y1 y2 y3 y4 : Int) (w : World) :
    Calls Try.prog 35 #[.agg #[.int .i64 y0, .int .i64 y1, .int .i64 y2, .int .i64 y3, .int .i64 y4]] w fun e w' => e = .returned (.bool (decide (0 < y0))) ∧ Below w.heap.size w w' := by
  go_enter Try.func35, Try.ntmps35
  go_wp2_with fail
  refine (wAsks_any y0 _).mono ?_
  rintro e w' ⟨rfl, rfl⟩
  go_wp2
  go_ret
  exact ⟨rfl, by go_grown⟩
theorem Waits_is (y0 y1 y2 y3 y4 : Int) (b : Bool) (w : World) (h : decide (0 < y0) = b) :
    Calls Try.prog 35 #[.agg #[.int .i64 y0, .int .i64 y1, .int .i64 y2, .int .i64 y3, .int .i64 y4]] w fun e w' => e = .returned (.bool b) ∧ Below w.heap.size w w' := by
  subst h; exact Waits_any y0 y1 y2 y3 y4 w

set_option maxRecDepth 100000 in
set_option maxHeartbeats 8000000 in
theorem recordTold_a (rk rv ok ov z : Int) (w : World) (r1 : 0 ≤ rk) (r2 : rk ≤ 255) (r3 : -2147483648 ≤ rv) (r4 : rv ≤ 2147483647) (o1 : 0 ≤ ok) (o2 : ok ≤ 255) (o3 : -2147483648 ≤ ov) (o4 : ov ≤ 2147483647) (hzz : 0 < z) :
    Calls Try.prog 12 #[.agg #[.int .u8 rk, .int .i32 rv], .agg #[.int .u8 ok, .int .i32 ov], .int .i64 z] w fun e w' => e = .returned (.bool true) ∧ Below w.heap.size w w' := by
  have hO := word_rng o1 o2 o3 o4
  obtain ⟨O, hOv⟩ : ∃ O, wordOf ok ov = O := ⟨_, rfl⟩
  rw [hOv] at hO
  have HO := Lib.hid (And.intro hOv hO)
  clear hOv hO
  go_enter Try.func12, Try.ntmps12
  go_wp2_with fail
  obtain ⟨W, hW, hB, hz, q0, q1, q2, q3⟩ : ∃ W, W = ((w.alloc (Obj.cells #[.int .u8 rk, .int .i32 rv] 60)).alloc (Obj.cells #[.int .u8 ok, .int .i32 ov] 62)) ∧ Below w.heap.size w W ∧ W.heap.size = w.heap.size + 1 + 1 ∧ W.cell? ⟨w.heap.size, 0, none⟩ = some (.int .u8 rk) ∧ W.cell? ⟨w.heap.size, 1, none⟩ = some (.int .i32 rv) ∧ W.cell? ⟨w.heap.size + 1, 0, none⟩ = some (.int .u8 ok) ∧ W.cell? ⟨w.heap.size + 1, 1, none⟩ = some (.int .i32 ov) :=
    ⟨_, rfl, by go_grown, by go_simp, by go_simp, by go_simp, by go_simp, by go_simp⟩
  rw [← hW]
  clear hW
  have hz1 : w.heap.size + 1 < W.heap.size := by omega
  clear hz
  have HW := Lib.hid (And.intro hB (And.intro q0 (And.intro q1 (And.intro q2 q3))))
  clear hB q0 q1 q2 q3
  refine (Open_ms 1 W W (Below.refl _ _) (by omega) (by omega)).mono ?_
  rintro e w1 ⟨g0, rfl, m1, -⟩
  have zz1 : W.heap.size ≤ w1.heap.size := m1.B.size
  go_wp2_with fail
  refine (Alloc_ms m1 5 (by omega) (by simp) (by omega)).mono ?_
  rintro e w2 ⟨g, rfl, m2, -, -⟩
  simp only [show (5 : Int).toNat = 5 from rfl, List.replicate, List.cons_append, List.nil_append] at m2
  clear m1
  have zz2 : W.heap.size ≤ w2.heap.size := m2.B.size
  have o2_0_0 : w2.cell? ⟨w.heap.size, 0, none⟩ = some (.int .u8 rk) := (m2.B.cell (p := ⟨w.heap.size, 0, none⟩) (by first | omega | (simp; omega) | (simp; done))).trans HW.out.2.1
  have o2_0_1 : w2.cell? ⟨w.heap.size, 1, none⟩ = some (.int .i32 rv) := (m2.B.cell (p := ⟨w.heap.size, 1, none⟩) (by first | omega | (simp; omega) | (simp; done))).trans HW.out.2.2.1
  have o2_1_0 : w2.cell? ⟨w.heap.size + 1, 0, none⟩ = some (.int .u8 ok) := (m2.B.cell (p := ⟨w.heap.size + 1, 0, none⟩) (by first | omega | (simp; omega) | (simp; done))).trans HW.out.2.2.2.1
  have o2_1_1 : w2.cell? ⟨w.heap.size + 1, 1, none⟩ = some (.int .i32 ov) := (m2.B.cell (p := ⟨w.heap.size + 1, 1, none⟩) (by first | omega | (simp; omega) | (simp; done))).trans HW.out.2.2.2.2
  go_wp2_with fail
  refine (wRes_any rk rv _ r1 r2 r3 r4).mono ?_
  rintro e w3 ⟨rfl, hb⟩
  have bx : Below w2.heap.size w2 w3 := Below.trans (by go_grown) (hb.mono (by first | omega | (simp; omega) | (simp; done)))
  have m3 := m2.below bx
  clear bx
  have zz3 : W.heap.size ≤ w3.heap.size := m3.B.size
  have o3_0_0 : w3.cell? ⟨w.heap.size, 0, none⟩ = some (.int .u8 rk) := (m3.B.cell (p := ⟨w.heap.size, 0, none⟩) (by first | omega | (simp; omega) | (simp; done))).trans HW.out.2.1
  have o3_0_1 : w3.cell? ⟨w.heap.size, 1, none⟩ = some (.int .i32 rv) := (m3.B.cell (p := ⟨w.heap.size, 1, none⟩) (by first | omega | (simp; omega) | (simp; done))).trans HW.out.2.2.1
  have o3_1_0 : w3.cell? ⟨w.heap.size + 1, 0, none⟩ = some (.int .u8 ok) := (m3.B.cell (p := ⟨w.heap.size + 1, 0, none⟩) (by first | omega | (simp; omega) | (simp; done))).trans HW.out.2.2.2.1
  have o3_1_1 : w3.cell? ⟨w.heap.size + 1, 1, none⟩ = some (.int .i32 ov) := (m3.B.cell (p := ⟨w.heap.size + 1, 1, none⟩) (by first | omega | (simp; omega) | (simp; done))).trans HW.out.2.2.2.2
  clear hb o2_0_0 o2_0_1 o2_1_0 o2_1_1 m2 
  go_wp2_with fail
  refine (Store_ms m3 7 (wordOf rk rv) (by omega) (by simp) (by omega)).mono ?_
  rintro e w4 ⟨rfl, m4, hk⟩
  have zz4 : W.heap.size ≤ w4.heap.size := m4.B.size
  have o4_0_0 : w4.cell? ⟨w.heap.size, 0, none⟩ = some (.int .u8 rk) := (m4.B.cell (p := ⟨w.heap.size, 0, none⟩) (by first | omega | (simp; omega) | (simp; done))).trans HW.out.2.1
  have o4_0_1 : w4.cell? ⟨w.heap.size, 1, none⟩ = some (.int .i32 rv) := (m4.B.cell (p := ⟨w.heap.size, 1, none⟩) (by first | omega | (simp; omega) | (simp; done))).trans HW.out.2.2.1
  have o4_1_0 : w4.cell? ⟨w.heap.size + 1, 0, none⟩ = some (.int .u8 ok) := (m4.B.cell (p := ⟨w.heap.size + 1, 0, none⟩) (by first | omega | (simp; omega) | (simp; done))).trans HW.out.2.2.2.1
  have o4_1_1 : w4.cell? ⟨w.heap.size + 1, 1, none⟩ = some (.int .i32 ov) := (m4.B.cell (p := ⟨w.heap.size + 1, 1, none⟩) (by first | omega | (simp; omega) | (simp; done))).trans HW.out.2.2.2.2
  clear hk o3_0_0 o3_0_1 o3_1_0 o3_1_1 m3 
  simp only [show (7 : Int).toNat = 7 from rfl, List.set] at m4
  go_wp2_with fail
  refine (wOp_any ok ov _ o1 o2 o3 o4).mono ?_
  rintro e w5 ⟨rfl, hb⟩
  rw [HO.out.1]
  have bx : Below w4.heap.size w4 w5 := Below.trans (by go_grown) (hb.mono (by first | omega | (simp; omega) | (simp; done)))
  have m5 := m4.below bx
  clear bx
  have zz5 : W.heap.size ≤ w5.heap.size := m5.B.size
  have o5_0_0 : w5.cell? ⟨w.heap.size, 0, none⟩ = some (.int .u8 rk) := (m5.B.cell (p := ⟨w.heap.size, 0, none⟩) (by first | omega | (simp; omega) | (simp; done))).trans HW.out.2.1
  have o5_0_1 : w5.cell? ⟨w.heap.size, 1, none⟩ = some (.int .i32 rv) := (m5.B.cell (p := ⟨w.heap.size, 1, none⟩) (by first | omega | (simp; omega) | (simp; done))).trans HW.out.2.2.1
  have o5_1_0 : w5.cell? ⟨w.heap.size + 1, 0, none⟩ = some (.int .u8 ok) := (m5.B.cell (p := ⟨w.heap.size + 1, 0, none⟩) (by first | omega | (simp; omega) | (simp; done))).trans HW.out.2.2.2.1
  have o5_1_1 : w5.cell? ⟨w.heap.size + 1, 1, none⟩ = some (.int .i32 ov) := (m5.B.cell (p := ⟨w.heap.size + 1, 1, none⟩) (by first | omega | (simp; omega) | (simp; done))).trans HW.out.2.2.2.2
  clear hb o4_0_0 o4_0_1 o4_1_0 o4_1_1 m4 
  go_wp2_with fail
  refine (Store_ms m5 3 O (by omega) (by simp) (by omega)).mono ?_
  rintro e w6 ⟨rfl, m6, hk⟩
  have zz6 : W.heap.size ≤ w6.heap.size := m6.B.size
  have o6_0_0 : w6.cell? ⟨w.heap.size, 0, none⟩ = some (.int .u8 rk) := (m6.B.cell (p := ⟨w.heap.size, 0, none⟩) (by first | omega | (simp; omega) | (simp; done))).trans HW.out.2.1
  have o6_0_1 : w6.cell? ⟨w.heap.size, 1, none⟩ = some (.int .i32 rv) := (m6.B.cell (p := ⟨w.heap.size, 1, none⟩) (by first | omega | (simp; omega) | (simp; done))).trans HW.out.2.2.1
  have o6_1_0 : w6.cell? ⟨w.heap.size + 1, 0, none⟩ = some (.int .u8 ok) := (m6.B.cell (p := ⟨w.heap.size + 1, 0, none⟩) (by first | omega | (simp; omega) | (simp; done))).trans HW.out.2.2.2.1
  have o6_1_1 : w6.cell? ⟨w.heap.size + 1, 1, none⟩ = some (.int .i32 ov) := (m6.B.cell (p := ⟨w.heap.size + 1, 1, none⟩) (by first | omega | (simp; omega) | (simp; done))).trans HW.out.2.2.2.2
  clear hk o5_0_0 o5_0_1 o5_1_0 o5_1_1 m5 
  simp only [show (3 : Int).toNat = 3 from rfl, List.set] at m6
  go_wp2_with fail
  refine (See_core m6 3 0 O 0 0 0 (wordOf rk rv) ⟨rfl, rfl, rfl, rfl, rfl⟩ rfl (by omega) (by omega) rfl (show (0 : Int) < manyOf 8 by decide)).mono ?_
  rintro e w7 ⟨rfl, m7, hb⟩
  have zz7 : W.heap.size ≤ w7.heap.size := m7.B.size
  have o7_0_0 : w7.cell? ⟨w.heap.size, 0, none⟩ = some (.int .u8 rk) := (m7.B.cell (p := ⟨w.heap.size, 0, none⟩) (by first | omega | (simp; omega) | (simp; done))).trans HW.out.2.1
  have o7_0_1 : w7.cell? ⟨w.heap.size, 1, none⟩ = some (.int .i32 rv) := (m7.B.cell (p := ⟨w.heap.size, 1, none⟩) (by first | omega | (simp; omega) | (simp; done))).trans HW.out.2.2.1
  have o7_1_0 : w7.cell? ⟨w.heap.size + 1, 0, none⟩ = some (.int .u8 ok) := (m7.B.cell (p := ⟨w.heap.size + 1, 0, none⟩) (by first | omega | (simp; omega) | (simp; done))).trans HW.out.2.2.2.1
  have o7_1_1 : w7.cell? ⟨w.heap.size + 1, 1, none⟩ = some (.int .i32 ov) := (m7.B.cell (p := ⟨w.heap.size + 1, 1, none⟩) (by first | omega | (simp; omega) | (simp; done))).trans HW.out.2.2.2.2
  clear hb o6_0_0 o6_0_1 o6_1_0 o6_1_1 m6 
  have far : W.heap.size < w7.heap.size ∧ (∀ k, g = some k → k < w7.heap.size) := ⟨m7.mem.lt, fun k e => by subst e; exact m7.mem.row_lt⟩
  have far0 : ∀ p, W.heap.size < p → (∀ k, g = some k → k < p) → ¬ Foot W.heap.size g p := fun p h1 h2 => by
    rintro (e | e)
    · omega
    · have := h2 p e.symm; omega
  have far1 := far0
  have FAR := Lib.hid (And.intro far far0)
  clear far far0 far1
  go_wp2_with fail
  refine (Told_word _ _ _ _ rk rv _ r1 r2 r3 r4).mono ?_
  rintro e w8 ⟨rfl, hb⟩
  have bx : Below w7.heap.size w7 w8 := Below.trans (by go_grown) (hb.mono (by first | omega | (simp; omega) | (simp; done)))
  have m8 := m7.below bx
  clear bx
  have zz8 : W.heap.size ≤ w8.heap.size := m8.B.size
  have o8_0_0 : w8.cell? ⟨w.heap.size, 0, none⟩ = some (.int .u8 rk) := (m8.B.cell (p := ⟨w.heap.size, 0, none⟩) (by first | omega | (simp; omega) | (simp; done))).trans HW.out.2.1
  have o8_0_1 : w8.cell? ⟨w.heap.size, 1, none⟩ = some (.int .i32 rv) := (m8.B.cell (p := ⟨w.heap.size, 1, none⟩) (by first | omega | (simp; omega) | (simp; done))).trans HW.out.2.2.1
  have o8_1_0 : w8.cell? ⟨w.heap.size + 1, 0, none⟩ = some (.int .u8 ok) := (m8.B.cell (p := ⟨w.heap.size + 1, 0, none⟩) (by first | omega | (simp; omega) | (simp; done))).trans HW.out.2.2.2.1
  have o8_1_1 : w8.cell? ⟨w.heap.size + 1, 1, none⟩ = some (.int .i32 ov) := (m8.B.cell (p := ⟨w.heap.size + 1, 1, none⟩) (by first | omega | (simp; omega) | (simp; done))).trans HW.out.2.2.2.2
  have z8_0 : w7.heap.size < w8.heap.size := by have := hb.size; first | omega | (simp at this; omega)
  have n8_0_0 : w8.cell? ⟨w7.heap.size, 0, none⟩ = some (.int .i64 O) := (hb.cell (p := ⟨w7.heap.size, 0, none⟩) (by first | omega | (simp; omega) | (simp; done))).trans (by go_simp)
  have n8_0_1 : w8.cell? ⟨w7.heap.size, 1, none⟩ = some (.int .i64 0) := (hb.cell (p := ⟨w7.heap.size, 1, none⟩) (by first | omega | (simp; omega) | (simp; done))).trans (by go_simp)
  have n8_0_2 : w8.cell? ⟨w7.heap.size, 2, none⟩ = some (.int .i64 0) := (hb.cell (p := ⟨w7.heap.size, 2, none⟩) (by first | omega | (simp; omega) | (simp; done))).trans (by go_simp)
  have n8_0_3 : w8.cell? ⟨w7.heap.size, 3, none⟩ = some (.int .i64 0) := (hb.cell (p := ⟨w7.heap.size, 3, none⟩) (by first | omega | (simp; omega) | (simp; done))).trans (by go_simp)
  have n8_0_4 : w8.cell? ⟨w7.heap.size, 4, none⟩ = some (.int .i64 (wordOf rk rv)) := (hb.cell (p := ⟨w7.heap.size, 4, none⟩) (by first | omega | (simp; omega) | (simp; done))).trans (by go_simp)
  clear hb o7_0_0 o7_0_1 o7_1_0 o7_1_1 m7 
  have m8x : MS W (w8.alloc (Obj.cells #[.int .u8 rk, .int .i32 rv] 60)) W.heap.size g (3 + 5 * 1) _ _ := m8.below (by go_grown)
  go_wp2_with fail
  refine (Store_ms m8x 3 z (by omega) (by simp) (by omega)).mono ?_
  rintro e w9 ⟨rfl, m9, hk⟩
  have far := FAR.out.1
  have far0 := FAR.out.2
  have far1 := far0
  have zz9 : W.heap.size ≤ w9.heap.size := m9.B.size
  have o9_0_0 : w9.cell? ⟨w.heap.size, 0, none⟩ = some (.int .u8 rk) := (m9.B.cell (p := ⟨w.heap.size, 0, none⟩) (by first | omega | (simp; omega) | (simp; done))).trans HW.out.2.1
  have o9_0_1 : w9.cell? ⟨w.heap.size, 1, none⟩ = some (.int .i32 rv) := (m9.B.cell (p := ⟨w.heap.size, 1, none⟩) (by first | omega | (simp; omega) | (simp; done))).trans HW.out.2.2.1
  have o9_1_0 : w9.cell? ⟨w.heap.size + 1, 0, none⟩ = some (.int .u8 ok) := (m9.B.cell (p := ⟨w.heap.size + 1, 0, none⟩) (by first | omega | (simp; omega) | (simp; done))).trans HW.out.2.2.2.1
  have o9_1_1 : w9.cell? ⟨w.heap.size + 1, 1, none⟩ = some (.int .i32 ov) := (m9.B.cell (p := ⟨w.heap.size + 1, 1, none⟩) (by first | omega | (simp; omega) | (simp; done))).trans HW.out.2.2.2.2
  have z9_0 : w7.heap.size < w9.heap.size := by have := hk.size; first | omega | (simp at this; omega)
  have n9_0_0 : w9.cell? ⟨w7.heap.size, 0, none⟩ = some (.int .i64 O) := (hk.cell (p := ⟨w7.heap.size, 0, none⟩) (by first | omega | (simp; omega) | (simp; done)) (far0 (w7.heap.size) (by have := far.1; omega) (fun k e => by have := far.2 k e; omega))).trans (by go_simp)
  have n9_0_1 : w9.cell? ⟨w7.heap.size, 1, none⟩ = some (.int .i64 0) := (hk.cell (p := ⟨w7.heap.size, 1, none⟩) (by first | omega | (simp; omega) | (simp; done)) (far0 (w7.heap.size) (by have := far.1; omega) (fun k e => by have := far.2 k e; omega))).trans (by go_simp)
  have n9_0_2 : w9.cell? ⟨w7.heap.size, 2, none⟩ = some (.int .i64 0) := (hk.cell (p := ⟨w7.heap.size, 2, none⟩) (by first | omega | (simp; omega) | (simp; done)) (far0 (w7.heap.size) (by have := far.1; omega) (fun k e => by have := far.2 k e; omega))).trans (by go_simp)
  have n9_0_3 : w9.cell? ⟨w7.heap.size, 3, none⟩ = some (.int .i64 0) := (hk.cell (p := ⟨w7.heap.size, 3, none⟩) (by first | omega | (simp; omega) | (simp; done)) (far0 (w7.heap.size) (by have := far.1; omega) (fun k e => by have := far.2 k e; omega))).trans (by go_simp)
  have n9_0_4 : w9.cell? ⟨w7.heap.size, 4, none⟩ = some (.int .i64 (wordOf rk rv)) := (hk.cell (p := ⟨w7.heap.size, 4, none⟩) (by first | omega | (simp; omega) | (simp; done)) (far0 (w7.heap.size) (by have := far.1; omega) (fun k e => by have := far.2 k e; omega))).trans (by go_simp)
  have z9_1 : w8.heap.size < w9.heap.size := by have := hk.size; first | omega | (simp at this; omega)
  have n9_1_0 : w9.cell? ⟨w8.heap.size, 0, none⟩ = some (.int .u8 rk) := (hk.cell (p := ⟨w8.heap.size, 0, none⟩) (by first | omega | (simp; omega) | (simp; done)) (far1 (w8.heap.size) (by have := far.1; omega) (fun k e => by have := far.2 k e; omega))).trans (by go_simp)
  have n9_1_1 : w9.cell? ⟨w8.heap.size, 1, none⟩ = some (.int .i32 rv) := (hk.cell (p := ⟨w8.heap.size, 1, none⟩) (by first | omega | (simp; omega) | (simp; done)) (far1 (w8.heap.size) (by have := far.1; omega) (fun k e => by have := far.2 k e; omega))).trans (by go_simp)
  clear far far0 far1 hk o8_0_0 o8_0_1 o8_1_0 o8_1_1 n8_0_0 n8_0_1 n8_0_2 n8_0_3 n8_0_4 m8 m8x
  simp only [show (3 : Int).toNat = 3 from rfl, List.set] at m9
  go_wp2_with fail
  refine (See_core m9 3 0 z 0 0 0 (wordOf rk rv) ⟨rfl, rfl, rfl, rfl, rfl⟩ rfl (by omega) (by omega) rfl (show (0 : Int) < manyOf 8 by decide)).mono ?_
  rintro e w10 ⟨rfl, m10, hb⟩
  have zz10 : W.heap.size ≤ w10.heap.size := m10.B.size
  have o10_0_0 : w10.cell? ⟨w.heap.size, 0, none⟩ = some (.int .u8 rk) := (m10.B.cell (p := ⟨w.heap.size, 0, none⟩) (by first | omega | (simp; omega) | (simp; done))).trans HW.out.2.1
  have o10_0_1 : w10.cell? ⟨w.heap.size, 1, none⟩ = some (.int .i32 rv) := (m10.B.cell (p := ⟨w.heap.size, 1, none⟩) (by first | omega | (simp; omega) | (simp; done))).trans HW.out.2.2.1
  have o10_1_0 : w10.cell? ⟨w.heap.size + 1, 0, none⟩ = some (.int .u8 ok) := (m10.B.cell (p := ⟨w.heap.size + 1, 0, none⟩) (by first | omega | (simp; omega) | (simp; done))).trans HW.out.2.2.2.1
  have o10_1_1 : w10.cell? ⟨w.heap.size + 1, 1, none⟩ = some (.int .i32 ov) := (m10.B.cell (p := ⟨w.heap.size + 1, 1, none⟩) (by first | omega | (simp; omega) | (simp; done))).trans HW.out.2.2.2.2
  have z10_0 : w7.heap.size < w10.heap.size := by have := hb.size; first | omega | (simp at this; omega)
  have n10_0_0 : w10.cell? ⟨w7.heap.size, 0, none⟩ = some (.int .i64 O) := (hb.cell (p := ⟨w7.heap.size, 0, none⟩) (by first | omega | (simp; omega) | (simp; done))).trans (by go_simp)
  have n10_0_1 : w10.cell? ⟨w7.heap.size, 1, none⟩ = some (.int .i64 0) := (hb.cell (p := ⟨w7.heap.size, 1, none⟩) (by first | omega | (simp; omega) | (simp; done))).trans (by go_simp)
  have n10_0_2 : w10.cell? ⟨w7.heap.size, 2, none⟩ = some (.int .i64 0) := (hb.cell (p := ⟨w7.heap.size, 2, none⟩) (by first | omega | (simp; omega) | (simp; done))).trans (by go_simp)
  have n10_0_3 : w10.cell? ⟨w7.heap.size, 3, none⟩ = some (.int .i64 0) := (hb.cell (p := ⟨w7.heap.size, 3, none⟩) (by first | omega | (simp; omega) | (simp; done))).trans (by go_simp)
  have n10_0_4 : w10.cell? ⟨w7.heap.size, 4, none⟩ = some (.int .i64 (wordOf rk rv)) := (hb.cell (p := ⟨w7.heap.size, 4, none⟩) (by first | omega | (simp; omega) | (simp; done))).trans (by go_simp)
  have z10_1 : w8.heap.size < w10.heap.size := by have := hb.size; first | omega | (simp at this; omega)
  have n10_1_0 : w10.cell? ⟨w8.heap.size, 0, none⟩ = some (.int .u8 rk) := (hb.cell (p := ⟨w8.heap.size, 0, none⟩) (by first | omega | (simp; omega) | (simp; done))).trans (by go_simp)
  have n10_1_1 : w10.cell? ⟨w8.heap.size, 1, none⟩ = some (.int .i32 rv) := (hb.cell (p := ⟨w8.heap.size, 1, none⟩) (by first | omega | (simp; omega) | (simp; done))).trans (by go_simp)
  clear hb o9_0_0 o9_0_1 o9_1_0 o9_1_1 n9_0_0 n9_0_1 n9_0_2 n9_0_3 n9_0_4 n9_1_0 n9_1_1 m9 
  have m10x : MS W (w10.alloc (Obj.cells #[.int .i64 z, .int .i64 0, .int .i64 0, .int .i64 0, .int .i64 (wordOf rk rv)] 47)) W.heap.size g (3 + 5 * 1) _ _ := m10.below (by go_grown)
  go_wp2_with fail
  refine (See_no m10x 4 (by omega) (.inr (.inl (by decide)))).mono ?_
  rintro e w11 ⟨rfl, m11, hb⟩
  have zz11 : W.heap.size ≤ w11.heap.size := m11.B.size
  have o11_0_0 : w11.cell? ⟨w.heap.size, 0, none⟩ = some (.int .u8 rk) := (m11.B.cell (p := ⟨w.heap.size, 0, none⟩) (by first | omega | (simp; omega) | (simp; done))).trans HW.out.2.1
  have o11_0_1 : w11.cell? ⟨w.heap.size, 1, none⟩ = some (.int .i32 rv) := (m11.B.cell (p := ⟨w.heap.size, 1, none⟩) (by first | omega | (simp; omega) | (simp; done))).trans HW.out.2.2.1
  have o11_1_0 : w11.cell? ⟨w.heap.size + 1, 0, none⟩ = some (.int .u8 ok) := (m11.B.cell (p := ⟨w.heap.size + 1, 0, none⟩) (by first | omega | (simp; omega) | (simp; done))).trans HW.out.2.2.2.1
  have o11_1_1 : w11.cell? ⟨w.heap.size + 1, 1, none⟩ = some (.int .i32 ov) := (m11.B.cell (p := ⟨w.heap.size + 1, 1, none⟩) (by first | omega | (simp; omega) | (simp; done))).trans HW.out.2.2.2.2
  have z11_0 : w7.heap.size < w11.heap.size := by have := hb.size; first | omega | (simp at this; omega)
  have n11_0_0 : w11.cell? ⟨w7.heap.size, 0, none⟩ = some (.int .i64 O) := (hb.cell (p := ⟨w7.heap.size, 0, none⟩) (by first | omega | (simp; omega) | (simp; done))).trans (by go_simp)
  have n11_0_1 : w11.cell? ⟨w7.heap.size, 1, none⟩ = some (.int .i64 0) := (hb.cell (p := ⟨w7.heap.size, 1, none⟩) (by first | omega | (simp; omega) | (simp; done))).trans (by go_simp)
  have n11_0_2 : w11.cell? ⟨w7.heap.size, 2, none⟩ = some (.int .i64 0) := (hb.cell (p := ⟨w7.heap.size, 2, none⟩) (by first | omega | (simp; omega) | (simp; done))).trans (by go_simp)
  have n11_0_3 : w11.cell? ⟨w7.heap.size, 3, none⟩ = some (.int .i64 0) := (hb.cell (p := ⟨w7.heap.size, 3, none⟩) (by first | omega | (simp; omega) | (simp; done))).trans (by go_simp)
  have n11_0_4 : w11.cell? ⟨w7.heap.size, 4, none⟩ = some (.int .i64 (wordOf rk rv)) := (hb.cell (p := ⟨w7.heap.size, 4, none⟩) (by first | omega | (simp; omega) | (simp; done))).trans (by go_simp)
  have z11_1 : w8.heap.size < w11.heap.size := by have := hb.size; first | omega | (simp at this; omega)
  have n11_1_0 : w11.cell? ⟨w8.heap.size, 0, none⟩ = some (.int .u8 rk) := (hb.cell (p := ⟨w8.heap.size, 0, none⟩) (by first | omega | (simp; omega) | (simp; done))).trans (by go_simp)
  have n11_1_1 : w11.cell? ⟨w8.heap.size, 1, none⟩ = some (.int .i32 rv) := (hb.cell (p := ⟨w8.heap.size, 1, none⟩) (by first | omega | (simp; omega) | (simp; done))).trans (by go_simp)
  have z11_2 : w10.heap.size < w11.heap.size := by have := hb.size; first | omega | (simp at this; omega)
  have n11_2_0 : w11.cell? ⟨w10.heap.size, 0, none⟩ = some (.int .i64 z) := (hb.cell (p := ⟨w10.heap.size, 0, none⟩) (by first | omega | (simp; omega) | (simp; done))).trans (by go_simp)
  have n11_2_1 : w11.cell? ⟨w10.heap.size, 1, none⟩ = some (.int .i64 0) := (hb.cell (p := ⟨w10.heap.size, 1, none⟩) (by first | omega | (simp; omega) | (simp; done))).trans (by go_simp)
  have n11_2_2 : w11.cell? ⟨w10.heap.size, 2, none⟩ = some (.int .i64 0) := (hb.cell (p := ⟨w10.heap.size, 2, none⟩) (by first | omega | (simp; omega) | (simp; done))).trans (by go_simp)
  have n11_2_3 : w11.cell? ⟨w10.heap.size, 3, none⟩ = some (.int .i64 0) := (hb.cell (p := ⟨w10.heap.size, 3, none⟩) (by first | omega | (simp; omega) | (simp; done))).trans (by go_simp)
  have n11_2_4 : w11.cell? ⟨w10.heap.size, 4, none⟩ = some (.int .i64 (wordOf rk rv)) := (hb.cell (p := ⟨w10.heap.size, 4, none⟩) (by first | omega | (simp; omega) | (simp; done))).trans (by go_simp)
  clear hb o10_0_0 o10_0_1 o10_1_0 o10_1_1 n10_0_0 n10_0_1 n10_0_2 n10_0_3 n10_0_4 n10_1_0 n10_1_1 m10 m10x
  go_wp2_with fail
  refine (known13_any _).mono ?_
  rintro e w12 ⟨rfl, hb⟩
  have bx : Below w11.heap.size w11 w12 := Below.trans (by go_grown) (hb.mono (by first | omega | (simp; omega) | (simp; done)))
  have m12 := m11.below bx
  clear bx
  have zz12 : W.heap.size ≤ w12.heap.size := m12.B.size
  have o12_0_0 : w12.cell? ⟨w.heap.size, 0, none⟩ = some (.int .u8 rk) := (m12.B.cell (p := ⟨w.heap.size, 0, none⟩) (by first | omega | (simp; omega) | (simp; done))).trans HW.out.2.1
  have o12_0_1 : w12.cell? ⟨w.heap.size, 1, none⟩ = some (.int .i32 rv) := (m12.B.cell (p := ⟨w.heap.size, 1, none⟩) (by first | omega | (simp; omega) | (simp; done))).trans HW.out.2.2.1
  have o12_1_0 : w12.cell? ⟨w.heap.size + 1, 0, none⟩ = some (.int .u8 ok) := (m12.B.cell (p := ⟨w.heap.size + 1, 0, none⟩) (by first | omega | (simp; omega) | (simp; done))).trans HW.out.2.2.2.1
  have o12_1_1 : w12.cell? ⟨w.heap.size + 1, 1, none⟩ = some (.int .i32 ov) := (m12.B.cell (p := ⟨w.heap.size + 1, 1, none⟩) (by first | omega | (simp; omega) | (simp; done))).trans HW.out.2.2.2.2
  have z12_0 : w7.heap.size < w12.heap.size := by have := hb.size; first | omega | (simp at this; omega)
  have n12_0_0 : w12.cell? ⟨w7.heap.size, 0, none⟩ = some (.int .i64 O) := (hb.cell (p := ⟨w7.heap.size, 0, none⟩) (by first | omega | (simp; omega) | (simp; done))).trans (by go_simp)
  have n12_0_1 : w12.cell? ⟨w7.heap.size, 1, none⟩ = some (.int .i64 0) := (hb.cell (p := ⟨w7.heap.size, 1, none⟩) (by first | omega | (simp; omega) | (simp; done))).trans (by go_simp)
  have n12_0_2 : w12.cell? ⟨w7.heap.size, 2, none⟩ = some (.int .i64 0) := (hb.cell (p := ⟨w7.heap.size, 2, none⟩) (by first | omega | (simp; omega) | (simp; done))).trans (by go_simp)
  have n12_0_3 : w12.cell? ⟨w7.heap.size, 3, none⟩ = some (.int .i64 0) := (hb.cell (p := ⟨w7.heap.size, 3, none⟩) (by first | omega | (simp; omega) | (simp; done))).trans (by go_simp)
  have n12_0_4 : w12.cell? ⟨w7.heap.size, 4, none⟩ = some (.int .i64 (wordOf rk rv)) := (hb.cell (p := ⟨w7.heap.size, 4, none⟩) (by first | omega | (simp; omega) | (simp; done))).trans (by go_simp)
  have z12_1 : w8.heap.size < w12.heap.size := by have := hb.size; first | omega | (simp at this; omega)
  have n12_1_0 : w12.cell? ⟨w8.heap.size, 0, none⟩ = some (.int .u8 rk) := (hb.cell (p := ⟨w8.heap.size, 0, none⟩) (by first | omega | (simp; omega) | (simp; done))).trans (by go_simp)
  have n12_1_1 : w12.cell? ⟨w8.heap.size, 1, none⟩ = some (.int .i32 rv) := (hb.cell (p := ⟨w8.heap.size, 1, none⟩) (by first | omega | (simp; omega) | (simp; done))).trans (by go_simp)
  have z12_2 : w10.heap.size < w12.heap.size := by have := hb.size; first | omega | (simp at this; omega)
  have n12_2_0 : w12.cell? ⟨w10.heap.size, 0, none⟩ = some (.int .i64 z) := (hb.cell (p := ⟨w10.heap.size, 0, none⟩) (by first | omega | (simp; omega) | (simp; done))).trans (by go_simp)
  have n12_2_1 : w12.cell? ⟨w10.heap.size, 1, none⟩ = some (.int .i64 0) := (hb.cell (p := ⟨w10.heap.size, 1, none⟩) (by first | omega | (simp; omega) | (simp; done))).trans (by go_simp)
  have n12_2_2 : w12.cell? ⟨w10.heap.size, 2, none⟩ = some (.int .i64 0) := (hb.cell (p := ⟨w10.heap.size, 2, none⟩) (by first | omega | (simp; omega) | (simp; done))).trans (by go_simp)
  have n12_2_3 : w12.cell? ⟨w10.heap.size, 3, none⟩ = some (.int .i64 0) := (hb.cell (p := ⟨w10.heap.size, 3, none⟩) (by first | omega | (simp; omega) | (simp; done))).trans (by go_simp)
  have n12_2_4 : w12.cell? ⟨w10.heap.size, 4, none⟩ = some (.int .i64 (wordOf rk rv)) := (hb.cell (p := ⟨w10.heap.size, 4, none⟩) (by first | omega | (simp; omega) | (simp; done))).trans (by go_simp)
  clear hb o11_0_0 o11_0_1 o11_1_0 o11_1_1 n11_0_0 n11_0_1 n11_0_2 n11_0_3 n11_0_4 n11_1_0 n11_1_1 n11_2_0 n11_2_1 n11_2_2 n11_2_3 n11_2_4 m11 
  go_wp2_with fail
  refine (Waits_is _ _ _ _ _ true _ (decide_eq_true (by have := HO.out.2.1; omega))).mono ?_
  rintro e w13 ⟨rfl, hb⟩
  have bx : Below w12.heap.size w12 w13 := Below.trans (by go_grown) (hb.mono (by first | omega | (simp; omega) | (simp; done)))
  have m13 := m12.below bx
  clear bx
  have zz13 : W.heap.size ≤ w13.heap.size := m13.B.size
  have o13_0_0 : w13.cell? ⟨w.heap.size, 0, none⟩ = some (.int .u8 rk) := (m13.B.cell (p := ⟨w.heap.size, 0, none⟩) (by first | omega | (simp; omega) | (simp; done))).trans HW.out.2.1
  have o13_0_1 : w13.cell? ⟨w.heap.size, 1, none⟩ = some (.int .i32 rv) := (m13.B.cell (p := ⟨w.heap.size, 1, none⟩) (by first | omega | (simp; omega) | (simp; done))).trans HW.out.2.2.1
  have o13_1_0 : w13.cell? ⟨w.heap.size + 1, 0, none⟩ = some (.int .u8 ok) := (m13.B.cell (p := ⟨w.heap.size + 1, 0, none⟩) (by first | omega | (simp; omega) | (simp; done))).trans HW.out.2.2.2.1
  have o13_1_1 : w13.cell? ⟨w.heap.size + 1, 1, none⟩ = some (.int .i32 ov) := (m13.B.cell (p := ⟨w.heap.size + 1, 1, none⟩) (by first | omega | (simp; omega) | (simp; done))).trans HW.out.2.2.2.2
  have z13_0 : w7.heap.size < w13.heap.size := by have := hb.size; first | omega | (simp at this; omega)
  have n13_0_0 : w13.cell? ⟨w7.heap.size, 0, none⟩ = some (.int .i64 O) := (hb.cell (p := ⟨w7.heap.size, 0, none⟩) (by first | omega | (simp; omega) | (simp; done))).trans (by go_simp)
  have n13_0_1 : w13.cell? ⟨w7.heap.size, 1, none⟩ = some (.int .i64 0) := (hb.cell (p := ⟨w7.heap.size, 1, none⟩) (by first | omega | (simp; omega) | (simp; done))).trans (by go_simp)
  have n13_0_2 : w13.cell? ⟨w7.heap.size, 2, none⟩ = some (.int .i64 0) := (hb.cell (p := ⟨w7.heap.size, 2, none⟩) (by first | omega | (simp; omega) | (simp; done))).trans (by go_simp)
  have n13_0_3 : w13.cell? ⟨w7.heap.size, 3, none⟩ = some (.int .i64 0) := (hb.cell (p := ⟨w7.heap.size, 3, none⟩) (by first | omega | (simp; omega) | (simp; done))).trans (by go_simp)
  have n13_0_4 : w13.cell? ⟨w7.heap.size, 4, none⟩ = some (.int .i64 (wordOf rk rv)) := (hb.cell (p := ⟨w7.heap.size, 4, none⟩) (by first | omega | (simp; omega) | (simp; done))).trans (by go_simp)
  have z13_1 : w8.heap.size < w13.heap.size := by have := hb.size; first | omega | (simp at this; omega)
  have n13_1_0 : w13.cell? ⟨w8.heap.size, 0, none⟩ = some (.int .u8 rk) := (hb.cell (p := ⟨w8.heap.size, 0, none⟩) (by first | omega | (simp; omega) | (simp; done))).trans (by go_simp)
  have n13_1_1 : w13.cell? ⟨w8.heap.size, 1, none⟩ = some (.int .i32 rv) := (hb.cell (p := ⟨w8.heap.size, 1, none⟩) (by first | omega | (simp; omega) | (simp; done))).trans (by go_simp)
  have z13_2 : w10.heap.size < w13.heap.size := by have := hb.size; first | omega | (simp at this; omega)
  have n13_2_0 : w13.cell? ⟨w10.heap.size, 0, none⟩ = some (.int .i64 z) := (hb.cell (p := ⟨w10.heap.size, 0, none⟩) (by first | omega | (simp; omega) | (simp; done))).trans (by go_simp)
  have n13_2_1 : w13.cell? ⟨w10.heap.size, 1, none⟩ = some (.int .i64 0) := (hb.cell (p := ⟨w10.heap.size, 1, none⟩) (by first | omega | (simp; omega) | (simp; done))).trans (by go_simp)
  have n13_2_2 : w13.cell? ⟨w10.heap.size, 2, none⟩ = some (.int .i64 0) := (hb.cell (p := ⟨w10.heap.size, 2, none⟩) (by first | omega | (simp; omega) | (simp; done))).trans (by go_simp)
  have n13_2_3 : w13.cell? ⟨w10.heap.size, 3, none⟩ = some (.int .i64 0) := (hb.cell (p := ⟨w10.heap.size, 3, none⟩) (by first | omega | (simp; omega) | (simp; done))).trans (by go_simp)
  have n13_2_4 : w13.cell? ⟨w10.heap.size, 4, none⟩ = some (.int .i64 (wordOf rk rv)) := (hb.cell (p := ⟨w10.heap.size, 4, none⟩) (by first | omega | (simp; omega) | (simp; done))).trans (by go_simp)
  clear hb o12_0_0 o12_0_1 o12_1_0 o12_1_1 n12_0_0 n12_0_1 n12_0_2 n12_0_3 n12_0_4 n12_1_0 n12_1_1 n12_2_0 n12_2_1 n12_2_2 n12_2_3 n12_2_4 m12 
  go_wp2_with fail
  refine (Waits_is _ _ _ _ _ true _ (by exact decide_eq_true hzz)).mono ?_
  rintro e w14 ⟨rfl, hb⟩
  have bx : Below w13.heap.size w13 w14 := Below.trans (by go_grown) (hb.mono (by first | omega | (simp; omega) | (simp; done)))
  have m14 := m13.below bx
  clear bx
  have zz14 : W.heap.size ≤ w14.heap.size := m14.B.size
  have o14_0_0 : w14.cell? ⟨w.heap.size, 0, none⟩ = some (.int .u8 rk) := (m14.B.cell (p := ⟨w.heap.size, 0, none⟩) (by first | omega | (simp; omega) | (simp; done))).trans HW.out.2.1
  have o14_0_1 : w14.cell? ⟨w.heap.size, 1, none⟩ = some (.int .i32 rv) := (m14.B.cell (p := ⟨w.heap.size, 1, none⟩) (by first | omega | (simp; omega) | (simp; done))).trans HW.out.2.2.1
  have o14_1_0 : w14.cell? ⟨w.heap.size + 1, 0, none⟩ = some (.int .u8 ok) := (m14.B.cell (p := ⟨w.heap.size + 1, 0, none⟩) (by first | omega | (simp; omega) | (simp; done))).trans HW.out.2.2.2.1
  have o14_1_1 : w14.cell? ⟨w.heap.size + 1, 1, none⟩ = some (.int .i32 ov) := (m14.B.cell (p := ⟨w.heap.size + 1, 1, none⟩) (by first | omega | (simp; omega) | (simp; done))).trans HW.out.2.2.2.2
  have z14_0 : w7.heap.size < w14.heap.size := by have := hb.size; first | omega | (simp at this; omega)
  have n14_0_0 : w14.cell? ⟨w7.heap.size, 0, none⟩ = some (.int .i64 O) := (hb.cell (p := ⟨w7.heap.size, 0, none⟩) (by first | omega | (simp; omega) | (simp; done))).trans (by go_simp)
  have n14_0_1 : w14.cell? ⟨w7.heap.size, 1, none⟩ = some (.int .i64 0) := (hb.cell (p := ⟨w7.heap.size, 1, none⟩) (by first | omega | (simp; omega) | (simp; done))).trans (by go_simp)
  have n14_0_2 : w14.cell? ⟨w7.heap.size, 2, none⟩ = some (.int .i64 0) := (hb.cell (p := ⟨w7.heap.size, 2, none⟩) (by first | omega | (simp; omega) | (simp; done))).trans (by go_simp)
  have n14_0_3 : w14.cell? ⟨w7.heap.size, 3, none⟩ = some (.int .i64 0) := (hb.cell (p := ⟨w7.heap.size, 3, none⟩) (by first | omega | (simp; omega) | (simp; done))).trans (by go_simp)
  have n14_0_4 : w14.cell? ⟨w7.heap.size, 4, none⟩ = some (.int .i64 (wordOf rk rv)) := (hb.cell (p := ⟨w7.heap.size, 4, none⟩) (by first | omega | (simp; omega) | (simp; done))).trans (by go_simp)
  have z14_1 : w8.heap.size < w14.heap.size := by have := hb.size; first | omega | (simp at this; omega)
  have n14_1_0 : w14.cell? ⟨w8.heap.size, 0, none⟩ = some (.int .u8 rk) := (hb.cell (p := ⟨w8.heap.size, 0, none⟩) (by first | omega | (simp; omega) | (simp; done))).trans (by go_simp)
  have n14_1_1 : w14.cell? ⟨w8.heap.size, 1, none⟩ = some (.int .i32 rv) := (hb.cell (p := ⟨w8.heap.size, 1, none⟩) (by first | omega | (simp; omega) | (simp; done))).trans (by go_simp)
  have z14_2 : w10.heap.size < w14.heap.size := by have := hb.size; first | omega | (simp at this; omega)
  have n14_2_0 : w14.cell? ⟨w10.heap.size, 0, none⟩ = some (.int .i64 z) := (hb.cell (p := ⟨w10.heap.size, 0, none⟩) (by first | omega | (simp; omega) | (simp; done))).trans (by go_simp)
  have n14_2_1 : w14.cell? ⟨w10.heap.size, 1, none⟩ = some (.int .i64 0) := (hb.cell (p := ⟨w10.heap.size, 1, none⟩) (by first | omega | (simp; omega) | (simp; done))).trans (by go_simp)
  have n14_2_2 : w14.cell? ⟨w10.heap.size, 2, none⟩ = some (.int .i64 0) := (hb.cell (p := ⟨w10.heap.size, 2, none⟩) (by first | omega | (simp; omega) | (simp; done))).trans (by go_simp)
  have n14_2_3 : w14.cell? ⟨w10.heap.size, 3, none⟩ = some (.int .i64 0) := (hb.cell (p := ⟨w10.heap.size, 3, none⟩) (by first | omega | (simp; omega) | (simp; done))).trans (by go_simp)
  have n14_2_4 : w14.cell? ⟨w10.heap.size, 4, none⟩ = some (.int .i64 (wordOf rk rv)) := (hb.cell (p := ⟨w10.heap.size, 4, none⟩) (by first | omega | (simp; omega) | (simp; done))).trans (by go_simp)
  clear hb o13_0_0 o13_0_1 o13_1_0 o13_1_1 n13_0_0 n13_0_1 n13_0_2 n13_0_3 n13_0_4 n13_1_0 n13_1_1 n13_2_0 n13_2_1 n13_2_2 n13_2_3 n13_2_4 m13 
  have B14 := HW.out.1.trans (m14.B.mono (by omega))
  go_wp2
  go_ret
  exact ⟨by first | rfl | (simp; done) | (simp; omega), B14⟩

set_option maxRecDepth 100000 in
set_option maxHeartbeats 8000000 in
theorem recordTold_b (rk rv ok ov z : Int) (w : World) (r1 : 0 ≤ rk) (r2 : rk ≤ 255) (r3 : -2147483648 ≤ rv) (r4 : rv ≤ 2147483647) (o1 : 0 ≤ ok) (o2 : ok ≤ 255) (o3 : -2147483648 ≤ ov) (o4 : ov ≤ 2147483647) (hzz : ¬ 0 < z) :
    Calls Try.prog 12 #[.agg #[.int .u8 rk, .int .i32 rv], .agg #[.int .u8 ok, .int .i32 ov], .int .i64 z] w fun e w' => e = .returned (.bool true) ∧ Below w.heap.size w w' := by
  have hO := word_rng o1 o2 o3 o4
  obtain ⟨O, hOv⟩ : ∃ O, wordOf ok ov = O := ⟨_, rfl⟩
  rw [hOv] at hO
  have HO := Lib.hid (And.intro hOv hO)
  clear hOv hO
  go_enter Try.func12, Try.ntmps12
  go_wp2_with fail
  obtain ⟨W, hW, hB, hz, q0, q1, q2, q3⟩ : ∃ W, W = ((w.alloc (Obj.cells #[.int .u8 rk, .int .i32 rv] 60)).alloc (Obj.cells #[.int .u8 ok, .int .i32 ov] 62)) ∧ Below w.heap.size w W ∧ W.heap.size = w.heap.size + 1 + 1 ∧ W.cell? ⟨w.heap.size, 0, none⟩ = some (.int .u8 rk) ∧ W.cell? ⟨w.heap.size, 1, none⟩ = some (.int .i32 rv) ∧ W.cell? ⟨w.heap.size + 1, 0, none⟩ = some (.int .u8 ok) ∧ W.cell? ⟨w.heap.size + 1, 1, none⟩ = some (.int .i32 ov) :=
    ⟨_, rfl, by go_grown, by go_simp, by go_simp, by go_simp, by go_simp, by go_simp⟩
  rw [← hW]
  clear hW
  have hz1 : w.heap.size + 1 < W.heap.size := by omega
  clear hz
  have HW := Lib.hid (And.intro hB (And.intro q0 (And.intro q1 (And.intro q2 q3))))
  clear hB q0 q1 q2 q3
  refine (Open_ms 1 W W (Below.refl _ _) (by omega) (by omega)).mono ?_
  rintro e w1 ⟨g0, rfl, m1, -⟩
  have zz1 : W.heap.size ≤ w1.heap.size := m1.B.size
  go_wp2_with fail
  refine (Alloc_ms m1 5 (by omega) (by simp) (by omega)).mono ?_
  rintro e w2 ⟨g, rfl, m2, -, -⟩
  simp only [show (5 : Int).toNat = 5 from rfl, List.replicate, List.cons_append, List.nil_append] at m2
  clear m1
  have zz2 : W.heap.size ≤ w2.heap.size := m2.B.size
  have o2_0_0 : w2.cell? ⟨w.heap.size, 0, none⟩ = some (.int .u8 rk) := (m2.B.cell (p := ⟨w.heap.size, 0, none⟩) (by first | omega | (simp; omega) | (simp; done))).trans HW.out.2.1
  have o2_0_1 : w2.cell? ⟨w.heap.size, 1, none⟩ = some (.int .i32 rv) := (m2.B.cell (p := ⟨w.heap.size, 1, none⟩) (by first | omega | (simp; omega) | (simp; done))).trans HW.out.2.2.1
  have o2_1_0 : w2.cell? ⟨w.heap.size + 1, 0, none⟩ = some (.int .u8 ok) := (m2.B.cell (p := ⟨w.heap.size + 1, 0, none⟩) (by first | omega | (simp; omega) | (simp; done))).trans HW.out.2.2.2.1
  have o2_1_1 : w2.cell? ⟨w.heap.size + 1, 1, none⟩ = some (.int .i32 ov) := (m2.B.cell (p := ⟨w.heap.size + 1, 1, none⟩) (by first | omega | (simp; omega) | (simp; done))).trans HW.out.2.2.2.2
  go_wp2_with fail
  refine (wRes_any rk rv _ r1 r2 r3 r4).mono ?_
  rintro e w3 ⟨rfl, hb⟩
  have bx : Below w2.heap.size w2 w3 := Below.trans (by go_grown) (hb.mono (by first | omega | (simp; omega) | (simp; done)))
  have m3 := m2.below bx
  clear bx
  have zz3 : W.heap.size ≤ w3.heap.size := m3.B.size
  have o3_0_0 : w3.cell? ⟨w.heap.size, 0, none⟩ = some (.int .u8 rk) := (m3.B.cell (p := ⟨w.heap.size, 0, none⟩) (by first | omega | (simp; omega) | (simp; done))).trans HW.out.2.1
  have o3_0_1 : w3.cell? ⟨w.heap.size, 1, none⟩ = some (.int .i32 rv) := (m3.B.cell (p := ⟨w.heap.size, 1, none⟩) (by first | omega | (simp; omega) | (simp; done))).trans HW.out.2.2.1
  have o3_1_0 : w3.cell? ⟨w.heap.size + 1, 0, none⟩ = some (.int .u8 ok) := (m3.B.cell (p := ⟨w.heap.size + 1, 0, none⟩) (by first | omega | (simp; omega) | (simp; done))).trans HW.out.2.2.2.1
  have o3_1_1 : w3.cell? ⟨w.heap.size + 1, 1, none⟩ = some (.int .i32 ov) := (m3.B.cell (p := ⟨w.heap.size + 1, 1, none⟩) (by first | omega | (simp; omega) | (simp; done))).trans HW.out.2.2.2.2
  clear hb o2_0_0 o2_0_1 o2_1_0 o2_1_1 m2 
  go_wp2_with fail
  refine (Store_ms m3 7 (wordOf rk rv) (by omega) (by simp) (by omega)).mono ?_
  rintro e w4 ⟨rfl, m4, hk⟩
  have zz4 : W.heap.size ≤ w4.heap.size := m4.B.size
  have o4_0_0 : w4.cell? ⟨w.heap.size, 0, none⟩ = some (.int .u8 rk) := (m4.B.cell (p := ⟨w.heap.size, 0, none⟩) (by first | omega | (simp; omega) | (simp; done))).trans HW.out.2.1
  have o4_0_1 : w4.cell? ⟨w.heap.size, 1, none⟩ = some (.int .i32 rv) := (m4.B.cell (p := ⟨w.heap.size, 1, none⟩) (by first | omega | (simp; omega) | (simp; done))).trans HW.out.2.2.1
  have o4_1_0 : w4.cell? ⟨w.heap.size + 1, 0, none⟩ = some (.int .u8 ok) := (m4.B.cell (p := ⟨w.heap.size + 1, 0, none⟩) (by first | omega | (simp; omega) | (simp; done))).trans HW.out.2.2.2.1
  have o4_1_1 : w4.cell? ⟨w.heap.size + 1, 1, none⟩ = some (.int .i32 ov) := (m4.B.cell (p := ⟨w.heap.size + 1, 1, none⟩) (by first | omega | (simp; omega) | (simp; done))).trans HW.out.2.2.2.2
  clear hk o3_0_0 o3_0_1 o3_1_0 o3_1_1 m3 
  simp only [show (7 : Int).toNat = 7 from rfl, List.set] at m4
  go_wp2_with fail
  refine (wOp_any ok ov _ o1 o2 o3 o4).mono ?_
  rintro e w5 ⟨rfl, hb⟩
  rw [HO.out.1]
  have bx : Below w4.heap.size w4 w5 := Below.trans (by go_grown) (hb.mono (by first | omega | (simp; omega) | (simp; done)))
  have m5 := m4.below bx
  clear bx
  have zz5 : W.heap.size ≤ w5.heap.size := m5.B.size
  have o5_0_0 : w5.cell? ⟨w.heap.size, 0, none⟩ = some (.int .u8 rk) := (m5.B.cell (p := ⟨w.heap.size, 0, none⟩) (by first | omega | (simp; omega) | (simp; done))).trans HW.out.2.1
  have o5_0_1 : w5.cell? ⟨w.heap.size, 1, none⟩ = some (.int .i32 rv) := (m5.B.cell (p := ⟨w.heap.size, 1, none⟩) (by first | omega | (simp; omega) | (simp; done))).trans HW.out.2.2.1
  have o5_1_0 : w5.cell? ⟨w.heap.size + 1, 0, none⟩ = some (.int .u8 ok) := (m5.B.cell (p := ⟨w.heap.size + 1, 0, none⟩) (by first | omega | (simp; omega) | (simp; done))).trans HW.out.2.2.2.1
  have o5_1_1 : w5.cell? ⟨w.heap.size + 1, 1, none⟩ = some (.int .i32 ov) := (m5.B.cell (p := ⟨w.heap.size + 1, 1, none⟩) (by first | omega | (simp; omega) | (simp; done))).trans HW.out.2.2.2.2
  clear hb o4_0_0 o4_0_1 o4_1_0 o4_1_1 m4 
  go_wp2_with fail
  refine (Store_ms m5 3 O (by omega) (by simp) (by omega)).mono ?_
  rintro e w6 ⟨rfl, m6, hk⟩
  have zz6 : W.heap.size ≤ w6.heap.size := m6.B.size
  have o6_0_0 : w6.cell? ⟨w.heap.size, 0, none⟩ = some (.int .u8 rk) := (m6.B.cell (p := ⟨w.heap.size, 0, none⟩) (by first | omega | (simp; omega) | (simp; done))).trans HW.out.2.1
  have o6_0_1 : w6.cell? ⟨w.heap.size, 1, none⟩ = some (.int .i32 rv) := (m6.B.cell (p := ⟨w.heap.size, 1, none⟩) (by first | omega | (simp; omega) | (simp; done))).trans HW.out.2.2.1
  have o6_1_0 : w6.cell? ⟨w.heap.size + 1, 0, none⟩ = some (.int .u8 ok) := (m6.B.cell (p := ⟨w.heap.size + 1, 0, none⟩) (by first | omega | (simp; omega) | (simp; done))).trans HW.out.2.2.2.1
  have o6_1_1 : w6.cell? ⟨w.heap.size + 1, 1, none⟩ = some (.int .i32 ov) := (m6.B.cell (p := ⟨w.heap.size + 1, 1, none⟩) (by first | omega | (simp; omega) | (simp; done))).trans HW.out.2.2.2.2
  clear hk o5_0_0 o5_0_1 o5_1_0 o5_1_1 m5 
  simp only [show (3 : Int).toNat = 3 from rfl, List.set] at m6
  go_wp2_with fail
  refine (See_core m6 3 0 O 0 0 0 (wordOf rk rv) ⟨rfl, rfl, rfl, rfl, rfl⟩ rfl (by omega) (by omega) rfl (show (0 : Int) < manyOf 8 by decide)).mono ?_
  rintro e w7 ⟨rfl, m7, hb⟩
  have zz7 : W.heap.size ≤ w7.heap.size := m7.B.size
  have o7_0_0 : w7.cell? ⟨w.heap.size, 0, none⟩ = some (.int .u8 rk) := (m7.B.cell (p := ⟨w.heap.size, 0, none⟩) (by first | omega | (simp; omega) | (simp; done))).trans HW.out.2.1
  have o7_0_1 : w7.cell? ⟨w.heap.size, 1, none⟩ = some (.int .i32 rv) := (m7.B.cell (p := ⟨w.heap.size, 1, none⟩) (by first | omega | (simp; omega) | (simp; done))).trans HW.out.2.2.1
  have o7_1_0 : w7.cell? ⟨w.heap.size + 1, 0, none⟩ = some (.int .u8 ok) := (m7.B.cell (p := ⟨w.heap.size + 1, 0, none⟩) (by first | omega | (simp; omega) | (simp; done))).trans HW.out.2.2.2.1
  have o7_1_1 : w7.cell? ⟨w.heap.size + 1, 1, none⟩ = some (.int .i32 ov) := (m7.B.cell (p := ⟨w.heap.size + 1, 1, none⟩) (by first | omega | (simp; omega) | (simp; done))).trans HW.out.2.2.2.2
  clear hb o6_0_0 o6_0_1 o6_1_0 o6_1_1 m6 
  have far : W.heap.size < w7.heap.size ∧ (∀ k, g = some k → k < w7.heap.size) := ⟨m7.mem.lt, fun k e => by subst e; exact m7.mem.row_lt⟩
  have far0 : ∀ p, W.heap.size < p → (∀ k, g = some k → k < p) → ¬ Foot W.heap.size g p := fun p h1 h2 => by
    rintro (e | e)
    · omega
    · have := h2 p e.symm; omega
  have far1 := far0
  have FAR := Lib.hid (And.intro far far0)
  clear far far0 far1
  go_wp2_with fail
  refine (Told_word _ _ _ _ rk rv _ r1 r2 r3 r4).mono ?_
  rintro e w8 ⟨rfl, hb⟩
  have bx : Below w7.heap.size w7 w8 := Below.trans (by go_grown) (hb.mono (by first | omega | (simp; omega) | (simp; done)))
  have m8 := m7.below bx
  clear bx
  have zz8 : W.heap.size ≤ w8.heap.size := m8.B.size
  have o8_0_0 : w8.cell? ⟨w.heap.size, 0, none⟩ = some (.int .u8 rk) := (m8.B.cell (p := ⟨w.heap.size, 0, none⟩) (by first | omega | (simp; omega) | (simp; done))).trans HW.out.2.1
  have o8_0_1 : w8.cell? ⟨w.heap.size, 1, none⟩ = some (.int .i32 rv) := (m8.B.cell (p := ⟨w.heap.size, 1, none⟩) (by first | omega | (simp; omega) | (simp; done))).trans HW.out.2.2.1
  have o8_1_0 : w8.cell? ⟨w.heap.size + 1, 0, none⟩ = some (.int .u8 ok) := (m8.B.cell (p := ⟨w.heap.size + 1, 0, none⟩) (by first | omega | (simp; omega) | (simp; done))).trans HW.out.2.2.2.1
  have o8_1_1 : w8.cell? ⟨w.heap.size + 1, 1, none⟩ = some (.int .i32 ov) := (m8.B.cell (p := ⟨w.heap.size + 1, 1, none⟩) (by first | omega | (simp; omega) | (simp; done))).trans HW.out.2.2.2.2
  have z8_0 : w7.heap.size < w8.heap.size := by have := hb.size; first | omega | (simp at this; omega)
  have n8_0_0 : w8.cell? ⟨w7.heap.size, 0, none⟩ = some (.int .i64 O) := (hb.cell (p := ⟨w7.heap.size, 0, none⟩) (by first | omega | (simp; omega) | (simp; done))).trans (by go_simp)
  have n8_0_1 : w8.cell? ⟨w7.heap.size, 1, none⟩ = some (.int .i64 0) := (hb.cell (p := ⟨w7.heap.size, 1, none⟩) (by first | omega | (simp; omega) | (simp; done))).trans (by go_simp)
  have n8_0_2 : w8.cell? ⟨w7.heap.size, 2, none⟩ = some (.int .i64 0) := (hb.cell (p := ⟨w7.heap.size, 2, none⟩) (by first | omega | (simp; omega) | (simp; done))).trans (by go_simp)
  have n8_0_3 : w8.cell? ⟨w7.heap.size, 3, none⟩ = some (.int .i64 0) := (hb.cell (p := ⟨w7.heap.size, 3, none⟩) (by first | omega | (simp; omega) | (simp; done))).trans (by go_simp)
  have n8_0_4 : w8.cell? ⟨w7.heap.size, 4, none⟩ = some (.int .i64 (wordOf rk rv)) := (hb.cell (p := ⟨w7.heap.size, 4, none⟩) (by first | omega | (simp; omega) | (simp; done))).trans (by go_simp)
  clear hb o7_0_0 o7_0_1 o7_1_0 o7_1_1 m7 
  have m8x : MS W (w8.alloc (Obj.cells #[.int .u8 rk, .int .i32 rv] 60)) W.heap.size g (3 + 5 * 1) _ _ := m8.below (by go_grown)
  go_wp2_with fail
  refine (Store_ms m8x 3 z (by omega) (by simp) (by omega)).mono ?_
  rintro e w9 ⟨rfl, m9, hk⟩
  have far := FAR.out.1
  have far0 := FAR.out.2
  have far1 := far0
  have zz9 : W.heap.size ≤ w9.heap.size := m9.B.size
  have o9_0_0 : w9.cell? ⟨w.heap.size, 0, none⟩ = some (.int .u8 rk) := (m9.B.cell (p := ⟨w.heap.size, 0, none⟩) (by first | omega | (simp; omega) | (simp; done))).trans HW.out.2.1
  have o9_0_1 : w9.cell? ⟨w.heap.size, 1, none⟩ = some (.int .i32 rv) := (m9.B.cell (p := ⟨w.heap.size, 1, none⟩) (by first | omega | (simp; omega) | (simp; done))).trans HW.out.2.2.1
  have o9_1_0 : w9.cell? ⟨w.heap.size + 1, 0, none⟩ = some (.int .u8 ok) := (m9.B.cell (p := ⟨w.heap.size + 1, 0, none⟩) (by first | omega | (simp; omega) | (simp; done))).trans HW.out.2.2.2.1
  have o9_1_1 : w9.cell? ⟨w.heap.size + 1, 1, none⟩ = some (.int .i32 ov) := (m9.B.cell (p := ⟨w.heap.size + 1, 1, none⟩) (by first | omega | (simp; omega) | (simp; done))).trans HW.out.2.2.2.2
  have z9_0 : w7.heap.size < w9.heap.size := by have := hk.size; first | omega | (simp at this; omega)
  have n9_0_0 : w9.cell? ⟨w7.heap.size, 0, none⟩ = some (.int .i64 O) := (hk.cell (p := ⟨w7.heap.size, 0, none⟩) (by first | omega | (simp; omega) | (simp; done)) (far0 (w7.heap.size) (by have := far.1; omega) (fun k e => by have := far.2 k e; omega))).trans (by go_simp)
  have n9_0_1 : w9.cell? ⟨w7.heap.size, 1, none⟩ = some (.int .i64 0) := (hk.cell (p := ⟨w7.heap.size, 1, none⟩) (by first | omega | (simp; omega) | (simp; done)) (far0 (w7.heap.size) (by have := far.1; omega) (fun k e => by have := far.2 k e; omega))).trans (by go_simp)
  have n9_0_2 : w9.cell? ⟨w7.heap.size, 2, none⟩ = some (.int .i64 0) := (hk.cell (p := ⟨w7.heap.size, 2, none⟩) (by first | omega | (simp; omega) | (simp; done)) (far0 (w7.heap.size) (by have := far.1; omega) (fun k e => by have := far.2 k e; omega))).trans (by go_simp)
  have n9_0_3 : w9.cell? ⟨w7.heap.size, 3, none⟩ = some (.int .i64 0) := (hk.cell (p := ⟨w7.heap.size, 3, none⟩) (by first | omega | (simp; omega) | (simp; done)) (far0 (w7.heap.size) (by have := far.1; omega) (fun k e => by have := far.2 k e; omega))).trans (by go_simp)
  have n9_0_4 : w9.cell? ⟨w7.heap.size, 4, none⟩ = some (.int .i64 (wordOf rk rv)) := (hk.cell (p := ⟨w7.heap.size, 4, none⟩) (by first | omega | (simp; omega) | (simp; done)) (far0 (w7.heap.size) (by have := far.1; omega) (fun k e => by have := far.2 k e; omega))).trans (by go_simp)
  have z9_1 : w8.heap.size < w9.heap.size := by have := hk.size; first | omega | (simp at this; omega)
  have n9_1_0 : w9.cell? ⟨w8.heap.size, 0, none⟩ = some (.int .u8 rk) := (hk.cell (p := ⟨w8.heap.size, 0, none⟩) (by first | omega | (simp; omega) | (simp; done)) (far1 (w8.heap.size) (by have := far.1; omega) (fun k e => by have := far.2 k e; omega))).trans (by go_simp)
  have n9_1_1 : w9.cell? ⟨w8.heap.size, 1, none⟩ = some (.int .i32 rv) := (hk.cell (p := ⟨w8.heap.size, 1, none⟩) (by first | omega | (simp; omega) | (simp; done)) (far1 (w8.heap.size) (by have := far.1; omega) (fun k e => by have := far.2 k e; omega))).trans (by go_simp)
  clear far far0 far1 hk o8_0_0 o8_0_1 o8_1_0 o8_1_1 n8_0_0 n8_0_1 n8_0_2 n8_0_3 n8_0_4 m8 m8x
  simp only [show (3 : Int).toNat = 3 from rfl, List.set] at m9
  go_wp2_with fail
  refine (See_core m9 3 0 z 0 0 0 (wordOf rk rv) ⟨rfl, rfl, rfl, rfl, rfl⟩ rfl (by omega) (by omega) rfl (show (0 : Int) < manyOf 8 by decide)).mono ?_
  rintro e w10 ⟨rfl, m10, hb⟩
  have zz10 : W.heap.size ≤ w10.heap.size := m10.B.size
  have o10_0_0 : w10.cell? ⟨w.heap.size, 0, none⟩ = some (.int .u8 rk) := (m10.B.cell (p := ⟨w.heap.size, 0, none⟩) (by first | omega | (simp; omega) | (simp; done))).trans HW.out.2.1
  have o10_0_1 : w10.cell? ⟨w.heap.size, 1, none⟩ = some (.int .i32 rv) := (m10.B.cell (p := ⟨w.heap.size, 1, none⟩) (by first | omega | (simp; omega) | (simp; done))).trans HW.out.2.2.1
  have o10_1_0 : w10.cell? ⟨w.heap.size + 1, 0, none⟩ = some (.int .u8 ok) := (m10.B.cell (p := ⟨w.heap.size + 1, 0, none⟩) (by first | omega | (simp; omega) | (simp; done))).trans HW.out.2.2.2.1
  have o10_1_1 : w10.cell? ⟨w.heap.size + 1, 1, none⟩ = some (.int .i32 ov) := (m10.B.cell (p := ⟨w.heap.size + 1, 1, none⟩) (by first | omega | (simp; omega) | (simp; done))).trans HW.out.2.2.2.2
  have z10_0 : w7.heap.size < w10.heap.size := by have := hb.size; first | omega | (simp at this; omega)
  have n10_0_0 : w10.cell? ⟨w7.heap.size, 0, none⟩ = some (.int .i64 O) := (hb.cell (p := ⟨w7.heap.size, 0, none⟩) (by first | omega | (simp; omega) | (simp; done))).trans (by go_simp)
  have n10_0_1 : w10.cell? ⟨w7.heap.size, 1, none⟩ = some (.int .i64 0) := (hb.cell (p := ⟨w7.heap.size, 1, none⟩) (by first | omega | (simp; omega) | (simp; done))).trans (by go_simp)
  have n10_0_2 : w10.cell? ⟨w7.heap.size, 2, none⟩ = some (.int .i64 0) := (hb.cell (p := ⟨w7.heap.size, 2, none⟩) (by first | omega | (simp; omega) | (simp; done))).trans (by go_simp)
  have n10_0_3 : w10.cell? ⟨w7.heap.size, 3, none⟩ = some (.int .i64 0) := (hb.cell (p := ⟨w7.heap.size, 3, none⟩) (by first | omega | (simp; omega) | (simp; done))).trans (by go_simp)
  have n10_0_4 : w10.cell? ⟨w7.heap.size, 4, none⟩ = some (.int .i64 (wordOf rk rv)) := (hb.cell (p := ⟨w7.heap.size, 4, none⟩) (by first | omega | (simp; omega) | (simp; done))).trans (by go_simp)
  have z10_1 : w8.heap.size < w10.heap.size := by have := hb.size; first | omega | (simp at this; omega)
  have n10_1_0 : w10.cell? ⟨w8.heap.size, 0, none⟩ = some (.int .u8 rk) := (hb.cell (p := ⟨w8.heap.size, 0, none⟩) (by first | omega | (simp; omega) | (simp; done))).trans (by go_simp)
  have n10_1_1 : w10.cell? ⟨w8.heap.size, 1, none⟩ = some (.int .i32 rv) := (hb.cell (p := ⟨w8.heap.size, 1, none⟩) (by first | omega | (simp; omega) | (simp; done))).trans (by go_simp)
  clear hb o9_0_0 o9_0_1 o9_1_0 o9_1_1 n9_0_0 n9_0_1 n9_0_2 n9_0_3 n9_0_4 n9_1_0 n9_1_1 m9 
  have m10x : MS W (w10.alloc (Obj.cells #[.int .i64 z, .int .i64 0, .int .i64 0, .int .i64 0, .int .i64 (wordOf rk rv)] 47)) W.heap.size g (3 + 5 * 1) _ _ := m10.below (by go_grown)
  go_wp2_with fail
  refine (See_no m10x 4 (by omega) (.inr (.inl (by decide)))).mono ?_
  rintro e w11 ⟨rfl, m11, hb⟩
  have zz11 : W.heap.size ≤ w11.heap.size := m11.B.size
  have o11_0_0 : w11.cell? ⟨w.heap.size, 0, none⟩ = some (.int .u8 rk) := (m11.B.cell (p := ⟨w.heap.size, 0, none⟩) (by first | omega | (simp; omega) | (simp; done))).trans HW.out.2.1
  have o11_0_1 : w11.cell? ⟨w.heap.size, 1, none⟩ = some (.int .i32 rv) := (m11.B.cell (p := ⟨w.heap.size, 1, none⟩) (by first | omega | (simp; omega) | (simp; done))).trans HW.out.2.2.1
  have o11_1_0 : w11.cell? ⟨w.heap.size + 1, 0, none⟩ = some (.int .u8 ok) := (m11.B.cell (p := ⟨w.heap.size + 1, 0, none⟩) (by first | omega | (simp; omega) | (simp; done))).trans HW.out.2.2.2.1
  have o11_1_1 : w11.cell? ⟨w.heap.size + 1, 1, none⟩ = some (.int .i32 ov) := (m11.B.cell (p := ⟨w.heap.size + 1, 1, none⟩) (by first | omega | (simp; omega) | (simp; done))).trans HW.out.2.2.2.2
  have z11_0 : w7.heap.size < w11.heap.size := by have := hb.size; first | omega | (simp at this; omega)
  have n11_0_0 : w11.cell? ⟨w7.heap.size, 0, none⟩ = some (.int .i64 O) := (hb.cell (p := ⟨w7.heap.size, 0, none⟩) (by first | omega | (simp; omega) | (simp; done))).trans (by go_simp)
  have n11_0_1 : w11.cell? ⟨w7.heap.size, 1, none⟩ = some (.int .i64 0) := (hb.cell (p := ⟨w7.heap.size, 1, none⟩) (by first | omega | (simp; omega) | (simp; done))).trans (by go_simp)
  have n11_0_2 : w11.cell? ⟨w7.heap.size, 2, none⟩ = some (.int .i64 0) := (hb.cell (p := ⟨w7.heap.size, 2, none⟩) (by first | omega | (simp; omega) | (simp; done))).trans (by go_simp)
  have n11_0_3 : w11.cell? ⟨w7.heap.size, 3, none⟩ = some (.int .i64 0) := (hb.cell (p := ⟨w7.heap.size, 3, none⟩) (by first | omega | (simp; omega) | (simp; done))).trans (by go_simp)
  have n11_0_4 : w11.cell? ⟨w7.heap.size, 4, none⟩ = some (.int .i64 (wordOf rk rv)) := (hb.cell (p := ⟨w7.heap.size, 4, none⟩) (by first | omega | (simp; omega) | (simp; done))).trans (by go_simp)
  have z11_1 : w8.heap.size < w11.heap.size := by have := hb.size; first | omega | (simp at this; omega)
  have n11_1_0 : w11.cell? ⟨w8.heap.size, 0, none⟩ = some (.int .u8 rk) := (hb.cell (p := ⟨w8.heap.size, 0, none⟩) (by first | omega | (simp; omega) | (simp; done))).trans (by go_simp)
  have n11_1_1 : w11.cell? ⟨w8.heap.size, 1, none⟩ = some (.int .i32 rv) := (hb.cell (p := ⟨w8.heap.size, 1, none⟩) (by first | omega | (simp; omega) | (simp; done))).trans (by go_simp)
  have z11_2 : w10.heap.size < w11.heap.size := by have := hb.size; first | omega | (simp at this; omega)
  have n11_2_0 : w11.cell? ⟨w10.heap.size, 0, none⟩ = some (.int .i64 z) := (hb.cell (p := ⟨w10.heap.size, 0, none⟩) (by first | omega | (simp; omega) | (simp; done))).trans (by go_simp)
  have n11_2_1 : w11.cell? ⟨w10.heap.size, 1, none⟩ = some (.int .i64 0) := (hb.cell (p := ⟨w10.heap.size, 1, none⟩) (by first | omega | (simp; omega) | (simp; done))).trans (by go_simp)
  have n11_2_2 : w11.cell? ⟨w10.heap.size, 2, none⟩ = some (.int .i64 0) := (hb.cell (p := ⟨w10.heap.size, 2, none⟩) (by first | omega | (simp; omega) | (simp; done))).trans (by go_simp)
  have n11_2_3 : w11.cell? ⟨w10.heap.size, 3, none⟩ = some (.int .i64 0) := (hb.cell (p := ⟨w10.heap.size, 3, none⟩) (by first | omega | (simp; omega) | (simp; done))).trans (by go_simp)
  have n11_2_4 : w11.cell? ⟨w10.heap.size, 4, none⟩ = some (.int .i64 (wordOf rk rv)) := (hb.cell (p := ⟨w10.heap.size, 4, none⟩) (by first | omega | (simp; omega) | (simp; done))).trans (by go_simp)
  clear hb o10_0_0 o10_0_1 o10_1_0 o10_1_1 n10_0_0 n10_0_1 n10_0_2 n10_0_3 n10_0_4 n10_1_0 n10_1_1 m10 m10x
  go_wp2_with fail
  refine (known13_any _).mono ?_
  rintro e w12 ⟨rfl, hb⟩
  have bx : Below w11.heap.size w11 w12 := Below.trans (by go_grown) (hb.mono (by first | omega | (simp; omega) | (simp; done)))
  have m12 := m11.below bx
  clear bx
  have zz12 : W.heap.size ≤ w12.heap.size := m12.B.size
  have o12_0_0 : w12.cell? ⟨w.heap.size, 0, none⟩ = some (.int .u8 rk) := (m12.B.cell (p := ⟨w.heap.size, 0, none⟩) (by first | omega | (simp; omega) | (simp; done))).trans HW.out.2.1
  have o12_0_1 : w12.cell? ⟨w.heap.size, 1, none⟩ = some (.int .i32 rv) := (m12.B.cell (p := ⟨w.heap.size, 1, none⟩) (by first | omega | (simp; omega) | (simp; done))).trans HW.out.2.2.1
  have o12_1_0 : w12.cell? ⟨w.heap.size + 1, 0, none⟩ = some (.int .u8 ok) := (m12.B.cell (p := ⟨w.heap.size + 1, 0, none⟩) (by first | omega | (simp; omega) | (simp; done))).trans HW.out.2.2.2.1
  have o12_1_1 : w12.cell? ⟨w.heap.size + 1, 1, none⟩ = some (.int .i32 ov) := (m12.B.cell (p := ⟨w.heap.size + 1, 1, none⟩) (by first | omega | (simp; omega) | (simp; done))).trans HW.out.2.2.2.2
  have z12_0 : w7.heap.size < w12.heap.size := by have := hb.size; first | omega | (simp at this; omega)
  have n12_0_0 : w12.cell? ⟨w7.heap.size, 0, none⟩ = some (.int .i64 O) := (hb.cell (p := ⟨w7.heap.size, 0, none⟩) (by first | omega | (simp; omega) | (simp; done))).trans (by go_simp)
  have n12_0_1 : w12.cell? ⟨w7.heap.size, 1, none⟩ = some (.int .i64 0) := (hb.cell (p := ⟨w7.heap.size, 1, none⟩) (by first | omega | (simp; omega) | (simp; done))).trans (by go_simp)
  have n12_0_2 : w12.cell? ⟨w7.heap.size, 2, none⟩ = some (.int .i64 0) := (hb.cell (p := ⟨w7.heap.size, 2, none⟩) (by first | omega | (simp; omega) | (simp; done))).trans (by go_simp)
  have n12_0_3 : w12.cell? ⟨w7.heap.size, 3, none⟩ = some (.int .i64 0) := (hb.cell (p := ⟨w7.heap.size, 3, none⟩) (by first | omega | (simp; omega) | (simp; done))).trans (by go_simp)
  have n12_0_4 : w12.cell? ⟨w7.heap.size, 4, none⟩ = some (.int .i64 (wordOf rk rv)) := (hb.cell (p := ⟨w7.heap.size, 4, none⟩) (by first | omega | (simp; omega) | (simp; done))).trans (by go_simp)
  have z12_1 : w8.heap.size < w12.heap.size := by have := hb.size; first | omega | (simp at this; omega)
  have n12_1_0 : w12.cell? ⟨w8.heap.size, 0, none⟩ = some (.int .u8 rk) := (hb.cell (p := ⟨w8.heap.size, 0, none⟩) (by first | omega | (simp; omega) | (simp; done))).trans (by go_simp)
  have n12_1_1 : w12.cell? ⟨w8.heap.size, 1, none⟩ = some (.int .i32 rv) := (hb.cell (p := ⟨w8.heap.size, 1, none⟩) (by first | omega | (simp; omega) | (simp; done))).trans (by go_simp)
  have z12_2 : w10.heap.size < w12.heap.size := by have := hb.size; first | omega | (simp at this; omega)
  have n12_2_0 : w12.cell? ⟨w10.heap.size, 0, none⟩ = some (.int .i64 z) := (hb.cell (p := ⟨w10.heap.size, 0, none⟩) (by first | omega | (simp; omega) | (simp; done))).trans (by go_simp)
  have n12_2_1 : w12.cell? ⟨w10.heap.size, 1, none⟩ = some (.int .i64 0) := (hb.cell (p := ⟨w10.heap.size, 1, none⟩) (by first | omega | (simp; omega) | (simp; done))).trans (by go_simp)
  have n12_2_2 : w12.cell? ⟨w10.heap.size, 2, none⟩ = some (.int .i64 0) := (hb.cell (p := ⟨w10.heap.size, 2, none⟩) (by first | omega | (simp; omega) | (simp; done))).trans (by go_simp)
  have n12_2_3 : w12.cell? ⟨w10.heap.size, 3, none⟩ = some (.int .i64 0) := (hb.cell (p := ⟨w10.heap.size, 3, none⟩) (by first | omega | (simp; omega) | (simp; done))).trans (by go_simp)
  have n12_2_4 : w12.cell? ⟨w10.heap.size, 4, none⟩ = some (.int .i64 (wordOf rk rv)) := (hb.cell (p := ⟨w10.heap.size, 4, none⟩) (by first | omega | (simp; omega) | (simp; done))).trans (by go_simp)
  clear hb o11_0_0 o11_0_1 o11_1_0 o11_1_1 n11_0_0 n11_0_1 n11_0_2 n11_0_3 n11_0_4 n11_1_0 n11_1_1 n11_2_0 n11_2_1 n11_2_2 n11_2_3 n11_2_4 m11 
  go_wp2_with fail
  refine (Waits_is _ _ _ _ _ true _ (decide_eq_true (by have := HO.out.2.1; omega))).mono ?_
  rintro e w13 ⟨rfl, hb⟩
  have bx : Below w12.heap.size w12 w13 := Below.trans (by go_grown) (hb.mono (by first | omega | (simp; omega) | (simp; done)))
  have m13 := m12.below bx
  clear bx
  have zz13 : W.heap.size ≤ w13.heap.size := m13.B.size
  have o13_0_0 : w13.cell? ⟨w.heap.size, 0, none⟩ = some (.int .u8 rk) := (m13.B.cell (p := ⟨w.heap.size, 0, none⟩) (by first | omega | (simp; omega) | (simp; done))).trans HW.out.2.1
  have o13_0_1 : w13.cell? ⟨w.heap.size, 1, none⟩ = some (.int .i32 rv) := (m13.B.cell (p := ⟨w.heap.size, 1, none⟩) (by first | omega | (simp; omega) | (simp; done))).trans HW.out.2.2.1
  have o13_1_0 : w13.cell? ⟨w.heap.size + 1, 0, none⟩ = some (.int .u8 ok) := (m13.B.cell (p := ⟨w.heap.size + 1, 0, none⟩) (by first | omega | (simp; omega) | (simp; done))).trans HW.out.2.2.2.1
  have o13_1_1 : w13.cell? ⟨w.heap.size + 1, 1, none⟩ = some (.int .i32 ov) := (m13.B.cell (p := ⟨w.heap.size + 1, 1, none⟩) (by first | omega | (simp; omega) | (simp; done))).trans HW.out.2.2.2.2
  have z13_0 : w7.heap.size < w13.heap.size := by have := hb.size; first | omega | (simp at this; omega)
  have n13_0_0 : w13.cell? ⟨w7.heap.size, 0, none⟩ = some (.int .i64 O) := (hb.cell (p := ⟨w7.heap.size, 0, none⟩) (by first | omega | (simp; omega) | (simp; done))).trans (by go_simp)
  have n13_0_1 : w13.cell? ⟨w7.heap.size, 1, none⟩ = some (.int .i64 0) := (hb.cell (p := ⟨w7.heap.size, 1, none⟩) (by first | omega | (simp; omega) | (simp; done))).trans (by go_simp)
  have n13_0_2 : w13.cell? ⟨w7.heap.size, 2, none⟩ = some (.int .i64 0) := (hb.cell (p := ⟨w7.heap.size, 2, none⟩) (by first | omega | (simp; omega) | (simp; done))).trans (by go_simp)
  have n13_0_3 : w13.cell? ⟨w7.heap.size, 3, none⟩ = some (.int .i64 0) := (hb.cell (p := ⟨w7.heap.size, 3, none⟩) (by first | omega | (simp; omega) | (simp; done))).trans (by go_simp)
  have n13_0_4 : w13.cell? ⟨w7.heap.size, 4, none⟩ = some (.int .i64 (wordOf rk rv)) := (hb.cell (p := ⟨w7.heap.size, 4, none⟩) (by first | omega | (simp; omega) | (simp; done))).trans (by go_simp)
  have z13_1 : w8.heap.size < w13.heap.size := by have := hb.size; first | omega | (simp at this; omega)
  have n13_1_0 : w13.cell? ⟨w8.heap.size, 0, none⟩ = some (.int .u8 rk) := (hb.cell (p := ⟨w8.heap.size, 0, none⟩) (by first | omega | (simp; omega) | (simp; done))).trans (by go_simp)
  have n13_1_1 : w13.cell? ⟨w8.heap.size, 1, none⟩ = some (.int .i32 rv) := (hb.cell (p := ⟨w8.heap.size, 1, none⟩) (by first | omega | (simp; omega) | (simp; done))).trans (by go_simp)
  have z13_2 : w10.heap.size < w13.heap.size := by have := hb.size; first | omega | (simp at this; omega)
  have n13_2_0 : w13.cell? ⟨w10.heap.size, 0, none⟩ = some (.int .i64 z) := (hb.cell (p := ⟨w10.heap.size, 0, none⟩) (by first | omega | (simp; omega) | (simp; done))).trans (by go_simp)
  have n13_2_1 : w13.cell? ⟨w10.heap.size, 1, none⟩ = some (.int .i64 0) := (hb.cell (p := ⟨w10.heap.size, 1, none⟩) (by first | omega | (simp; omega) | (simp; done))).trans (by go_simp)
  have n13_2_2 : w13.cell? ⟨w10.heap.size, 2, none⟩ = some (.int .i64 0) := (hb.cell (p := ⟨w10.heap.size, 2, none⟩) (by first | omega | (simp; omega) | (simp; done))).trans (by go_simp)
  have n13_2_3 : w13.cell? ⟨w10.heap.size, 3, none⟩ = some (.int .i64 0) := (hb.cell (p := ⟨w10.heap.size, 3, none⟩) (by first | omega | (simp; omega) | (simp; done))).trans (by go_simp)
  have n13_2_4 : w13.cell? ⟨w10.heap.size, 4, none⟩ = some (.int .i64 (wordOf rk rv)) := (hb.cell (p := ⟨w10.heap.size, 4, none⟩) (by first | omega | (simp; omega) | (simp; done))).trans (by go_simp)
  clear hb o12_0_0 o12_0_1 o12_1_0 o12_1_1 n12_0_0 n12_0_1 n12_0_2 n12_0_3 n12_0_4 n12_1_0 n12_1_1 n12_2_0 n12_2_1 n12_2_2 n12_2_3 n12_2_4 m12 
  go_wp2_with fail
  refine (Waits_is _ _ _ _ _ false _ (by exact decide_eq_false (by omega))).mono ?_
  rintro e w14 ⟨rfl, hb⟩
  have bx : Below w13.heap.size w13 w14 := Below.trans (by go_grown) (hb.mono (by first | omega | (simp; omega) | (simp; done)))
  have m14 := m13.below bx
  clear bx
  have zz14 : W.heap.size ≤ w14.heap.size := m14.B.size
  have o14_0_0 : w14.cell? ⟨w.heap.size, 0, none⟩ = some (.int .u8 rk) := (m14.B.cell (p := ⟨w.heap.size, 0, none⟩) (by first | omega | (simp; omega) | (simp; done))).trans HW.out.2.1
  have o14_0_1 : w14.cell? ⟨w.heap.size, 1, none⟩ = some (.int .i32 rv) := (m14.B.cell (p := ⟨w.heap.size, 1, none⟩) (by first | omega | (simp; omega) | (simp; done))).trans HW.out.2.2.1
  have o14_1_0 : w14.cell? ⟨w.heap.size + 1, 0, none⟩ = some (.int .u8 ok) := (m14.B.cell (p := ⟨w.heap.size + 1, 0, none⟩) (by first | omega | (simp; omega) | (simp; done))).trans HW.out.2.2.2.1
  have o14_1_1 : w14.cell? ⟨w.heap.size + 1, 1, none⟩ = some (.int .i32 ov) := (m14.B.cell (p := ⟨w.heap.size + 1, 1, none⟩) (by first | omega | (simp; omega) | (simp; done))).trans HW.out.2.2.2.2
  have z14_0 : w7.heap.size < w14.heap.size := by have := hb.size; first | omega | (simp at this; omega)
  have n14_0_0 : w14.cell? ⟨w7.heap.size, 0, none⟩ = some (.int .i64 O) := (hb.cell (p := ⟨w7.heap.size, 0, none⟩) (by first | omega | (simp; omega) | (simp; done))).trans (by go_simp)
  have n14_0_1 : w14.cell? ⟨w7.heap.size, 1, none⟩ = some (.int .i64 0) := (hb.cell (p := ⟨w7.heap.size, 1, none⟩) (by first | omega | (simp; omega) | (simp; done))).trans (by go_simp)
  have n14_0_2 : w14.cell? ⟨w7.heap.size, 2, none⟩ = some (.int .i64 0) := (hb.cell (p := ⟨w7.heap.size, 2, none⟩) (by first | omega | (simp; omega) | (simp; done))).trans (by go_simp)
  have n14_0_3 : w14.cell? ⟨w7.heap.size, 3, none⟩ = some (.int .i64 0) := (hb.cell (p := ⟨w7.heap.size, 3, none⟩) (by first | omega | (simp; omega) | (simp; done))).trans (by go_simp)
  have n14_0_4 : w14.cell? ⟨w7.heap.size, 4, none⟩ = some (.int .i64 (wordOf rk rv)) := (hb.cell (p := ⟨w7.heap.size, 4, none⟩) (by first | omega | (simp; omega) | (simp; done))).trans (by go_simp)
  have z14_1 : w8.heap.size < w14.heap.size := by have := hb.size; first | omega | (simp at this; omega)
  have n14_1_0 : w14.cell? ⟨w8.heap.size, 0, none⟩ = some (.int .u8 rk) := (hb.cell (p := ⟨w8.heap.size, 0, none⟩) (by first | omega | (simp; omega) | (simp; done))).trans (by go_simp)
  have n14_1_1 : w14.cell? ⟨w8.heap.size, 1, none⟩ = some (.int .i32 rv) := (hb.cell (p := ⟨w8.heap.size, 1, none⟩) (by first | omega | (simp; omega) | (simp; done))).trans (by go_simp)
  have z14_2 : w10.heap.size < w14.heap.size := by have := hb.size; first | omega | (simp at this; omega)
  have n14_2_0 : w14.cell? ⟨w10.heap.size, 0, none⟩ = some (.int .i64 z) := (hb.cell (p := ⟨w10.heap.size, 0, none⟩) (by first | omega | (simp; omega) | (simp; done))).trans (by go_simp)
  have n14_2_1 : w14.cell? ⟨w10.heap.size, 1, none⟩ = some (.int .i64 0) := (hb.cell (p := ⟨w10.heap.size, 1, none⟩) (by first | omega | (simp; omega) | (simp; done))).trans (by go_simp)
  have n14_2_2 : w14.cell? ⟨w10.heap.size, 2, none⟩ = some (.int .i64 0) := (hb.cell (p := ⟨w10.heap.size, 2, none⟩) (by first | omega | (simp; omega) | (simp; done))).trans (by go_simp)
  have n14_2_3 : w14.cell? ⟨w10.heap.size, 3, none⟩ = some (.int .i64 0) := (hb.cell (p := ⟨w10.heap.size, 3, none⟩) (by first | omega | (simp; omega) | (simp; done))).trans (by go_simp)
  have n14_2_4 : w14.cell? ⟨w10.heap.size, 4, none⟩ = some (.int .i64 (wordOf rk rv)) := (hb.cell (p := ⟨w10.heap.size, 4, none⟩) (by first | omega | (simp; omega) | (simp; done))).trans (by go_simp)
  clear hb o13_0_0 o13_0_1 o13_1_0 o13_1_1 n13_0_0 n13_0_1 n13_0_2 n13_0_3 n13_0_4 n13_1_0 n13_1_1 n13_2_0 n13_2_1 n13_2_2 n13_2_3 n13_2_4 m13 
  have B14 := HW.out.1.trans (m14.B.mono (by omega))
  go_wp2
  go_ret
  exact ⟨by first | rfl | (simp; done) | (simp; omega), B14⟩

theorem recordTold_any (rk rv ok ov z : Int) (w : World) (r1 : 0 ≤ rk) (r2 : rk ≤ 255) (r3 : -2147483648 ≤ rv) (r4 : rv ≤ 2147483647) (o1 : 0 ≤ ok) (o2 : ok ≤ 255) (o3 : -2147483648 ≤ ov) (o4 : ov ≤ 2147483647) :
    Calls Try.prog 12 #[.agg #[.int .u8 rk, .int .i32 rv], .agg #[.int .u8 ok, .int .i32 ov], .int .i64 z] w fun e w' => e = .returned (.bool true) ∧ Below w.heap.size w w' := by
  by_cases h : 0 < z
  · exact recordTold_a rk rv ok ov z w r1 r2 r3 r4 o1 o2 o3 o4 h
  · exact recordTold_b rk rv ok ov z w r1 r2 r3 r4 o1 o2 o3 o4 h

theorem Try.resTypes12 : Try.f12.resultTypes = #[4] := by kernel_rfl
theorem recordTold_rdres : Try.prog.readableRec 60 = true ∧ 60 < Try.prog.types.size := ⟨by kernel_rfl, of_decide_eq_true (by kernel_rfl)⟩
theorem recordTold_rdop : Try.prog.readableRec 62 = true ∧ 62 < Try.prog.types.size := ⟨by kernel_rfl, of_decide_eq_true (by kernel_rfl)⟩
theorem recordTold_rdi64 : Try.prog.readableRec 2 = true ∧ 2 < Try.prog.types.size := ⟨by kernel_rfl, of_decide_eq_true (by kernel_rfl)⟩
set_option maxRecDepth 100000 in
theorem recordTold_lifted (os : Os) (started : os.Started) (H : Type) (enc : TypeId × Value → H) :
    ReturnsInHanded {} Try.checked os 12 .any (Rows.recordToldSpec.pre6 enc Try.prog Try.f12 Rows.recordToldRow.domain false) (Rows.recordToldSpec.post enc Try.prog Try.f12 false true false false) := by
  refine law_lifted (C := Try.checked) (T := 4) Try.own started (by kernel_rfl) Try.func12
    (ChangeSpec.witness6 (enc := enc) (C := Try.checked) false ⟨#[], #[.agg #[.int .u8 0, .int .i32 0], .agg #[.int .u8 0, .int .i32 0], .int .i64 0], []⟩ 8 (by kernel_rfl) (by kernel_rfl) (by kernel_rfl) (by kernel_rfl))
    Try.laidOut (fun t ht => ?_) Try.resTypes12 Try.underlying4 rfl (fun ds hd => ?_) ?_
  · rw [Try.params12] at ht
    exact (show ∀ t ∈ [60, 62, 2], Try.prog.readableRec t = true ∧ t < Try.prog.types.size from List.forall_mem_cons.2 ⟨recordTold_rdres, List.forall_mem_cons.2 ⟨recordTold_rdop, List.forall_mem_cons.2 ⟨recordTold_rdi64, fun _ h => by cases h⟩⟩⟩) t ht
  · rw [Try.params12] at hd
    match ds, hd with
    | [e0, e1, e2], _ => rfl
  · intro W base args ds p hval0 hA0
    have hval : ∀ (j : Nat) t v, Try.f12.params[j]? = some t → args[j]? = some v → Value.okWide Try.prog W .any base t v := hval0
    have hA : DataW.TrodAll enc Try.prog W 0 (fun _ => true) true Try.f12.params.toList args.toList ds p := hA0
    rw [Try.params12] at hA hval
    obtain ⟨v0, vs0, d0, ds0, p0, q0, hargs, rfl, rfl, h0, r0⟩ := trodAll_cons hA
    obtain ⟨v1, vs1, d1, ds1, p1, q1, rfl, rfl, rfl, h1, r1⟩ := trodAll_cons r0
    obtain ⟨v2, vs2, d2, ds2, p2, q2, rfl, rfl, rfl, h2, r2⟩ := trodAll_cons r1
    obtain ⟨rfl, rfl, rfl⟩ := trodAll_nil r2
    obtain rfl : args = #[v0, v1, v2] := by cases args; simp_all
    obtain ⟨sk, sv, rfl, s1, s2, s3, s4⟩ := open_res (hval 0 60 v0 rfl rfl) h0
    obtain ⟨ok, ov, rfl, o1, o2, o3, o4⟩ := open_op (hval 1 62 v1 rfl rfl) h1
    obtain ⟨z, rfl, _, _, wz⟩ := open_int Try.underlying2 (hval 2 2 v2 rfl rfl) h2
    have bz := bounds_i64 wz
    exact recordTold_any sk sv ok ov z W s1 s2 s3 s4 o1 o2 o3 o4

/-- RecordTold: for every input the call returns true. -/
theorem recordTold_said : Rows.RecordToldSaid :=
  OpenClaim.holds_of_wide 12 Try.f12 rfl rfl rfl rfl rfl rfl rfl ⟨rfl, rfl, rfl, rfl, rfl⟩ rfl rfl rfl rfl rfl (by as_aux_lemma => kernel_rfl) Try.func12 (by as_aux_lemma => kernel_rfl)
    (of_decide_eq_true (by as_aux_lemma => kernel_rfl)) (by unfold Func.isWrapper; first | (rw [if_pos (by decide +kernel)]; kernel_rfl) | (rw [if_neg (by decide +kernel)]; exact ⟨rfl, rfl⟩))
    (fun os started H enc _ => recordTold_lifted os started H enc)
#print axioms recordTold_said

end Go.Proofs.Ytepkpfnghgocgaa
