/- Package record over a memory of a law. -/
import Derived.Test.YtnpkhkfhlpopbaaMsAny
import Derived.Test.YtnpkhkfhlpopbaaFrame
import Derived.Laws.Cover3
import Derived.Deep.RegionHeld3
import Derived.Deep.QuietTactic
import Derived.BigQuiet
namespace Go.Proofs.Ytnpkhkfhlpopbaa
set_option linter.unusedSimpArgs false
set_option linter.unusedVariables false
open Go.RowKit
open Go.ChangeShapes Go.WideShapes Go.ChangeAt

def manyOf (n : Nat) : Int := (max 0 ((n : Int) - 3)) / 5
set_option maxHeartbeats 400000 in
theorem Base_in (k : Int) (w : World) (h0 : 0 ≤ k) (h1 : k ≤ 1000) : Calls Try.prog 37 #[.int .i64 k] w fun e w' => e = .returned (.int .i64 (3 + 5 * k)) ∧ w = w' := by
  go_enter Try.func37, Try.ntmps37
  go_wp2
  go_ret
  exact ⟨by first | rfl | (exact ret_int (by omega)), rfl⟩
theorem Base_out (k : Int) (w : World) (h : k < 0 ∨ 1000 < k) : Calls Try.prog 37 #[.int .i64 k] w fun e w' => e = .returned (.int .i64 0) ∧ w = w' := by
  rcases h with h | h
  all_goals
    go_enter Try.func37, Try.ntmps37
    go_wp2
    go_ret
    exact ⟨rfl, rfl⟩
section
variable {W0 w : World} {b : Nat} {g : Option Nat} {N st : Int} {xs : List Int}
set_option maxHeartbeats 400000 in
theorem Many_ms (h : MS W0 w b g N xs st) : Calls Try.prog 20 #[.pointer (some ⟨b, 0, none⟩)] w fun e w' => e = .returned (.int .i64 (manyOf xs.length)) ∧ MS W0 w' b g N xs st ∧ Below w.heap.size w w' := by
  have hl := h.len
  have hl2 : (xs.length : Int) ≤ 1000 := by omega
  by_cases h3 : 3 < xs.length
  · have h4 : (3 : Int) < (xs.length : Int) := by omega
    go_enter Try.func20, Try.ntmps20
    go_wp2_with fail
    refine (Top_ms h).mono ?_
    rintro e w1 ⟨rfl, m1, hb⟩
    go_wp2
    go_ret
    exact ⟨ret_int (by unfold manyOf; first | omega | (rw [Int.tdiv_eq_ediv_of_nonneg (by omega)]; omega)), m1, hb⟩
  · have h4 : (xs.length : Int) ≤ 3 := by omega
    go_enter Try.func20, Try.ntmps20
    go_wp2_with fail
    refine (Top_ms h).mono ?_
    rintro e w1 ⟨rfl, m1, hb⟩
    go_wp2
    go_ret
    exact ⟨ret_int (by unfold manyOf; first | omega | (rw [Int.tdiv_eq_ediv_of_nonneg (by omega)]; omega)), m1, hb⟩
theorem Nth_low (h : MS W0 w b g N xs st) (a : Int) (ha : a < 3) : Calls Try.prog 64 #[.pointer (some ⟨b, 0, none⟩), .int .i64 a] w fun e w' => e = .returned (.tuple #[.int .i64 0, .bool false]) ∧ MS W0 w' b g N xs st ∧ Below w.heap.size w w' := by
  go_enter Try.func64, Try.ntmps64
  go_wp2
  refine bodyPost_ret (v := .tuple #[.int .i64 0, .bool false]) (by simp [results, Try.results64, go_sem]) rfl ⟨rfl, h, Below.refl _ _⟩
theorem Nth_over (h : MS W0 w b g N xs st) (a : Int) (ha : 3 ≤ a) (ha2 : a ≤ 9223372036854775807) (ho : ¬ (a - 3) % 5 = 0) : Calls Try.prog 64 #[.pointer (some ⟨b, 0, none⟩), .int .i64 a] w fun e w' => e = .returned (.tuple #[.int .i64 0, .bool false]) ∧ MS W0 w' b g N xs st ∧ Below w.heap.size w w' := by
  obtain ⟨o, hov⟩ : ∃ o, (a - 3) % 5 = o := ⟨_, rfl⟩
  obtain ⟨q, hqv⟩ : ∃ q, (a - 3) / 5 = q := ⟨_, rfl⟩
  rw [hov] at ho
  have hne : (o != 0) = true := by rw [bne_iff_ne]; exact ho
  go_enter Try.func64, Try.ntmps64
  go_wp2
  refine bodyPost_ret (v := .tuple #[.int .i64 0, .bool false]) (by simp [results, Try.results64, go_sem]) rfl ⟨rfl, h, Below.refl _ _⟩
set_option maxHeartbeats 400000 in
theorem Nth_high (h : MS W0 w b g N xs st) (a q : Int) (hq : (a - 3) / 5 = q) (ha : 3 ≤ a) (ha2 : a ≤ 9223372036854775807) (ho : (a - 3) % 5 = 0) (hm : manyOf xs.length ≤ q) : Calls Try.prog 64 #[.pointer (some ⟨b, 0, none⟩), .int .i64 a] w fun e w' => e = .returned (.tuple #[.int .i64 0, .bool false]) ∧ MS W0 w' b g N xs st ∧ Below w.heap.size w w' := by
  go_enter Try.func64, Try.ntmps64
  go_wp2_with fail
  refine (Many_ms h).mono ?_
  rintro e w1 ⟨rfl, m1, hb⟩
  go_wp2
  refine bodyPost_ret (v := .tuple #[.int .i64 0, .bool false]) (by simp [results, Try.results64, go_sem]) rfl ⟨rfl, m1, hb⟩
set_option maxHeartbeats 400000 in
theorem Nth_ms (h : MS W0 w b g N xs st) (a q : Int) (hq : (a - 3) / 5 = q) (ha : 3 ≤ a) (ha2 : a ≤ 9223372036854775807) (ho : (a - 3) % 5 = 0) (hm : q < manyOf xs.length) : Calls Try.prog 64 #[.pointer (some ⟨b, 0, none⟩), .int .i64 a] w fun e w' => e = .returned (.tuple #[.int .i64 q, .bool true]) ∧ MS W0 w' b g N xs st ∧ Below w.heap.size w w' := by
  go_enter Try.func64, Try.ntmps64
  go_wp2_with fail
  refine (Many_ms h).mono ?_
  rintro e w1 ⟨rfl, m1, hb⟩
  go_wp2
  refine bodyPost_ret (v := .tuple #[.int .i64 q, .bool true]) (by simp [results, Try.results64, go_sem]) rfl ⟨rfl, m1, hb⟩
/-- A number at which no record stands. -/
def NoRec (n : Nat) (a : Int) : Prop := a < 3 ∨ (a - 3) % 5 ≠ 0 ∨ manyOf n ≤ (a - 3) / 5
theorem Nth_ms_no (h : MS W0 w b g N xs st) (a : Int) (ha2 : a ≤ 9223372036854775807) (hn : NoRec xs.length a) : Calls Try.prog 64 #[.pointer (some ⟨b, 0, none⟩), .int .i64 a] w fun e w' => e = .returned (.tuple #[.int .i64 0, .bool false]) ∧ MS W0 w' b g N xs st ∧ Below w.heap.size w w' := by
  by_cases h1 : a < 3
  · exact Nth_low h a h1
  · by_cases h2 : (a - 3) % 5 = 0
    · exact Nth_high h a _ rfl (by omega) ha2 h2 (by rcases hn with hn | hn | hn; exact absurd hn h1; exact absurd h2 hn; exact hn)
    · exact Nth_over h a (by omega) ha2 h2

theorem set5 {w1 : World} {r : Nat} (m1 : MS W0 w1 b g N xs st) (B1 : Below r w w1) (h1 : b ≠ r) (h2 : ∀ k, g = some k → k ≠ r) (h3 : r < w1.heap.size) (hr : W0.heap.size ≤ r) (u0 u1 u2 u3 u4 : Value) :
    MS W0 (((((w1.setCell ⟨r, 0, none⟩ u0).setCell ⟨r, 1, none⟩ u1).setCell ⟨r, 2, none⟩ u2).setCell ⟨r, 3, none⟩ u3).setCell ⟨r, 4, none⟩ u4) b g N xs st ∧ Below r w (((((w1.setCell ⟨r, 0, none⟩ u0).setCell ⟨r, 1, none⟩ u1).setCell ⟨r, 2, none⟩ u2).setCell ⟨r, 3, none⟩ u3).setCell ⟨r, 4, none⟩ u4) := by
  have hK : Kept (fun k => k = r) w1 (((((w1.setCell ⟨r, 0, none⟩ u0).setCell ⟨r, 1, none⟩ u1).setCell ⟨r, 2, none⟩ u2).setCell ⟨r, 3, none⟩ u3).setCell ⟨r, 4, none⟩ u4) :=
    (((((Kept.refl (fun k => k = r) w1).setCell (p := ⟨r, 0, none⟩) (fun _ => rfl) u0).setCell (p := ⟨r, 1, none⟩) (fun _ => rfl) u1).setCell (p := ⟨r, 2, none⟩) (fun _ => rfl) u2).setCell (p := ⟨r, 3, none⟩) (fun _ => rfl) u3).setCell (p := ⟨r, 4, none⟩) (fun _ => rfl) u4
  exact ⟨m1.kept hK (m1.B.trans (hK.below m1.B.size (fun k hk e => by omega))) h1 h2, B1.trans (hK.below (Nat.le_of_lt h3) (fun k hk e => by omega))⟩
set_option maxRecDepth 100000 in
set_option maxHeartbeats 1000000 in
theorem See_no (h : MS W0 w b g N xs st) (a : Int) (ha2 : a ≤ 9223372036854775807) (hn : NoRec xs.length a) : Calls Try.prog 54 #[.pointer (some ⟨b, 0, none⟩), .int .i64 a] w fun e w' => e = .returned (.tuple #[.agg #[.int .i64 0, .int .i64 0, .int .i64 0, .int .i64 0, .int .i64 0], .bool false]) ∧ MS W0 w' b g N xs st ∧ Below w.heap.size w w' := by
  go_enter Try.func54, Try.ntmps54
  go_wp2_with fail
  refine (Nth_ms_no (h.below (by go_grown)) a ha2 hn).mono ?_
  rintro e w1 ⟨rfl, m1, hb⟩
  have z1 : w.heap.size < w1.heap.size := by have := hb.size; first | omega | (simp at this; omega)
  have c1_0 : w1.cell? ⟨w.heap.size, 0, none⟩ = some (.int .i64 0) := (hb.cell (p := ⟨w.heap.size, 0, none⟩) (by first | omega | (simp; omega) | (simp; done))).trans (by go_simp)
  have f1_0 : w1.frozen? ⟨w.heap.size, 0, none⟩ = false := (hb.frozen (p := ⟨w.heap.size, 0, none⟩) (by first | omega | (simp; omega) | (simp; done))).trans (by go_simp)
  have c1_1 : w1.cell? ⟨w.heap.size, 1, none⟩ = some (.int .i64 0) := (hb.cell (p := ⟨w.heap.size, 1, none⟩) (by first | omega | (simp; omega) | (simp; done))).trans (by go_simp)
  have f1_1 : w1.frozen? ⟨w.heap.size, 1, none⟩ = false := (hb.frozen (p := ⟨w.heap.size, 1, none⟩) (by first | omega | (simp; omega) | (simp; done))).trans (by go_simp)
  have c1_2 : w1.cell? ⟨w.heap.size, 2, none⟩ = some (.int .i64 0) := (hb.cell (p := ⟨w.heap.size, 2, none⟩) (by first | omega | (simp; omega) | (simp; done))).trans (by go_simp)
  have f1_2 : w1.frozen? ⟨w.heap.size, 2, none⟩ = false := (hb.frozen (p := ⟨w.heap.size, 2, none⟩) (by first | omega | (simp; omega) | (simp; done))).trans (by go_simp)
  have c1_3 : w1.cell? ⟨w.heap.size, 3, none⟩ = some (.int .i64 0) := (hb.cell (p := ⟨w.heap.size, 3, none⟩) (by first | omega | (simp; omega) | (simp; done))).trans (by go_simp)
  have f1_3 : w1.frozen? ⟨w.heap.size, 3, none⟩ = false := (hb.frozen (p := ⟨w.heap.size, 3, none⟩) (by first | omega | (simp; omega) | (simp; done))).trans (by go_simp)
  have c1_4 : w1.cell? ⟨w.heap.size, 4, none⟩ = some (.int .i64 0) := (hb.cell (p := ⟨w.heap.size, 4, none⟩) (by first | omega | (simp; omega) | (simp; done))).trans (by go_simp)
  have f1_4 : w1.frozen? ⟨w.heap.size, 4, none⟩ = false := (hb.frozen (p := ⟨w.heap.size, 4, none⟩) (by first | omega | (simp; omega) | (simp; done))).trans (by go_simp)

  have B1 : Below w.heap.size w w1 := Below.trans (by go_grown) (hb.mono (by first | omega | (simp; omega) | (simp; done)))
  have hn1 : b ≠ w.heap.size ∧ ∀ k, g = some k → k ≠ w.heap.size := ⟨by have := h.mem.lt; omega, fun k e => by subst e; have := h.mem.row_lt; omega⟩
  go_wp2
  refine bodyPost_ret (v := .tuple #[.agg #[.int .i64 0, .int .i64 0, .int .i64 0, .int .i64 0, .int .i64 0], .bool false]) (by simp [results, Try.results54, go_sem, c1_0, c1_1, c1_2, c1_3, c1_4]) rfl ⟨rfl, ?_⟩
  exact set5 m1 B1 hn1.1 hn1.2 z1 h.B.size _ _ _ _ _
set_option maxRecDepth 100000 in
set_option maxHeartbeats 1000000 in
theorem See_core (h : MS W0 w b g N xs st) (a q y0 y1 y2 y3 y4 : Int) (Hy : RowKit.Hid (xs.getD a.toNat 0 = y0 ∧ xs.getD (a.toNat + 1) 0 = y1 ∧ xs.getD (a.toNat + 2) 0 = y2 ∧ xs.getD (a.toNat + 3) 0 = y3 ∧ xs.getD (a.toNat + 4) 0 = y4)) (hq : (a - 3) / 5 = q) (ha : 3 ≤ a) (ha2 : a ≤ 9223372036854775807) (ho : (a - 3) % 5 = 0) (hm : q < manyOf xs.length) : Calls Try.prog 54 #[.pointer (some ⟨b, 0, none⟩), .int .i64 a] w fun e w' => e = .returned (.tuple #[.agg #[.int .i64 y0, .int .i64 y1, .int .i64 y2, .int .i64 y3, .int .i64 y4], .bool true]) ∧ MS W0 w' b g N xs st ∧ Below w.heap.size w w' := by
  have hlen : a + 5 ≤ (xs.length : Int) := by unfold manyOf at hm; omega
  have hln := h.len
  have hl2 : (xs.length : Int) ≤ 1000 := by omega
  have hlt := h.mem.lt
  go_enter Try.func54, Try.ntmps54
  go_wp2_with fail
  refine (Nth_ms (h.below (by go_grown)) a q hq ha ha2 ho hm).mono ?_
  rintro e w1 ⟨rfl, m1, hb⟩
  have z1 : w.heap.size < w1.heap.size := by have := hb.size; first | omega | (simp at this; omega)
  have c1_0 : w1.cell? ⟨w.heap.size, 0, none⟩ = some (.int .i64 0) := (hb.cell (p := ⟨w.heap.size, 0, none⟩) (by first | omega | (simp; omega) | (simp; done))).trans (by go_simp)
  have f1_0 : w1.frozen? ⟨w.heap.size, 0, none⟩ = false := (hb.frozen (p := ⟨w.heap.size, 0, none⟩) (by first | omega | (simp; omega) | (simp; done))).trans (by go_simp)
  have c1_1 : w1.cell? ⟨w.heap.size, 1, none⟩ = some (.int .i64 0) := (hb.cell (p := ⟨w.heap.size, 1, none⟩) (by first | omega | (simp; omega) | (simp; done))).trans (by go_simp)
  have f1_1 : w1.frozen? ⟨w.heap.size, 1, none⟩ = false := (hb.frozen (p := ⟨w.heap.size, 1, none⟩) (by first | omega | (simp; omega) | (simp; done))).trans (by go_simp)
  have c1_2 : w1.cell? ⟨w.heap.size, 2, none⟩ = some (.int .i64 0) := (hb.cell (p := ⟨w.heap.size, 2, none⟩) (by first | omega | (simp; omega) | (simp; done))).trans (by go_simp)
  have f1_2 : w1.frozen? ⟨w.heap.size, 2, none⟩ = false := (hb.frozen (p := ⟨w.heap.size, 2, none⟩) (by first | omega | (simp; omega) | (simp; done))).trans (by go_simp)
  have c1_3 : w1.cell? ⟨w.heap.size, 3, none⟩ = some (.int .i64 0) := (hb.cell (p := ⟨w.heap.size, 3, none⟩) (by first | omega | (simp; omega) | (simp; done))).trans (by go_simp)
  have f1_3 : w1.frozen? ⟨w.heap.size, 3, none⟩ = false := (hb.frozen (p := ⟨w.heap.size, 3, none⟩) (by first | omega | (simp; omega) | (simp; done))).trans (by go_simp)
  have c1_4 : w1.cell? ⟨w.heap.size, 4, none⟩ = some (.int .i64 0) := (hb.cell (p := ⟨w.heap.size, 4, none⟩) (by first | omega | (simp; omega) | (simp; done))).trans (by go_simp)
  have f1_4 : w1.frozen? ⟨w.heap.size, 4, none⟩ = false := (hb.frozen (p := ⟨w.heap.size, 4, none⟩) (by first | omega | (simp; omega) | (simp; done))).trans (by go_simp)

  have B1 : Below w.heap.size w w1 := Below.trans (by go_grown) (hb.mono (by first | omega | (simp; omega) | (simp; done)))
  clear hb
  go_wp2_with fail
  refine (Cells_ms m1).mono ?_
  rintro e w2 ⟨ao, cap, rfl, m2, r2, hb2, hv⟩
  have z2 : w.heap.size < w2.heap.size := by have := hb2.size; first | omega | (simp at this; omega)
  have c2_0 : w2.cell? ⟨w.heap.size, 0, none⟩ = some (.int .i64 0) := (hb2.cell (p := ⟨w.heap.size, 0, none⟩) (by first | omega | (simp; omega) | (simp; done))).trans (by go_simp)
  have f2_0 : w2.frozen? ⟨w.heap.size, 0, none⟩ = false := (hb2.frozen (p := ⟨w.heap.size, 0, none⟩) (by first | omega | (simp; omega) | (simp; done))).trans (by go_simp)
  have c2_1 : w2.cell? ⟨w.heap.size, 1, none⟩ = some (.int .i64 0) := (hb2.cell (p := ⟨w.heap.size, 1, none⟩) (by first | omega | (simp; omega) | (simp; done))).trans (by go_simp)
  have f2_1 : w2.frozen? ⟨w.heap.size, 1, none⟩ = false := (hb2.frozen (p := ⟨w.heap.size, 1, none⟩) (by first | omega | (simp; omega) | (simp; done))).trans (by go_simp)
  have c2_2 : w2.cell? ⟨w.heap.size, 2, none⟩ = some (.int .i64 0) := (hb2.cell (p := ⟨w.heap.size, 2, none⟩) (by first | omega | (simp; omega) | (simp; done))).trans (by go_simp)
  have f2_2 : w2.frozen? ⟨w.heap.size, 2, none⟩ = false := (hb2.frozen (p := ⟨w.heap.size, 2, none⟩) (by first | omega | (simp; omega) | (simp; done))).trans (by go_simp)
  have c2_3 : w2.cell? ⟨w.heap.size, 3, none⟩ = some (.int .i64 0) := (hb2.cell (p := ⟨w.heap.size, 3, none⟩) (by first | omega | (simp; omega) | (simp; done))).trans (by go_simp)
  have f2_3 : w2.frozen? ⟨w.heap.size, 3, none⟩ = false := (hb2.frozen (p := ⟨w.heap.size, 3, none⟩) (by first | omega | (simp; omega) | (simp; done))).trans (by go_simp)
  have c2_4 : w2.cell? ⟨w.heap.size, 4, none⟩ = some (.int .i64 0) := (hb2.cell (p := ⟨w.heap.size, 4, none⟩) (by first | omega | (simp; omega) | (simp; done))).trans (by go_simp)
  have f2_4 : w2.frozen? ⟨w.heap.size, 4, none⟩ = false := (hb2.frozen (p := ⟨w.heap.size, 4, none⟩) (by first | omega | (simp; omega) | (simp; done))).trans (by go_simp)
  clear c1_0 f1_0 c1_1 f1_1 c1_2 f1_2 c1_3 f1_3 c1_4 f1_4

  have B2 : Below w.heap.size w w2 := B1.trans (hb2.mono B1.size)
  obtain ⟨k, cap', cur, hs, hg, hcur, hk1, hc, hf⟩ := r2.pos (by omega)
  cases hs
  have hk : w1.heap.size ≤ k := hv k rfl
  have hkl := r2.lt (g := k) rfl
  have d0 : w2.cell? ⟨k, a.toNat, none⟩ = some (.int .i64 y0) := (hc _ (by omega)).trans (by rw [Hy.out.1])
  have d1 : w2.cell? ⟨k, a.toNat + 1, none⟩ = some (.int .i64 y1) := (hc _ (by omega)).trans (by rw [Hy.out.2.1])
  have d2 : w2.cell? ⟨k, a.toNat + 2, none⟩ = some (.int .i64 y2) := (hc _ (by omega)).trans (by rw [Hy.out.2.2.1])
  have d3 : w2.cell? ⟨k, a.toNat + 3, none⟩ = some (.int .i64 y3) := (hc _ (by omega)).trans (by rw [Hy.out.2.2.2.1])
  have d4 : w2.cell? ⟨k, a.toNat + 4, none⟩ = some (.int .i64 y4) := (hc _ (by omega)).trans (by rw [Hy.out.2.2.2.2])

  have hcap : xs.length ≤ cap := by have := hk1; omega
  have hd5 : (a + 5).toNat - a.toNat = 5 := by omega
  have hat : ∀ w, (Instr.arrayAt 101 (.slice (some ⟨k, a.toNat, none⟩) 5 5)).run Try.prog w = .ok (.pointer (some ⟨k, a.toNat, none⟩)) w := fun w => run_arrayAt w 101 _ 5 _ 5 5 Try.underlying101 (by omega)
  have hne : (k == w.heap.size) = false := by rw [beq_eq_false_iff_ne]; omega
  clear hc hf hg hcur hk1 hv
  have hn1 : b ≠ w.heap.size ∧ ∀ k, g = some k → k ≠ w.heap.size := ⟨by have := h.mem.lt; omega, fun k e => by subst e; have := h.mem.row_lt; omega⟩
  go_wp2_with (simp only [hat, hd5])
  refine bodyPost_ret (v := .tuple #[.agg #[.int .i64 y0, .int .i64 y1, .int .i64 y2, .int .i64 y3, .int .i64 y4], .bool true]) (by simp [results, Try.results54, go_sem, z2, c2_0, c2_1, c2_2, c2_3, c2_4]) rfl ⟨rfl, ?_⟩
  obtain ⟨m3, B3⟩ := set5 m2 B2 hn1.1 hn1.2 z2 h.B.size (.int .i64 y0) (.int .i64 y1) (.int .i64 y2) (.int .i64 y3) (.int .i64 y4)
  exact ⟨m3.below (by go_grown), B3.trans (by go_grown)⟩
theorem See_ms (h : MS W0 w b g N xs st) (a q : Int) (hq : (a - 3) / 5 = q) (ha : 3 ≤ a) (ha2 : a ≤ 9223372036854775807) (ho : (a - 3) % 5 = 0) (hm : q < manyOf xs.length) : Calls Try.prog 54 #[.pointer (some ⟨b, 0, none⟩), .int .i64 a] w fun e w' => e = .returned (.tuple #[.agg #[.int .i64 (xs.getD a.toNat 0), .int .i64 (xs.getD (a.toNat + 1) 0), .int .i64 (xs.getD (a.toNat + 2) 0), .int .i64 (xs.getD (a.toNat + 3) 0), .int .i64 (xs.getD (a.toNat + 4) 0)], .bool true]) ∧ MS W0 w' b g N xs st ∧ Below w.heap.size w w' :=
  See_core h a q _ _ _ _ _ (Lib.hid ⟨rfl, rfl, rfl, rfl, rfl⟩) hq ha ha2 ho hm
end
end Go.Proofs.Ytnpkhkfhlpopbaa
