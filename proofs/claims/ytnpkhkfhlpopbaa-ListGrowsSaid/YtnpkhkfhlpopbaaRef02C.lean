/- The contracts of the reference of layer 2, more: writes. -/
import Derived.Test.YtnpkhkfhlpopbaaRef02B
namespace Go.Proofs.Ytnpkhkfhlpopbaa
set_option linter.unusedSimpArgs false
set_option linter.unusedVariables false
open Go.RowKit

set_option maxRecDepth 100000 in
set_option maxHeartbeats 1000000 in
theorem rStore_no (N st a y : Int) (xs : List Int) (v : Value) (q : Option Nat) (w : World) (h : RVal w v q N xs st) (ha : a < 0 ∨ (xs.length : Int) ≤ a) :
    Calls Try.prog 31 #[v, .int .i64 a, .int .i64 y] w fun e w' => e = .returned (.tuple #[v, .int .i64 10]) ∧ Below w.heap.size w w' := by
  obtain ⟨ao, cap, rfl, _, hr⟩ := h.open
  go_enter Try.func31, Try.ntmps31
  go_wp2_with fail
  refine (rHas_no N st a _ xs.length cap _ ha).mono ?_
  rintro e w1 ⟨rfl, hb1⟩
  have z1 : w.heap.size + 1 < w1.heap.size := by have := hb1.size; first | omega | (simp at this; omega)
  have z1_0 : w.heap.size < w1.heap.size := by omega
  have B1 : Below w.heap.size w w1 := Below.trans (by go_grown) (hb1.mono (by first | omega | (simp; omega) | (simp; done)))
  have c1_0_0 : w1.cell? ⟨w.heap.size, 0, none⟩ = some (.int .i64 N) := (hb1.cell (p := ⟨w.heap.size, 0, none⟩) (by first | omega | (simp; omega) | (simp; done))).trans (by go_simp)
  have c1_0_1 : w1.cell? ⟨w.heap.size, 1, none⟩ = some (.slice ao xs.length cap) := (hb1.cell (p := ⟨w.heap.size, 1, none⟩) (by first | omega | (simp; omega) | (simp; done))).trans (by go_simp)
  have c1_0_2 : w1.cell? ⟨w.heap.size, 2, none⟩ = some (.int .i64 st) := (hb1.cell (p := ⟨w.heap.size, 2, none⟩) (by first | omega | (simp; omega) | (simp; done))).trans (by go_simp)
  have c1_1_0 : w1.cell? ⟨w.heap.size + 1, 0, none⟩ = some (.int .i64 0) := (hb1.cell (p := ⟨w.heap.size + 1, 0, none⟩) (by first | omega | (simp; omega) | (simp; done))).trans (by go_simp)
  have f1_1_0 : w1.frozen? ⟨w.heap.size + 1, 0, none⟩ = false := (hb1.frozen (p := ⟨w.heap.size + 1, 0, none⟩) (by first | omega | (simp; omega) | (simp; done))).trans (by go_simp)
  have c1_1_1 : w1.cell? ⟨w.heap.size + 1, 1, none⟩ = some (.slice none 0 0) := (hb1.cell (p := ⟨w.heap.size + 1, 1, none⟩) (by first | omega | (simp; omega) | (simp; done))).trans (by go_simp)
  have f1_1_1 : w1.frozen? ⟨w.heap.size + 1, 1, none⟩ = false := (hb1.frozen (p := ⟨w.heap.size + 1, 1, none⟩) (by first | omega | (simp; omega) | (simp; done))).trans (by go_simp)
  have c1_1_2 : w1.cell? ⟨w.heap.size + 1, 2, none⟩ = some (.int .i64 0) := (hb1.cell (p := ⟨w.heap.size + 1, 2, none⟩) (by first | omega | (simp; omega) | (simp; done))).trans (by go_simp)
  have f1_1_2 : w1.frozen? ⟨w.heap.size + 1, 2, none⟩ = false := (hb1.frozen (p := ⟨w.heap.size + 1, 2, none⟩) (by first | omega | (simp; omega) | (simp; done))).trans (by go_simp)
  clear hb1
  go_wp2
  refine bodyPost_ret (v := .tuple #[.agg #[.int .i64 N, .slice ao xs.length cap, .int .i64 st], .int .i64 10]) (by simp [results, Try.results31, go_sem, c1_1_0, c1_1_1, c1_1_2, z1]) rfl ?_
  refine ⟨rfl, ((B1.setCell (by simp) _).setCell (by simp) _).setCell (by simp) _⟩

set_option maxRecDepth 100000 in
set_option maxHeartbeats 2000000 in
theorem rStore_yes (N st a y : Int) (xs : List Int) (v : Value) (q : Option Nat) (w : World) (h : RVal w v q N xs st) (h0 : 0 ≤ a) (h1 : a < xs.length) (hn : xs.length ≤ 1000000) (s0 : 0 ≤ st) (s1 : st < 4611686018427387904) :
    Calls Try.prog 31 #[v, .int .i64 a, .int .i64 y] w fun e w' => ∃ v' q', e = .returned (.tuple #[v', .int .i64 0]) ∧ RVal w' v' q' N (xs.set a.toNat y) (st + 1) ∧ (∀ k, q' = some k → w.heap.size ≤ k) ∧ Below w.heap.size w w' := by
  obtain ⟨ao, cap, rfl, _, hr⟩ := h.open
  go_enter Try.func31, Try.ntmps31
  go_wp2_with fail
  refine (rHas_yes N st a _ xs.length cap _ h0 h1).mono ?_
  rintro e w1 ⟨rfl, hb1⟩
  have z1 : w.heap.size + 1 < w1.heap.size := by have := hb1.size; first | omega | (simp at this; omega)
  have z1_0 : w.heap.size < w1.heap.size := by omega
  have B1 : Below w.heap.size w w1 := Below.trans (by go_grown) (hb1.mono (by first | omega | (simp; omega) | (simp; done)))
  have c1_0_0 : w1.cell? ⟨w.heap.size, 0, none⟩ = some (.int .i64 N) := (hb1.cell (p := ⟨w.heap.size, 0, none⟩) (by first | omega | (simp; omega) | (simp; done))).trans (by go_simp)
  have c1_0_1 : w1.cell? ⟨w.heap.size, 1, none⟩ = some (.slice ao xs.length cap) := (hb1.cell (p := ⟨w.heap.size, 1, none⟩) (by first | omega | (simp; omega) | (simp; done))).trans (by go_simp)
  have c1_0_2 : w1.cell? ⟨w.heap.size, 2, none⟩ = some (.int .i64 st) := (hb1.cell (p := ⟨w.heap.size, 2, none⟩) (by first | omega | (simp; omega) | (simp; done))).trans (by go_simp)
  have c1_1_0 : w1.cell? ⟨w.heap.size + 1, 0, none⟩ = some (.int .i64 0) := (hb1.cell (p := ⟨w.heap.size + 1, 0, none⟩) (by first | omega | (simp; omega) | (simp; done))).trans (by go_simp)
  have f1_1_0 : w1.frozen? ⟨w.heap.size + 1, 0, none⟩ = false := (hb1.frozen (p := ⟨w.heap.size + 1, 0, none⟩) (by first | omega | (simp; omega) | (simp; done))).trans (by go_simp)
  have c1_1_1 : w1.cell? ⟨w.heap.size + 1, 1, none⟩ = some (.slice none 0 0) := (hb1.cell (p := ⟨w.heap.size + 1, 1, none⟩) (by first | omega | (simp; omega) | (simp; done))).trans (by go_simp)
  have f1_1_1 : w1.frozen? ⟨w.heap.size + 1, 1, none⟩ = false := (hb1.frozen (p := ⟨w.heap.size + 1, 1, none⟩) (by first | omega | (simp; omega) | (simp; done))).trans (by go_simp)
  have c1_1_2 : w1.cell? ⟨w.heap.size + 1, 2, none⟩ = some (.int .i64 0) := (hb1.cell (p := ⟨w.heap.size + 1, 2, none⟩) (by first | omega | (simp; omega) | (simp; done))).trans (by go_simp)
  have f1_1_2 : w1.frozen? ⟨w.heap.size + 1, 2, none⟩ = false := (hb1.frozen (p := ⟨w.heap.size + 1, 2, none⟩) (by first | omega | (simp; omega) | (simp; done))).trans (by go_simp)
  clear hb1
  have hr1 : RVal w1 (.agg #[.int .i64 N, .slice ao xs.length cap, .int .i64 st]) (Value.slice ao xs.length cap).ownBlock N xs st := ⟨_, rfl, rfl, hr.below B1⟩
  clear hr
  go_wp2_with fail
  refine (rfresh_any N st xs _ _ _ hr1 hn).mono ?_
  rintro e w2 ⟨ao1, cap1, rfl, hr2, hk2, hb2⟩
  have z2 : w.heap.size + 1 < w2.heap.size := by have := hb2.size; first | omega | (simp at this; omega)
  have z2_0 : w.heap.size < w2.heap.size := by omega
  have B2 : Below w.heap.size w w2 := Below.trans (by go_grown) (hb2.mono (by first | omega | (simp; omega) | (simp; done)))
  have c2_0_0 : w2.cell? ⟨w.heap.size, 0, none⟩ = some (.int .i64 N) := (hb2.cell (p := ⟨w.heap.size, 0, none⟩) (by first | omega | (simp; omega) | (simp; done))).trans (by go_simp)
  have c2_0_1 : w2.cell? ⟨w.heap.size, 1, none⟩ = some (.slice ao xs.length cap) := (hb2.cell (p := ⟨w.heap.size, 1, none⟩) (by first | omega | (simp; omega) | (simp; done))).trans (by go_simp)
  have c2_0_2 : w2.cell? ⟨w.heap.size, 2, none⟩ = some (.int .i64 st) := (hb2.cell (p := ⟨w.heap.size, 2, none⟩) (by first | omega | (simp; omega) | (simp; done))).trans (by go_simp)
  have c2_1_0 : w2.cell? ⟨w.heap.size + 1, 0, none⟩ = some (.int .i64 0) := (hb2.cell (p := ⟨w.heap.size + 1, 0, none⟩) (by first | omega | (simp; omega) | (simp; done))).trans (by go_simp)
  have f2_1_0 : w2.frozen? ⟨w.heap.size + 1, 0, none⟩ = false := (hb2.frozen (p := ⟨w.heap.size + 1, 0, none⟩) (by first | omega | (simp; omega) | (simp; done))).trans (by go_simp)
  have c2_1_1 : w2.cell? ⟨w.heap.size + 1, 1, none⟩ = some (.slice none 0 0) := (hb2.cell (p := ⟨w.heap.size + 1, 1, none⟩) (by first | omega | (simp; omega) | (simp; done))).trans (by go_simp)
  have f2_1_1 : w2.frozen? ⟨w.heap.size + 1, 1, none⟩ = false := (hb2.frozen (p := ⟨w.heap.size + 1, 1, none⟩) (by first | omega | (simp; omega) | (simp; done))).trans (by go_simp)
  have c2_1_2 : w2.cell? ⟨w.heap.size + 1, 2, none⟩ = some (.int .i64 0) := (hb2.cell (p := ⟨w.heap.size + 1, 2, none⟩) (by first | omega | (simp; omega) | (simp; done))).trans (by go_simp)
  have f2_1_2 : w2.frozen? ⟨w.heap.size + 1, 2, none⟩ = false := (hb2.frozen (p := ⟨w.heap.size + 1, 2, none⟩) (by first | omega | (simp; omega) | (simp; done))).trans (by go_simp)
  clear B1 c1_0_0 c1_0_1 c1_0_2 c1_1_0 f1_1_0 c1_1_1 f1_1_1 c1_1_2 f1_1_2
  obtain ⟨k, cap2, cur, hs, hg, _, _, hc, hf⟩ := hr2.pos (by omega)
  cases hs
  have hk3 : w.heap.size + 1 < k := by have := hk2 k rfl; have := z1; omega
  have hk4 : k < w2.heap.size := (Array.getElem?_eq_some_iff.1 hg).1
  have hca := hc a.toNat (by omega)
  have hfa := hf a.toNat
  have Hr := Lib.hid hr2
  clear hr2 hk2 hg hc hf hb2 hr1 z1
  have hk5 : ¬ k = w.heap.size + 1 := by omega
  obtain ⟨x, hx⟩ : ∃ x, xs.getD a.toNat 0 = x := ⟨_, rfl⟩
  rw [hx] at hca
  clear hx
  go_wp2
  refine bodyPost_ret (v := .tuple #[.agg #[.int .i64 N, .slice (some ⟨k, 0, none⟩) xs.length cap1, .int .i64 (st + 1)], .int .i64 0]) (by simp [results, Try.results31, go_sem, c2_1_0, c2_1_1, c2_1_2, hk5, z2]) rfl ⟨_, some k, rfl, ⟨_, rfl, rfl, ?_⟩, fun j hj => by cases hj; omega, ?_⟩
  · have h5 : Row (w2.setCell ⟨k, a.toNat, none⟩ (.int .i64 y)) (.slice (some ⟨k, 0, none⟩) xs.length cap1) (xs.set a.toNat y) := Hr.out.set rfl a.toNat (by omega) y
    exact (((h5.kept (kept_setCell _ ⟨w.heap.size + 1, 0, none⟩ _) (fun j hj => by cases hj; exact hk5)).kept (kept_setCell _ ⟨w.heap.size + 1, 1, none⟩ _) (fun j hj => by cases hj; exact hk5)).kept (kept_setCell _ ⟨w.heap.size + 1, 2, none⟩ _) (fun j hj => by cases hj; exact hk5)).alloc _
  · exact ((((B2.setCell (by simp; omega) _).setCell (by simp) _).setCell (by simp) _).setCell (by simp) _).alloc (by simp; omega) _

end Go.Proofs.Ytnpkhkfhlpopbaa
