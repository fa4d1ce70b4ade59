/- The contracts of the reference of layer 2, more: reads. -/
import Derived.Test.YtnpkhkfhlpopbaaRef02A
import Derived.Deep.RegionHeld3
namespace Go.Proofs.Ytnpkhkfhlpopbaa
set_option linter.unusedSimpArgs false
set_option linter.unusedVariables false
open Go.RowKit

theorem cell_far3 (W : World) (k j B : Nat) (v0 v1 v2 : Value) (h : ¬ k = B) : (((W.setCell ⟨B, 0, none⟩ v0).setCell ⟨B, 1, none⟩ v1).setCell ⟨B, 2, none⟩ v2).drew.cell? ⟨k, j, none⟩ = W.cell? ⟨k, j, none⟩ := by
  show (((W.setCell ⟨B, 0, none⟩ v0).setCell ⟨B, 1, none⟩ v1).setCell ⟨B, 2, none⟩ v2).cell? ⟨k, j, none⟩ = _
  rw [World.cell?_of_block (Below.heap_setCell _ _ _ _ h), World.cell?_of_block (Below.heap_setCell _ _ _ _ h), World.cell?_of_block (Below.heap_setCell _ _ _ _ h)]

set_option maxRecDepth 100000 in
set_option maxHeartbeats 1000000 in
theorem rAt_yes (N st a : Int) (xs : List Int) (v : Value) (q : Option Nat) (w : World) (h : RVal w v q N xs st) (h0 : 0 ≤ a) (h1 : a < xs.length) :
    Calls Try.prog 59 #[v, .int .i64 a] w fun e w' => e = .returned (.int .i64 (xs.getD a.toNat 0)) ∧ Below w.heap.size w w' := by
  obtain ⟨ao, cap, rfl, _, hr⟩ := h.open
  obtain ⟨k, cap', cur, hs, hg, _, _, hc, hf⟩ := hr.pos (by omega)
  cases hs
  have hca := hc a.toNat (by omega)
  have hk : k < w.heap.size := (Array.getElem?_eq_some_iff.1 hg).1
  obtain ⟨x, hx⟩ : ∃ x, xs.getD a.toNat 0 = x := ⟨_, rfl⟩
  rw [hx] at hca ⊢
  clear hx hg hc hf hr
  go_enter Try.func59, Try.ntmps59
  go_wp2_with fail
  refine (rHas_yes N st a _ xs.length cap _ h0 h1).mono ?_
  rintro e w1 ⟨rfl, hb1⟩
  have z1 : w.heap.size < w1.heap.size := by have := hb1.size; first | omega | (simp at this; omega)
  have B1 : Below w.heap.size w w1 := Below.trans (by go_grown) (hb1.mono (by first | omega | (simp; omega) | (simp; done)))
  have c1_0_0 : w1.cell? ⟨w.heap.size, 0, none⟩ = some (.int .i64 N) := (hb1.cell (p := ⟨w.heap.size, 0, none⟩) (by first | omega | (simp; omega) | (simp; done))).trans (by go_simp)
  have c1_0_1 : w1.cell? ⟨w.heap.size, 1, none⟩ = some (.slice (some ⟨k, 0, none⟩) xs.length cap) := (hb1.cell (p := ⟨w.heap.size, 1, none⟩) (by first | omega | (simp; omega) | (simp; done))).trans (by go_simp)
  have c1_0_2 : w1.cell? ⟨w.heap.size, 2, none⟩ = some (.int .i64 st) := (hb1.cell (p := ⟨w.heap.size, 2, none⟩) (by first | omega | (simp; omega) | (simp; done))).trans (by go_simp)
  have hca1 : w1.cell? ⟨k, a.toNat, none⟩ = some (.int .i64 x) := (hb1.cell (p := ⟨k, a.toNat, none⟩) (by simp; omega)).trans (by go_simp)
  clear hb1
  go_wp2
  go_ret
  exact ⟨by first | rfl | simp, B1⟩

set_option maxRecDepth 100000 in
set_option maxHeartbeats 1000000 in
theorem rAt_no (N st a : Int) (xs : List Int) (v : Value) (q : Option Nat) (w : World) (h : RVal w v q N xs st) (ha : a < 0 ∨ (xs.length : Int) ≤ a) :
    Calls Try.prog 59 #[v, .int .i64 a] w fun e w' => e = .returned (.int .i64 0) ∧ Below w.heap.size w w' := by
  obtain ⟨ao, cap, rfl, _, hr⟩ := h.open
  go_enter Try.func59, Try.ntmps59
  go_wp2_with fail
  refine (rHas_no N st a _ xs.length cap _ ha).mono ?_
  rintro e w1 ⟨rfl, hb1⟩
  have z1 : w.heap.size < w1.heap.size := by have := hb1.size; first | omega | (simp at this; omega)
  have B1 : Below w.heap.size w w1 := Below.trans (by go_grown) (hb1.mono (by first | omega | (simp; omega) | (simp; done)))
  have c1_0_0 : w1.cell? ⟨w.heap.size, 0, none⟩ = some (.int .i64 N) := (hb1.cell (p := ⟨w.heap.size, 0, none⟩) (by first | omega | (simp; omega) | (simp; done))).trans (by go_simp)
  have c1_0_1 : w1.cell? ⟨w.heap.size, 1, none⟩ = some (.slice ao xs.length cap) := (hb1.cell (p := ⟨w.heap.size, 1, none⟩) (by first | omega | (simp; omega) | (simp; done))).trans (by go_simp)
  have c1_0_2 : w1.cell? ⟨w.heap.size, 2, none⟩ = some (.int .i64 st) := (hb1.cell (p := ⟨w.heap.size, 2, none⟩) (by first | omega | (simp; omega) | (simp; done))).trans (by go_simp)
  clear hb1
  go_wp2
  go_ret
  exact ⟨rfl, B1⟩

end Go.Proofs.Ytnpkhkfhlpopbaa
