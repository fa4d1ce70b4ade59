/- The contracts of the reference of layer 2, more: reads. -/
import Derived.Test.YtcellcjojfbajaaRef02A
import Derived.Deep.RegionHeld3
namespace Go.Proofs.Ytcellcjojfbajaa
set_option linter.unusedSimpArgs false
set_option linter.unusedVariables false
open Go.RowKit

theorem cell_far3 (W : World) (k j B : Nat) (v0 v1 v2 : Value) (h : ¬ k = B) : (((W.setCell ⟨B, 0, none⟩ v0).setCell ⟨B, 1, none⟩ v1).setCell ⟨B, 2, none⟩ v2).drew.cell? ⟨k, j, none⟩ = W.cell? ⟨k, j, none⟩ := by
  show (((W.setCell ⟨B, 0, none⟩ v0).setCell ⟨B, 1, none⟩ v1).setCell ⟨B, 2, none⟩ v2).cell? ⟨k, j, none⟩ = _
  rw [World.cell?_of_block (Below.heap_setCell _ _ _ _ h), World.cell?_of_block (Below.heap_setCell _ _ _ _ h), World.cell?_of_block (Below.heap_setCell _ _ _ _ h)]

set_option maxRecDepth 100000 in
set_option maxHeartbeats 1000000 in
theorem rLoad_no (N st a : Int) (xs : List Int) (v : Value) (q : Option Nat) (w : World) (h : RVal w v q N xs st) (ha : a < 0 ∨ (xs.length : Int) ≤ a) :
    Calls Try.prog 46 #[v, .int .i64 a] w fun e w' => e = .returned (.tuple #[v, .int .i64 0, .int .i64 10]) ∧ Below w.heap.size w w' := by
  obtain ⟨ao, cap, rfl, _, hr⟩ := h.open
  go_enter Try.func46, Try.ntmps46
  go_wp2_with fail
  refine (rHas_no N st a _ xs.length cap _ ha).mono ?_
  rintro e w1 ⟨rfl, hb1⟩
  have z1 : w.heap.size + 1 < w1.heap.size := by have := hb1.size; first | omega | (simp at this; omega)
  have z1_0 : w.heap.size < w1.heap.size := by omega
  have B1 : Below w.heap.size w w1 := Below.trans (by go_grown) (hb1.mono (by first | omega | (simp; omega) | (simp; done)))
  have c1_0_0 : w1.cell? ⟨w.heap.size, 0, none⟩ = some (.int .i64 N) := (hb1.cell (p := ⟨w.heap.size, 0, none⟩) (by first | omega | (simp; omega) | (simp; done))).trans (by go_simp)
  have c1_0_1 : w1.cell? ⟨w.heap.size, 1, none⟩ = some (.slice ao xs.length cap) := (hb1.cell (p := ⟨w.heap.size, 1, none⟩) (by first | omega | (simp; omega) | (simp; done))).trans (by go_simp)
  have c1_0_2 : w1.cell? ⟨w.heap.size, 2, none⟩ = some (.int .i64 st) := (hb1.cell (p := ⟨w.heap.size, 2, none⟩) (by first | omega | (simp; omega) | (simp; done))).trans (by go_simp)
  have c1_1_0 : w1.cell? ⟨w.heap.size + 1, 0, none⟩ = some (.int .i64 0) := (hb1.cell (p := ⟨w.heap.size + 1, 0, none⟩) (by first | omega | (simp; omega) | (simp; done))).trans (by go_simp)
  have f1_1_0 : w1.frozen? ⟨w.heap.size + 1, 0, none⟩ = false := (hb1.frozen (p := ⟨w.heap.size + 1, 0, none⟩) (by first | omega | (simp; omega) | (simp; done))).trans (by go_simp)
  have c1_1_1 : w1.cell? ⟨w.heap.size + 1, 1, none⟩ = some (.slice none 0 0) := (hb1.cell (p := ⟨w.heap.size + 1, 1, none⟩) (by first | omega | (simp; omega) | (simp; done))).trans (by go_simp)
  have f1_1_1 : w1.frozen? ⟨w.heap.size + 1, 1, none⟩ = false := (hb1.frozen (p := ⟨w.heap.size + 1, 1, none⟩) (by first | omega | (simp; omega) | (simp; done))).trans (by go_simp)
  have c1_1_2 : w1.cell? ⟨w.heap.size + 1, 2, none⟩ = some (.int .i64 0) := (hb1.cell (p := ⟨w.heap.size + 1, 2, none⟩) (by first | omega | (simp; omega) | (simp; done))).trans (by go_simp)
  have f1_1_2 : w1.frozen? ⟨w.heap.size + 1, 2, none⟩ = false := (hb1.frozen (p := ⟨w.heap.size + 1, 2, none⟩) (by first | omega | (simp; omega) | (simp; done))).trans (by go_simp)
  clear hb1
  go_wp2
  refine bodyPost_ret (v := .tuple #[.agg #[.int .i64 N, .slice ao xs.length cap, .int .i64 st], .int .i64 0, .int .i64 10]) (by simp [results, Try.results46, go_sem, c1_1_0, c1_1_1, c1_1_2, z1]) rfl ?_
  refine ⟨rfl, ((B1.setCell (by simp) _).setCell (by simp) _).setCell (by simp) _⟩

set_option maxRecDepth 100000 in
set_option maxHeartbeats 2000000 in
theorem rLoad_yes (N st a : Int) (xs : List Int) (v : Value) (q : Option Nat) (w : World) (h : RVal w v q N xs st) (h0 : 0 ≤ a) (h1 : a < xs.length) (s0 : 0 ≤ st) (s1 : st < 4611686018427387904) :
    Calls Try.prog 46 #[v, .int .i64 a] w fun e w' => ∃ v', e = .returned (.tuple #[v', .int .i64 (xs.getD a.toNat 0), .int .i64 0]) ∧ RVal w' v' q N xs (st + 1) ∧ Below w.heap.size w w' := by
  obtain ⟨ao, cap, rfl, hq, hr⟩ := h.open
  obtain ⟨k, cap', cur, hs, hg, _, _, hc, hf⟩ := hr.pos (by omega)
  cases hs
  have hca := hc a.toNat (by omega)
  have hk : k < w.heap.size := (Array.getElem?_eq_some_iff.1 hg).1
  obtain ⟨x, hx⟩ : ∃ x, xs.getD a.toNat 0 = x := ⟨_, rfl⟩
  rw [hx] at hca ⊢
  have Hr := Lib.hid (And.intro hr hq)
  clear hx hg hc hf hr hq
  go_enter Try.func46, Try.ntmps46
  go_wp2_with fail
  refine (rHas_yes N st a _ xs.length cap _ h0 h1).mono ?_
  rintro e w1 ⟨rfl, hb1⟩
  have z1 : w.heap.size + 1 < w1.heap.size := by have := hb1.size; first | omega | (simp at this; omega)
  have z1_0 : w.heap.size < w1.heap.size := by omega
  have B1 : Below w.heap.size w w1 := Below.trans (by go_grown) (hb1.mono (by first | omega | (simp; omega) | (simp; done)))
  have c1_0_0 : w1.cell? ⟨w.heap.size, 0, none⟩ = some (.int .i64 N) := (hb1.cell (p := ⟨w.heap.size, 0, none⟩) (by first | omega | (simp; omega) | (simp; done))).trans (by go_simp)
  have f1_0_0 : w1.frozen? ⟨w.heap.size, 0, none⟩ = false := (hb1.frozen (p := ⟨w.heap.size, 0, none⟩) (by first | omega | (simp; omega) | (simp; done))).trans (by go_simp)
  have c1_0_1 : w1.cell? ⟨w.heap.size, 1, none⟩ = some (.slice (some ⟨k, 0, none⟩) xs.length cap) := (hb1.cell (p := ⟨w.heap.size, 1, none⟩) (by first | omega | (simp; omega) | (simp; done))).trans (by go_simp)
  have f1_0_1 : w1.frozen? ⟨w.heap.size, 1, none⟩ = false := (hb1.frozen (p := ⟨w.heap.size, 1, none⟩) (by first | omega | (simp; omega) | (simp; done))).trans (by go_simp)
  have c1_0_2 : w1.cell? ⟨w.heap.size, 2, none⟩ = some (.int .i64 st) := (hb1.cell (p := ⟨w.heap.size, 2, none⟩) (by first | omega | (simp; omega) | (simp; done))).trans (by go_simp)
  have f1_0_2 : w1.frozen? ⟨w.heap.size, 2, none⟩ = false := (hb1.frozen (p := ⟨w.heap.size, 2, none⟩) (by first | omega | (simp; omega) | (simp; done))).trans (by go_simp)
  have c1_1_0 : w1.cell? ⟨w.heap.size + 1, 0, none⟩ = some (.int .i64 0) := (hb1.cell (p := ⟨w.heap.size + 1, 0, none⟩) (by first | omega | (simp; omega) | (simp; done))).trans (by go_simp)
  have f1_1_0 : w1.frozen? ⟨w.heap.size + 1, 0, none⟩ = false := (hb1.frozen (p := ⟨w.heap.size + 1, 0, none⟩) (by first | omega | (simp; omega) | (simp; done))).trans (by go_simp)
  have c1_1_1 : w1.cell? ⟨w.heap.size + 1, 1, none⟩ = some (.slice none 0 0) := (hb1.cell (p := ⟨w.heap.size + 1, 1, none⟩) (by first | omega | (simp; omega) | (simp; done))).trans (by go_simp)
  have f1_1_1 : w1.frozen? ⟨w.heap.size + 1, 1, none⟩ = false := (hb1.frozen (p := ⟨w.heap.size + 1, 1, none⟩) (by first | omega | (simp; omega) | (simp; done))).trans (by go_simp)
  have c1_1_2 : w1.cell? ⟨w.heap.size + 1, 2, none⟩ = some (.int .i64 0) := (hb1.cell (p := ⟨w.heap.size + 1, 2, none⟩) (by first | omega | (simp; omega) | (simp; done))).trans (by go_simp)
  have f1_1_2 : w1.frozen? ⟨w.heap.size + 1, 2, none⟩ = false := (hb1.frozen (p := ⟨w.heap.size + 1, 2, none⟩) (by first | omega | (simp; omega) | (simp; done))).trans (by go_simp)
  have hca1 : w1.cell? ⟨k, a.toNat, none⟩ = some (.int .i64 x) := (hb1.cell (p := ⟨k, a.toNat, none⟩) (by simp; omega)).trans (by go_simp)
  clear hb1
  go_wp2
  obtain ⟨W, hW, BW, zW, g0, g1, g2, g3, d0, d1, d2, e0, e1, e2⟩ : ∃ W, W = w1.setCell ⟨w.heap.size, 2, none⟩ (.int .i64 (st + 1)) ∧ Below w.heap.size w W ∧ w.heap.size + 1 < W.heap.size ∧
      W.cell? ⟨w.heap.size, 0, none⟩ = some (.int .i64 N) ∧ W.cell? ⟨w.heap.size, 1, none⟩ = some (.slice (some ⟨k, 0, none⟩) xs.length cap) ∧ W.cell? ⟨w.heap.size, 2, none⟩ = some (.int .i64 (st + 1)) ∧ W.cell? ⟨k, a.toNat, none⟩ = some (.int .i64 x) ∧
      W.cell? ⟨w.heap.size + 1, 0, none⟩ = some (.int .i64 0) ∧ W.cell? ⟨w.heap.size + 1, 1, none⟩ = some (.slice none 0 0) ∧ W.cell? ⟨w.heap.size + 1, 2, none⟩ = some (.int .i64 0) ∧
      W.frozen? ⟨w.heap.size + 1, 0, none⟩ = false ∧ W.frozen? ⟨w.heap.size + 1, 1, none⟩ = false ∧ W.frozen? ⟨w.heap.size + 1, 2, none⟩ = false :=
    ⟨_, rfl, B1.setCell (by simp) _, by go_simp, by go_simp, by go_simp, by go_simp, by go_simp, by go_simp, by go_simp, by go_simp, by go_simp, by go_simp, by go_simp⟩
  rw [← hW]
  have hfar : ∀ v0 v1 v2, (((W.setCell ⟨w.heap.size + 1, 0, none⟩ v0).setCell ⟨w.heap.size + 1, 1, none⟩ v1).setCell ⟨w.heap.size + 1, 2, none⟩ v2).cell? ⟨k, a.toNat, none⟩ = some (.int .i64 x) := fun v0 v1 v2 => (cell_far3 W k _ _ v0 v1 v2 (by omega)).trans g3
  clear hW B1 c1_0_0 c1_0_1 c1_0_2 c1_1_0 c1_1_1 c1_1_2 f1_0_0 f1_0_1 f1_0_2 f1_1_0 f1_1_1 f1_1_2 hca1
  go_region_held3 (fun w2 => w2.cell? ⟨w.heap.size, 0, none⟩ = some (.int .i64 N) ∧ w2.cell? ⟨w.heap.size, 1, none⟩ = some (.slice (some ⟨k, 0, none⟩) xs.length cap) ∧ w2.cell? ⟨w.heap.size, 2, none⟩ = some (.int .i64 (st + 1)) ∧ w2.cell? ⟨k, a.toNat, none⟩ = some (.int .i64 x))
    (go_keep) (fail)
  go_wp2
  refine bodyPost_ret (v := .tuple #[.agg #[.int .i64 N, .slice (some ⟨k, 0, none⟩) xs.length cap, .int .i64 (st + 1)], .int .i64 x, .int .i64 0]) (by simp [results, Try.results46, go_sem, d0, d1, d2]) rfl ⟨_, rfl, ⟨_, rfl, Hr.out.2, ?_⟩, ?_⟩
  · exact Hr.out.1.below (((BW.setCell (by simp) _).setCell (by simp) _).setCell (by simp) _).drew
  · exact (((BW.setCell (by simp) _).setCell (by simp) _).setCell (by simp) _).drew

end Go.Proofs.Ytcellcjojfbajaa
