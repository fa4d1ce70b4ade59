/- A deed at a memory and at the reference memory beside it: both answer the same, and are the same behind it. -/
import Derived.Test.YtepkpfnghgocgaaFun
namespace Go.Proofs.Ytepkpfnghgocgaa
set_option linter.unusedSimpArgs false
set_option linter.unusedVariables false
open Go.RowKit

set_option maxRecDepth 100000 in
set_option maxHeartbeats 2000000 in
theorem step2_0 (W0 w : World) (b : Nat) (g : Option Nat) (N st : Int) (xs : List Int) (v : Value) (q : Option Nat) (h : Both W0 w b g N xs st v q xs st) (s1 : st < 100000) (k n a o z : Int) (k0 : 0 ≤ k) (k1 : k ≤ 255) (a1 : 0 ≤ a) (a2 : a ≤ 255) (hk : k % 5 = 0)  : Calls Try.prog 44 #[.pointer (some ⟨b, 0, none⟩), v, .agg #[.int .u8 k, .int .i64 n, .int .u8 a, .int .i64 o, .int .i64 z]] w fun e w' => ∃ v' q' g' xs' st', e = .returned (.tuple #[v', .bool true]) ∧ Both W0 w' b g' N xs' st' v' q' xs' st' ∧ st' ≤ st + 1 ∧ (g' = g ∨ ∀ k, g' = some k → w.heap.size ≤ k) ∧ (q' = q ∨ ∀ k, q' = some k → w.heap.size ≤ k) ∧ Kept (Foot b g) w w' := by
  obtain ⟨ao, cap, rfl, -, -⟩ := h.rv.open
  have hfar := h.far
  have HF := Lib.hid hfar
  have hbl := h.ms.mem.lt
  have s0 : 0 ≤ st := h.2.2.2.2
  have hW := h.ms.B.size
  clear hfar
  have hqlt : ∀ k, q = some k → k < w.heap.size := h.q_lt
  have er := allocErr_rng xs N n
  go_enter Try.func44, Try.ntmps44
  go_wp2_with fail
  refine (Alloc_b (h.below (by go_grown)) n (by omega)).mono ?_
  rintro e w1 ⟨g1, rfl, h1, hg1, hk1⟩
  have z1 : w.heap.size + 1 + 1 < w1.heap.size := by have := hk1.size; first | omega | (simp at this; omega)
  have z1_0 : w.heap.size < w1.heap.size := by omega
  have z1_1 : w.heap.size + 1 < w1.heap.size := by omega
  have K1 : Kept (Foot b g) w w1 := (keptF (by go_grown)).trans hk1
  have c1_0_0 : w1.cell? ⟨w.heap.size, 0, none⟩ = some (.int .i64 N) := (hk1.cell (p := ⟨w.heap.size, 0, none⟩) (by first | omega | (simp; omega) | (simp; done)) (HF.out _ (by simp; try omega))).trans (by go_simp)
  have c1_0_1 : w1.cell? ⟨w.heap.size, 1, none⟩ = some (.slice ao xs.length cap) := (hk1.cell (p := ⟨w.heap.size, 1, none⟩) (by first | omega | (simp; omega) | (simp; done)) (HF.out _ (by simp; try omega))).trans (by go_simp)
  have c1_0_2 : w1.cell? ⟨w.heap.size, 2, none⟩ = some (.int .i64 st) := (hk1.cell (p := ⟨w.heap.size, 2, none⟩) (by first | omega | (simp; omega) | (simp; done)) (HF.out _ (by simp; try omega))).trans (by go_simp)
  have c1_1_0 : w1.cell? ⟨w.heap.size + 1, 0, none⟩ = some (.int .u8 k) := (hk1.cell (p := ⟨w.heap.size + 1, 0, none⟩) (by first | omega | (simp; omega) | (simp; done)) (HF.out _ (by simp; try omega))).trans (by go_simp)
  have c1_1_1 : w1.cell? ⟨w.heap.size + 1, 1, none⟩ = some (.int .i64 n) := (hk1.cell (p := ⟨w.heap.size + 1, 1, none⟩) (by first | omega | (simp; omega) | (simp; done)) (HF.out _ (by simp; try omega))).trans (by go_simp)
  have c1_1_2 : w1.cell? ⟨w.heap.size + 1, 2, none⟩ = some (.int .u8 a) := (hk1.cell (p := ⟨w.heap.size + 1, 2, none⟩) (by first | omega | (simp; omega) | (simp; done)) (HF.out _ (by simp; try omega))).trans (by go_simp)
  have c1_1_3 : w1.cell? ⟨w.heap.size + 1, 3, none⟩ = some (.int .i64 o) := (hk1.cell (p := ⟨w.heap.size + 1, 3, none⟩) (by first | omega | (simp; omega) | (simp; done)) (HF.out _ (by simp; try omega))).trans (by go_simp)
  have c1_1_4 : w1.cell? ⟨w.heap.size + 1, 4, none⟩ = some (.int .i64 z) := (hk1.cell (p := ⟨w.heap.size + 1, 4, none⟩) (by first | omega | (simp; omega) | (simp; done)) (HF.out _ (by simp; try omega))).trans (by go_simp)
  have c1_2_0 : w1.cell? ⟨w.heap.size + 1 + 1, 0, none⟩ = some (.int .i64 0) := (hk1.cell (p := ⟨w.heap.size + 1 + 1, 0, none⟩) (by first | omega | (simp; omega) | (simp; done)) (HF.out _ (by simp; try omega))).trans (by go_simp)
  have f1_0 : w1.frozen? ⟨w.heap.size + 1 + 1, 0, none⟩ = false := (hk1.frozen (p := ⟨w.heap.size + 1 + 1, 0, none⟩) (by first | omega | (simp; omega) | (simp; done)) (HF.out _ (by simp; try omega))).trans (by go_simp)
  have c1_2_1 : w1.cell? ⟨w.heap.size + 1 + 1, 1, none⟩ = some (.slice none 0 0) := (hk1.cell (p := ⟨w.heap.size + 1 + 1, 1, none⟩) (by first | omega | (simp; omega) | (simp; done)) (HF.out _ (by simp; try omega))).trans (by go_simp)
  have f1_1 : w1.frozen? ⟨w.heap.size + 1 + 1, 1, none⟩ = false := (hk1.frozen (p := ⟨w.heap.size + 1 + 1, 1, none⟩) (by first | omega | (simp; omega) | (simp; done)) (HF.out _ (by simp; try omega))).trans (by go_simp)
  have c1_2_2 : w1.cell? ⟨w.heap.size + 1 + 1, 2, none⟩ = some (.int .i64 0) := (hk1.cell (p := ⟨w.heap.size + 1 + 1, 2, none⟩) (by first | omega | (simp; omega) | (simp; done)) (HF.out _ (by simp; try omega))).trans (by go_simp)
  have f1_2 : w1.frozen? ⟨w.heap.size + 1 + 1, 2, none⟩ = false := (hk1.frozen (p := ⟨w.heap.size + 1 + 1, 2, none⟩) (by first | omega | (simp; omega) | (simp; done)) (HF.out _ (by simp; try omega))).trans (by go_simp)
  clear hk1 h 
  go_wp2_with fail
  refine (rAlloc_b h1 n (by omega)).mono ?_
  rintro e w2 ⟨v2, q2, rfl, h2, hq2, hb2⟩
  obtain ⟨ao2, cap2, rfl, -, -⟩ := h2.rv.open
  have z2 : w.heap.size + 1 + 1 < w2.heap.size := by have := hb2.size; omega
  have c2_0_0 : w2.cell? ⟨w.heap.size, 0, none⟩ = some (.int .i64 N) := (hb2.cell (p := ⟨w.heap.size, 0, none⟩) (by first | omega | (simp; omega) | (simp; done))).trans (by go_simp)
  have c2_0_1 : w2.cell? ⟨w.heap.size, 1, none⟩ = some (.slice ao xs.length cap) := (hb2.cell (p := ⟨w.heap.size, 1, none⟩) (by first | omega | (simp; omega) | (simp; done))).trans (by go_simp)
  have c2_0_2 : w2.cell? ⟨w.heap.size, 2, none⟩ = some (.int .i64 st) := (hb2.cell (p := ⟨w.heap.size, 2, none⟩) (by first | omega | (simp; omega) | (simp; done))).trans (by go_simp)
  have c2_1_0 : w2.cell? ⟨w.heap.size + 1, 0, none⟩ = some (.int .u8 k) := (hb2.cell (p := ⟨w.heap.size + 1, 0, none⟩) (by first | omega | (simp; omega) | (simp; done))).trans (by go_simp)
  have c2_1_1 : w2.cell? ⟨w.heap.size + 1, 1, none⟩ = some (.int .i64 n) := (hb2.cell (p := ⟨w.heap.size + 1, 1, none⟩) (by first | omega | (simp; omega) | (simp; done))).trans (by go_simp)
  have c2_1_2 : w2.cell? ⟨w.heap.size + 1, 2, none⟩ = some (.int .u8 a) := (hb2.cell (p := ⟨w.heap.size + 1, 2, none⟩) (by first | omega | (simp; omega) | (simp; done))).trans (by go_simp)
  have c2_1_3 : w2.cell? ⟨w.heap.size + 1, 3, none⟩ = some (.int .i64 o) := (hb2.cell (p := ⟨w.heap.size + 1, 3, none⟩) (by first | omega | (simp; omega) | (simp; done))).trans (by go_simp)
  have c2_1_4 : w2.cell? ⟨w.heap.size + 1, 4, none⟩ = some (.int .i64 z) := (hb2.cell (p := ⟨w.heap.size + 1, 4, none⟩) (by first | omega | (simp; omega) | (simp; done))).trans (by go_simp)
  have c2_2_0 : w2.cell? ⟨w.heap.size + 1 + 1, 0, none⟩ = some (.int .i64 0) := (hb2.cell (p := ⟨w.heap.size + 1 + 1, 0, none⟩) (by first | omega | (simp; omega) | (simp; done))).trans (by go_simp)
  have f2_0 : w2.frozen? ⟨w.heap.size + 1 + 1, 0, none⟩ = false := (hb2.frozen (p := ⟨w.heap.size + 1 + 1, 0, none⟩) (by first | omega | (simp; omega) | (simp; done))).trans (by go_simp)
  have c2_2_1 : w2.cell? ⟨w.heap.size + 1 + 1, 1, none⟩ = some (.slice none 0 0) := (hb2.cell (p := ⟨w.heap.size + 1 + 1, 1, none⟩) (by first | omega | (simp; omega) | (simp; done))).trans (by go_simp)
  have f2_1 : w2.frozen? ⟨w.heap.size + 1 + 1, 1, none⟩ = false := (hb2.frozen (p := ⟨w.heap.size + 1 + 1, 1, none⟩) (by first | omega | (simp; omega) | (simp; done))).trans (by go_simp)
  have c2_2_2 : w2.cell? ⟨w.heap.size + 1 + 1, 2, none⟩ = some (.int .i64 0) := (hb2.cell (p := ⟨w.heap.size + 1 + 1, 2, none⟩) (by first | omega | (simp; omega) | (simp; done))).trans (by go_simp)
  have f2_2 : w2.frozen? ⟨w.heap.size + 1 + 1, 2, none⟩ = false := (hb2.frozen (p := ⟨w.heap.size + 1 + 1, 2, none⟩) (by first | omega | (simp; omega) | (simp; done))).trans (by go_simp)
  have hgr : ∀ k, g1 = some k → k ≠ w.heap.size + 1 + 1 := fun k e => by
    rcases hg1 with rfl | ⟨j, rfl, hj⟩
    · exact fun e2 => HF.out k (by omega) (.inr e.symm)
    · cases e; simp at hj; omega
  have hqr : ∀ k, q2 = some k → k ≠ w.heap.size + 1 + 1 := fun k e => by
    rcases hq2 with rfl | hq2
    · have := hqlt k e; omega
    · have := hq2 k e; omega
  have hgg : g1 = g ∨ ∀ k, g1 = some k → w.heap.size ≤ k := by
    rcases hg1 with rfl | ⟨j, rfl, hj⟩
    · exact .inl rfl
    · exact .inr (fun k e => by cases e; simp at hj; omega)
  have hqq : q2 = q ∨ ∀ k, q2 = some k → w.heap.size ≤ k := by
    rcases hq2 with rfl | hq2
    · exact .inl rfl
    · exact .inr (fun k e => by have := hq2 k e; omega)
  have HX := Lib.hid (And.intro hgr (And.intro hqr (And.intro hgg (And.intro h2 (And.intro K1 (And.intro hb2 hqq))))))
  clear hgr hqr hgg hqq h2 hb2 h1 K1 hq2 hg1 c1_0_0 c1_0_1 c1_0_2 c1_1_0 c1_1_1 c1_1_2 c1_1_3 c1_1_4 c1_2_0 f1_0 c1_2_1 f1_1 c1_2_2 f1_2
  go_wp2
  refine bodyPost_ret (v := .tuple #[.agg #[.int .i64 N, .slice ao2 (allocXs xs N n).length cap2, .int .i64 (st + allocCnt xs N n)], .bool true]) (by simp [results, Try.results44, go_sem, c2_2_0, c2_2_1, c2_2_2, z2]) rfl ⟨_, q2, g1, allocXs xs N n, st + allocCnt xs N n, rfl, ?_, by have := allocCnt_rng xs N n; omega, HX.out.2.2.1, HX.out.2.2.2.2.2.2, ?_⟩
  · exact (HX.out.2.2.2.1.set3 (w.heap.size + 1 + 1) (by omega) (by omega) HX.out.1 HX.out.2.1 _ _ _).below (by go_grown)
  · exact (((HX.out.2.2.2.2.1.trans (keptF HX.out.2.2.2.2.2.1)).step (kept_set3 _ (w.heap.size + 1 + 1) _ _ _) (fun i hi (e : i = w.heap.size + 1 + 1) => by omega))).alloc _

set_option maxRecDepth 100000 in
set_option maxHeartbeats 2000000 in
theorem step2_1 (W0 w : World) (b : Nat) (g : Option Nat) (N st : Int) (xs : List Int) (v : Value) (q : Option Nat) (h : Both W0 w b g N xs st v q xs st) (s1 : st < 100000) (k n a o z : Int) (k0 : 0 ≤ k) (k1 : k ≤ 255) (a1 : 0 ≤ a) (a2 : a ≤ 255) (hk : k % 5 = 1) (x : Int) (hx : (a - 2).tmod 24 = x) : Calls Try.prog 44 #[.pointer (some ⟨b, 0, none⟩), v, .agg #[.int .u8 k, .int .i64 n, .int .u8 a, .int .i64 o, .int .i64 z]] w fun e w' => ∃ v' q' g' xs' st', e = .returned (.tuple #[v', .bool true]) ∧ Both W0 w' b g' N xs' st' v' q' xs' st' ∧ st' ≤ st + 1 ∧ (g' = g ∨ ∀ k, g' = some k → w.heap.size ≤ k) ∧ (q' = q ∨ ∀ k, q' = some k → w.heap.size ≤ k) ∧ Kept (Foot b g) w w' := by
  obtain ⟨ao, cap, rfl, -, -⟩ := h.rv.open
  have hfar := h.far
  have HF := Lib.hid hfar
  have hbl := h.ms.mem.lt
  have s0 : 0 ≤ st := h.2.2.2.2
  have hW := h.ms.B.size
  clear hfar
  have hqlt : ∀ k, q = some k → k < w.heap.size := h.q_lt
  have er := errAt_rng xs x
  go_enter Try.func44, Try.ntmps44
  go_wp2_with fail
  refine (Load_b (h.below (by go_grown)) x (by omega)).mono ?_
  rintro e w1 ⟨rfl, h1, hk1⟩
  have z1 : w.heap.size + 1 + 1 < w1.heap.size := by have := hk1.size; first | omega | (simp at this; omega)
  have z1_0 : w.heap.size < w1.heap.size := by omega
  have z1_1 : w.heap.size + 1 < w1.heap.size := by omega
  have K1 : Kept (Foot b g) w w1 := (keptF (by go_grown)).trans hk1
  have c1_0_0 : w1.cell? ⟨w.heap.size, 0, none⟩ = some (.int .i64 N) := (hk1.cell (p := ⟨w.heap.size, 0, none⟩) (by first | omega | (simp; omega) | (simp; done)) (HF.out _ (by simp; try omega))).trans (by go_simp)
  have c1_0_1 : w1.cell? ⟨w.heap.size, 1, none⟩ = some (.slice ao xs.length cap) := (hk1.cell (p := ⟨w.heap.size, 1, none⟩) (by first | omega | (simp; omega) | (simp; done)) (HF.out _ (by simp; try omega))).trans (by go_simp)
  have c1_0_2 : w1.cell? ⟨w.heap.size, 2, none⟩ = some (.int .i64 st) := (hk1.cell (p := ⟨w.heap.size, 2, none⟩) (by first | omega | (simp; omega) | (simp; done)) (HF.out _ (by simp; try omega))).trans (by go_simp)
  have c1_1_0 : w1.cell? ⟨w.heap.size + 1, 0, none⟩ = some (.int .u8 k) := (hk1.cell (p := ⟨w.heap.size + 1, 0, none⟩) (by first | omega | (simp; omega) | (simp; done)) (HF.out _ (by simp; try omega))).trans (by go_simp)
  have c1_1_1 : w1.cell? ⟨w.heap.size + 1, 1, none⟩ = some (.int .i64 n) := (hk1.cell (p := ⟨w.heap.size + 1, 1, none⟩) (by first | omega | (simp; omega) | (simp; done)) (HF.out _ (by simp; try omega))).trans (by go_simp)
  have c1_1_2 : w1.cell? ⟨w.heap.size + 1, 2, none⟩ = some (.int .u8 a) := (hk1.cell (p := ⟨w.heap.size + 1, 2, none⟩) (by first | omega | (simp; omega) | (simp; done)) (HF.out _ (by simp; try omega))).trans (by go_simp)
  have c1_1_3 : w1.cell? ⟨w.heap.size + 1, 3, none⟩ = some (.int .i64 o) := (hk1.cell (p := ⟨w.heap.size + 1, 3, none⟩) (by first | omega | (simp; omega) | (simp; done)) (HF.out _ (by simp; try omega))).trans (by go_simp)
  have c1_1_4 : w1.cell? ⟨w.heap.size + 1, 4, none⟩ = some (.int .i64 z) := (hk1.cell (p := ⟨w.heap.size + 1, 4, none⟩) (by first | omega | (simp; omega) | (simp; done)) (HF.out _ (by simp; try omega))).trans (by go_simp)
  have c1_2_0 : w1.cell? ⟨w.heap.size + 1 + 1, 0, none⟩ = some (.int .i64 0) := (hk1.cell (p := ⟨w.heap.size + 1 + 1, 0, none⟩) (by first | omega | (simp; omega) | (simp; done)) (HF.out _ (by simp; try omega))).trans (by go_simp)
  have f1_0 : w1.frozen? ⟨w.heap.size + 1 + 1, 0, none⟩ = false := (hk1.frozen (p := ⟨w.heap.size + 1 + 1, 0, none⟩) (by first | omega | (simp; omega) | (simp; done)) (HF.out _ (by simp; try omega))).trans (by go_simp)
  have c1_2_1 : w1.cell? ⟨w.heap.size + 1 + 1, 1, none⟩ = some (.slice none 0 0) := (hk1.cell (p := ⟨w.heap.size + 1 + 1, 1, none⟩) (by first | omega | (simp; omega) | (simp; done)) (HF.out _ (by simp; try omega))).trans (by go_simp)
  have f1_1 : w1.frozen? ⟨w.heap.size + 1 + 1, 1, none⟩ = false := (hk1.frozen (p := ⟨w.heap.size + 1 + 1, 1, none⟩) (by first | omega | (simp; omega) | (simp; done)) (HF.out _ (by simp; try omega))).trans (by go_simp)
  have c1_2_2 : w1.cell? ⟨w.heap.size + 1 + 1, 2, none⟩ = some (.int .i64 0) := (hk1.cell (p := ⟨w.heap.size + 1 + 1, 2, none⟩) (by first | omega | (simp; omega) | (simp; done)) (HF.out _ (by simp; try omega))).trans (by go_simp)
  have f1_2 : w1.frozen? ⟨w.heap.size + 1 + 1, 2, none⟩ = false := (hk1.frozen (p := ⟨w.heap.size + 1 + 1, 2, none⟩) (by first | omega | (simp; omega) | (simp; done)) (HF.out _ (by simp; try omega))).trans (by go_simp)
  clear hk1 h 
  go_wp2_with fail
  refine (rLoad_b h1 x (by omega)).mono ?_
  rintro e w2 ⟨v2, q2, rfl, h2, hq2, hb2⟩
  obtain ⟨ao2, cap2, rfl, -, -⟩ := h2.rv.open
  have z2 : w.heap.size + 1 + 1 < w2.heap.size := by have := hb2.size; omega
  have c2_0_0 : w2.cell? ⟨w.heap.size, 0, none⟩ = some (.int .i64 N) := (hb2.cell (p := ⟨w.heap.size, 0, none⟩) (by first | omega | (simp; omega) | (simp; done))).trans (by go_simp)
  have c2_0_1 : w2.cell? ⟨w.heap.size, 1, none⟩ = some (.slice ao xs.length cap) := (hb2.cell (p := ⟨w.heap.size, 1, none⟩) (by first | omega | (simp; omega) | (simp; done))).trans (by go_simp)
  have c2_0_2 : w2.cell? ⟨w.heap.size, 2, none⟩ = some (.int .i64 st) := (hb2.cell (p := ⟨w.heap.size, 2, none⟩) (by first | omega | (simp; omega) | (simp; done))).trans (by go_simp)
  have c2_1_0 : w2.cell? ⟨w.heap.size + 1, 0, none⟩ = some (.int .u8 k) := (hb2.cell (p := ⟨w.heap.size + 1, 0, none⟩) (by first | omega | (simp; omega) | (simp; done))).trans (by go_simp)
  have c2_1_1 : w2.cell? ⟨w.heap.size + 1, 1, none⟩ = some (.int .i64 n) := (hb2.cell (p := ⟨w.heap.size + 1, 1, none⟩) (by first | omega | (simp; omega) | (simp; done))).trans (by go_simp)
  have c2_1_2 : w2.cell? ⟨w.heap.size + 1, 2, none⟩ = some (.int .u8 a) := (hb2.cell (p := ⟨w.heap.size + 1, 2, none⟩) (by first | omega | (simp; omega) | (simp; done))).trans (by go_simp)
  have c2_1_3 : w2.cell? ⟨w.heap.size + 1, 3, none⟩ = some (.int .i64 o) := (hb2.cell (p := ⟨w.heap.size + 1, 3, none⟩) (by first | omega | (simp; omega) | (simp; done))).trans (by go_simp)
  have c2_1_4 : w2.cell? ⟨w.heap.size + 1, 4, none⟩ = some (.int .i64 z) := (hb2.cell (p := ⟨w.heap.size + 1, 4, none⟩) (by first | omega | (simp; omega) | (simp; done))).trans (by go_simp)
  have c2_2_0 : w2.cell? ⟨w.heap.size + 1 + 1, 0, none⟩ = some (.int .i64 0) := (hb2.cell (p := ⟨w.heap.size + 1 + 1, 0, none⟩) (by first | omega | (simp; omega) | (simp; done))).trans (by go_simp)
  have f2_0 : w2.frozen? ⟨w.heap.size + 1 + 1, 0, none⟩ = false := (hb2.frozen (p := ⟨w.heap.size + 1 + 1, 0, none⟩) (by first | omega | (simp; omega) | (simp; done))).trans (by go_simp)
  have c2_2_1 : w2.cell? ⟨w.heap.size + 1 + 1, 1, none⟩ = some (.slice none 0 0) := (hb2.cell (p := ⟨w.heap.size + 1 + 1, 1, none⟩) (by first | omega | (simp; omega) | (simp; done))).trans (by go_simp)
  have f2_1 : w2.frozen? ⟨w.heap.size + 1 + 1, 1, none⟩ = false := (hb2.frozen (p := ⟨w.heap.size + 1 + 1, 1, none⟩) (by first | omega | (simp; omega) | (simp; done))).trans (by go_simp)
  have c2_2_2 : w2.cell? ⟨w.heap.size + 1 + 1, 2, none⟩ = some (.int .i64 0) := (hb2.cell (p := ⟨w.heap.size + 1 + 1, 2, none⟩) (by first | omega | (simp; omega) | (simp; done))).trans (by go_simp)
  have f2_2 : w2.frozen? ⟨w.heap.size + 1 + 1, 2, none⟩ = false := (hb2.frozen (p := ⟨w.heap.size + 1 + 1, 2, none⟩) (by first | omega | (simp; omega) | (simp; done))).trans (by go_simp)
  have hgr : ∀ k, g = some k → k ≠ w.heap.size + 1 + 1 := fun k e => by
    exact fun e2 => HF.out k (by omega) (.inr e.symm)
  have hqr : ∀ k, q2 = some k → k ≠ w.heap.size + 1 + 1 := fun k e => by
    rcases hq2 with rfl | hq2
    · have := hqlt k e; omega
    · have := hq2 k e; omega
  have hgg : g = g ∨ ∀ k, g = some k → w.heap.size ≤ k := by
    exact .inl rfl
  have hqq : q2 = q ∨ ∀ k, q2 = some k → w.heap.size ≤ k := by
    rcases hq2 with rfl | hq2
    · exact .inl rfl
    · exact .inr (fun k e => by have := hq2 k e; omega)
  have HX := Lib.hid (And.intro hgr (And.intro hqr (And.intro hgg (And.intro h2 (And.intro K1 (And.intro hb2 hqq))))))
  clear hgr hqr hgg hqq h2 hb2 h1 K1 hq2  c1_0_0 c1_0_1 c1_0_2 c1_1_0 c1_1_1 c1_1_2 c1_1_3 c1_1_4 c1_2_0 f1_0 c1_2_1 f1_1 c1_2_2 f1_2
  go_wp2
  refine bodyPost_ret (v := .tuple #[.agg #[.int .i64 N, .slice ao2 (xs).length cap2, .int .i64 (st + cntAt xs x)], .bool true]) (by simp [results, Try.results44, go_sem, c2_2_0, c2_2_1, c2_2_2, z2]) rfl ⟨_, q2, g, xs, st + cntAt xs x, rfl, ?_, by have := cntAt_rng xs x; omega, .inl rfl, HX.out.2.2.2.2.2.2, ?_⟩
  · exact (HX.out.2.2.2.1.set3 (w.heap.size + 1 + 1) (by omega) (by omega) HX.out.1 HX.out.2.1 _ _ _).below (by go_grown)
  · exact (((HX.out.2.2.2.2.1.trans (keptF HX.out.2.2.2.2.2.1)).step (kept_set3 _ (w.heap.size + 1 + 1) _ _ _) (fun i hi (e : i = w.heap.size + 1 + 1) => by omega))).alloc _

set_option maxRecDepth 100000 in
set_option maxHeartbeats 2000000 in
theorem step2_2 (W0 w : World) (b : Nat) (g : Option Nat) (N st : Int) (xs : List Int) (v : Value) (q : Option Nat) (h : Both W0 w b g N xs st v q xs st) (s1 : st < 100000) (k n a o z : Int) (k0 : 0 ≤ k) (k1 : k ≤ 255) (a1 : 0 ≤ a) (a2 : a ≤ 255) (hk : k % 5 = 2) (x : Int) (hx : (a - 2).tmod 24 = x) : Calls Try.prog 44 #[.pointer (some ⟨b, 0, none⟩), v, .agg #[.int .u8 k, .int .i64 n, .int .u8 a, .int .i64 o, .int .i64 z]] w fun e w' => ∃ v' q' g' xs' st', e = .returned (.tuple #[v', .bool true]) ∧ Both W0 w' b g' N xs' st' v' q' xs' st' ∧ st' ≤ st + 1 ∧ (g' = g ∨ ∀ k, g' = some k → w.heap.size ≤ k) ∧ (q' = q ∨ ∀ k, q' = some k → w.heap.size ≤ k) ∧ Kept (Foot b g) w w' := by
  obtain ⟨ao, cap, rfl, -, -⟩ := h.rv.open
  have hfar := h.far
  have HF := Lib.hid hfar
  have hbl := h.ms.mem.lt
  have s0 : 0 ≤ st := h.2.2.2.2
  have hW := h.ms.B.size
  clear hfar
  have hqlt : ∀ k, q = some k → k < w.heap.size := h.q_lt
  have er := errAt_rng xs x
  go_enter Try.func44, Try.ntmps44
  go_wp2_with fail
  refine (Store_b (h.below (by go_grown)) x z (by omega)).mono ?_
  rintro e w1 ⟨rfl, h1, hk1⟩
  have z1 : w.heap.size + 1 + 1 < w1.heap.size := by have := hk1.size; first | omega | (simp at this; omega)
  have z1_0 : w.heap.size < w1.heap.size := by omega
  have z1_1 : w.heap.size + 1 < w1.heap.size := by omega
  have K1 : Kept (Foot b g) w w1 := (keptF (by go_grown)).trans hk1
  have c1_0_0 : w1.cell? ⟨w.heap.size, 0, none⟩ = some (.int .i64 N) := (hk1.cell (p := ⟨w.heap.size, 0, none⟩) (by first | omega | (simp; omega) | (simp; done)) (HF.out _ (by simp; try omega))).trans (by go_simp)
  have c1_0_1 : w1.cell? ⟨w.heap.size, 1, none⟩ = some (.slice ao xs.length cap) := (hk1.cell (p := ⟨w.heap.size, 1, none⟩) (by first | omega | (simp; omega) | (simp; done)) (HF.out _ (by simp; try omega))).trans (by go_simp)
  have c1_0_2 : w1.cell? ⟨w.heap.size, 2, none⟩ = some (.int .i64 st) := (hk1.cell (p := ⟨w.heap.size, 2, none⟩) (by first | omega | (simp; omega) | (simp; done)) (HF.out _ (by simp; try omega))).trans (by go_simp)
  have c1_1_0 : w1.cell? ⟨w.heap.size + 1, 0, none⟩ = some (.int .u8 k) := (hk1.cell (p := ⟨w.heap.size + 1, 0, none⟩) (by first | omega | (simp; omega) | (simp; done)) (HF.out _ (by simp; try omega))).trans (by go_simp)
  have c1_1_1 : w1.cell? ⟨w.heap.size + 1, 1, none⟩ = some (.int .i64 n) := (hk1.cell (p := ⟨w.heap.size + 1, 1, none⟩) (by first | omega | (simp; omega) | (simp; done)) (HF.out _ (by simp; try omega))).trans (by go_simp)
  have c1_1_2 : w1.cell? ⟨w.heap.size + 1, 2, none⟩ = some (.int .u8 a) := (hk1.cell (p := ⟨w.heap.size + 1, 2, none⟩) (by first | omega | (simp; omega) | (simp; done)) (HF.out _ (by simp; try omega))).trans (by go_simp)
  have c1_1_3 : w1.cell? ⟨w.heap.size + 1, 3, none⟩ = some (.int .i64 o) := (hk1.cell (p := ⟨w.heap.size + 1, 3, none⟩) (by first | omega | (simp; omega) | (simp; done)) (HF.out _ (by simp; try omega))).trans (by go_simp)
  have c1_1_4 : w1.cell? ⟨w.heap.size + 1, 4, none⟩ = some (.int .i64 z) := (hk1.cell (p := ⟨w.heap.size + 1, 4, none⟩) (by first | omega | (simp; omega) | (simp; done)) (HF.out _ (by simp; try omega))).trans (by go_simp)
  have c1_2_0 : w1.cell? ⟨w.heap.size + 1 + 1, 0, none⟩ = some (.int .i64 0) := (hk1.cell (p := ⟨w.heap.size + 1 + 1, 0, none⟩) (by first | omega | (simp; omega) | (simp; done)) (HF.out _ (by simp; try omega))).trans (by go_simp)
  have f1_0 : w1.frozen? ⟨w.heap.size + 1 + 1, 0, none⟩ = false := (hk1.frozen (p := ⟨w.heap.size + 1 + 1, 0, none⟩) (by first | omega | (simp; omega) | (simp; done)) (HF.out _ (by simp; try omega))).trans (by go_simp)
  have c1_2_1 : w1.cell? ⟨w.heap.size + 1 + 1, 1, none⟩ = some (.slice none 0 0) := (hk1.cell (p := ⟨w.heap.size + 1 + 1, 1, none⟩) (by first | omega | (simp; omega) | (simp; done)) (HF.out _ (by simp; try omega))).trans (by go_simp)
  have f1_1 : w1.frozen? ⟨w.heap.size + 1 + 1, 1, none⟩ = false := (hk1.frozen (p := ⟨w.heap.size + 1 + 1, 1, none⟩) (by first | omega | (simp; omega) | (simp; done)) (HF.out _ (by simp; try omega))).trans (by go_simp)
  have c1_2_2 : w1.cell? ⟨w.heap.size + 1 + 1, 2, none⟩ = some (.int .i64 0) := (hk1.cell (p := ⟨w.heap.size + 1 + 1, 2, none⟩) (by first | omega | (simp; omega) | (simp; done)) (HF.out _ (by simp; try omega))).trans (by go_simp)
  have f1_2 : w1.frozen? ⟨w.heap.size + 1 + 1, 2, none⟩ = false := (hk1.frozen (p := ⟨w.heap.size + 1 + 1, 2, none⟩) (by first | omega | (simp; omega) | (simp; done)) (HF.out _ (by simp; try omega))).trans (by go_simp)
  clear hk1 h 
  go_wp2_with fail
  refine (rStore_b h1 x z (by omega)).mono ?_
  rintro e w2 ⟨v2, q2, rfl, h2, hq2, hb2⟩
  obtain ⟨ao2, cap2, rfl, -, -⟩ := h2.rv.open
  have z2 : w.heap.size + 1 + 1 < w2.heap.size := by have := hb2.size; omega
  have c2_0_0 : w2.cell? ⟨w.heap.size, 0, none⟩ = some (.int .i64 N) := (hb2.cell (p := ⟨w.heap.size, 0, none⟩) (by first | omega | (simp; omega) | (simp; done))).trans (by go_simp)
  have c2_0_1 : w2.cell? ⟨w.heap.size, 1, none⟩ = some (.slice ao xs.length cap) := (hb2.cell (p := ⟨w.heap.size, 1, none⟩) (by first | omega | (simp; omega) | (simp; done))).trans (by go_simp)
  have c2_0_2 : w2.cell? ⟨w.heap.size, 2, none⟩ = some (.int .i64 st) := (hb2.cell (p := ⟨w.heap.size, 2, none⟩) (by first | omega | (simp; omega) | (simp; done))).trans (by go_simp)
  have c2_1_0 : w2.cell? ⟨w.heap.size + 1, 0, none⟩ = some (.int .u8 k) := (hb2.cell (p := ⟨w.heap.size + 1, 0, none⟩) (by first | omega | (simp; omega) | (simp; done))).trans (by go_simp)
  have c2_1_1 : w2.cell? ⟨w.heap.size + 1, 1, none⟩ = some (.int .i64 n) := (hb2.cell (p := ⟨w.heap.size + 1, 1, none⟩) (by first | omega | (simp; omega) | (simp; done))).trans (by go_simp)
  have c2_1_2 : w2.cell? ⟨w.heap.size + 1, 2, none⟩ = some (.int .u8 a) := (hb2.cell (p := ⟨w.heap.size + 1, 2, none⟩) (by first | omega | (simp; omega) | (simp; done))).trans (by go_simp)
  have c2_1_3 : w2.cell? ⟨w.heap.size + 1, 3, none⟩ = some (.int .i64 o) := (hb2.cell (p := ⟨w.heap.size + 1, 3, none⟩) (by first | omega | (simp; omega) | (simp; done))).trans (by go_simp)
  have c2_1_4 : w2.cell? ⟨w.heap.size + 1, 4, none⟩ = some (.int .i64 z) := (hb2.cell (p := ⟨w.heap.size + 1, 4, none⟩) (by first | omega | (simp; omega) | (simp; done))).trans (by go_simp)
  have c2_2_0 : w2.cell? ⟨w.heap.size + 1 + 1, 0, none⟩ = some (.int .i64 0) := (hb2.cell (p := ⟨w.heap.size + 1 + 1, 0, none⟩) (by first | omega | (simp; omega) | (simp; done))).trans (by go_simp)
  have f2_0 : w2.frozen? ⟨w.heap.size + 1 + 1, 0, none⟩ = false := (hb2.frozen (p := ⟨w.heap.size + 1 + 1, 0, none⟩) (by first | omega | (simp; omega) | (simp; done))).trans (by go_simp)
  have c2_2_1 : w2.cell? ⟨w.heap.size + 1 + 1, 1, none⟩ = some (.slice none 0 0) := (hb2.cell (p := ⟨w.heap.size + 1 + 1, 1, none⟩) (by first | omega | (simp; omega) | (simp; done))).trans (by go_simp)
  have f2_1 : w2.frozen? ⟨w.heap.size + 1 + 1, 1, none⟩ = false := (hb2.frozen (p := ⟨w.heap.size + 1 + 1, 1, none⟩) (by first | omega | (simp; omega) | (simp; done))).trans (by go_simp)
  have c2_2_2 : w2.cell? ⟨w.heap.size + 1 + 1, 2, none⟩ = some (.int .i64 0) := (hb2.cell (p := ⟨w.heap.size + 1 + 1, 2, none⟩) (by first | omega | (simp; omega) | (simp; done))).trans (by go_simp)
  have f2_2 : w2.frozen? ⟨w.heap.size + 1 + 1, 2, none⟩ = false := (hb2.frozen (p := ⟨w.heap.size + 1 + 1, 2, none⟩) (by first | omega | (simp; omega) | (simp; done))).trans (by go_simp)
  have hgr : ∀ k, g = some k → k ≠ w.heap.size + 1 + 1 := fun k e => by
    exact fun e2 => HF.out k (by omega) (.inr e.symm)
  have hqr : ∀ k, q2 = some k → k ≠ w.heap.size + 1 + 1 := fun k e => by
    rcases hq2 with rfl | hq2
    · have := hqlt k e; omega
    · have := hq2 k e; omega
  have hgg : g = g ∨ ∀ k, g = some k → w.heap.size ≤ k := by
    exact .inl rfl
  have hqq : q2 = q ∨ ∀ k, q2 = some k → w.heap.size ≤ k := by
    rcases hq2 with rfl | hq2
    · exact .inl rfl
    · exact .inr (fun k e => by have := hq2 k e; omega)
  have HX := Lib.hid (And.intro hgr (And.intro hqr (And.intro hgg (And.intro h2 (And.intro K1 (And.intro hb2 hqq))))))
  clear hgr hqr hgg hqq h2 hb2 h1 K1 hq2  c1_0_0 c1_0_1 c1_0_2 c1_1_0 c1_1_1 c1_1_2 c1_1_3 c1_1_4 c1_2_0 f1_0 c1_2_1 f1_1 c1_2_2 f1_2
  go_wp2
  refine bodyPost_ret (v := .tuple #[.agg #[.int .i64 N, .slice ao2 (cellSet xs x z).length cap2, .int .i64 (st + cntAt xs x)], .bool true]) (by simp [results, Try.results44, go_sem, c2_2_0, c2_2_1, c2_2_2, z2]) rfl ⟨_, q2, g, cellSet xs x z, st + cntAt xs x, rfl, ?_, by have := cntAt_rng xs x; omega, .inl rfl, HX.out.2.2.2.2.2.2, ?_⟩
  · exact (HX.out.2.2.2.1.set3 (w.heap.size + 1 + 1) (by omega) (by omega) HX.out.1 HX.out.2.1 _ _ _).below (by go_grown)
  · exact (((HX.out.2.2.2.2.1.trans (keptF HX.out.2.2.2.2.2.1)).step (kept_set3 _ (w.heap.size + 1 + 1) _ _ _) (fun i hi (e : i = w.heap.size + 1 + 1) => by omega))).alloc _

set_option maxRecDepth 100000 in
set_option maxHeartbeats 2000000 in
theorem step2_3b (W0 w : World) (b : Nat) (g : Option Nat) (N st : Int) (xs : List Int) (v : Value) (q : Option Nat) (h : Both W0 w b g N xs st v q xs st) (s1 : st < 100000) (k n a o z : Int) (k0 : 0 ≤ k) (k1 : k ≤ 255) (a1 : 0 ≤ a) (a2 : a ≤ 255) (hk : k % 5 = 3) (x : Int) (hx : (a - 2).tmod 24 = x) (hz : (z.tmod 2 == 0) = false) : Calls Try.prog 44 #[.pointer (some ⟨b, 0, none⟩), v, .agg #[.int .u8 k, .int .i64 n, .int .u8 a, .int .i64 o, .int .i64 z]] w fun e w' => ∃ v' q' g' xs' st', e = .returned (.tuple #[v', .bool true]) ∧ Both W0 w' b g' N xs' st' v' q' xs' st' ∧ st' ≤ st + 1 ∧ (g' = g ∨ ∀ k, g' = some k → w.heap.size ≤ k) ∧ (q' = q ∨ ∀ k, q' = some k → w.heap.size ≤ k) ∧ Kept (Foot b g) w w' := by
  obtain ⟨ao, cap, rfl, -, -⟩ := h.rv.open
  have hfar := h.far
  have HF := Lib.hid hfar
  have hbl := h.ms.mem.lt
  have s0 : 0 ≤ st := h.2.2.2.2
  have hW := h.ms.B.size
  clear hfar
  have hqlt : ∀ k, q = some k → k < w.heap.size := h.q_lt
  have er := errAt_rng xs x
  go_enter Try.func44, Try.ntmps44
  go_wp2_with fail
  refine (Swap_b (h.below (by go_grown)) x o z (by omega)).mono ?_
  rintro e w1 ⟨rfl, h1, hk1⟩
  have z1 : w.heap.size + 1 + 1 < w1.heap.size := by have := hk1.size; first | omega | (simp at this; omega)
  have z1_0 : w.heap.size < w1.heap.size := by omega
  have z1_1 : w.heap.size + 1 < w1.heap.size := by omega
  have K1 : Kept (Foot b g) w w1 := (keptF (by go_grown)).trans hk1
  have c1_0_0 : w1.cell? ⟨w.heap.size, 0, none⟩ = some (.int .i64 N) := (hk1.cell (p := ⟨w.heap.size, 0, none⟩) (by first | omega | (simp; omega) | (simp; done)) (HF.out _ (by simp; try omega))).trans (by go_simp)
  have c1_0_1 : w1.cell? ⟨w.heap.size, 1, none⟩ = some (.slice ao xs.length cap) := (hk1.cell (p := ⟨w.heap.size, 1, none⟩) (by first | omega | (simp; omega) | (simp; done)) (HF.out _ (by simp; try omega))).trans (by go_simp)
  have c1_0_2 : w1.cell? ⟨w.heap.size, 2, none⟩ = some (.int .i64 st) := (hk1.cell (p := ⟨w.heap.size, 2, none⟩) (by first | omega | (simp; omega) | (simp; done)) (HF.out _ (by simp; try omega))).trans (by go_simp)
  have c1_1_0 : w1.cell? ⟨w.heap.size + 1, 0, none⟩ = some (.int .u8 k) := (hk1.cell (p := ⟨w.heap.size + 1, 0, none⟩) (by first | omega | (simp; omega) | (simp; done)) (HF.out _ (by simp; try omega))).trans (by go_simp)
  have c1_1_1 : w1.cell? ⟨w.heap.size + 1, 1, none⟩ = some (.int .i64 n) := (hk1.cell (p := ⟨w.heap.size + 1, 1, none⟩) (by first | omega | (simp; omega) | (simp; done)) (HF.out _ (by simp; try omega))).trans (by go_simp)
  have c1_1_2 : w1.cell? ⟨w.heap.size + 1, 2, none⟩ = some (.int .u8 a) := (hk1.cell (p := ⟨w.heap.size + 1, 2, none⟩) (by first | omega | (simp; omega) | (simp; done)) (HF.out _ (by simp; try omega))).trans (by go_simp)
  have c1_1_3 : w1.cell? ⟨w.heap.size + 1, 3, none⟩ = some (.int .i64 o) := (hk1.cell (p := ⟨w.heap.size + 1, 3, none⟩) (by first | omega | (simp; omega) | (simp; done)) (HF.out _ (by simp; try omega))).trans (by go_simp)
  have c1_1_4 : w1.cell? ⟨w.heap.size + 1, 4, none⟩ = some (.int .i64 z) := (hk1.cell (p := ⟨w.heap.size + 1, 4, none⟩) (by first | omega | (simp; omega) | (simp; done)) (HF.out _ (by simp; try omega))).trans (by go_simp)
  have c1_2_0 : w1.cell? ⟨w.heap.size + 1 + 1, 0, none⟩ = some (.int .i64 0) := (hk1.cell (p := ⟨w.heap.size + 1 + 1, 0, none⟩) (by first | omega | (simp; omega) | (simp; done)) (HF.out _ (by simp; try omega))).trans (by go_simp)
  have f1_0 : w1.frozen? ⟨w.heap.size + 1 + 1, 0, none⟩ = false := (hk1.frozen (p := ⟨w.heap.size + 1 + 1, 0, none⟩) (by first | omega | (simp; omega) | (simp; done)) (HF.out _ (by simp; try omega))).trans (by go_simp)
  have c1_2_1 : w1.cell? ⟨w.heap.size + 1 + 1, 1, none⟩ = some (.slice none 0 0) := (hk1.cell (p := ⟨w.heap.size + 1 + 1, 1, none⟩) (by first | omega | (simp; omega) | (simp; done)) (HF.out _ (by simp; try omega))).trans (by go_simp)
  have f1_1 : w1.frozen? ⟨w.heap.size + 1 + 1, 1, none⟩ = false := (hk1.frozen (p := ⟨w.heap.size + 1 + 1, 1, none⟩) (by first | omega | (simp; omega) | (simp; done)) (HF.out _ (by simp; try omega))).trans (by go_simp)
  have c1_2_2 : w1.cell? ⟨w.heap.size + 1 + 1, 2, none⟩ = some (.int .i64 0) := (hk1.cell (p := ⟨w.heap.size + 1 + 1, 2, none⟩) (by first | omega | (simp; omega) | (simp; done)) (HF.out _ (by simp; try omega))).trans (by go_simp)
  have f1_2 : w1.frozen? ⟨w.heap.size + 1 + 1, 2, none⟩ = false := (hk1.frozen (p := ⟨w.heap.size + 1 + 1, 2, none⟩) (by first | omega | (simp; omega) | (simp; done)) (HF.out _ (by simp; try omega))).trans (by go_simp)
  clear hk1 h 
  go_wp2_with fail
  refine (rSwap_b h1 x o z (by omega)).mono ?_
  rintro e w2 ⟨v2, q2, rfl, h2, hq2, hb2⟩
  obtain ⟨ao2, cap2, rfl, -, -⟩ := h2.rv.open
  have z2 : w.heap.size + 1 + 1 < w2.heap.size := by have := hb2.size; omega
  have c2_0_0 : w2.cell? ⟨w.heap.size, 0, none⟩ = some (.int .i64 N) := (hb2.cell (p := ⟨w.heap.size, 0, none⟩) (by first | omega | (simp; omega) | (simp; done))).trans (by go_simp)
  have c2_0_1 : w2.cell? ⟨w.heap.size, 1, none⟩ = some (.slice ao xs.length cap) := (hb2.cell (p := ⟨w.heap.size, 1, none⟩) (by first | omega | (simp; omega) | (simp; done))).trans (by go_simp)
  have c2_0_2 : w2.cell? ⟨w.heap.size, 2, none⟩ = some (.int .i64 st) := (hb2.cell (p := ⟨w.heap.size, 2, none⟩) (by first | omega | (simp; omega) | (simp; done))).trans (by go_simp)
  have c2_1_0 : w2.cell? ⟨w.heap.size + 1, 0, none⟩ = some (.int .u8 k) := (hb2.cell (p := ⟨w.heap.size + 1, 0, none⟩) (by first | omega | (simp; omega) | (simp; done))).trans (by go_simp)
  have c2_1_1 : w2.cell? ⟨w.heap.size + 1, 1, none⟩ = some (.int .i64 n) := (hb2.cell (p := ⟨w.heap.size + 1, 1, none⟩) (by first | omega | (simp; omega) | (simp; done))).trans (by go_simp)
  have c2_1_2 : w2.cell? ⟨w.heap.size + 1, 2, none⟩ = some (.int .u8 a) := (hb2.cell (p := ⟨w.heap.size + 1, 2, none⟩) (by first | omega | (simp; omega) | (simp; done))).trans (by go_simp)
  have c2_1_3 : w2.cell? ⟨w.heap.size + 1, 3, none⟩ = some (.int .i64 o) := (hb2.cell (p := ⟨w.heap.size + 1, 3, none⟩) (by first | omega | (simp; omega) | (simp; done))).trans (by go_simp)
  have c2_1_4 : w2.cell? ⟨w.heap.size + 1, 4, none⟩ = some (.int .i64 z) := (hb2.cell (p := ⟨w.heap.size + 1, 4, none⟩) (by first | omega | (simp; omega) | (simp; done))).trans (by go_simp)
  have c2_2_0 : w2.cell? ⟨w.heap.size + 1 + 1, 0, none⟩ = some (.int .i64 0) := (hb2.cell (p := ⟨w.heap.size + 1 + 1, 0, none⟩) (by first | omega | (simp; omega) | (simp; done))).trans (by go_simp)
  have f2_0 : w2.frozen? ⟨w.heap.size + 1 + 1, 0, none⟩ = false := (hb2.frozen (p := ⟨w.heap.size + 1 + 1, 0, none⟩) (by first | omega | (simp; omega) | (simp; done))).trans (by go_simp)
  have c2_2_1 : w2.cell? ⟨w.heap.size + 1 + 1, 1, none⟩ = some (.slice none 0 0) := (hb2.cell (p := ⟨w.heap.size + 1 + 1, 1, none⟩) (by first | omega | (simp; omega) | (simp; done))).trans (by go_simp)
  have f2_1 : w2.frozen? ⟨w.heap.size + 1 + 1, 1, none⟩ = false := (hb2.frozen (p := ⟨w.heap.size + 1 + 1, 1, none⟩) (by first | omega | (simp; omega) | (simp; done))).trans (by go_simp)
  have c2_2_2 : w2.cell? ⟨w.heap.size + 1 + 1, 2, none⟩ = some (.int .i64 0) := (hb2.cell (p := ⟨w.heap.size + 1 + 1, 2, none⟩) (by first | omega | (simp; omega) | (simp; done))).trans (by go_simp)
  have f2_2 : w2.frozen? ⟨w.heap.size + 1 + 1, 2, none⟩ = false := (hb2.frozen (p := ⟨w.heap.size + 1 + 1, 2, none⟩) (by first | omega | (simp; omega) | (simp; done))).trans (by go_simp)
  have hgr : ∀ k, g = some k → k ≠ w.heap.size + 1 + 1 := fun k e => by
    exact fun e2 => HF.out k (by omega) (.inr e.symm)
  have hqr : ∀ k, q2 = some k → k ≠ w.heap.size + 1 + 1 := fun k e => by
    rcases hq2 with rfl | hq2
    · have := hqlt k e; omega
    · have := hq2 k e; omega
  have hgg : g = g ∨ ∀ k, g = some k → w.heap.size ≤ k := by
    exact .inl rfl
  have hqq : q2 = q ∨ ∀ k, q2 = some k → w.heap.size ≤ k := by
    rcases hq2 with rfl | hq2
    · exact .inl rfl
    · exact .inr (fun k e => by have := hq2 k e; omega)
  have HX := Lib.hid (And.intro hgr (And.intro hqr (And.intro hgg (And.intro h2 (And.intro K1 (And.intro hb2 hqq))))))
  clear hgr hqr hgg hqq h2 hb2 h1 K1 hq2  c1_0_0 c1_0_1 c1_0_2 c1_1_0 c1_1_1 c1_1_2 c1_1_3 c1_1_4 c1_2_0 f1_0 c1_2_1 f1_1 c1_2_2 f1_2
  go_wp2
  refine bodyPost_ret (v := .tuple #[.agg #[.int .i64 N, .slice ao2 (cellSwap xs x o z).length cap2, .int .i64 (st + cntAt xs x)], .bool true]) (by simp [results, Try.results44, go_sem, c2_2_0, c2_2_1, c2_2_2, z2]) rfl ⟨_, q2, g, cellSwap xs x o z, st + cntAt xs x, rfl, ?_, by have := cntAt_rng xs x; omega, .inl rfl, HX.out.2.2.2.2.2.2, ?_⟩
  · exact (HX.out.2.2.2.1.set3 (w.heap.size + 1 + 1) (by omega) (by omega) HX.out.1 HX.out.2.1 _ _ _).below (by go_grown)
  · exact (((HX.out.2.2.2.2.1.trans (keptF HX.out.2.2.2.2.2.1)).step (kept_set3 _ (w.heap.size + 1 + 1) _ _ _) (fun i hi (e : i = w.heap.size + 1 + 1) => by omega))).alloc _

set_option maxRecDepth 100000 in
set_option maxHeartbeats 2000000 in
theorem step2_3a (W0 w : World) (b : Nat) (g : Option Nat) (N st : Int) (xs : List Int) (v : Value) (q : Option Nat) (h : Both W0 w b g N xs st v q xs st) (s1 : st < 100000) (k n a o z : Int) (k0 : 0 ≤ k) (k1 : k ≤ 255) (a1 : 0 ≤ a) (a2 : a ≤ 255) (hk : k % 5 = 3) (x : Int) (hx : (a - 2).tmod 24 = x) (hz : (z.tmod 2 == 0) = true) : Calls Try.prog 44 #[.pointer (some ⟨b, 0, none⟩), v, .agg #[.int .u8 k, .int .i64 n, .int .u8 a, .int .i64 o, .int .i64 z]] w fun e w' => ∃ v' q' g' xs' st', e = .returned (.tuple #[v', .bool true]) ∧ Both W0 w' b g' N xs' st' v' q' xs' st' ∧ st' ≤ st + 1 ∧ (g' = g ∨ ∀ k, g' = some k → w.heap.size ≤ k) ∧ (q' = q ∨ ∀ k, q' = some k → w.heap.size ≤ k) ∧ Kept (Foot b g) w w' := by
  obtain ⟨ao, cap, rfl, -, -⟩ := h.rv.open
  have hfar := h.far
  have HF := Lib.hid hfar
  have hbl := h.ms.mem.lt
  have s0 : 0 ≤ st := h.2.2.2.2
  have hW := h.ms.B.size
  clear hfar
  have hqlt : ∀ k, q = some k → k < w.heap.size := h.q_lt
  have er := errAt_rng xs x
  go_enter Try.func44, Try.ntmps44
  go_wp2_with fail
  refine (rAt_f (h.below (by go_grown)).rv x).mono ?_
  rintro e w0 ⟨rfl, hb0⟩
  have z0 : w.heap.size + 1 + 1 < w0.heap.size := by have := hb0.size; first | omega | (simp at this; omega)
  have B0 : Below w.heap.size w w0 := Below.trans (by go_grown) (hb0.mono (by simp; omega))
  have h0 := h.below B0
  have c0_0_0 : w0.cell? ⟨w.heap.size, 0, none⟩ = some (.int .i64 N) := (hb0.cell (p := ⟨w.heap.size, 0, none⟩) (by first | omega | (simp; omega) | (simp; done))).trans (by go_simp)
  have c0_0_1 : w0.cell? ⟨w.heap.size, 1, none⟩ = some (.slice ao xs.length cap) := (hb0.cell (p := ⟨w.heap.size, 1, none⟩) (by first | omega | (simp; omega) | (simp; done))).trans (by go_simp)
  have c0_0_2 : w0.cell? ⟨w.heap.size, 2, none⟩ = some (.int .i64 st) := (hb0.cell (p := ⟨w.heap.size, 2, none⟩) (by first | omega | (simp; omega) | (simp; done))).trans (by go_simp)
  have c0_1_0 : w0.cell? ⟨w.heap.size + 1, 0, none⟩ = some (.int .u8 k) := (hb0.cell (p := ⟨w.heap.size + 1, 0, none⟩) (by first | omega | (simp; omega) | (simp; done))).trans (by go_simp)
  have c0_1_1 : w0.cell? ⟨w.heap.size + 1, 1, none⟩ = some (.int .i64 n) := (hb0.cell (p := ⟨w.heap.size + 1, 1, none⟩) (by first | omega | (simp; omega) | (simp; done))).trans (by go_simp)
  have c0_1_2 : w0.cell? ⟨w.heap.size + 1, 2, none⟩ = some (.int .u8 a) := (hb0.cell (p := ⟨w.heap.size + 1, 2, none⟩) (by first | omega | (simp; omega) | (simp; done))).trans (by go_simp)
  have c0_1_3 : w0.cell? ⟨w.heap.size + 1, 3, none⟩ = some (.int .i64 o) := (hb0.cell (p := ⟨w.heap.size + 1, 3, none⟩) (by first | omega | (simp; omega) | (simp; done))).trans (by go_simp)
  have c0_1_4 : w0.cell? ⟨w.heap.size + 1, 4, none⟩ = some (.int .i64 z) := (hb0.cell (p := ⟨w.heap.size + 1, 4, none⟩) (by first | omega | (simp; omega) | (simp; done))).trans (by go_simp)
  have c0_2_0 : w0.cell? ⟨w.heap.size + 1 + 1, 0, none⟩ = some (.int .i64 0) := (hb0.cell (p := ⟨w.heap.size + 1 + 1, 0, none⟩) (by first | omega | (simp; omega) | (simp; done))).trans (by go_simp)
  have f0_0 : w0.frozen? ⟨w.heap.size + 1 + 1, 0, none⟩ = false := (hb0.frozen (p := ⟨w.heap.size + 1 + 1, 0, none⟩) (by first | omega | (simp; omega) | (simp; done))).trans (by go_simp)
  have c0_2_1 : w0.cell? ⟨w.heap.size + 1 + 1, 1, none⟩ = some (.slice none 0 0) := (hb0.cell (p := ⟨w.heap.size + 1 + 1, 1, none⟩) (by first | omega | (simp; omega) | (simp; done))).trans (by go_simp)
  have f0_1 : w0.frozen? ⟨w.heap.size + 1 + 1, 1, none⟩ = false := (hb0.frozen (p := ⟨w.heap.size + 1 + 1, 1, none⟩) (by first | omega | (simp; omega) | (simp; done))).trans (by go_simp)
  have c0_2_2 : w0.cell? ⟨w.heap.size + 1 + 1, 2, none⟩ = some (.int .i64 0) := (hb0.cell (p := ⟨w.heap.size + 1 + 1, 2, none⟩) (by first | omega | (simp; omega) | (simp; done))).trans (by go_simp)
  have f0_2 : w0.frozen? ⟨w.heap.size + 1 + 1, 2, none⟩ = false := (hb0.frozen (p := ⟨w.heap.size + 1 + 1, 2, none⟩) (by first | omega | (simp; omega) | (simp; done))).trans (by go_simp)
  clear hb0
  go_wp2_with fail
  refine (Swap_b h0 x (cellAt xs x) z (by omega)).mono ?_
  rintro e w1 ⟨rfl, h1, hk1⟩
  have z1 : w.heap.size + 1 + 1 < w1.heap.size := by have := hk1.size; first | omega | (simp at this; omega)
  have z1_0 : w.heap.size < w1.heap.size := by omega
  have z1_1 : w.heap.size + 1 < w1.heap.size := by omega
  have K1 : Kept (Foot b g) w w1 := (keptF B0).trans hk1
  have c1_0_0 : w1.cell? ⟨w.heap.size, 0, none⟩ = some (.int .i64 N) := (hk1.cell (p := ⟨w.heap.size, 0, none⟩) (by first | omega | (simp; omega) | (simp; done)) (HF.out _ (by simp; try omega))).trans (by go_simp)
  have c1_0_1 : w1.cell? ⟨w.heap.size, 1, none⟩ = some (.slice ao xs.length cap) := (hk1.cell (p := ⟨w.heap.size, 1, none⟩) (by first | omega | (simp; omega) | (simp; done)) (HF.out _ (by simp; try omega))).trans (by go_simp)
  have c1_0_2 : w1.cell? ⟨w.heap.size, 2, none⟩ = some (.int .i64 st) := (hk1.cell (p := ⟨w.heap.size, 2, none⟩) (by first | omega | (simp; omega) | (simp; done)) (HF.out _ (by simp; try omega))).trans (by go_simp)
  have c1_1_0 : w1.cell? ⟨w.heap.size + 1, 0, none⟩ = some (.int .u8 k) := (hk1.cell (p := ⟨w.heap.size + 1, 0, none⟩) (by first | omega | (simp; omega) | (simp; done)) (HF.out _ (by simp; try omega))).trans (by go_simp)
  have c1_1_1 : w1.cell? ⟨w.heap.size + 1, 1, none⟩ = some (.int .i64 n) := (hk1.cell (p := ⟨w.heap.size + 1, 1, none⟩) (by first | omega | (simp; omega) | (simp; done)) (HF.out _ (by simp; try omega))).trans (by go_simp)
  have c1_1_2 : w1.cell? ⟨w.heap.size + 1, 2, none⟩ = some (.int .u8 a) := (hk1.cell (p := ⟨w.heap.size + 1, 2, none⟩) (by first | omega | (simp; omega) | (simp; done)) (HF.out _ (by simp; try omega))).trans (by go_simp)
  have c1_1_3 : w1.cell? ⟨w.heap.size + 1, 3, none⟩ = some (.int .i64 o) := (hk1.cell (p := ⟨w.heap.size + 1, 3, none⟩) (by first | omega | (simp; omega) | (simp; done)) (HF.out _ (by simp; try omega))).trans (by go_simp)
  have c1_1_4 : w1.cell? ⟨w.heap.size + 1, 4, none⟩ = some (.int .i64 z) := (hk1.cell (p := ⟨w.heap.size + 1, 4, none⟩) (by first | omega | (simp; omega) | (simp; done)) (HF.out _ (by simp; try omega))).trans (by go_simp)
  have c1_2_0 : w1.cell? ⟨w.heap.size + 1 + 1, 0, none⟩ = some (.int .i64 0) := (hk1.cell (p := ⟨w.heap.size + 1 + 1, 0, none⟩) (by first | omega | (simp; omega) | (simp; done)) (HF.out _ (by simp; try omega))).trans (by go_simp)
  have f1_0 : w1.frozen? ⟨w.heap.size + 1 + 1, 0, none⟩ = false := (hk1.frozen (p := ⟨w.heap.size + 1 + 1, 0, none⟩) (by first | omega | (simp; omega) | (simp; done)) (HF.out _ (by simp; try omega))).trans (by go_simp)
  have c1_2_1 : w1.cell? ⟨w.heap.size + 1 + 1, 1, none⟩ = some (.slice none 0 0) := (hk1.cell (p := ⟨w.heap.size + 1 + 1, 1, none⟩) (by first | omega | (simp; omega) | (simp; done)) (HF.out _ (by simp; try omega))).trans (by go_simp)
  have f1_1 : w1.frozen? ⟨w.heap.size + 1 + 1, 1, none⟩ = false := (hk1.frozen (p := ⟨w.heap.size + 1 + 1, 1, none⟩) (by first | omega | (simp; omega) | (simp; done)) (HF.out _ (by simp; try omega))).trans (by go_simp)
  have c1_2_2 : w1.cell? ⟨w.heap.size + 1 + 1, 2, none⟩ = some (.int .i64 0) := (hk1.cell (p := ⟨w.heap.size + 1 + 1, 2, none⟩) (by first | omega | (simp; omega) | (simp; done)) (HF.out _ (by simp; try omega))).trans (by go_simp)
  have f1_2 : w1.frozen? ⟨w.heap.size + 1 + 1, 2, none⟩ = false := (hk1.frozen (p := ⟨w.heap.size + 1 + 1, 2, none⟩) (by first | omega | (simp; omega) | (simp; done)) (HF.out _ (by simp; try omega))).trans (by go_simp)
  clear hk1 h h0 B0 c0_0_0 c0_0_1 c0_0_2 c0_1_0 c0_1_1 c0_1_2 c0_1_3 c0_1_4 c0_2_0 f0_0 c0_2_1 f0_1 c0_2_2 f0_2
  go_wp2_with fail
  refine (rSwap_b h1 x (cellAt xs x) z (by omega)).mono ?_
  rintro e w2 ⟨v2, q2, rfl, h2, hq2, hb2⟩
  obtain ⟨ao2, cap2, rfl, -, -⟩ := h2.rv.open
  have z2 : w.heap.size + 1 + 1 < w2.heap.size := by have := hb2.size; omega
  have c2_0_0 : w2.cell? ⟨w.heap.size, 0, none⟩ = some (.int .i64 N) := (hb2.cell (p := ⟨w.heap.size, 0, none⟩) (by first | omega | (simp; omega) | (simp; done))).trans (by go_simp)
  have c2_0_1 : w2.cell? ⟨w.heap.size, 1, none⟩ = some (.slice ao xs.length cap) := (hb2.cell (p := ⟨w.heap.size, 1, none⟩) (by first | omega | (simp; omega) | (simp; done))).trans (by go_simp)
  have c2_0_2 : w2.cell? ⟨w.heap.size, 2, none⟩ = some (.int .i64 st) := (hb2.cell (p := ⟨w.heap.size, 2, none⟩) (by first | omega | (simp; omega) | (simp; done))).trans (by go_simp)
  have c2_1_0 : w2.cell? ⟨w.heap.size + 1, 0, none⟩ = some (.int .u8 k) := (hb2.cell (p := ⟨w.heap.size + 1, 0, none⟩) (by first | omega | (simp; omega) | (simp; done))).trans (by go_simp)
  have c2_1_1 : w2.cell? ⟨w.heap.size + 1, 1, none⟩ = some (.int .i64 n) := (hb2.cell (p := ⟨w.heap.size + 1, 1, none⟩) (by first | omega | (simp; omega) | (simp; done))).trans (by go_simp)
  have c2_1_2 : w2.cell? ⟨w.heap.size + 1, 2, none⟩ = some (.int .u8 a) := (hb2.cell (p := ⟨w.heap.size + 1, 2, none⟩) (by first | omega | (simp; omega) | (simp; done))).trans (by go_simp)
  have c2_1_3 : w2.cell? ⟨w.heap.size + 1, 3, none⟩ = some (.int .i64 o) := (hb2.cell (p := ⟨w.heap.size + 1, 3, none⟩) (by first | omega | (simp; omega) | (simp; done))).trans (by go_simp)
  have c2_1_4 : w2.cell? ⟨w.heap.size + 1, 4, none⟩ = some (.int .i64 z) := (hb2.cell (p := ⟨w.heap.size + 1, 4, none⟩) (by first | omega | (simp; omega) | (simp; done))).trans (by go_simp)
  have c2_2_0 : w2.cell? ⟨w.heap.size + 1 + 1, 0, none⟩ = some (.int .i64 0) := (hb2.cell (p := ⟨w.heap.size + 1 + 1, 0, none⟩) (by first | omega | (simp; omega) | (simp; done))).trans (by go_simp)
  have f2_0 : w2.frozen? ⟨w.heap.size + 1 + 1, 0, none⟩ = false := (hb2.frozen (p := ⟨w.heap.size + 1 + 1, 0, none⟩) (by first | omega | (simp; omega) | (simp; done))).trans (by go_simp)
  have c2_2_1 : w2.cell? ⟨w.heap.size + 1 + 1, 1, none⟩ = some (.slice none 0 0) := (hb2.cell (p := ⟨w.heap.size + 1 + 1, 1, none⟩) (by first | omega | (simp; omega) | (simp; done))).trans (by go_simp)
  have f2_1 : w2.frozen? ⟨w.heap.size + 1 + 1, 1, none⟩ = false := (hb2.frozen (p := ⟨w.heap.size + 1 + 1, 1, none⟩) (by first | omega | (simp; omega) | (simp; done))).trans (by go_simp)
  have c2_2_2 : w2.cell? ⟨w.heap.size + 1 + 1, 2, none⟩ = some (.int .i64 0) := (hb2.cell (p := ⟨w.heap.size + 1 + 1, 2, none⟩) (by first | omega | (simp; omega) | (simp; done))).trans (by go_simp)
  have f2_2 : w2.frozen? ⟨w.heap.size + 1 + 1, 2, none⟩ = false := (hb2.frozen (p := ⟨w.heap.size + 1 + 1, 2, none⟩) (by first | omega | (simp; omega) | (simp; done))).trans (by go_simp)
  have hgr : ∀ k, g = some k → k ≠ w.heap.size + 1 + 1 := fun k e => by
    exact fun e2 => HF.out k (by omega) (.inr e.symm)
  have hqr : ∀ k, q2 = some k → k ≠ w.heap.size + 1 + 1 := fun k e => by
    rcases hq2 with rfl | hq2
    · have := hqlt k e; omega
    · have := hq2 k e; omega
  have hgg : g = g ∨ ∀ k, g = some k → w.heap.size ≤ k := by
    exact .inl rfl
  have hqq : q2 = q ∨ ∀ k, q2 = some k → w.heap.size ≤ k := by
    rcases hq2 with rfl | hq2
    · exact .inl rfl
    · exact .inr (fun k e => by have := hq2 k e; omega)
  have HX := Lib.hid (And.intro hgr (And.intro hqr (And.intro hgg (And.intro h2 (And.intro K1 (And.intro hb2 hqq))))))
  clear hgr hqr hgg hqq h2 hb2 h1 K1 hq2  c1_0_0 c1_0_1 c1_0_2 c1_1_0 c1_1_1 c1_1_2 c1_1_3 c1_1_4 c1_2_0 f1_0 c1_2_1 f1_1 c1_2_2 f1_2
  go_wp2
  refine bodyPost_ret (v := .tuple #[.agg #[.int .i64 N, .slice ao2 (cellSwap xs x (cellAt xs x) z).length cap2, .int .i64 (st + cntAt xs x)], .bool true]) (by simp [results, Try.results44, go_sem, c2_2_0, c2_2_1, c2_2_2, z2]) rfl ⟨_, q2, g, cellSwap xs x (cellAt xs x) z, st + cntAt xs x, rfl, ?_, by have := cntAt_rng xs x; omega, .inl rfl, HX.out.2.2.2.2.2.2, ?_⟩
  · exact (HX.out.2.2.2.1.set3 (w.heap.size + 1 + 1) (by omega) (by omega) HX.out.1 HX.out.2.1 _ _ _).below (by go_grown)
  · exact (((HX.out.2.2.2.2.1.trans (keptF HX.out.2.2.2.2.2.1)).step (kept_set3 _ (w.heap.size + 1 + 1) _ _ _) (fun i hi (e : i = w.heap.size + 1 + 1) => by omega))).alloc _

set_option maxRecDepth 100000 in
set_option maxHeartbeats 2000000 in
theorem step2_4 (W0 w : World) (b : Nat) (g : Option Nat) (N st : Int) (xs : List Int) (v : Value) (q : Option Nat) (h : Both W0 w b g N xs st v q xs st) (s1 : st < 100000) (k n a o z : Int) (k0 : 0 ≤ k) (k1 : k ≤ 255) (a1 : 0 ≤ a) (a2 : a ≤ 255) (hk : k % 5 = 4) : Calls Try.prog 44 #[.pointer (some ⟨b, 0, none⟩), v, .agg #[.int .u8 k, .int .i64 n, .int .u8 a, .int .i64 o, .int .i64 z]] w fun e w' => ∃ v' q' g' xs' st', e = .returned (.tuple #[v', .bool true]) ∧ Both W0 w' b g' N xs' st' v' q' xs' st' ∧ st' ≤ st + 1 ∧ (g' = g ∨ ∀ k, g' = some k → w.heap.size ≤ k) ∧ (q' = q ∨ ∀ k, q' = some k → w.heap.size ≤ k) ∧ Kept (Foot b g) w w' := by
  obtain ⟨ao, cap, rfl, -, -⟩ := h.rv.open
  have hbl := h.ms.mem.lt
  have s0 : 0 ≤ st := h.2.2.2.2
  have hW := h.ms.B.size
  have HF := Lib.hid (And.intro h.far h.q_lt)
  go_enter Try.func44, Try.ntmps44
  go_wp2
  refine bodyPost_ret (v := .tuple #[.agg #[.int .i64 N, .slice ao xs.length cap, .int .i64 st], .bool true]) (by simp [results, Try.results44, go_sem]) rfl ⟨_, q, g, xs, st, rfl, ?_, by omega, .inl rfl, .inl rfl, ?_⟩
  · exact h.below (by go_grown)
  · exact keptF (by go_grown)

theorem step2_any (W0 w : World) (b : Nat) (g : Option Nat) (N st : Int) (xs : List Int) (v : Value) (q : Option Nat) (h : Both W0 w b g N xs st v q xs st) (s1 : st < 100000) (k n a o z : Int) (k0 : 0 ≤ k) (k1 : k ≤ 255) (a1 : 0 ≤ a) (a2 : a ≤ 255) : Calls Try.prog 44 #[.pointer (some ⟨b, 0, none⟩), v, .agg #[.int .u8 k, .int .i64 n, .int .u8 a, .int .i64 o, .int .i64 z]] w fun e w' => ∃ v' q' g' xs' st', e = .returned (.tuple #[v', .bool true]) ∧ Both W0 w' b g' N xs' st' v' q' xs' st' ∧ st' ≤ st + 1 ∧ (g' = g ∨ ∀ k, g' = some k → w.heap.size ≤ k) ∧ (q' = q ∨ ∀ k, q' = some k → w.heap.size ≤ k) ∧ Kept (Foot b g) w w' := by
  have hk : k % 5 = 0 ∨ k % 5 = 1 ∨ k % 5 = 2 ∨ k % 5 = 3 ∨ k % 5 = 4 := by omega
  rcases hk with hk | hk | hk | hk | hk
  · exact step2_0 W0 w b g N st xs v q h s1 k n a o z k0 k1 a1 a2 hk
  · exact step2_1 W0 w b g N st xs v q h s1 k n a o z k0 k1 a1 a2 hk _ rfl
  · exact step2_2 W0 w b g N st xs v q h s1 k n a o z k0 k1 a1 a2 hk _ rfl
  · cases hz : (z.tmod 2 == 0)
    · exact step2_3b W0 w b g N st xs v q h s1 k n a o z k0 k1 a1 a2 hk _ rfl hz
    · exact step2_3a W0 w b g N st xs v q h s1 k n a o z k0 k1 a1 a2 hk _ rfl hz
  · exact step2_4 W0 w b g N st xs v q h s1 k n a o z k0 k1 a1 a2 hk

end Go.Proofs.Ytepkpfnghgocgaa
