/- Four blocks laid one behind the other; a block of three cells that is written whole. -/
import Derived.Test.YtnpkhkfhlpopbaaThr2
namespace Go.Proofs.Ytnpkhkfhlpopbaa
set_option linter.unusedSimpArgs false
set_option linter.unusedVariables false
open Go.RowKit
theorem alloc4_heap (w : World) (A B C D : Obj) : ((((w.alloc A).alloc B).alloc C).alloc D).heap[w.heap.size]? = some A ∧ ((((w.alloc A).alloc B).alloc C).alloc D).heap[w.heap.size + 1]? = some B ∧
    ((((w.alloc A).alloc B).alloc C).alloc D).heap[w.heap.size + 2]? = some C ∧ ((((w.alloc A).alloc B).alloc C).alloc D).heap[w.heap.size + 3]? = some D := by
  refine ⟨?_, ?_, ?_, ?_⟩
  · exact (Below.heap_alloc _ _ _ (by simp; try omega)).trans ((Below.heap_alloc _ _ _ (by simp; try omega)).trans (alloc2_heap0 _ _ _))
  · exact (Below.heap_alloc _ _ _ (by simp; try omega)).trans ((Below.heap_alloc _ _ _ (by simp; try omega)).trans (alloc2_heap1 _ _ _))
  · have := alloc2_heap0 ((w.alloc A).alloc B) C D
    simpa using this
  · have := alloc2_heap1 ((w.alloc A).alloc B) C D
    simpa using this
theorem set3 {w : World} {b : Nat} {cs : Array Value} {t : TypeId} {x0 x1 x2 : Value} (h : w.heap[b]? = some (.cells cs t (0, 0))) (hs : cs.size = 3) :
    (((w.setCell ⟨b, 0, none⟩ x0).setCell ⟨b, 1, none⟩ x1).setCell ⟨b, 2, none⟩ x2).heap[b]? = some (.cells #[x0, x1, x2] t (0, 0)) := by
  have h1 := setFrom_heap b t [x0, x1, x2] w 0 cs h (by rw [hs]; rfl)
  rw [List.take_zero, List.nil_append] at h1
  exact h1
theorem res2a {W : World} {r2 r3 : Nat} {t2 t3 : TypeId} {u0 u1 u2 v0 v1 v2 v3 v4 v5 v6 v7 v8 v9 v10 v11 v12 y0 y1 y2 x0 x1 x2 x3 x4 x5 x6 x7 x8 x9 x10 x11 x12 : Value} (h2 : W.heap[r2]? = some (.cells #[u0, u1, u2] t2 (0, 0))) (h3 : W.heap[r3]? = some (.cells #[v0, v1, v2, v3, v4, v5, v6, v7, v8, v9, v10, v11, v12] t3 (0, 0))) (ne : r2 ≠ r3) :
    ∀ w5, (((((((((((((((((W.setCell ⟨r2, 0, none⟩ y0).setCell ⟨r2, 1, none⟩ y1).setCell ⟨r2, 2, none⟩ y2)).setCell ⟨r3, 0, none⟩ x0).setCell ⟨r3, 1, none⟩ x1).setCell ⟨r3, 2, none⟩ x2).setCell ⟨r3, 3, none⟩ x3).setCell ⟨r3, 4, none⟩ x4).setCell ⟨r3, 5, none⟩ x5).setCell ⟨r3, 6, none⟩ x6).setCell ⟨r3, 7, none⟩ x7).setCell ⟨r3, 8, none⟩ x8).setCell ⟨r3, 9, none⟩ x9).setCell ⟨r3, 10, none⟩ x10).setCell ⟨r3, 11, none⟩ x11).setCell ⟨r3, 12, none⟩ x12) = w5 →
      w5.heap[r2]? = some (.cells #[y0, y1, y2] t2 (0, 0)) ∧ w5.heap[r3]? = some (.cells #[x0, x1, x2, x3, x4, x5, x6, x7, x8, x9, x10, x11, x12] t3 (0, 0)) ∧ Kept (fun k => k = r2 ∨ k = r3) W w5 := by
  rintro w5 rfl
  have l2 := (Array.getElem?_eq_some_iff.1 h2).1
  have l3 := (Array.getElem?_eq_some_iff.1 h3).1
  have k2 := setFrom_kept r2 [y0, y1, y2] W 0
  have k3 := setFrom_kept r3 [x0, x1, x2, x3, x4, x5, x6, x7, x8, x9, x10, x11, x12] (setFrom W r2 0 [y0, y1, y2]) 0
  have e2 := set3 (x0 := y0) (x1 := y1) (x2 := y2) h2 rfl
  refine ⟨(k3.block r2 (Nat.lt_of_lt_of_le l2 k2.size) ne).trans e2, set13 ((k2.block r3 l3 (fun e => ne e.symm)).trans h3) rfl, ?_⟩
  exact (k2.mono (fun _ _ e => .inl e)).step k3 (fun i _ e => .inr e)
theorem res2b {W : World} {r2 r3 : Nat} {t2 t3 : TypeId} {u0 u1 u2 v0 v1 v2 v3 v4 v5 v6 v7 v8 v9 v10 v11 v12 y0 y1 y2 x0 x1 x2 x3 x4 x5 x6 x7 x8 x9 x10 x11 x12 : Value} (h2 : W.heap[r2]? = some (.cells #[u0, u1, u2] t2 (0, 0))) (h3 : W.heap[r3]? = some (.cells #[v0, v1, v2, v3, v4, v5, v6, v7, v8, v9, v10, v11, v12] t3 (0, 0))) (ne : r2 ≠ r3) :
    ∀ w5, ((((((((((((((((W.setCell ⟨r3, 0, none⟩ x0).setCell ⟨r3, 1, none⟩ x1).setCell ⟨r3, 2, none⟩ x2).setCell ⟨r3, 3, none⟩ x3).setCell ⟨r3, 4, none⟩ x4).setCell ⟨r3, 5, none⟩ x5).setCell ⟨r3, 6, none⟩ x6).setCell ⟨r3, 7, none⟩ x7).setCell ⟨r3, 8, none⟩ x8).setCell ⟨r3, 9, none⟩ x9).setCell ⟨r3, 10, none⟩ x10).setCell ⟨r3, 11, none⟩ x11).setCell ⟨r3, 12, none⟩ x12).setCell ⟨r2, 0, none⟩ y0).setCell ⟨r2, 1, none⟩ y1).setCell ⟨r2, 2, none⟩ y2) = w5 →
      w5.heap[r2]? = some (.cells #[y0, y1, y2] t2 (0, 0)) ∧ w5.heap[r3]? = some (.cells #[x0, x1, x2, x3, x4, x5, x6, x7, x8, x9, x10, x11, x12] t3 (0, 0)) ∧ Kept (fun k => k = r2 ∨ k = r3) W w5 := by
  rintro w5 rfl
  have l2 := (Array.getElem?_eq_some_iff.1 h2).1
  have l3 := (Array.getElem?_eq_some_iff.1 h3).1
  have k3 := setFrom_kept r3 [x0, x1, x2, x3, x4, x5, x6, x7, x8, x9, x10, x11, x12] W 0
  have k2 := setFrom_kept r2 [y0, y1, y2] (setFrom W r3 0 [x0, x1, x2, x3, x4, x5, x6, x7, x8, x9, x10, x11, x12]) 0
  have e3 := set13 (x0 := x0) (x1 := x1) (x2 := x2) (x3 := x3) (x4 := x4) (x5 := x5) (x6 := x6) (x7 := x7) (x8 := x8) (x9 := x9) (x10 := x10) (x11 := x11) (x12 := x12) h3 rfl
  refine ⟨set3 ((k3.block r2 l2 ne).trans h2) rfl, (k2.block r3 (Nat.lt_of_lt_of_le l3 k3.size) (fun e => ne e.symm)).trans e3, ?_⟩
  exact (k3.mono (fun _ _ e => .inr e)).step k2 (fun i _ e => .inl e)
theorem alloc2_at {w : World} {n : Nat} (h : w.heap.size = n) (A B : Obj) : ((w.alloc A).alloc B).heap[n]? = some A ∧ ((w.alloc A).alloc B).heap[n + 1]? = some B := by
  subst h
  exact ⟨alloc2_heap0 w A B, alloc2_heap1 w A B⟩
theorem res1 {W : World} {r2 r3 : Nat} {t2 t3 : TypeId} {u0 u1 u2 v0 v1 v2 v3 v4 v5 v6 v7 v8 v9 v10 v11 v12 x0 x1 x2 x3 x4 x5 x6 x7 x8 x9 x10 x11 x12 : Value} (h2 : W.heap[r2]? = some (.cells #[u0, u1, u2] t2 (0, 0))) (h3 : W.heap[r3]? = some (.cells #[v0, v1, v2, v3, v4, v5, v6, v7, v8, v9, v10, v11, v12] t3 (0, 0))) (ne : r2 ≠ r3) :
    ∀ w5, (((((((((((((W.setCell ⟨r3, 0, none⟩ x0).setCell ⟨r3, 1, none⟩ x1).setCell ⟨r3, 2, none⟩ x2).setCell ⟨r3, 3, none⟩ x3).setCell ⟨r3, 4, none⟩ x4).setCell ⟨r3, 5, none⟩ x5).setCell ⟨r3, 6, none⟩ x6).setCell ⟨r3, 7, none⟩ x7).setCell ⟨r3, 8, none⟩ x8).setCell ⟨r3, 9, none⟩ x9).setCell ⟨r3, 10, none⟩ x10).setCell ⟨r3, 11, none⟩ x11).setCell ⟨r3, 12, none⟩ x12) = w5 →
      w5.heap[r2]? = some (.cells #[u0, u1, u2] t2 (0, 0)) ∧ w5.heap[r3]? = some (.cells #[x0, x1, x2, x3, x4, x5, x6, x7, x8, x9, x10, x11, x12] t3 (0, 0)) ∧ Kept (fun k => k = r2 ∨ k = r3) W w5 := by
  rintro w5 rfl
  have k3 := setFrom_kept r3 [x0, x1, x2, x3, x4, x5, x6, x7, x8, x9, x10, x11, x12] W 0
  exact ⟨(k3.block r2 (Array.getElem?_eq_some_iff.1 h2).1 ne).trans h2, set13 h3 rfl, k3.mono (fun _ _ e => .inr e)⟩

end Go.Proofs.Ytnpkhkfhlpopbaa
