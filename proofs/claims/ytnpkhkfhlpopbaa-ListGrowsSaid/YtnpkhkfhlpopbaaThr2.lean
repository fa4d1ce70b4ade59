/- Threads: the clone of a batch lies in a new block; a block of thirteen cells that is written whole. -/
import Derived.Test.YtnpkhkfhlpopbaaThr
namespace Go.Proofs.Ytnpkhkfhlpopbaa
set_option linter.unusedSimpArgs false
set_option linter.unusedVariables false
open Go.RowKit Go.ChangeShapes Go.WideShapes Go.ChangeAt Go.Deep

theorem Its.keptB {S : Nat → Prop} {w w' : World} {v : Value} {n : Nat} {F : Nat → Int} (h : Its w v n F) (hk : Kept S w w') (hs : ∀ b, v.ownBlock = some b → ¬ S b) : Its w' v n F := by
  obtain ⟨ao, cap, rfl, h4⟩ := h
  refine ⟨ao, cap, rfl, fun hp => ?_⟩
  obtain ⟨b, off, e1, e2, e3⟩ := h4 hp
  exact ⟨b, off, e1, Nat.lt_of_lt_of_le e2 hk.size, fun j hj => (hk.cell (p := ⟨b, off + j, none⟩) e2 (hs b (by rw [e1]; rfl))).trans (e3 j hj)⟩
def setFrom (w : World) (b k : Nat) : List Value → World
  | [] => w
  | x :: l => setFrom (w.setCell ⟨b, k, none⟩ x) b (k + 1) l
theorem setFrom_heap (b : Nat) (t : TypeId) : ∀ (l : List Value) (w : World) (k : Nat) (cs : Array Value), w.heap[b]? = some (.cells cs t (0, 0)) → cs.size = k + l.length →
    (setFrom w b k l).heap[b]? = some (.cells (cs.toList.take k ++ l).toArray t (0, 0))
  | [], w, k, cs, h, hs => by
    rw [List.append_nil, List.take_of_length_le (by simp at hs ⊢; omega)]; exact h
  | x :: l, w, k, cs, h, hs => by
    have h1 := setFrom_heap b t l (w.setCell ⟨b, k, none⟩ x) (k + 1) (cs.setIfInBounds k x) (heap_setCell_self h k x) (by simp at hs ⊢; omega)
    show (setFrom (w.setCell ⟨b, k, none⟩ x) b (k + 1) l).heap[b]? = _
    rw [h1]
    have hk : k < cs.toList.length := by simp at hs ⊢; omega
    have : (cs.setIfInBounds k x).toList.take (k + 1) = cs.toList.take k ++ [x] := by
      rw [Array.toList_setIfInBounds, List.take_succ_eq_append_getElem (by simpa using hk), List.take_set_of_le (Nat.le_refl k)]
      simp
    rw [this, List.append_assoc]; rfl
theorem setFrom_kept (b : Nat) : ∀ (l : List Value) (w : World) (k : Nat), Kept (fun i => i = b) w (setFrom w b k l)
  | [], w, k => Kept.refl _ _
  | x :: l, w, k => ((Kept.refl (fun i => i = b) w).setCell (p := ⟨b, k, none⟩) (fun _ => rfl) x).trans (setFrom_kept b l _ _)
theorem set13 {w : World} {b : Nat} {cs : Array Value} {t : TypeId} {x0 x1 x2 x3 x4 x5 x6 x7 x8 x9 x10 x11 x12 : Value} (h : w.heap[b]? = some (.cells cs t (0, 0))) (hs : cs.size = 13) :
    (((((((((((((w.setCell ⟨b, 0, none⟩ x0).setCell ⟨b, 1, none⟩ x1).setCell ⟨b, 2, none⟩ x2).setCell ⟨b, 3, none⟩ x3).setCell ⟨b, 4, none⟩ x4).setCell ⟨b, 5, none⟩ x5).setCell ⟨b, 6, none⟩ x6).setCell ⟨b, 7, none⟩ x7).setCell ⟨b, 8, none⟩ x8).setCell ⟨b, 9, none⟩ x9).setCell ⟨b, 10, none⟩ x10).setCell ⟨b, 11, none⟩ x11).setCell ⟨b, 12, none⟩ x12).heap[b]? = some (.cells #[x0, x1, x2, x3, x4, x5, x6, x7, x8, x9, x10, x11, x12] t (0, 0)) := by
  have h1 := setFrom_heap b t [x0, x1, x2, x3, x4, x5, x6, x7, x8, x9, x10, x11, x12] w 0 cs h (by rw [hs]; rfl)
  rw [List.take_zero, List.nil_append] at h1
  exact h1
theorem kept_set13 (w : World) (b : Nat) (x0 x1 x2 x3 x4 x5 x6 x7 x8 x9 x10 x11 x12 : Value) :
    Kept (fun k => k = b) w (((((((((((((w.setCell ⟨b, 0, none⟩ x0).setCell ⟨b, 1, none⟩ x1).setCell ⟨b, 2, none⟩ x2).setCell ⟨b, 3, none⟩ x3).setCell ⟨b, 4, none⟩ x4).setCell ⟨b, 5, none⟩ x5).setCell ⟨b, 6, none⟩ x6).setCell ⟨b, 7, none⟩ x7).setCell ⟨b, 8, none⟩ x8).setCell ⟨b, 9, none⟩ x9).setCell ⟨b, 10, none⟩ x10).setCell ⟨b, 11, none⟩ x11).setCell ⟨b, 12, none⟩ x12) :=
  setFrom_kept b [x0, x1, x2, x3, x4, x5, x6, x7, x8, x9, x10, x11, x12] w 0
theorem alloc2_heap0 (w : World) (A B : Obj) : ((w.alloc A).alloc B).heap[w.heap.size]? = some A := (Below.heap_alloc _ _ _ (by simp)).trans (heap_alloc_new _ _)
theorem alloc2_heap1 (w : World) (A B : Obj) : ((w.alloc A).alloc B).heap[w.heap.size + 1]? = some B := by
  have := heap_alloc_new (w.alloc A) B
  simpa using this
theorem alloc_at {w : World} {n : Nat} (h : w.heap.size = n) (o : Obj) : (w.alloc o).heap[n]? = some o := by
  subst h
  exact heap_alloc_new w o

end Go.Proofs.Ytnpkhkfhlpopbaa
