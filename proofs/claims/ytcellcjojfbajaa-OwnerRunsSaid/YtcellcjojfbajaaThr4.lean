/- Five blocks laid one behind the other. -/
import Derived.Test.YtcellcjojfbajaaThr3
namespace Go.Proofs.Ytcellcjojfbajaa
set_option linter.unusedSimpArgs false
set_option linter.unusedVariables false
open Go.RowKit
theorem alloc5_heap (w : World) (A B C D E : Obj) : (((((w.alloc A).alloc B).alloc C).alloc D).alloc E).heap[w.heap.size + 1]? = some B ∧
    (((((w.alloc A).alloc B).alloc C).alloc D).alloc E).heap[w.heap.size + 2]? = some C ∧ (((((w.alloc A).alloc B).alloc C).alloc D).alloc E).heap[w.heap.size + 3]? = some D ∧
    (((((w.alloc A).alloc B).alloc C).alloc D).alloc E).heap[w.heap.size + 4]? = some E := by
  obtain ⟨-, h1, h2, h3⟩ := alloc4_heap w A B C D
  refine ⟨(Below.heap_alloc _ _ _ (by simp; try omega)).trans h1, (Below.heap_alloc _ _ _ (by simp; try omega)).trans h2, (Below.heap_alloc _ _ _ (by simp; try omega)).trans h3, ?_⟩
  have := heap_alloc_new ((((w.alloc A).alloc B).alloc C).alloc D) E
  simpa using this

end Go.Proofs.Ytcellcjojfbajaa
