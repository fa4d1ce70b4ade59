/- The contract of Copy at a memory: a new memory of the same cells. -/
import Derived.Test.YtepkpfnghgocgaaCellsB
namespace Go.Proofs.Ytepkpfnghgocgaa
set_option linter.unusedSimpArgs false
set_option linter.unusedVariables false
open Go.RowKit

set_option maxRecDepth 100000 in
set_option maxHeartbeats 2000000 in
theorem Copy_any (b : Nat) (g : Option Nat) (N st : Int) (xs : List Int) (w : World) (h : MemIs w b g N xs st) (hn : xs.length ≤ 1000000) :
    Calls Try.prog 30 #[.pointer (some ⟨b, 0, none⟩)] w fun e w' => ∃ c, e = .returned (.pointer (some ⟨c, 0, none⟩)) ∧ w.heap.size ≤ c ∧ (∃ g', MemIs w' c g' N xs st ∧ ∀ k, g' = some k → w.heap.size ≤ k) ∧ Below w.heap.size w w' := by
  obtain ⟨ao, cap, hb, hg, hr⟩ := h.open
  obtain ⟨c0, c1, c2, f0, f1, f2, hl⟩ := blk3 hb
  clear hb
  go_enter Try.func30, Try.ntmps30
  go_wp2
  go_region_held3 (fun w1 => w1.cell? ⟨b, 0, none⟩ = some (.int .i64 N) ∧ w1.cell? ⟨b, 1, none⟩ = some (.slice ao xs.length cap) ∧ w1.cell? ⟨b, 2, none⟩ = some (.int .i64 st))
    (first | (exact ⟨c0, c1, c2⟩) | (go_split_ands; refine ⟨?_, ?_, ?_⟩ <;> (rw [hb2.cell (by simp; omega)]; assumption)) | (go_split_ands; refine ⟨?_, ?_, ?_⟩ <;> (rw [World.cell?_alloc_past _ _ _ hl2]; assumption)))
    (first | (go_at_call 42; refine (clone64_any _ xs _ (Row.below hr ((Below.refl _ _).drew)) hn).mono ?_; rintro e w2 ⟨v', rfl, hr2, hb2, hv2⟩; obtain ⟨ao2, cap2, rfl⟩ := Row.shape hr2; have hl2 : b < w2.heap.size := by (have := hb2.size; simp at this; omega)))
  go_wp2
  go_ret
  refine ⟨w2.heap.size, rfl, hb2.size, ⟨(Value.slice ao2 xs.length cap2).ownBlock, ⟨_, heap_alloc_new w2 _, rfl, hr2.alloc _⟩, fun k hk => hv2 k hk⟩, ?_⟩
  exact ((Below.refl _ w).drew.trans (hb2.mono (Nat.le_refl _))).alloc hb2.size _

end Go.Proofs.Ytepkpfnghgocgaa
