/- Plain facts on lists of numbers. -/
import Derived.Test.YtnpkhkfhlpopbaaMs
namespace Go.Proofs.Ytnpkhkfhlpopbaa
set_option linter.unusedSimpArgs false
set_option linter.unusedVariables false
open Go.RowKit

theorem getD_set_self (xs : List Int) (i : Nat) (x : Int) (h : i < xs.length) : (xs.set i x).getD i 0 = x := by simp [List.getD, h]
theorem getD_set_ne (xs : List Int) (i j : Nat) (x : Int) (h : i ≠ j) : (xs.set i x).getD j 0 = xs.getD j 0 := by simp [List.getD, List.getElem?_set_ne h]
theorem getD_rep (n j : Nat) : (List.replicate n (0 : Int)).getD j 0 = 0 := by
  simp only [List.getD, List.getElem?_replicate]
  split <;> rfl
theorem len_nil : ((([] : List Int).length : Nat) : Int) = 0 := rfl
/-- A memory of K cells, just made. -/
theorem Alloc_new {W0 w : World} {b : Nat} {K : Int} (h : MS W0 w b none (capOf K) [] 0) (h1 : 1 ≤ K) (h2 : K ≤ 1000) :
    Calls Try.prog 30 #[.pointer (some ⟨b, 0, none⟩), .int .i64 K] w fun e w' => ∃ g' xs, e = .returned (.tuple #[.int .i64 0, .int .u16 0]) ∧ MS W0 w' b g' K xs 1 ∧ xs.length = K.toNat ∧ (∀ j, xs.getD j 0 = 0) ∧ xs = List.replicate K.toNat 0 ∧ (g' = none ∨ ∃ k, g' = some k ∧ w.heap.size ≤ k) := by
  have hc : capOf K = K := by unfold capOf; omega
  rw [hc] at h
  exact (Alloc_ms h K (by omega) (by simp) (by omega)).mono fun e w' ⟨g', e1, e2, e3, _⟩ => ⟨g', List.replicate K.toNat 0, e1, by simpa using e2, by simp, getD_rep _, rfl, e3⟩

end Go.Proofs.Ytnpkhkfhlpopbaa
