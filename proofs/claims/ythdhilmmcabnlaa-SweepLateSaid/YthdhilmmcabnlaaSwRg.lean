/- The numbers of a thread who sweeps lie in the range of int64. -/
import Derived.Test.YthdhilmmcabnlaaSwpK
namespace Go.Proofs.Ythdhilmmcabnlaa
set_option linter.unusedSimpArgs false
set_option linter.unusedVariables false
open Go.RowKit
open Go.ChangeShapes Go.WideShapes Go.ChangeAt

theorem bmore {W a b : World} (h1 : Below W.heap.size W a) (h2 : Below a.heap.size a b) : Below W.heap.size W b := h1.trans (h2.mono h1.size)
theorem Its.zero (w : World) (ao : Option Addr) (cap : Nat) : Its w (.slice ao 0 cap) 0 (fun _ => 0) := ⟨ao, cap, rfl, fun h => absurd h (Nat.lt_irrefl 0)⟩
def Rg (x : Int) : Prop := -9223372036854775808 ≤ x ∧ x ≤ 9223372036854775807
def RgX (xs : List Int) : Prop := ∀ x ∈ xs, Rg x
theorem Sm.rg {xs : List Int} (h : Sm xs) : RgX xs := fun x hx => by have := h x hx; unfold Rg; omega
theorem RgX.at {xs : List Int} (h : RgX xs) (a : Int) : Rg (cellAt xs a) := by
  unfold cellAt
  split
  · rename_i hh
    have hl : a.toNat < xs.length := by omega
    rw [List.getD_eq_getElem?_getD, List.getElem?_eq_getElem hl]
    exact h _ (List.getElem_mem hl)
  · unfold Rg; omega
theorem RgX.set {xs : List Int} (h : RgX xs) (a y : Int) (hy : Rg y) : RgX (cellSet xs a y) := by
  unfold cellSet
  split
  · intro x hx
    rcases List.mem_or_eq_of_mem_set hx with h1 | h1
    · exact h x h1
    · exact h1 ▸ hy
  · exact h
theorem swX_rg {xs : List Int} (h : RgX xs) (t : Th) (h5 : Rg t.i5) : RgX (swX xs t) := by
  unfold swX
  split
  · unfold cellSwap
    split
    · exact h.set _ _ (by unfold Rg; omega)
    · exact h
  split
  · exact h.set _ _ h5
  split
  · exact h.set _ _ (by unfold Rg; omega)
  split
  · exact h.set _ _ (by unfold Rg; omega)
  exact h
theorem swT_rg {xs : List Int} (h : RgX xs) (age : Int) (t : Th) (h5 : Rg t.i5) (h6 : Rg t.i6) : Rg (swT xs age t).i5 ∧ Rg (swT xs age t).i6 := by
  have hv := h.at (swA t)
  unfold swT
  simp only []
  repeat' split
  all_goals exact ⟨by first | exact hv | exact h5, by first | exact hv | exact h6⟩
theorem MS.far3 {W0 w w' : World} {b r8 r9 r10 : Nat} {g : Option Nat} {N st : Int} {xs : List Int} (h : MS W0 w b g N xs st) (hk : Kept (fun k => k = r8 ∨ k = r9 ∨ k = r10) w w') (z8 : W0.heap.size ≤ r8) (z9 : W0.heap.size ≤ r9) (z10 : W0.heap.size ≤ r10)
    (f8 : ¬ Foot b g r8) (f9 : ¬ Foot b g r9) (f10 : ¬ Foot b g r10) : MS W0 w' b g N xs st :=
  h.kept hk (h.B.trans (hk.below h.B.size (fun k hk e => by omega))) (fun e => by rcases e with e | e | e; exact f8 (.inl e.symm); exact f9 (.inl e.symm); exact f10 (.inl e.symm))
    (fun k e e2 => by rcases e2 with e2 | e2 | e2; exact f8 (.inr (by rw [e, e2])); exact f9 (.inr (by rw [e, e2])); exact f10 (.inr (by rw [e, e2])))

end Go.Proofs.Ythdhilmmcabnlaa
