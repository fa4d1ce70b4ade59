/- Threads: a batch of items wherever it lies, its clone; a block of thirteen cells. -/
import Derived.Test.YtnpkhkfhlpopbaaFun
import Derived.Test.YtnpkhkfhlpopbaaStructs
import Derived.Test.YtnpkhkfhlpopbaaFrame
namespace Go.Proofs.Ytnpkhkfhlpopbaa
set_option linter.unusedSimpArgs false
set_option linter.unusedVariables false
open Go.RowKit Go.ChangeShapes Go.WideShapes Go.ChangeAt Go.Deep

/-- A slice of n items: the j-th of its 3n cells is F j. -/
def Its (w : World) (v : Value) (n : Nat) (F : Nat → Int) : Prop :=
  ∃ ao cap, v = .slice ao n cap ∧ (0 < n → ∃ b off, ao = some ⟨b, off, none⟩ ∧ b < w.heap.size ∧ ∀ j, j < 3 * n → w.cell? ⟨b, off + j, none⟩ = some (.int .i64 (F j)))
theorem Its.below {w w' : World} {v : Value} {n : Nat} {F : Nat → Int} (h : Its w v n F) (hb : Below w.heap.size w w') : Its w' v n F := by
  obtain ⟨ao, cap, h1, h4⟩ := h
  refine ⟨ao, cap, h1, fun hp => ?_⟩
  obtain ⟨b, off, e1, e2, e3⟩ := h4 hp
  exact ⟨b, off, e1, Nat.lt_of_lt_of_le e2 hb.size, fun j hj => (hb.cell (p := ⟨b, off + j, none⟩) e2).trans (e3 j hj)⟩
theorem Its.nil (w : World) (F : Nat → Int) : Its w (.slice none 0 0) 0 F := ⟨none, 0, rfl, fun h => absurd h (Nat.lt_irrefl 0)⟩
theorem Its.kept {S : Nat → Prop} {w w' : World} {ao : Option Addr} {cap n : Nat} {F : Nat → Int} (h : Its w (.slice ao n cap) n F) (hk : Kept S w w') (hs : ∀ b, (∃ off, ao = some ⟨b, off, none⟩) → b < w.heap.size → ¬ S b) : Its w' (.slice ao n cap) n F := by
  obtain ⟨ao', cap', h1, h4⟩ := h
  cases h1
  refine ⟨ao, cap, rfl, fun hp => ?_⟩
  obtain ⟨b, off, e1, e2, e3⟩ := h4 hp
  exact ⟨b, off, e1, Nat.lt_of_lt_of_le e2 hk.size, fun j hj => (hk.cell (p := ⟨b, off + j, none⟩) e2 (hs b ⟨off, e1⟩ e2)).trans (e3 j hj)⟩
def itsL (n : Nat) (F : Nat → Int) : List Value := (List.range (3 * n)).map fun j => .int .i64 (F j)
theorem itsL_len (n : Nat) (F : Nat → Int) : (itsL n F).length = n * 3 := by unfold itsL; simp; omega
theorem itsL_at {n : Nat} {F : Nat → Int} {j : Nat} (h : j < 3 * n) : (itsL n F)[j]? = some (.int .i64 (F j)) := by unfold itsL; simp [h]
theorem itsL_inv {n : Nat} {F : Nat → Int} {j : Nat} {u : Value} (h : (itsL n F)[j]? = some u) : j < 3 * n ∧ u = .int .i64 (F j) := by
  have hj : j < 3 * n := by
    have := (List.getElem?_eq_some_iff.1 h).1
    rw [itsL_len] at this; omega
  rw [itsL_at hj] at h
  exact ⟨hj, (Option.some.inj h).symm⟩
theorem add_none (b off j : Nat) : (⟨b, off, none⟩ : Addr).add j = ⟨b, off + j, none⟩ := by unfold Addr.add; split <;> simp_all
theorem blk13 {w : World} {b : Nat} {x0 x1 x2 x3 x4 x5 x6 x7 x8 x9 x10 x11 x12 : Value} {t : TypeId} (h : w.heap[b]? = some (.cells #[x0, x1, x2, x3, x4, x5, x6, x7, x8, x9, x10, x11, x12] t (0, 0))) :
    (w.cell? ⟨b, 0, none⟩ = some x0 ∧ w.cell? ⟨b, 1, none⟩ = some x1 ∧ w.cell? ⟨b, 2, none⟩ = some x2 ∧ w.cell? ⟨b, 3, none⟩ = some x3 ∧ w.cell? ⟨b, 4, none⟩ = some x4 ∧ w.cell? ⟨b, 5, none⟩ = some x5 ∧ w.cell? ⟨b, 6, none⟩ = some x6 ∧ w.cell? ⟨b, 7, none⟩ = some x7 ∧ w.cell? ⟨b, 8, none⟩ = some x8 ∧ w.cell? ⟨b, 9, none⟩ = some x9 ∧ w.cell? ⟨b, 10, none⟩ = some x10 ∧ w.cell? ⟨b, 11, none⟩ = some x11 ∧ w.cell? ⟨b, 12, none⟩ = some x12) ∧ b < w.heap.size := by
  refine ⟨⟨?_, ?_, ?_, ?_, ?_, ?_, ?_, ?_, ?_, ?_, ?_, ?_, ?_⟩, (Array.getElem?_eq_some_iff.1 h).1⟩ <;> simp [World.cell?, h]
theorem blkF {w : World} {b : Nat} {cs : Array Value} {t : TypeId} (h : w.heap[b]? = some (.cells cs t (0, 0))) (j : Nat) : w.frozen? ⟨b, j, none⟩ = false := by simp [World.frozen?, h]

end Go.Proofs.Ytnpkhkfhlpopbaa
