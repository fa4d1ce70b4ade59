/- The records of a memory, as a map's entries. -/
import Derived.Test.YtnpkhkfhlpopbaaMapV
import Derived.Test.YtnpkhkfhlpopbaaRecFun
import Derived.Test.YtnpkhkfhlpopbaaTabP
namespace Go.Proofs.Ytnpkhkfhlpopbaa
set_option linter.unusedSimpArgs false
set_option linter.unusedVariables false
open Go.RowKit
open Go.ChangeShapes Go.WideShapes Go.ChangeAt

def recEnts (X : List Int) : Nat → List (Int × Value)
  | 0 => []
  | m + 1 => (3 + 5 * (m : Int), recV X (3 + 5 * (m : Int))) :: recEnts X m
theorem getV_rec (X : List Int) (a : Int) : ∀ m : Nat, getV (recEnts X m) a = if 3 ≤ a ∧ (a - 3) % 5 = 0 ∧ (a - 3) / 5 < m then some (recV X a) else none
  | 0 => by rw [if_neg (by omega)]; rfl
  | m + 1 => by
    simp only [recEnts, getV, getV_rec X a m]
    by_cases h : 3 ≤ a ∧ (a - 3) % 5 = 0 ∧ (a - 3) / 5 < m
    · rw [if_pos h, if_pos (show 3 ≤ a ∧ (a - 3) % 5 = 0 ∧ (a - 3) / 5 < ((m + 1 : Nat) : Int) by omega)]
    · rw [if_neg h]
      simp only []
      by_cases h2 : 3 + 5 * (m : Int) = a
      · rw [if_pos h2, if_pos (by omega), h2]
      · rw [if_neg h2, if_neg (by omega)]
theorem recEnts_len (X : List Int) : ∀ m, (recEnts X m).length = m
  | 0 => rfl
  | m + 1 => by simp [recEnts, recEnts_len X m]
/-- All records of a memory. -/
def recAll (X : List Int) : List (Int × Value) := recEnts X (manyOf X.length).toNat
theorem getV_all (X : List Int) (a : Int) : getV (recAll X) a = if nthIs X.length a = true then some (recV X a) else none := by
  unfold recAll nthIs
  rw [getV_rec]
  have h : 0 ≤ manyOf X.length := by unfold manyOf; omega
  simp only [decide_eq_true_eq]
  by_cases hc : 3 ≤ a ∧ (a - 3) % 5 = 0 ∧ (a - 3) / 5 < manyOf X.length
  · rw [if_pos hc, if_pos (by omega)]
  · rw [if_neg hc, if_neg (by omega)]
theorem MapAt.below {w w' : World} {b : Nat} {l : List (Int × Value)} (h : MapAt w b l) (hb : Below w.heap.size w w') : MapAt w' b l := (hb.block b (Array.getElem?_eq_some_iff.1 h).1).trans h
theorem MapAt.lt {w : World} {b : Nat} {l : List (Int × Value)} (h : MapAt w b l) : b < w.heap.size := (Array.getElem?_eq_some_iff.1 h).1
theorem MapAt.kept {w w' : World} {F : Nat → Prop} {b : Nat} {l : List (Int × Value)} (h : MapAt w b l) (hk : Kept F w w') (hf : ¬ F b) : MapAt w' b l := (hk.block b h.lt hf).trans h
theorem MS.past {W0 u : World} {b : Nat} {g : Option Nat} {N st : Int} {X : List Int} (h : MS W0 u b g N X st) : ∀ k, u.heap.size ≤ k → ¬ Foot b g k := fun k hk => by
  rintro (e | e)
  · have := h.mem.lt; omega
  · subst e; have := h.mem.row_lt; omega
theorem blk2v {w : World} {b : Nat} {x0 x1 : Value} {t : TypeId} (h : w.heap[b]? = some (.cells #[x0, x1] t (0, 0))) : (w.cell? ⟨b, 0, none⟩ = some x0 ∧ w.cell? ⟨b, 1, none⟩ = some x1) ∧ b < w.heap.size := by
  refine ⟨⟨?_, ?_⟩, (Array.getElem?_eq_some_iff.1 h).1⟩ <;> simp [World.cell?, h]

end Go.Proofs.Ytnpkhkfhlpopbaa
