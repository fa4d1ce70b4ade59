/- Package record over a memory of a law. -/
import Derived.Test.YthdhilmmcabnlaaMsAny
import Derived.Test.YthdhilmmcabnlaaFrame
import Derived.Laws.Cover3
import Derived.Deep.RegionHeld3
import Derived.Deep.QuietTactic
import Derived.BigQuiet
namespace Go.Proofs.Ythdhilmmcabnlaa
set_option linter.unusedSimpArgs false
set_option linter.unusedVariables false
open Go.RowKit
open Go.ChangeShapes Go.WideShapes Go.ChangeAt

def manyOf (n : Nat) : Int := (max 0 ((n : Int) - 3)) / 5
section
variable {W0 w : World} {b : Nat} {g : Option Nat} {N st : Int} {xs : List Int}
/-- A number at which no record stands. -/
def NoRec (n : Nat) (a : Int) : Prop := a < 3 ∨ (a - 3) % 5 ≠ 0 ∨ manyOf n ≤ (a - 3) / 5
theorem set5 {w1 : World} {r : Nat} (m1 : MS W0 w1 b g N xs st) (B1 : Below r w w1) (h1 : b ≠ r) (h2 : ∀ k, g = some k → k ≠ r) (h3 : r < w1.heap.size) (hr : W0.heap.size ≤ r) (u0 u1 u2 u3 u4 : Value) :
    MS W0 (((((w1.setCell ⟨r, 0, none⟩ u0).setCell ⟨r, 1, none⟩ u1).setCell ⟨r, 2, none⟩ u2).setCell ⟨r, 3, none⟩ u3).setCell ⟨r, 4, none⟩ u4) b g N xs st ∧ Below r w (((((w1.setCell ⟨r, 0, none⟩ u0).setCell ⟨r, 1, none⟩ u1).setCell ⟨r, 2, none⟩ u2).setCell ⟨r, 3, none⟩ u3).setCell ⟨r, 4, none⟩ u4) := by
  have hK : Kept (fun k => k = r) w1 (((((w1.setCell ⟨r, 0, none⟩ u0).setCell ⟨r, 1, none⟩ u1).setCell ⟨r, 2, none⟩ u2).setCell ⟨r, 3, none⟩ u3).setCell ⟨r, 4, none⟩ u4) :=
    (((((Kept.refl (fun k => k = r) w1).setCell (p := ⟨r, 0, none⟩) (fun _ => rfl) u0).setCell (p := ⟨r, 1, none⟩) (fun _ => rfl) u1).setCell (p := ⟨r, 2, none⟩) (fun _ => rfl) u2).setCell (p := ⟨r, 3, none⟩) (fun _ => rfl) u3).setCell (p := ⟨r, 4, none⟩) (fun _ => rfl) u4
  exact ⟨m1.kept hK (m1.B.trans (hK.below m1.B.size (fun k hk e => by omega))) h1 h2, B1.trans (hK.below (Nat.le_of_lt h3) (fun k hk e => by omega))⟩
end
end Go.Proofs.Ythdhilmmcabnlaa
