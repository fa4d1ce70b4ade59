/- Package cells over a memory of a law: whatever the number. -/
import Derived.Test.YtnpkhkfhlpopbaaCellsPlain
namespace Go.Proofs.Ytnpkhkfhlpopbaa
set_option linter.unusedSimpArgs false
set_option linter.unusedVariables false
open Go.RowKit

section
variable {W0 w : World} {b : Nat} {g : Option Nat} {N st : Int} {xs : List Int}
/-- The call counts if it came to a cell. -/
abbrev cnt (a : Int) (n : Nat) : Int := if 0 ≤ a ∧ a < n then 1 else 0
theorem cnt_yes {a : Int} {n : Nat} (h0 : 0 ≤ a) (h1 : a < n) : cnt a n = 1 := if_pos ⟨h0, h1⟩
theorem cnt_no {a : Int} {n : Nat} (h : a < 0 ∨ (n : Int) ≤ a) : cnt a n = 0 := if_neg (by omega)
theorem MS.eq {st' : Int} (h : MS W0 w b g N xs st) (e : st = st') : MS W0 w b g N xs st' := e ▸ h
theorem Load_ms_any (h : MS W0 w b g N xs st) (a : Int) (s1 : st < 1000000) :
    Calls Try.prog 18 #[.pointer (some ⟨b, 0, none⟩), .int .i64 a] w fun e w' => ∃ r s, e = .returned (.tuple #[.int .i64 r, .int .u16 s]) ∧ ∃ ys, MS W0 w' b g N ys (st + cnt a xs.length) ∧ ys.length = xs.length := by
  by_cases ha : 0 ≤ a ∧ a < xs.length
  · exact (Load_ms h a ha.1 ha.2 s1).mono fun e w' ⟨e1, e2, _⟩ => ⟨_, _, e1, xs, e2.eq (by rw [cnt_yes ha.1 ha.2]), rfl⟩
  · exact (Load_ms_no h a (by omega)).mono fun e w' ⟨e1, e2, _⟩ => ⟨_, _, e1, xs, e2.eq (by rw [cnt_no (by omega)]; omega), rfl⟩
theorem Store_ms_any (h : MS W0 w b g N xs st) (a y : Int) (s1 : st < 1000000) :
    Calls Try.prog 14 #[.pointer (some ⟨b, 0, none⟩), .int .i64 a, .int .i64 y] w fun e w' => ∃ s, e = .returned (.int .u16 s) ∧ ∃ ys, MS W0 w' b g N ys (st + cnt a xs.length) ∧ ys.length = xs.length := by
  by_cases ha : 0 ≤ a ∧ a < xs.length
  · exact (Store_ms h a y ha.1 ha.2 s1).mono fun e w' ⟨e1, e2, _⟩ => ⟨_, e1, _, e2.eq (by rw [cnt_yes ha.1 ha.2]), by simp⟩
  · exact (Store_ms_no h a y (by omega)).mono fun e w' ⟨e1, e2, _⟩ => ⟨_, e1, xs, e2.eq (by rw [cnt_no (by omega)]; omega), rfl⟩
theorem MS.drewN (h : MS W0 w b g N xs st) (n : Nat) : MS W0 (w.drewN n) b g N xs st := h.below (below_drewN (Below.refl _ _) n)
end

end Go.Proofs.Ytnpkhkfhlpopbaa
