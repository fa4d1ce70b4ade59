/- Package record and the reference of layer 13, as functions of the cells. -/
import Derived.Test.YtcellcjojfbajaaFun
import Derived.Test.YtcellcjojfbajaaRec
import Derived.Test.YtcellcjojfbajaaSlices
import Derived.Test.YtcellcjojfbajaaFrame
import Derived.Deep.RegionHeld3
import Derived.Deep.QuietTactic
import Derived.BigQuiet
namespace Go.Proofs.Ytcellcjojfbajaa
set_option linter.unusedSimpArgs false
set_option linter.unusedVariables false
open Go.RowKit
open Go.ChangeShapes Go.WideShapes Go.ChangeAt

def nthIs (n : Nat) (a : Int) : Bool := decide (3 ≤ a ∧ (a - 3) % 5 = 0 ∧ (a - 3) / 5 < manyOf n)
def nthOf (n : Nat) (a : Int) : Int := if nthIs n a = true then (a - 3) / 5 else 0
def recAt (xs : List Int) (a : Int) (j : Nat) : Int := if nthIs xs.length a = true then xs.getD (a.toNat + j) 0 else 0
def recV (xs : List Int) (a : Int) : Value := .agg #[.int .i64 (recAt xs a 0), .int .i64 (recAt xs a 1), .int .i64 (recAt xs a 2), .int .i64 (recAt xs a 3), .int .i64 (recAt xs a 4)]
theorem nth_yes {n : Nat} {a : Int} (h1 : 3 ≤ a) (h2 : (a - 3) % 5 = 0) (h3 : (a - 3) / 5 < manyOf n) : nthIs n a = true := decide_eq_true ⟨h1, h2, h3⟩
theorem nth_no {n : Nat} {a : Int} (h : NoRec n a) : nthIs n a = false := decide_eq_false (by unfold NoRec at h; omega)
theorem manyOf_rng {n : Nat} (h : n ≤ 1000) : 0 ≤ manyOf n ∧ manyOf n ≤ 199 := by unfold manyOf; omega
section
variable {W0 w : World} {b : Nat} {g : Option Nat} {N st : Int} {xs : List Int}
theorem Nth_f (h : MS W0 w b g N xs st) (a : Int) (ha2 : a ≤ 9223372036854775807) : Calls Try.prog 52 #[.pointer (some ⟨b, 0, none⟩), .int .i64 a] w fun e w' => e = .returned (.tuple #[.int .i64 (nthOf xs.length a), .bool (nthIs xs.length a)]) ∧ MS W0 w' b g N xs st ∧ Below w.heap.size w w' := by
  by_cases hn : 3 ≤ a ∧ (a - 3) % 5 = 0 ∧ (a - 3) / 5 < manyOf xs.length
  · exact (Nth_ms h a _ rfl hn.1 ha2 hn.2.1 hn.2.2).mono fun e w' ⟨e1, e2⟩ => ⟨by rw [e1, nthOf, nth_yes hn.1 hn.2.1 hn.2.2, if_pos rfl], e2⟩
  · have h0 : NoRec xs.length a := by unfold NoRec; omega
    exact (Nth_ms_no h a ha2 h0).mono fun e w' ⟨e1, e2⟩ => ⟨by rw [e1, nthOf, nth_no h0, if_neg (by decide)], e2⟩
theorem See_f (h : MS W0 w b g N xs st) (a : Int) (ha2 : a ≤ 9223372036854775807) : Calls Try.prog 30 #[.pointer (some ⟨b, 0, none⟩), .int .i64 a] w fun e w' => e = .returned (.tuple #[recV xs a, .bool (nthIs xs.length a)]) ∧ MS W0 w' b g N xs st ∧ Below w.heap.size w w' := by
  by_cases hn : 3 ≤ a ∧ (a - 3) % 5 = 0 ∧ (a - 3) / 5 < manyOf xs.length
  · exact (See_ms h a _ rfl hn.1 ha2 hn.2.1 hn.2.2).mono fun e w' ⟨e1, e2⟩ => ⟨by rw [e1]; simp only [recV, recAt, nth_yes hn.1 hn.2.1 hn.2.2, if_true, Nat.add_zero], e2⟩
  · have h0 : NoRec xs.length a := by unfold NoRec; omega
    exact (See_no h a ha2 h0).mono fun e w' ⟨e1, e2⟩ => ⟨by rw [e1]; simp only [recV, recAt, nth_no h0, if_neg (show ¬ (false = true) by decide)], e2⟩
end
theorem Base_f (k : Int) (w : World) : Calls Try.prog 32 #[.int .i64 k] w fun e w' => e = .returned (.int .i64 (if k < 0 ∨ 1000 < k then 0 else 3 + 5 * k)) ∧ w = w' := by
  by_cases h : k < 0 ∨ 1000 < k
  · rw [if_pos h]; exact Base_out k w h
  · rw [if_neg h]; exact Base_in k w (by omega) (by omega)
/-- What a cell holds: behind a definition, so that a region's facts may name it though a store turns it. -/
def theCell (w : World) (b j : Nat) : Value := (w.cell? ⟨b, j, none⟩).getD undef
theorem theCell_of {w : World} {b j : Nat} {v : Value} (h : w.cell? ⟨b, j, none⟩ = some v) : w.cell? ⟨b, j, none⟩ = some (theCell w b j) := by unfold theCell; rw [h]; rfl
theorem theCell_is {w : World} {b j : Nat} (h : (w.cell? ⟨b, j, none⟩).isSome = true) : w.cell? ⟨b, j, none⟩ = some (theCell w b j) := by
  obtain ⟨v, hv⟩ := Option.isSome_iff_exists.1 h
  exact theCell_of hv
theorem theCell_kept {w w' : World} {b j : Nat} (hb : Below w.heap.size w w') (hl : b < w.heap.size) (h : w.cell? ⟨b, j, none⟩ = some (theCell w b j)) : w'.cell? ⟨b, j, none⟩ = some (theCell w' b j) :=
  theCell_of ((hb.cell (p := ⟨b, j, none⟩) hl).trans h)
theorem theCell_set {w : World} {b j : Nat} {p : Addr} {u : Value} (h : w.cell? ⟨b, j, none⟩ = some (theCell w b j)) : (w.setCell p u).cell? ⟨b, j, none⟩ = some (theCell (w.setCell p u) b j) := by
  obtain ⟨v, hv⟩ := cell?_setCell_some (p := p) (x := u) h
  exact theCell_of hv
theorem cell_far {w : World} {b j : Nat} {p : Addr} {u v : Value} (hne : b ≠ p.block) (h : w.cell? ⟨b, j, none⟩ = some v) : (w.setCell p u).cell? ⟨b, j, none⟩ = some v :=
  (World.cell?_of_block (Below.heap_setCell _ _ _ _ hne)).trans h
def recV' (xs : List Int) (a : Int) : Value := .agg #[.int .i64 (cellAt xs a), .int .i64 (cellAt xs (a + 1)), .int .i64 (cellAt xs (a + 2)), .int .i64 (cellAt xs (a + 3)), .int .i64 (cellAt xs (a + 4))]
section
variable {w : World} {v : Value} {q : Option Nat} {N st : Int} {xs : List Int}
end

end Go.Proofs.Ytcellcjojfbajaa
