/- A memory that a law itself has made, and the contracts of package cells over it. -/
import Derived.Test.YtnpkhkfhlpopbaaCellsC
import Derived.Test.YtnpkhkfhlpopbaaRef02D
namespace Go.Proofs.Ytnpkhkfhlpopbaa
set_option linter.unusedSimpArgs false
set_option linter.unusedVariables false
open Go.RowKit

/-- A memory that was made since W0: all that lay below is as it was. -/
def MS (W0 w : World) (b : Nat) (g : Option Nat) (N : Int) (xs : List Int) (st : Int) : Prop :=
  MemIs w b g N xs st ∧ W0.heap.size ≤ b ∧ (∀ k, g = some k → W0.heap.size ≤ k) ∧ Below W0.heap.size W0 w ∧ 0 ≤ N ∧ N ≤ 1000 ∧ (xs.length : Int) ≤ N ∧ 0 ≤ st

/-- What a call at a memory may turn. -/
abbrev Foot (b : Nat) (g : Option Nat) : Nat → Prop := fun k => k = b ∨ some k = g

section
variable {W0 w : World} {b : Nat} {g : Option Nat} {N st : Int} {xs : List Int}
theorem MS.below {w' : World} (h : MS W0 w b g N xs st) (hb : Below w.heap.size w w') : MS W0 w' b g N xs st := by
  obtain ⟨h1, h2, h3, h4, h5⟩ := h
  exact ⟨h1.below hb, h2, h3, h4.trans (hb.mono h4.size), h5⟩
theorem MS.B (h : MS W0 w b g N xs st) : Below W0.heap.size W0 w := h.2.2.2.1
theorem MS.mem (h : MS W0 w b g N xs st) : MemIs w b g N xs st := h.1
theorem MS.len (h : MS W0 w b g N xs st) : xs.length ≤ 1000 := by obtain ⟨_, _, _, _, _, h6, h7, _⟩ := h; omega
theorem MS.turn {w' : World} {g' : Option Nat} {xs' : List Int} {st' : Int} (h : MS W0 w b g N xs st) (hm : MemIs w' b g' N xs' st') (hk : Kept (Foot b g) w w') (hg : g' = g ∨ ∃ k, g' = some k ∧ w.heap.size ≤ k) (hl : (xs'.length : Int) ≤ N) (hs : 0 ≤ st') : MS W0 w' b g' N xs' st' := by
  obtain ⟨h1, h2, h3, h4, h5, h6, h7, h8⟩ := h
  refine ⟨hm, h2, fun k e => ?_, ?_, h5, h6, hl, hs⟩
  · rcases hg with rfl | ⟨j, rfl, hj⟩
    · exact h3 k e
    · cases e; exact Nat.le_trans h4.size hj
  · exact h4.trans (hk.below h4.size (fun k hk' hs => by
      rcases hs with rfl | hs
      · omega
      · have := h3 k hs.symm; omega))
/-- Another memory, or a row, kept over a turn. -/
theorem MS.kept {w' : World} {F : Nat → Prop} (h : MS W0 w b g N xs st) (hk : Kept F w w') (hb : Below W0.heap.size W0 w') (h1 : ¬ F b) (h2 : ∀ k, g = some k → ¬ F k) : MS W0 w' b g N xs st := by
  obtain ⟨m, e⟩ := h
  exact ⟨m.kept hk h1 h2, e.1, e.2.1, hb, e.2.2.2⟩
theorem capOf_rng (n : Int) : 0 ≤ capOf n ∧ capOf n ≤ 1000 := by unfold capOf; omega

theorem New_ms (n : Int) (W0 w : World) (hB : Below W0.heap.size W0 w) :
    Calls Try.prog 27 #[.int .i64 n] w fun e w' => e = .returned (.pointer (some ⟨w.heap.size, 0, none⟩)) ∧ MS W0 w' w.heap.size none (capOf n) [] 0 ∧ Below w.heap.size w w' := by
  refine (New_any n w).mono fun e w' ⟨h1, h2, h3⟩ => ?_
  have hc := capOf_rng n
  exact ⟨h1, ⟨h2, hB.size, fun k e => (by cases e), hB.trans (h3.mono hB.size), hc.1, hc.2, hc.1, Int.le_refl 0⟩, h3⟩
theorem Load_ms (h : MS W0 w b g N xs st) (a : Int) (h0 : 0 ≤ a) (h1 : a < xs.length) (s1 : st < 1000000) :
    Calls Try.prog 18 #[.pointer (some ⟨b, 0, none⟩), .int .i64 a] w fun e w' => e = .returned (.tuple #[.int .i64 (xs.getD a.toNat 0), .int .u16 0]) ∧ MS W0 w' b g N xs (st + 1) ∧ Kept (Foot b g) w w' :=
  (Load_yes b g N st a xs w h.mem h0 h1 h.2.2.2.2.2.2.2 (by omega)).mono fun e w' ⟨e1, e2, e3⟩ =>
    have hk := e3.mono (T := Foot b g) (fun _ _ e => .inl e)
    ⟨e1, h.turn e2 hk (.inl rfl) h.2.2.2.2.2.2.1 (by have := h.2.2.2.2.2.2.2; omega), hk⟩
theorem Load_ms_no (h : MS W0 w b g N xs st) (a : Int) (ha : a < 0 ∨ (xs.length : Int) ≤ a) :
    Calls Try.prog 18 #[.pointer (some ⟨b, 0, none⟩), .int .i64 a] w fun e w' => e = .returned (.tuple #[.int .i64 0, .int .u16 10]) ∧ MS W0 w' b g N xs st ∧ Below w.heap.size w w' :=
  (Load_no b g N st a xs w h.mem ha).mono fun e w' ⟨e1, e2⟩ => ⟨e1, h.below e2, e2⟩
theorem Store_ms (h : MS W0 w b g N xs st) (a y : Int) (h0 : 0 ≤ a) (h1 : a < xs.length) (s1 : st < 1000000) :
    Calls Try.prog 14 #[.pointer (some ⟨b, 0, none⟩), .int .i64 a, .int .i64 y] w fun e w' => e = .returned (.int .u16 0) ∧ MS W0 w' b g N (xs.set a.toNat y) (st + 1) ∧ Kept (Foot b g) w w' :=
  (Store_yes b g N st a y xs w h.mem h0 h1 h.2.2.2.2.2.2.2 (by omega)).mono fun e w' ⟨e1, e2, e3⟩ =>
    ⟨e1, h.turn e2 e3 (.inl rfl) (by rw [List.length_set]; exact h.2.2.2.2.2.2.1) (by have := h.2.2.2.2.2.2.2; omega), e3⟩
theorem Store_ms_no (h : MS W0 w b g N xs st) (a y : Int) (ha : a < 0 ∨ (xs.length : Int) ≤ a) :
    Calls Try.prog 14 #[.pointer (some ⟨b, 0, none⟩), .int .i64 a, .int .i64 y] w fun e w' => e = .returned (.int .u16 10) ∧ MS W0 w' b g N xs st ∧ Below w.heap.size w w' :=
  (Store_no b g N st a y xs w h.mem ha).mono fun e w' ⟨e1, e2⟩ => ⟨e1, h.below e2, e2⟩
theorem Alloc_ms (h : MS W0 w b g N xs st) (a : Int) (h0 : 0 ≤ a) (h1 : a ≤ N - xs.length) (s1 : st < 1000000) :
    Calls Try.prog 30 #[.pointer (some ⟨b, 0, none⟩), .int .i64 a] w fun e w' => ∃ g', e = .returned (.tuple #[.int .i64 xs.length, .int .u16 0]) ∧ MS W0 w' b g' N (xs ++ List.replicate a.toNat 0) (st + 1) ∧ (g' = g ∨ ∃ k, g' = some k ∧ w.heap.size ≤ k) ∧ Kept (Foot b g) w w' := by
  have h' := h
  obtain ⟨m1, m2, m3, m4, m5, m6, m7, m8⟩ := h'
  exact (Alloc_yes b g N st a xs w m1 h0 h1 m5 m6 m7 m8 (by omega)).mono fun e w' ⟨e1, ⟨g', e2, e4⟩, e3⟩ =>
    ⟨g', e1, h.turn e2 e3 e4 (by simp; omega) (by omega), e4, e3⟩
theorem Alloc_ms_full (h : MS W0 w b g N xs st) (a : Int) (h0 : 0 ≤ a) (h1 : N - xs.length < a) :
    Calls Try.prog 30 #[.pointer (some ⟨b, 0, none⟩), .int .i64 a] w fun e w' => e = .returned (.tuple #[.int .i64 0, .int .u16 11]) ∧ MS W0 w' b g N xs st ∧ Below w.heap.size w w' := by
  have h' := h
  obtain ⟨m1, m2, m3, m4, m5, m6, m7, m8⟩ := h'
  exact (Alloc_full b g N st a xs w m1 h0 h1 m5 m6 m7).mono fun e w' ⟨e1, e2⟩ => ⟨e1, h.below e2, e2⟩
theorem Alloc_ms_neg (h : MS W0 w b g N xs st) (a : Int) (h0 : a < 0) :
    Calls Try.prog 30 #[.pointer (some ⟨b, 0, none⟩), .int .i64 a] w fun e w' => e = .returned (.tuple #[.int .i64 0, .int .u16 1]) ∧ MS W0 w' b g N xs st ∧ Below w.heap.size w w' :=
  (Alloc_neg _ a w h0).mono fun e w' ⟨e1, e2⟩ => ⟨e1, h.below e2, e2⟩
theorem Top_ms (h : MS W0 w b g N xs st) :
    Calls Try.prog 38 #[.pointer (some ⟨b, 0, none⟩)] w fun e w' => e = .returned (.int .i64 xs.length) ∧ MS W0 w' b g N xs st ∧ Below w.heap.size w w' :=
  (Top_any b g N st xs w h.mem (by have := h.len; omega)).mono fun e w' ⟨e1, e2⟩ => ⟨e1, h.below e2, e2⟩
theorem Steps_ms (h : MS W0 w b g N xs st) :
    Calls Try.prog 45 #[.pointer (some ⟨b, 0, none⟩)] w fun e w' => e = .returned (.int .i64 st) ∧ w = w' :=
  Steps_any b g N st xs w h.mem
theorem Cells_ms (h : MS W0 w b g N xs st) :
    Calls Try.prog 51 #[.pointer (some ⟨b, 0, none⟩)] w fun e w' => ∃ ao cap, e = .returned (.slice ao xs.length cap) ∧ MS W0 w' b g N xs st ∧ Row w' (.slice ao xs.length cap) xs ∧ Below w.heap.size w w' ∧ (∀ k, (Value.slice ao xs.length cap).ownBlock = some k → w.heap.size ≤ k) :=
  (Cells_any b g N st xs w h.mem (by have := h.len; omega)).mono fun e w' ⟨v', e1, e2, e3, e4⟩ => by
    obtain ⟨ao, cap, rfl⟩ := e2.shape
    exact ⟨ao, cap, e1, h.below e3, e2, e3, e4⟩
end

end Go.Proofs.Ytnpkhkfhlpopbaa
