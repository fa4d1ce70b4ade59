/- What a step of the reference of layer 17 does, as a function: the same as package sweep's. -/
import Derived.Test.YthdhilmmcabnlaaSw
import Derived.Test.YthdhilmmcabnlaaRef17B
import Derived.Test.YthdhilmmcabnlaaRef17C
import Derived.Test.YthdhilmmcabnlaaRef17D
import Derived.Test.YthdhilmmcabnlaaRef17E
import Derived.Test.YthdhilmmcabnlaaRef17F
namespace Go.Proofs.Ythdhilmmcabnlaa
set_option linter.unusedSimpArgs false
set_option linter.unusedVariables false
open Go.RowKit
set_option maxHeartbeats 1000000 in
theorem rStep17_f (w : World) (v : Value) (q : Option Nat) (N st : Int) (xs : List Int) (t : Th) (bo : Option Addr) (bn bc : Nat) (age : Int) (h : RVal w v q N xs st) (hn : xs.length ≤ 1000000) (s0 : 0 ≤ st) (s1 : st < 1000000) :
    Calls Try.prog 28 #[v, .int .i64 age, thV t (.slice bo bn bc)] w fun e w' => ∃ v' q', e = .returned (.tuple #[v', thV (swT xs age t) (.slice bo bn bc)]) ∧ RVal w' v' q' N (swX xs t) (st + swC xs t) ∧ (q' = q ∨ ∀ k, q' = some k → w.heap.size ≤ k) ∧ Below w.heap.size w w' := by
  obtain ⟨i0, i1, i2, i3, i4, i5, i6, i7, i8, i9, i10, i11⟩ := t
  by_cases h40 : i1 = 40
  · subst h40
    by_cases hv : cellAt xs (1) = 0
    · have := rStep17_40 w v q N st xs i0 i2 i3 i4 i5 i6 i7 i8 i9 i10 i11 bo bn bc age h hn s0 s1 48 (cellAt xs (1)) i6 i7 _ (fun u hb => rSeek17_40a u v q N st xs i0 i2 i3 i4 i5 i6 i7 i8 i9 i10 i11 bo bn bc age _ _ (h.below hb) rfl rfl s0 s1 (beq_iff_eq.2 hv))
      refine this.mono fun e w' ⟨v', e1, e2, e3⟩ => ⟨v', q, ?_, ?_, .inl rfl, e3⟩
      · simpa [thV, swT, swA, hv] using e1
      · simpa [swX, swC, swA] using e2
    · have := rStep17_40 w v q N st xs i0 i2 i3 i4 i5 i6 i7 i8 i9 i10 i11 bo bn bc age h hn s0 s1 41 (cellAt xs (1)) i6 (cellAt xs (1)) _ (fun u hb => rSeek17_40b u v q N st xs i0 i2 i3 i4 i5 i6 i7 i8 i9 i10 i11 bo bn bc age _ _ (h.below hb) rfl rfl s0 s1 (beq_eq_false_iff_ne.2 hv))
      refine this.mono fun e w' ⟨v', e1, e2, e3⟩ => ⟨v', q, ?_, ?_, .inl rfl, e3⟩
      · simpa [thV, swT, swA, hv] using e1
      · simpa [swX, swC, swA] using e2
  by_cases h41 : i1 = 41
  · subst h41
    by_cases hv : cellAt xs (wrap64 (i7 + 3)) = 0
    · have := rStep17_41 w v q N st xs i0 i2 i3 i4 i5 i6 i7 i8 i9 i10 i11 bo bn bc age h hn s0 s1 48 (cellAt xs (wrap64 (i7 + 3))) i6 i7 _ (fun u hb => rSeek17_41a u v q N st xs i0 i2 i3 i4 i5 i6 i7 i8 i9 i10 i11 bo bn bc age _ _ (h.below hb) rfl rfl s0 s1 (beq_iff_eq.2 hv))
      refine this.mono fun e w' ⟨v', e1, e2, e3⟩ => ⟨v', q, ?_, ?_, .inl rfl, e3⟩
      · simpa [thV, swT, swA, hv] using e1
      · simpa [swX, swC, swA] using e2
    · have := rStep17_41 w v q N st xs i0 i2 i3 i4 i5 i6 i7 i8 i9 i10 i11 bo bn bc age h hn s0 s1 42 (cellAt xs (wrap64 (i7 + 3))) (cellAt xs (wrap64 (i7 + 3))) i7 _ (fun u hb => rSeek17_41b u v q N st xs i0 i2 i3 i4 i5 i6 i7 i8 i9 i10 i11 bo bn bc age _ _ (h.below hb) rfl rfl s0 s1 (beq_eq_false_iff_ne.2 hv))
      refine this.mono fun e w' ⟨v', e1, e2, e3⟩ => ⟨v', q, ?_, ?_, .inl rfl, e3⟩
      · simpa [thV, swT, swA, hv] using e1
      · simpa [swX, swC, swA] using e2
  by_cases h42 : i1 = 42
  · subst h42
    by_cases hv : cellAt xs (wrap64 (i6 + 1)) = 1
    · have := rStep17_42 w v q N st xs i0 i2 i3 i4 i5 i6 i7 i8 i9 i10 i11 bo bn bc age h hn s0 s1 43 (cellAt xs (wrap64 (i6 + 1))) i6 i7 _ (fun u hb => rSeek17_42a u v q N st xs i0 i2 i3 i4 i5 i6 i7 i8 i9 i10 i11 bo bn bc age _ _ (h.below hb) rfl rfl s0 s1 (beq_iff_eq.2 hv))
      refine this.mono fun e w' ⟨v', e1, e2, e3⟩ => ⟨v', q, ?_, ?_, .inl rfl, e3⟩
      · simpa [thV, swT, swA, hv] using e1
      · simpa [swX, swC, swA] using e2
    · have := rStep17_42 w v q N st xs i0 i2 i3 i4 i5 i6 i7 i8 i9 i10 i11 bo bn bc age h hn s0 s1 41 (cellAt xs (wrap64 (i6 + 1))) i6 i6 _ (fun u hb => rSeek17_42b u v q N st xs i0 i2 i3 i4 i5 i6 i7 i8 i9 i10 i11 bo bn bc age _ _ (h.below hb) rfl rfl s0 s1 (beq_eq_false_iff_ne.2 hv))
      refine this.mono fun e w' ⟨v', e1, e2, e3⟩ => ⟨v', q, ?_, ?_, .inl rfl, e3⟩
      · simpa [thV, swT, swA, hv] using e1
      · simpa [swX, swC, swA] using e2
  by_cases h43 : i1 = 43
  · subst h43
    by_cases hv : wrap64 (i10 - cellAt xs (wrap64 (i6 + 2))) ≤ age
    · have := rStep17_43 w v q N st xs i0 i2 i3 i4 i5 i6 i7 i8 i9 i10 i11 bo bn bc age h hn s0 s1 41 (cellAt xs (wrap64 (i6 + 2))) i6 i6 _ (fun u hb => rSeek17_43b u v q N st xs i0 i2 i3 i4 i5 i6 i7 i8 i9 i10 i11 bo bn bc age _ _ (h.below hb) rfl rfl s0 s1 hv)
      refine this.mono fun e w' ⟨v', e1, e2, e3⟩ => ⟨v', q, ?_, ?_, .inl rfl, e3⟩
      · simpa [thV, swT, swA, hv] using e1
      · simpa [swX, swC, swA] using e2
    · have := rStep17_43 w v q N st xs i0 i2 i3 i4 i5 i6 i7 i8 i9 i10 i11 bo bn bc age h hn s0 s1 44 (cellAt xs (wrap64 (i6 + 2))) i6 i7 _ (fun u hb => rSeek17_43a u v q N st xs i0 i2 i3 i4 i5 i6 i7 i8 i9 i10 i11 bo bn bc age _ _ (h.below hb) rfl rfl s0 s1 (by omega))
      refine this.mono fun e w' ⟨v', e1, e2, e3⟩ => ⟨v', q, ?_, ?_, .inl rfl, e3⟩
      · simpa [thV, swT, swA, hv] using e1
      · simpa [swX, swC, swA] using e2
  by_cases h44 : i1 = 44
  · subst h44
    cases hv : swapIs xs i6 0
    · have := rStep17_44b w v q N st xs i0 i2 i3 i4 i5 i6 i7 i8 i9 i10 i11 bo bn bc age h hn s0 s1 hv
      simpa [thV, swT, swX, swC, swA, hv] using this
    · have := rStep17_44a w v q N st xs i0 i2 i3 i4 i5 i6 i7 i8 i9 i10 i11 bo bn bc age h hn s0 s1 hv
      simpa [thV, swT, swX, swC, swA, hv] using this
  by_cases h45 : i1 = 45
  · subst h45
    have := rStep17_45 w v q N st xs i0 i2 i3 i4 i5 i6 i7 i8 i9 i10 i11 bo bn bc age h hn s0 s1 _ _ rfl rfl
    refine this.mono fun e w' ⟨v', e1, e2, e3⟩ => ⟨v', q, ?_, ?_, .inl rfl, e3⟩
    · simpa [thV, swT, swA] using e1
    · simpa [swX, swC, swA] using e2
  by_cases h46 : i1 = 46
  · subst h46
    have := rStep17_46 w v q N st xs i0 i2 i3 i4 i5 i6 i7 i8 i9 i10 i11 bo bn bc age h hn s0 s1 _ rfl
    simpa [thV, swT, swX, swC, swA] using this
  by_cases h47 : i1 = 47
  · subst h47
    have := rStep17_47 w v q N st xs i0 i2 i3 i4 i5 i6 i7 i8 i9 i10 i11 bo bn bc age h hn s0 s1 _ rfl
    simpa [thV, swT, swX, swC, swA] using this
  by_cases h48 : i1 = 48
  · subst h48
    have := rStep17_48 w v q N st xs i0 i2 i3 i4 i5 i6 i7 i8 i9 i10 i11 bo bn bc age h hn s0 s1
    simpa [thV, swT, swX, swC, swA] using this
  have := rStep17_no w v q N st xs i0 i1 i2 i3 i4 i5 i6 i7 i8 i9 i10 i11 bo bn bc age h hn s0 s1 (beq_eq_false_iff_ne.2 h40) (beq_eq_false_iff_ne.2 h41) (beq_eq_false_iff_ne.2 h42) (beq_eq_false_iff_ne.2 h43) (beq_eq_false_iff_ne.2 h44) (beq_eq_false_iff_ne.2 h45) (beq_eq_false_iff_ne.2 h46) (beq_eq_false_iff_ne.2 h47) (beq_eq_false_iff_ne.2 h48)
  have hno : ¬ (40 ≤ i1 ∧ i1 ≤ 48) := by omega
  refine this.mono fun e w' ⟨v', e1, e2, e3⟩ => ⟨v', q, ?_, ?_, .inl rfl, e3⟩
  · simpa [thV, swT, h40, h41, h42, h43, h44, h45, h46, h47, h48] using e1
  · simpa [swX, swC, hno, h44, h46, h47, h48] using e2

end Go.Proofs.Ythdhilmmcabnlaa
