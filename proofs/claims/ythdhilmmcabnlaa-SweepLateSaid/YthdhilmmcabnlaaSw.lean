/- What a step of package sweep does, as a function. -/
import Derived.Test.YthdhilmmcabnlaaThr2
import Derived.Test.YthdhilmmcabnlaaSwpCa
import Derived.Test.YthdhilmmcabnlaaSwpCb
import Derived.Test.YthdhilmmcabnlaaSwpCc
namespace Go.Proofs.Ythdhilmmcabnlaa
set_option linter.unusedSimpArgs false
set_option linter.unusedVariables false
open Go.RowKit

/-- The numbers of a thread. -/
@[ext] structure Th where
  i0 : Int
  i1 : Int
  i2 : Int
  i3 : Int
  i4 : Int
  i5 : Int
  i6 : Int
  i7 : Int
  i8 : Int
  i9 : Int
  i10 : Int
  i11 : Int
def thV (t : Th) (bt : Value) : Value := .agg #[.int .i64 t.i0, .int .i64 t.i1, .int .i64 t.i2, .int .i64 t.i3, .int .i64 t.i4, .int .i64 t.i5, .int .i64 t.i6, .int .i64 t.i7, .int .i64 t.i8, .int .i64 t.i9, .int .i64 t.i10, .int .i64 t.i11, bt]
/-- The cell that a step of who sweeps comes to. -/
def swA (t : Th) : Int :=
  if t.i1 = 40 then 1 else if t.i1 = 41 then wrap64 (t.i7 + 3) else if t.i1 = 42 then wrap64 (t.i6 + 1) else if t.i1 = 43 then wrap64 (t.i6 + 2)
  else if t.i1 = 44 then t.i6 else if t.i1 = 45 then wrap64 (t.i6 + 3) else if t.i1 = 46 then wrap64 (t.i7 + 3) else if t.i1 = 47 then wrap64 (t.i6 + 1) else 0
/-- The thread behind a step. -/
def swT (xs : List Int) (age : Int) (t : Th) : Th :=
  let v := cellAt xs (swA t)
  if t.i1 = 40 then (if v = 0 then { t with i1 := 48, i5 := v } else { t with i1 := 41, i5 := v, i7 := v })
  else if t.i1 = 41 then (if v = 0 then { t with i1 := 48, i5 := v } else { t with i1 := 42, i5 := v, i6 := v })
  else if t.i1 = 42 then (if v = 1 then { t with i1 := 43, i5 := v } else { t with i1 := 41, i5 := v, i7 := t.i6 })
  else if t.i1 = 43 then (if wrap64 (t.i10 - v) ≤ age then { t with i1 := 41, i5 := v, i7 := t.i6 } else { t with i1 := 44, i5 := v })
  else if t.i1 = 44 then (if swapIs xs t.i6 0 = true then { t with i1 := 45 } else { t with i1 := 41, i7 := t.i6 })
  else if t.i1 = 45 then { t with i1 := 46, i5 := v }
  else if t.i1 = 46 then { t with i1 := 47 }
  else if t.i1 = 47 then { t with i1 := 41 }
  else if t.i1 = 48 then { t with i1 := 11 }
  else t
/-- The cells behind a step. -/
def swX (xs : List Int) (t : Th) : List Int :=
  if t.i1 = 44 then cellSwap xs t.i6 0 (-1) else if t.i1 = 46 then cellSet xs (wrap64 (t.i7 + 3)) t.i5 else if t.i1 = 47 then cellSet xs (wrap64 (t.i6 + 1)) 0
  else if t.i1 = 48 then cellSet xs 0 0 else xs
/-- The steps that a step counts. -/
def swC (xs : List Int) (t : Th) : Int := if 40 ≤ t.i1 ∧ t.i1 ≤ 48 then cntAt xs (swA t) else 0
theorem swX_len (xs : List Int) (t : Th) : (swX xs t).length = xs.length := by
  unfold swX
  repeat' split
  all_goals first | rfl | exact cellSet_len .. | exact cellSwap_len ..
theorem swC_rng (xs : List Int) (t : Th) : 0 ≤ swC xs t ∧ swC xs t ≤ 1 := by
  unfold swC
  split
  · exact cntAt_rng ..
  · omega
theorem sStep_f (W0 w : World) (b : Nat) (g : Option Nat) (N st : Int) (xs : List Int) (t : Th) (bt : Value) (n : Nat) (F : Nat → Int) (age : Int) (h : MS W0 w b g N xs st) (hI : Its w bt n F) (hn : n ≤ 1000000) (s0 : 0 ≤ st) (s1 : st < 1000000)
    (hr : -9223372036854775808 ≤ t.i6 ∧ t.i6 ≤ 9223372036854775807) :
    Calls Try.prog 24 #[.pointer (some ⟨b, 0, none⟩), .int .i64 age, thV t bt] w fun e w' => ∃ bt', e = .returned (thV (swT xs age t) bt') ∧ MS W0 w' b g N (swX xs t) (st + swC xs t) ∧ Its w' bt' n F ∧ Kept (Foot b g) w w' := by
  obtain ⟨i0, i1, i2, i3, i4, i5, i6, i7, i8, i9, i10, i11⟩ := t
  obtain ⟨r1, r2⟩ := hr
  have z : st + 0 = st := Int.add_zero st
  by_cases h40 : i1 = 40
  · subst h40
    by_cases hv : cellAt xs 1 = 0
    · have := sStep_40a W0 w b g N st xs i0 i2 i3 i4 i5 i6 i7 i8 i9 i10 i11 bt n F age h hI hn s0 s1 _ rfl (beq_iff_eq.2 hv)
      simpa [thV, swT, swX, swC, swA, hv] using this
    · have := sStep_40b W0 w b g N st xs i0 i2 i3 i4 i5 i6 i7 i8 i9 i10 i11 bt n F age h hI hn s0 s1 _ rfl (beq_eq_false_iff_ne.2 hv)
      simpa [thV, swT, swX, swC, swA, hv] using this
  by_cases h41 : i1 = 41
  · subst h41
    by_cases hv : cellAt xs (wrap64 (i7 + 3)) = 0
    · have := sStep_41a W0 w b g N st xs i0 i2 i3 i4 i5 i6 i7 i8 i9 i10 i11 bt n F age h hI hn s0 s1 _ rfl (beq_iff_eq.2 hv)
      simpa [thV, swT, swX, swC, swA, hv] using this
    · have := sStep_41b W0 w b g N st xs i0 i2 i3 i4 i5 i6 i7 i8 i9 i10 i11 bt n F age h hI hn s0 s1 _ rfl (beq_eq_false_iff_ne.2 hv)
      simpa [thV, swT, swX, swC, swA, hv] using this
  by_cases h42 : i1 = 42
  · subst h42
    by_cases hv : cellAt xs (wrap64 (i6 + 1)) = 1
    · have := sStep_42a W0 w b g N st xs i0 i2 i3 i4 i5 i6 i7 i8 i9 i10 i11 bt n F age h hI hn s0 s1 _ rfl (beq_iff_eq.2 hv)
      simpa [thV, swT, swX, swC, swA, hv] using this
    · have := sStep_42b W0 w b g N st xs i0 i2 i3 i4 i5 i6 i7 i8 i9 i10 i11 bt n F age h hI hn s0 s1 _ rfl (beq_eq_false_iff_ne.2 hv)
      simpa [thV, swT, swX, swC, swA, hv] using this
  by_cases h43 : i1 = 43
  · subst h43
    by_cases hv : wrap64 (i10 - cellAt xs (wrap64 (i6 + 2))) ≤ age
    · have := sStep_43b W0 w b g N st xs i0 i2 i3 i4 i5 i6 i7 i8 i9 i10 i11 bt n F age h hI hn s0 s1 _ rfl hv
      simpa [thV, swT, swX, swC, swA, hv] using this
    · have := sStep_43a W0 w b g N st xs i0 i2 i3 i4 i5 i6 i7 i8 i9 i10 i11 bt n F age h hI hn s0 s1 _ rfl (by omega)
      simpa [thV, swT, swX, swC, swA, hv] using this
  by_cases h44 : i1 = 44
  · subst h44
    cases hv : swapIs xs i6 0
    · have := sStep_44b W0 w b g N st xs i0 i2 i3 i4 i5 i6 i7 i8 i9 i10 i11 bt n F age h hI hn s0 s1 r1 r2 hv
      simpa [thV, swT, swX, swC, swA, hv] using this
    · have := sStep_44a W0 w b g N st xs i0 i2 i3 i4 i5 i6 i7 i8 i9 i10 i11 bt n F age h hI hn s0 s1 r1 r2 hv
      simpa [thV, swT, swX, swC, swA, hv] using this
  by_cases h45 : i1 = 45
  · subst h45
    have := sStep_45 W0 w b g N st xs i0 i2 i3 i4 i5 i6 i7 i8 i9 i10 i11 bt n F age h hI hn s0 s1 _ rfl
    simpa [thV, swT, swX, swC, swA] using this
  by_cases h46 : i1 = 46
  · subst h46
    have := sStep_46 W0 w b g N st xs i0 i2 i3 i4 i5 i6 i7 i8 i9 i10 i11 bt n F age h hI hn s0 s1
    simpa [thV, swT, swX, swC, swA] using this
  by_cases h47 : i1 = 47
  · subst h47
    have := sStep_47 W0 w b g N st xs i0 i2 i3 i4 i5 i6 i7 i8 i9 i10 i11 bt n F age h hI hn s0 s1
    simpa [thV, swT, swX, swC, swA] using this
  by_cases h48 : i1 = 48
  · subst h48
    have := sStep_48 W0 w b g N st xs i0 i2 i3 i4 i5 i6 i7 i8 i9 i10 i11 bt n F age h hI hn s0 s1
    simpa [thV, swT, swX, swC, swA] using this
  have := sStep_no W0 w b g N st xs i0 i1 i2 i3 i4 i5 i6 i7 i8 i9 i10 i11 bt n F age h hI hn s0 s1 (beq_eq_false_iff_ne.2 h40) (beq_eq_false_iff_ne.2 h41) (beq_eq_false_iff_ne.2 h42) (beq_eq_false_iff_ne.2 h43) (beq_eq_false_iff_ne.2 h44) (beq_eq_false_iff_ne.2 h45) (beq_eq_false_iff_ne.2 h46) (beq_eq_false_iff_ne.2 h47) (beq_eq_false_iff_ne.2 h48)
  have hno : ¬ (40 ≤ i1 ∧ i1 ≤ 48) := by omega
  simpa [thV, swT, swX, swC, swA, h40, h41, h42, h43, h44, h45, h46, h47, h48, hno] using this

end Go.Proofs.Ythdhilmmcabnlaa
