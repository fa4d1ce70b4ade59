/- Step of package owner, as a function of the cells and the thread. -/
import Derived.Test.YtcellcjojfbajaaOwEa
import Derived.Test.YtcellcjojfbajaaOwEb
import Derived.Test.YtcellcjojfbajaaOwEc
namespace Go.Proofs.Ytcellcjojfbajaa
set_option linter.unusedSimpArgs false
set_option linter.unusedVariables false
open Go.RowKit
open Go.ChangeShapes Go.WideShapes Go.ChangeAt

/-- A thread's numbers. -/
structure Th where
  i0 : Int
  i1 : Int
  i2 : Int
  i3 : Int
  i4 : Int
  i5 : Int
  i6 : Int
  i7 : Int
  i8 : Int
  i9 : Int
  i10 : Int
  i11 : Int
def thV (t : Th) (bt : Value) : Value := .agg #[.int .i64 t.i0, .int .i64 t.i1, .int .i64 t.i2, .int .i64 t.i3, .int .i64 t.i4, .int .i64 t.i5, .int .i64 t.i6, .int .i64 t.i7, .int .i64 t.i8, .int .i64 t.i9, .int .i64 t.i10, .int .i64 t.i11, bt]
/-- The cell that a step comes to. -/
def owA (t : Th) : Int :=
  if t.i1 = 2 then t.i2 else if t.i1 = 3 then wrap64 (t.i2 + 1) else if t.i1 = 4 then t.i2 else if t.i1 = 5 then wrap64 (t.i2 + 1) else if t.i1 = 6 then wrap64 (t.i2 + 1)
  else if t.i1 = 7 then 1 else if t.i1 = 8 then wrap64 (t.i2 + 3) else if t.i1 = 9 then 1 else if t.i1 = 10 then wrap64 (t.i2 + 1) else if t.i1 = 11 then t.i2
  else if t.i1 = 12 then 0 else if t.i1 = 13 then 0 else if t.i1 = 14 then wrap64 (t.i2 + 4) else if t.i1 = 15 then t.i2 else if t.i1 = 16 then wrap64 (t.i2 + 1) else 0
/-- The thread behind a step. -/
def owT (N : Int) (xs : List Int) (t : Th) : Th :=
  let v := cellAt xs (owA t)
  if t.i1 = 1 then { t with i1 := if allocOk xs N 5 = true then 2 else 1, i2 := if allocOk xs N 5 = true then (xs.length : Int) else t.i2 }
  else if t.i1 = 2 then { t with i1 := if swapIs xs t.i2 0 = true then 5 else 3 }
  else if t.i1 = 3 then { t with i1 := if v = 0 then 4 else 3, i5 := v }
  else if t.i1 = 4 then { t with i1 := 5 }
  else if t.i1 = 5 then { t with i1 := if v = 0 then 6 else 11, i5 := v }
  else if t.i1 = 6 then { t with i1 := if swapIs xs (wrap64 (t.i2 + 1)) 0 = true then 15 else 11 }
  else if t.i1 = 7 then { t with i1 := 8, i5 := v }
  else if t.i1 = 8 then { t with i1 := 9 }
  else if t.i1 = 9 then { t with i1 := 10, i5 := if swapIs xs 1 t.i5 = true then 1 else 0 }
  else if t.i1 = 10 then { t with i1 := 11 }
  else if t.i1 = 11 then { t with i1 := if v = t.i4 then 12 else 14, i5 := v }
  else if t.i1 = 12 then { t with i1 := if v = 0 then 13 else 11, i5 := v }
  else if t.i1 = 13 then { t with i1 := if swapIs xs 0 0 = true then 20 else 11, i11 := if swapIs xs 0 0 = true then 0 else t.i11 }
  else if t.i1 = 14 then { t with i1 := 0, i4 := 0, i5 := v }
  else if t.i1 = 15 then { t with i1 := if v = t.i4 then 7 else 16, i5 := v }
  else if t.i1 = 16 then { t with i1 := 11 }
  else t
/-- The cells behind a step. -/
def owX (N : Int) (xs : List Int) (t : Th) : List Int :=
  if t.i1 = 1 then allocXs xs N 5 else if t.i1 = 2 then cellSwap xs t.i2 0 t.i4 else if t.i1 = 4 then cellSet xs t.i2 t.i4 else if t.i1 = 6 then cellSwap xs (wrap64 (t.i2 + 1)) 0 2
  else if t.i1 = 8 then cellSet xs (wrap64 (t.i2 + 3)) t.i5 else if t.i1 = 9 then cellSwap xs 1 t.i5 t.i2 else if t.i1 = 10 then cellSet xs (wrap64 (t.i2 + 1)) t.i5
  else if t.i1 = 13 then cellSwap xs 0 0 (wrap64 (t.i0 + 1)) else if t.i1 = 16 then cellSet xs (wrap64 (t.i2 + 1)) 0 else xs
/-- The steps that a step counts. -/
def owC (N : Int) (xs : List Int) (t : Th) : Int := if t.i1 = 1 then allocCnt xs N 5 else if 2 ≤ t.i1 ∧ t.i1 ≤ 16 then cntAt xs (owA t) else 0
def owK (xs : List Int) (t : Th) : Int := if t.i1 = 14 then wk (cellAt xs (wrap64 (t.i2 + 4))) else 0
def owV (xs : List Int) (t : Th) : Int := if t.i1 = 14 then wv (cellAt xs (wrap64 (t.i2 + 4))) else 0
theorem owC_rng (N : Int) (xs : List Int) (t : Th) : 0 ≤ owC N xs t ∧ owC N xs t ≤ 1 := by
  unfold owC
  split
  · unfold allocCnt; split <;> omega
  · split
    · exact cntAt_rng ..
    · omega

set_option maxHeartbeats 4000000 in
theorem oStep_f (W0 w : World) (b : Nat) (g : Option Nat) (N st : Int) (xs : List Int) (t : Th) (bt : Value) (n : Nat) (F : Nat → Int) (h : MS W0 w b g N xs st) (hI : Its w bt n F) (hn : n ≤ 1000000) (s0 : 0 ≤ st) (s1 : st < 1000000)
    (hr : -9223372036854775808 ≤ t.i2 ∧ t.i2 ≤ 9223372036854775807) :
    Calls Try.prog 12 #[.pointer (some ⟨b, 0, none⟩), thV t bt] w fun e w' => ∃ bt' g', e = .returned (.tuple #[thV (owT N xs t) bt', .agg #[.int .u8 (owK xs t), .int .i32 (owV xs t)], .bool (decide (t.i1 = 14))]) ∧ MS W0 w' b g' N (owX N xs t) (st + owC N xs t) ∧ Its w' bt' n F ∧ Kept (Foot b g) w w' ∧ (g' = g ∨ ∃ k, g' = some k ∧ w.heap.size ≤ k) := by
  obtain ⟨i0, i1, i2, i3, i4, i5, i6, i7, i8, i9, i10, i11⟩ := t
  obtain ⟨r1, r2⟩ := hr
  have z : st + 0 = st := Int.add_zero st
  by_cases h1 : i1 = 1
  · subst h1
    have := oStep_1 W0 w b g N st _ xs _ i0 i2 i3 i4 i5 i6 i7 i8 i9 i10 i11 _ _ _ _ _ _ _ _ _ _ _ _ _ _ _ bt n F h hI hn s0 (fun u x bt h => (oAlloc_any W0 u x g N st xs i0 1 i2 i3 i4 i5 i6 i7 i8 i9 i10 i11 bt b 0 0 false r1 r2 _ _ rfl rfl h s1).mono fun e u' ⟨e1, g', e2, e3, e4⟩ => ⟨e1, g', e2, e3, e4⟩)
    simpa [thV, owT, owX, owC, owA, owK, owV] using this
  by_cases h2 : i1 = 2
  · subst h2
    have := oStep_2 W0 w b g N st _ xs _ i0 i2 i3 i4 i5 i6 i7 i8 i9 i10 i11 _ _ _ _ _ _ _ _ _ _ _ _ _ _ _ bt n F h hI hn s0 (fun u x bt h => (oPublish_any W0 u x g N st xs i0 2 i2 i3 i4 i5 i6 i7 i8 i9 i10 i11 bt b 0 0 false r1 r2 _ rfl h s1).mono fun e u' ⟨e1, e2, e3⟩ => ⟨e1, g, e2, e3, .inl rfl⟩)
    simpa [thV, owT, owX, owC, owA, owK, owV] using this
  by_cases h3 : i1 = 3
  · subst h3
    have := oStep_3 W0 w b g N st _ xs _ i0 i2 i3 i4 i5 i6 i7 i8 i9 i10 i11 _ _ _ _ _ _ _ _ _ _ _ _ _ _ _ bt n F h hI hn s0 (fun u x bt h => (oClosed_any W0 u x g N st xs i0 3 i2 i3 i4 i5 i6 i7 i8 i9 i10 i11 bt b 0 0 false r1 r2 _ _ rfl rfl h s1).mono fun e u' ⟨e1, e2, e3⟩ => ⟨e1, g, e2, e3, .inl rfl⟩)
    simpa [thV, owT, owX, owC, owA, owK, owV] using this
  by_cases h4 : i1 = 4
  · subst h4
    have := oStep_4 W0 w b g N st _ xs _ i0 i2 i3 i4 i5 i6 i7 i8 i9 i10 i11 _ _ _ _ _ _ _ _ _ _ _ _ _ _ _ bt n F h hI hn s0 (fun u x bt h => (oOpen_any W0 u x g N st xs i0 4 i2 i3 i4 i5 i6 i7 i8 i9 i10 i11 bt b 0 0 false r1 r2  h s1).mono fun e u' ⟨e1, e2, e3⟩ => ⟨e1, g, e2, e3, .inl rfl⟩)
    simpa [thV, owT, owX, owC, owA, owK, owV] using this
  by_cases h5 : i1 = 5
  · subst h5
    have := oStep_5 W0 w b g N st _ xs _ i0 i2 i3 i4 i5 i6 i7 i8 i9 i10 i11 _ _ _ _ _ _ _ _ _ _ _ _ _ _ _ bt n F h hI hn s0 (fun u x bt h => (oCheck_any W0 u x g N st xs i0 5 i2 i3 i4 i5 i6 i7 i8 i9 i10 i11 bt b 0 0 false r1 r2 _ _ rfl rfl h s1).mono fun e u' ⟨e1, e2, e3⟩ => ⟨e1, g, e2, e3, .inl rfl⟩)
    simpa [thV, owT, owX, owC, owA, owK, owV] using this
  by_cases h6 : i1 = 6
  · subst h6
    have := oStep_6 W0 w b g N st _ xs _ i0 i2 i3 i4 i5 i6 i7 i8 i9 i10 i11 _ _ _ _ _ _ _ _ _ _ _ _ _ _ _ bt n F h hI hn s0 (fun u x bt h => (oClaim_any W0 u x g N st xs i0 6 i2 i3 i4 i5 i6 i7 i8 i9 i10 i11 bt b 0 0 false r1 r2 _ rfl h s1).mono fun e u' ⟨e1, e2, e3⟩ => ⟨e1, g, e2, e3, .inl rfl⟩)
    simpa [thV, owT, owX, owC, owA, owK, owV] using this
  by_cases h7 : i1 = 7
  · subst h7
    have := oStep_7 W0 w b g N st _ xs _ i0 i2 i3 i4 i5 i6 i7 i8 i9 i10 i11 _ _ _ _ _ _ _ _ _ _ _ _ _ _ _ bt n F h hI hn s0 (fun u x bt h => (oFront_any W0 u x g N st xs i0 7 i2 i3 i4 i5 i6 i7 i8 i9 i10 i11 bt b 0 0 false r1 r2 _ rfl h s1).mono fun e u' ⟨e1, e2, e3⟩ => ⟨e1, g, e2, e3, .inl rfl⟩)
    simpa [thV, owT, owX, owC, owA, owK, owV] using this
  by_cases h8 : i1 = 8
  · subst h8
    have := oStep_8 W0 w b g N st _ xs _ i0 i2 i3 i4 i5 i6 i7 i8 i9 i10 i11 _ _ _ _ _ _ _ _ _ _ _ _ _ _ _ bt n F h hI hn s0 (fun u x bt h => (oNext_any W0 u x g N st xs i0 8 i2 i3 i4 i5 i6 i7 i8 i9 i10 i11 bt b 0 0 false r1 r2  h s1).mono fun e u' ⟨e1, e2, e3⟩ => ⟨e1, g, e2, e3, .inl rfl⟩)
    simpa [thV, owT, owX, owC, owA, owK, owV] using this
  by_cases h9 : i1 = 9
  · subst h9
    have := oStep_9 W0 w b g N st _ xs _ i0 i2 i3 i4 i5 i6 i7 i8 i9 i10 i11 _ _ _ _ _ _ _ _ _ _ _ _ _ _ _ bt n F h hI hn s0 (fun u x bt h => (oLink_any W0 u x g N st xs i0 9 i2 i3 i4 i5 i6 i7 i8 i9 i10 i11 bt b 0 0 false r1 r2 _ rfl h s1).mono fun e u' ⟨e1, e2, e3⟩ => ⟨e1, g, e2, e3, .inl rfl⟩)
    simpa [thV, owT, owX, owC, owA, owK, owV] using this
  by_cases h10 : i1 = 10
  · subst h10
    have := oStep_10 W0 w b g N st _ xs _ i0 i2 i3 i4 i5 i6 i7 i8 i9 i10 i11 _ _ _ _ _ _ _ _ _ _ _ _ _ _ _ bt n F h hI hn s0 (fun u x bt h => (oMark_any W0 u x g N st xs i0 10 i2 i3 i4 i5 i6 i7 i8 i9 i10 i11 bt b 0 0 false r1 r2  h s1).mono fun e u' ⟨e1, e2, e3⟩ => ⟨e1, g, e2, e3, .inl rfl⟩)
    simpa [thV, owT, owX, owC, owA, owK, owV] using this
  by_cases h11 : i1 = 11
  · subst h11
    have := oStep_11 W0 w b g N st _ xs _ i0 i2 i3 i4 i5 i6 i7 i8 i9 i10 i11 _ _ _ _ _ _ _ _ _ _ _ _ _ _ _ bt n F h hI hn s0 (fun u x bt h => (oWait_any W0 u x g N st xs i0 11 i2 i3 i4 i5 i6 i7 i8 i9 i10 i11 bt b 0 0 false r1 r2 _ _ rfl rfl h s1).mono fun e u' ⟨e1, e2, e3⟩ => ⟨e1, g, e2, e3, .inl rfl⟩)
    simpa [thV, owT, owX, owC, owA, owK, owV] using this
  by_cases h12 : i1 = 12
  · subst h12
    have := oStep_12 W0 w b g N st _ xs _ i0 i2 i3 i4 i5 i6 i7 i8 i9 i10 i11 _ _ _ _ _ _ _ _ _ _ _ _ _ _ _ bt n F h hI hn s0 (fun u x bt h => (oLock_any W0 u x g N st xs i0 12 i2 i3 i4 i5 i6 i7 i8 i9 i10 i11 bt b 0 0 false r1 r2 _ _ rfl rfl h s1).mono fun e u' ⟨e1, e2, e3⟩ => ⟨e1, g, e2, e3, .inl rfl⟩)
    simpa [thV, owT, owX, owC, owA, owK, owV] using this
  by_cases h13 : i1 = 13
  · subst h13
    have := oStep_13 W0 w b g N st _ xs _ i0 i2 i3 i4 i5 i6 i7 i8 i9 i10 i11 _ _ _ _ _ _ _ _ _ _ _ _ _ _ _ bt n F h hI hn s0 (fun u x bt h => (oTake_any W0 u x g N st xs i0 13 i2 i3 i4 i5 i6 i7 i8 i9 i10 i11 bt b 0 0 false r1 r2 _ _ rfl rfl h s1).mono fun e u' ⟨e1, e2, e3⟩ => ⟨e1, g, e2, e3, .inl rfl⟩)
    simpa [thV, owT, owX, owC, owA, owK, owV] using this
  by_cases h14 : i1 = 14
  · subst h14
    have := oStep_14 W0 w b g N st _ xs _ i0 i2 i3 i4 i5 i6 i7 i8 i9 i10 i11 _ _ _ _ _ _ _ _ _ _ _ _ _ _ _ bt n F h hI hn s0 (fun u x bt h => (oRead_any W0 u x g N st xs i0 14 i2 i3 i4 i5 i6 i7 i8 i9 i10 i11 bt b 0 0 false r1 r2 _ rfl h s1).mono fun e u' ⟨e1, e2, e3⟩ => ⟨e1, g, e2, e3, .inl rfl⟩)
    simpa [thV, owT, owX, owC, owA, owK, owV] using this
  by_cases h15 : i1 = 15
  · subst h15
    have := oStep_15 W0 w b g N st _ xs _ i0 i2 i3 i4 i5 i6 i7 i8 i9 i10 i11 _ _ _ _ _ _ _ _ _ _ _ _ _ _ _ bt n F h hI hn s0 (fun u x bt h => (oSure_any W0 u x g N st xs i0 15 i2 i3 i4 i5 i6 i7 i8 i9 i10 i11 bt b 0 0 false r1 r2 _ _ rfl rfl h s1).mono fun e u' ⟨e1, e2, e3⟩ => ⟨e1, g, e2, e3, .inl rfl⟩)
    simpa [thV, owT, owX, owC, owA, owK, owV] using this
  by_cases h16 : i1 = 16
  · subst h16
    have := oStep_16 W0 w b g N st _ xs _ i0 i2 i3 i4 i5 i6 i7 i8 i9 i10 i11 _ _ _ _ _ _ _ _ _ _ _ _ _ _ _ bt n F h hI hn s0 (fun u x bt h => (oDrop_any W0 u x g N st xs i0 16 i2 i3 i4 i5 i6 i7 i8 i9 i10 i11 bt b 0 0 false r1 r2  h s1).mono fun e u' ⟨e1, e2, e3⟩ => ⟨e1, g, e2, e3, .inl rfl⟩)
    simpa [thV, owT, owX, owC, owA, owK, owV] using this
  have hno : ¬ (2 ≤ i1 ∧ i1 ≤ 16) := by omega
  by_cases hlt : i1 < 1
  · refine (oStep_noa W0 w b g N st xs i0 i1 i2 i3 i4 i5 i6 i7 i8 i9 i10 i11 bt n F h hI hn hlt).mono ?_
    rintro e w' ⟨bt', e1, e2, e3, e4⟩
    exact ⟨bt', g, by simpa [thV, owT, owX, owC, owA, owK, owV, h1, h2, h3, h4, h5, h6, h7, h8, h9, h10, h11, h12, h13, h14, h15, h16, hno] using e1, by simpa [thV, owT, owX, owC, owA, owK, owV, h1, h2, h3, h4, h5, h6, h7, h8, h9, h10, h11, h12, h13, h14, h15, h16, hno] using e2, e3, e4, .inl rfl⟩
  · refine (oStep_noc W0 w b g N st xs i0 i1 i2 i3 i4 i5 i6 i7 i8 i9 i10 i11 bt n F h hI hn (by omega) (by omega)).mono ?_
    rintro e w' ⟨bt', e1, e2, e3, e4⟩
    exact ⟨bt', g, by simpa [thV, owT, owX, owC, owA, owK, owV, h1, h2, h3, h4, h5, h6, h7, h8, h9, h10, h11, h12, h13, h14, h15, h16, hno] using e1, by simpa [thV, owT, owX, owC, owA, owK, owV, h1, h2, h3, h4, h5, h6, h7, h8, h9, h10, h11, h12, h13, h14, h15, h16, hno] using e2, e3, e4, .inl rfl⟩

end Go.Proofs.Ytcellcjojfbajaa
