/- A thread that came in by value, with the range of its record. -/
import Derived.Test.YtcellcjojfbajaaOpenThr
import Derived.Lib.SmallJoins
namespace Go.Proofs.Ytcellcjojfbajaa
set_option linter.unusedSimpArgs false
set_option linter.unusedVariables false
open Go.RowKit
open Go.RowKit Go.ChangeShapes Go.WideShapes Go.ChangeAt Go.Deep

variable {H : Type} {enc : TypeId × Value → H}
set_option maxRecDepth 100000 in
set_option maxHeartbeats 1000000 in
theorem open_thread2 {W : World} {base : Nat} {v : Value} {d : DataW H} {p : List MemPlace} (hv : Value.okWide Try.prog W .any base 30 v) (h : DataW.Trod enc Try.prog W 0 (fun _ => true) true 30 v d p) :
    ∃ i0 i1 i2 i3 i4 i5 i6 i7 i8 i9 i10 i11 bt n F, v = .agg #[.int .i64 i0, .int .i64 i1, .int .i64 i2, .int .i64 i3, .int .i64 i4, .int .i64 i5, .int .i64 i6, .int .i64 i7, .int .i64 i8, .int .i64 i9, .int .i64 i10, .int .i64 i11, bt] ∧ n ≤ maxLen ∧ Its W bt n F ∧ -9223372036854775808 ≤ i2 ∧ i2 ≤ 9223372036854775807 := by
  obtain ⟨cs, rfl, hsz⟩ := okWide_struct Try.underlying30 hv
  obtain ⟨fuel, hf⟩ := h
  obtain ⟨xs, m, _, _, hl, hlen, hfl⟩ := DataW.trod_struct Try.underlying30 hf
  obtain ⟨v0, v1, v2, v3, v4, v5, v6, v7, v8, v9, v10, v11, v12, hcs⟩ := list13 (cs := cs.toList) (by simpa using hsz.trans Try.cells30)
  have hcs' : cs = #[v0, v1, v2, v3, v4, v5, v6, v7, v8, v9, v10, v11, v12] := by
    obtain ⟨l⟩ := cs
    simp only at hcs
    rw [hcs]
  subst hcs'
  have hx : xs.length = 13 := hlen
  have h0 := hfl 0 _ rfl
  rw [List.getElem?_eq_getElem (by omega)] at h0
  have h1 := hfl 1 _ rfl
  rw [List.getElem?_eq_getElem (by omega)] at h1
  have h2 := hfl 2 _ rfl
  rw [List.getElem?_eq_getElem (by omega)] at h2
  have h3 := hfl 3 _ rfl
  rw [List.getElem?_eq_getElem (by omega)] at h3
  have h4 := hfl 4 _ rfl
  rw [List.getElem?_eq_getElem (by omega)] at h4
  have h5 := hfl 5 _ rfl
  rw [List.getElem?_eq_getElem (by omega)] at h5
  have h6 := hfl 6 _ rfl
  rw [List.getElem?_eq_getElem (by omega)] at h6
  have h7 := hfl 7 _ rfl
  rw [List.getElem?_eq_getElem (by omega)] at h7
  have h8 := hfl 8 _ rfl
  rw [List.getElem?_eq_getElem (by omega)] at h8
  have h9 := hfl 9 _ rfl
  rw [List.getElem?_eq_getElem (by omega)] at h9
  have h10 := hfl 10 _ rfl
  rw [List.getElem?_eq_getElem (by omega)] at h10
  have h11 := hfl 11 _ rfl
  rw [List.getElem?_eq_getElem (by omega)] at h11
  have h12 := hfl 12 _ rfl
  rw [List.getElem?_eq_getElem (by omega)] at h12
  obtain ⟨i0, e0, _, w0⟩ := DataW.trod_int (k := .i64) Try.underlying3 (cs := [v0]) h0
  obtain ⟨i1, e1, _, w1⟩ := DataW.trod_int (k := .i64) Try.underlying3 (cs := [v1]) h1
  obtain ⟨i2, e2, _, w2⟩ := DataW.trod_int (k := .i64) Try.underlying3 (cs := [v2]) h2
  obtain ⟨i3, e3, _, w3⟩ := DataW.trod_int (k := .i64) Try.underlying3 (cs := [v3]) h3
  obtain ⟨i4, e4, _, w4⟩ := DataW.trod_int (k := .i64) Try.underlying2 (cs := [v4]) h4
  obtain ⟨i5, e5, _, w5⟩ := DataW.trod_int (k := .i64) Try.underlying2 (cs := [v5]) h5
  obtain ⟨i6, e6, _, w6⟩ := DataW.trod_int (k := .i64) Try.underlying3 (cs := [v6]) h6
  obtain ⟨i7, e7, _, w7⟩ := DataW.trod_int (k := .i64) Try.underlying3 (cs := [v7]) h7
  obtain ⟨i8, e8, _, w8⟩ := DataW.trod_int (k := .i64) Try.underlying3 (cs := [v8]) h8
  obtain ⟨i9, e9, _, w9⟩ := DataW.trod_int (k := .i64) Try.underlying3 (cs := [v9]) h9
  obtain ⟨i10, e10, _, w10⟩ := DataW.trod_int (k := .i64) Try.underlying2 (cs := [v10]) h10
  obtain ⟨i11, e11, _, w11⟩ := DataW.trod_int (k := .i64) Try.underlying3 (cs := [v11]) h11
  obtain ⟨n, F, hn, hI⟩ := open_its (v := v12) h12
  simp only [List.cons.injEq, and_true] at e0 e1 e2 e3 e4 e5 e6 e7 e8 e9 e10 e11
  subst e0 e1 e2 e3 e4 e5 e6 e7 e8 e9 e10 e11
  have := bounds_i64 w2
  exact ⟨_, _, _, _, _, _, _, _, _, _, _, _, v12, n, F, rfl, hn, hI, by omega, by omega⟩

end Go.Proofs.Ytcellcjojfbajaa
