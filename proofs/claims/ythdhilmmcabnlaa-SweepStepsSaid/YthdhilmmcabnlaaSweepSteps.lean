/- SweepSteps: a step of any thread at any memory, and of choices, is what the chapter says: the law returns true for every input. -/
import Derived.Test.YthdhilmmcabnlaaSwpSa
import Derived.Test.YthdhilmmcabnlaaOpenThr
import Derived.Test.YthdhilmmcabnlaaFrame
namespace Go.Proofs.Ythdhilmmcabnlaa
set_option linter.unusedSimpArgs false
set_option linter.unusedVariables false
open Go.RowKit
open Go.ChangeShapes Go.WideShapes Go.ChangeAt

theorem step17_all (w : World) (l : Value) (xs : List Int) (i0 i1 i2 i3 i4 i5 i6 i7 i8 i9 i10 i11 : Int) (bt : Value) (n : Nat) (Fi : Nat → Int) (age : Int) (hl : Sl w l xs) (hn : xs.length ≤ 1000) (hI : Its w bt n Fi) (hn2 : n ≤ 1000000) (r1 : -9223372036854775808 ≤ i6) (r2 : i6 ≤ 9223372036854775807) :
    Calls Try.prog 26 #[l, .agg #[.int .i64 i0, .int .i64 i1, .int .i64 i2, .int .i64 i3, .int .i64 i4, .int .i64 i5, .int .i64 i6, .int .i64 i7, .int .i64 i8, .int .i64 i9, .int .i64 i10, .int .i64 i11, bt], .int .i64 age] w fun e w' => e = .returned (.bool true) ∧ Below w.heap.size w w' := by
  by_cases h1 : i1 < 40
  · exact step17_a w l xs i0 i1 i2 i3 i4 i5 i6 i7 i8 i9 i10 i11 bt n Fi age hl hn hI hn2 r1 r2 h1
  · by_cases h2 : i1 ≤ 48
    · exact step17_c w l xs i0 i1 i2 i3 i4 i5 i6 i7 i8 i9 i10 i11 bt n Fi age hl hn hI hn2 r1 r2 (by omega) h2
    · exact step17_b w l xs i0 i1 i2 i3 i4 i5 i6 i7 i8 i9 i10 i11 bt n Fi age hl hn hI hn2 r1 r2 (by omega) (by omega)

set_option maxRecDepth 100000 in
set_option maxHeartbeats 2000000 in
theorem sweepSteps_l (l c : Value) (ls cs : List Int) (i0 i1 i2 i3 i4 i5 i6 i7 i8 i9 i10 i11 : Int) (bt : Value) (n : Nat) (F : Nat → Int) (age k : Int) (w : World) (hl : InSlice .i64 w l ls) (hc : InSlice .u8 w c cs) (hI : Its w bt n F) (r1 : -9223372036854775808 ≤ i6) (r2 : i6 ≤ 9223372036854775807) (k1 : 0 ≤ k) (k2 : k ≤ 255) (h : 150 < ls.length) : Calls Try.prog 8 #[l, .agg #[.int .i64 i0, .int .i64 i1, .int .i64 i2, .int .i64 i3, .int .i64 i4, .int .i64 i5, .int .i64 i6, .int .i64 i7, .int .i64 i8, .int .i64 i9, .int .i64 i10, .int .i64 i11, bt], .int .i64 age, .int .u8 k, c] w fun e w' => e = .returned (.bool true) ∧ Below w.heap.size w w' := by
  obtain ⟨ao, cap, rfl, -, -, -⟩ := hl
  obtain ⟨bo', cap', rfl, -, -, -⟩ := hc
  obtain ⟨bo, bc, rfl, -⟩ := hI
  have h' : (150 : Int) < (ls.length : Int) := by omega
  skip
  skip
  go_enter Try.func8, Try.ntmps8
  go_wp2_with fail
  refine (known17_any _).mono ?_
  rintro e w1 ⟨rfl, hb⟩
  have B1 : Below w.heap.size w w1 := Below.trans (by go_grown) (hb.mono (by simp))
  go_wp2
  go_ret
  exact ⟨by first | rfl | (simp; done), B1⟩

set_option maxRecDepth 100000 in
set_option maxHeartbeats 2000000 in
theorem sweepSteps_c (l c : Value) (ls cs : List Int) (i0 i1 i2 i3 i4 i5 i6 i7 i8 i9 i10 i11 : Int) (bt : Value) (n : Nat) (F : Nat → Int) (age k : Int) (w : World) (hl : InSlice .i64 w l ls) (hc : InSlice .u8 w c cs) (hI : Its w bt n F) (r1 : -9223372036854775808 ≤ i6) (r2 : i6 ≤ 9223372036854775807) (k1 : 0 ≤ k) (k2 : k ≤ 255) (h1 : ls.length ≤ 150) (h : 150 < cs.length) : Calls Try.prog 8 #[l, .agg #[.int .i64 i0, .int .i64 i1, .int .i64 i2, .int .i64 i3, .int .i64 i4, .int .i64 i5, .int .i64 i6, .int .i64 i7, .int .i64 i8, .int .i64 i9, .int .i64 i10, .int .i64 i11, bt], .int .i64 age, .int .u8 k, c] w fun e w' => e = .returned (.bool true) ∧ Below w.heap.size w w' := by
  obtain ⟨ao, cap, rfl, -, -, -⟩ := hl
  obtain ⟨bo', cap', rfl, -, -, -⟩ := hc
  obtain ⟨bo, bc, rfl, -⟩ := hI
  have h' : (150 : Int) < (cs.length : Int) := by omega
  have h1b : (ls.length : Int) ≤ 150 := by omega
  skip
  go_enter Try.func8, Try.ntmps8
  go_wp2_with fail
  refine (known17_any _).mono ?_
  rintro e w1 ⟨rfl, hb⟩
  have B1 : Below w.heap.size w w1 := Below.trans (by go_grown) (hb.mono (by simp))
  go_wp2
  go_ret
  exact ⟨by first | rfl | (simp; done), B1⟩

set_option maxRecDepth 100000 in
set_option maxHeartbeats 2000000 in
theorem sweepSteps_n (l c : Value) (ls cs : List Int) (i0 i1 i2 i3 i4 i5 i6 i7 i8 i9 i10 i11 : Int) (bt : Value) (n : Nat) (F : Nat → Int) (age k : Int) (w : World) (hl : InSlice .i64 w l ls) (hc : InSlice .u8 w c cs) (hI : Its w bt n F) (r1 : -9223372036854775808 ≤ i6) (r2 : i6 ≤ 9223372036854775807) (k1 : 0 ≤ k) (k2 : k ≤ 255) (h1 : ls.length ≤ 150) (h2 : cs.length ≤ 150) (h : 20 < n) : Calls Try.prog 8 #[l, .agg #[.int .i64 i0, .int .i64 i1, .int .i64 i2, .int .i64 i3, .int .i64 i4, .int .i64 i5, .int .i64 i6, .int .i64 i7, .int .i64 i8, .int .i64 i9, .int .i64 i10, .int .i64 i11, bt], .int .i64 age, .int .u8 k, c] w fun e w' => e = .returned (.bool true) ∧ Below w.heap.size w w' := by
  obtain ⟨ao, cap, rfl, -, -, -⟩ := hl
  obtain ⟨bo', cap', rfl, -, -, -⟩ := hc
  obtain ⟨bo, bc, rfl, -⟩ := hI
  have h' : (20 : Int) < (n : Int) := by omega
  have h1b : (ls.length : Int) ≤ 150 := by omega
  have h2b : (cs.length : Int) ≤ 150 := by omega
  go_enter Try.func8, Try.ntmps8
  go_wp2_with fail
  refine (known17_any _).mono ?_
  rintro e w1 ⟨rfl, hb⟩
  have B1 : Below w.heap.size w w1 := Below.trans (by go_grown) (hb.mono (by simp))
  go_wp2
  go_ret
  exact ⟨by first | rfl | (simp; done), B1⟩

set_option maxRecDepth 100000 in
set_option maxHeartbeats 4000000 in
theorem sweepSteps_d (l c : Value) (ls cs : List Int) (i0 i1 i2 i3 i4 i5 i6 i7 i8 i9 i10 i11 : Int) (bt : Value) (n : Nat) (F : Nat → Int) (age k : Int) (w : World) (hl : InSlice .i64 w l ls) (hc : InSlice .u8 w c cs) (hI : Its w bt n F) (r1 : -9223372036854775808 ≤ i6) (r2 : i6 ≤ 9223372036854775807) (k1 : 0 ≤ k) (k2 : k ≤ 255) (h1 : ls.length ≤ 150) (h2 : cs.length ≤ 150) (h3 : n ≤ 20) : Calls Try.prog 8 #[l, .agg #[.int .i64 i0, .int .i64 i1, .int .i64 i2, .int .i64 i3, .int .i64 i4, .int .i64 i5, .int .i64 i6, .int .i64 i7, .int .i64 i8, .int .i64 i9, .int .i64 i10, .int .i64 i11, bt], .int .i64 age, .int .u8 k, c] w fun e w' => e = .returned (.bool true) ∧ Below w.heap.size w w' := by
  have HL := Lib.hid hl.sl
  have HC := Lib.hid hc
  have HI := Lib.hid hI
  obtain ⟨ao, cap, rfl, -, -, -⟩ := hl
  obtain ⟨bo', cap', rfl, -, -, -⟩ := hc
  obtain ⟨bo, bc, rfl, -⟩ := hI
  have h1b : (ls.length : Int) ≤ 150 := by omega
  have h2b : (cs.length : Int) ≤ 150 := by omega
  have h3b : (n : Int) ≤ 20 := by omega
  go_enter Try.func8, Try.ntmps8
  go_wp2_with fail
  refine (known17_any _).mono ?_
  rintro e w1 ⟨rfl, hb1⟩
  have T1 : w1.heap[w.heap.size]? = some (.cells #[.int .i64 i0, .int .i64 i1, .int .i64 i2, .int .i64 i3, .int .i64 i4, .int .i64 i5, .int .i64 i6, .int .i64 i7, .int .i64 i8, .int .i64 i9, .int .i64 i10, .int .i64 i11, .slice bo n bc] 39 (0, 0)) := (hb1.block w.heap.size (by simp)).trans (heap_alloc_new _ _)
  have B1 : Below w.heap.size w w1 := Below.trans (by go_grown) (hb1.mono (by simp))
  have z1 : w.heap.size < w1.heap.size := (Array.getElem?_eq_some_iff.1 T1).1
  clear hb1
  go_wp2_with fail
  refine (CellsOf_f _ cs _ (HC.out.below B1) (by omega)).mono ?_
  rintro e w2 ⟨v, ys, rfl, hR, hyl, hb2, -, -⟩
  obtain ⟨co, cap2, rfl⟩ := hR.shape
  have T2 := (hb2.block w.heap.size z1).trans T1
  have B2 := bmore B1 hb2
  have z2 : w.heap.size < w2.heap.size := Nat.lt_of_lt_of_le z1 hb2.size
  obtain ⟨⟨a0, a1, a2, a3, a4, a5, a6, a7, a8, a9, a10, a11, a12⟩, -⟩ := blk13 T2
  have HO := Lib.hid (And.intro hR.sl (And.intro B2 T2))
  clear hb2 hR B1 B2 T1 T2
  go_wp2_with fail
  refine (Tame_any _ i0 i1 i2 i3 i4 i5 i6 i7 i8 i9 i10 i11 bo n bc k k1 k2).mono ?_
  rintro e w3 ⟨y0, y1, y2, y3, y4, y5, y6, y7, y8, y9, y10, y11, rfl, r3, r4, hb3⟩
  have T3 := (hb3.block w.heap.size z2).trans HO.out.2.2
  have z3 : w.heap.size < w3.heap.size := Nat.lt_of_lt_of_le z2 hb3.size
  have z3a : w.heap.size < w3.heap.size + 1 := by omega
  have z3b : w.heap.size < w3.heap.size + 1 + 1 := by omega
  have z3c : w.heap.size < w3.heap.size + 1 + 1 + 1 := by omega
  obtain ⟨⟨b0, b1, b2, b3, b4, b5, b6, b7, b8, b9, b10, b11, b12⟩, -⟩ := blk13 T3
  have H3 := Lib.hid (And.intro hb3 T3)
  clear hb3 T3 a0 a1 a2 a3 a4 a5 a6 a7 a8 a9 a10 a11 a12
  go_wp2_with fail
  generalize hr : w3.heap.size = r
  generalize hW : World.alloc _ _ = W
  have AA : W.heap[r]? = some (.cells #[.int .i64 y0, .int .i64 y1, .int .i64 y2, .int .i64 y3, .int .i64 y4, .int .i64 y5, .int .i64 y6, .int .i64 y7, .int .i64 y8, .int .i64 y9, .int .i64 y10, .int .i64 y11, .slice bo n bc] 39 (0, 0)) ∧ W.heap[r + 1]? = some (.cells #[.int .i64 y0, .int .i64 (40 + k % 9), .int .i64 y2, .int .i64 y3, .int .i64 y4, .int .i64 y5, .int .i64 y6, .int .i64 y7, .int .i64 y8, .int .i64 y9, .int .i64 y10, .int .i64 y11, .slice bo n bc] 39 (0, 0)) ∧ W.heap[r + 1 + 1]? = some (.cells #[.int .i64 i0, .int .i64 (40 + k % 10), .int .i64 i2, .int .i64 i3, .int .i64 i4, .int .i64 i5, .int .i64 i6, .int .i64 i7, .int .i64 i8, .int .i64 i9, .int .i64 i10, .int .i64 i11, .slice bo n bc] 39 (0, 0)) := by
    rw [← hW, ← hr]
    exact ⟨(Below.heap_alloc _ _ _ (by simp; try omega)).trans (alloc2_heap0 _ _ _), (Below.heap_alloc _ _ _ (by simp; try omega)).trans (alloc2_heap1 _ _ _), alloc_at (by simp) _⟩
  have BW3 : Below w3.heap.size w3 W := by rw [← hW]; go_grown
  have TW := (BW3.block w.heap.size z3).trans H3.out.2
  have BW2 := bmore H3.out.1 BW3
  have BW := bmore HO.out.2.1 BW2
  obtain ⟨A1, A2, A3⟩ := AA
  have zr : r < W.heap.size := (Array.getElem?_eq_some_iff.1 A1).1
  have zr1 : r + 1 < W.heap.size := (Array.getElem?_eq_some_iff.1 A2).1
  have zr2 : r + 1 + 1 < W.heap.size := (Array.getElem?_eq_some_iff.1 A3).1
  have zW : w.heap.size < W.heap.size := (Array.getElem?_eq_some_iff.1 TW).1
  obtain ⟨⟨c0, c1, c2, c3, c4, c5, c6, c7, c8, c9, c10, c11, c12⟩, -⟩ := blk13 A1
  obtain ⟨⟨d0, d1, d2, d3, d4, d5, d6, d7, d8, d9, d10, d11, d12⟩, -⟩ := blk13 A2
  obtain ⟨⟨e0, e1, e2, e3, e4, e5, e6, e7, e8, e9, e10, e11, e12⟩, -⟩ := blk13 A3
  obtain ⟨⟨f0, f1, f2, f3, f4, f5, f6, f7, f8, f9, f10, f11, f12⟩, -⟩ := blk13 TW
  have cu0 := fun (u : World) (hu : Below W.heap.size W u) => (hu.cell (p := ⟨r, 0, none⟩) zr).trans c0
  have cu1 := fun (u : World) (hu : Below W.heap.size W u) => (hu.cell (p := ⟨r, 1, none⟩) zr).trans c1
  have cu2 := fun (u : World) (hu : Below W.heap.size W u) => (hu.cell (p := ⟨r, 2, none⟩) zr).trans c2
  have cu3 := fun (u : World) (hu : Below W.heap.size W u) => (hu.cell (p := ⟨r, 3, none⟩) zr).trans c3
  have cu4 := fun (u : World) (hu : Below W.heap.size W u) => (hu.cell (p := ⟨r, 4, none⟩) zr).trans c4
  have cu5 := fun (u : World) (hu : Below W.heap.size W u) => (hu.cell (p := ⟨r, 5, none⟩) zr).trans c5
  have cu6 := fun (u : World) (hu : Below W.heap.size W u) => (hu.cell (p := ⟨r, 6, none⟩) zr).trans c6
  have cu7 := fun (u : World) (hu : Below W.heap.size W u) => (hu.cell (p := ⟨r, 7, none⟩) zr).trans c7
  have cu8 := fun (u : World) (hu : Below W.heap.size W u) => (hu.cell (p := ⟨r, 8, none⟩) zr).trans c8
  have cu9 := fun (u : World) (hu : Below W.heap.size W u) => (hu.cell (p := ⟨r, 9, none⟩) zr).trans c9
  have cu10 := fun (u : World) (hu : Below W.heap.size W u) => (hu.cell (p := ⟨r, 10, none⟩) zr).trans c10
  have cu11 := fun (u : World) (hu : Below W.heap.size W u) => (hu.cell (p := ⟨r, 11, none⟩) zr).trans c11
  have cu12 := fun (u : World) (hu : Below W.heap.size W u) => (hu.cell (p := ⟨r, 12, none⟩) zr).trans c12
  have du0 := fun (u : World) (hu : Below W.heap.size W u) => (hu.cell (p := ⟨r + 1, 0, none⟩) zr1).trans d0
  have du1 := fun (u : World) (hu : Below W.heap.size W u) => (hu.cell (p := ⟨r + 1, 1, none⟩) zr1).trans d1
  have du2 := fun (u : World) (hu : Below W.heap.size W u) => (hu.cell (p := ⟨r + 1, 2, none⟩) zr1).trans d2
  have du3 := fun (u : World) (hu : Below W.heap.size W u) => (hu.cell (p := ⟨r + 1, 3, none⟩) zr1).trans d3
  have du4 := fun (u : World) (hu : Below W.heap.size W u) => (hu.cell (p := ⟨r + 1, 4, none⟩) zr1).trans d4
  have du5 := fun (u : World) (hu : Below W.heap.size W u) => (hu.cell (p := ⟨r + 1, 5, none⟩) zr1).trans d5
  have du6 := fun (u : World) (hu : Below W.heap.size W u) => (hu.cell (p := ⟨r + 1, 6, none⟩) zr1).trans d6
  have du7 := fun (u : World) (hu : Below W.heap.size W u) => (hu.cell (p := ⟨r + 1, 7, none⟩) zr1).trans d7
  have du8 := fun (u : World) (hu : Below W.heap.size W u) => (hu.cell (p := ⟨r + 1, 8, none⟩) zr1).trans d8
  have du9 := fun (u : World) (hu : Below W.heap.size W u) => (hu.cell (p := ⟨r + 1, 9, none⟩) zr1).trans d9
  have du10 := fun (u : World) (hu : Below W.heap.size W u) => (hu.cell (p := ⟨r + 1, 10, none⟩) zr1).trans d10
  have du11 := fun (u : World) (hu : Below W.heap.size W u) => (hu.cell (p := ⟨r + 1, 11, none⟩) zr1).trans d11
  have du12 := fun (u : World) (hu : Below W.heap.size W u) => (hu.cell (p := ⟨r + 1, 12, none⟩) zr1).trans d12
  have eu0 := fun (u : World) (hu : Below W.heap.size W u) => (hu.cell (p := ⟨r + 1 + 1, 0, none⟩) zr2).trans e0
  have eu1 := fun (u : World) (hu : Below W.heap.size W u) => (hu.cell (p := ⟨r + 1 + 1, 1, none⟩) zr2).trans e1
  have eu2 := fun (u : World) (hu : Below W.heap.size W u) => (hu.cell (p := ⟨r + 1 + 1, 2, none⟩) zr2).trans e2
  have eu3 := fun (u : World) (hu : Below W.heap.size W u) => (hu.cell (p := ⟨r + 1 + 1, 3, none⟩) zr2).trans e3
  have eu4 := fun (u : World) (hu : Below W.heap.size W u) => (hu.cell (p := ⟨r + 1 + 1, 4, none⟩) zr2).trans e4
  have eu5 := fun (u : World) (hu : Below W.heap.size W u) => (hu.cell (p := ⟨r + 1 + 1, 5, none⟩) zr2).trans e5
  have eu6 := fun (u : World) (hu : Below W.heap.size W u) => (hu.cell (p := ⟨r + 1 + 1, 6, none⟩) zr2).trans e6
  have eu7 := fun (u : World) (hu : Below W.heap.size W u) => (hu.cell (p := ⟨r + 1 + 1, 7, none⟩) zr2).trans e7
  have eu8 := fun (u : World) (hu : Below W.heap.size W u) => (hu.cell (p := ⟨r + 1 + 1, 8, none⟩) zr2).trans e8
  have eu9 := fun (u : World) (hu : Below W.heap.size W u) => (hu.cell (p := ⟨r + 1 + 1, 9, none⟩) zr2).trans e9
  have eu10 := fun (u : World) (hu : Below W.heap.size W u) => (hu.cell (p := ⟨r + 1 + 1, 10, none⟩) zr2).trans e10
  have eu11 := fun (u : World) (hu : Below W.heap.size W u) => (hu.cell (p := ⟨r + 1 + 1, 11, none⟩) zr2).trans e11
  have eu12 := fun (u : World) (hu : Below W.heap.size W u) => (hu.cell (p := ⟨r + 1 + 1, 12, none⟩) zr2).trans e12
  have fu0 := fun (u : World) (hu : Below W.heap.size W u) => (hu.cell (p := ⟨w.heap.size, 0, none⟩) zW).trans f0
  have fu1 := fun (u : World) (hu : Below W.heap.size W u) => (hu.cell (p := ⟨w.heap.size, 1, none⟩) zW).trans f1
  have fu2 := fun (u : World) (hu : Below W.heap.size W u) => (hu.cell (p := ⟨w.heap.size, 2, none⟩) zW).trans f2
  have fu3 := fun (u : World) (hu : Below W.heap.size W u) => (hu.cell (p := ⟨w.heap.size, 3, none⟩) zW).trans f3
  have fu4 := fun (u : World) (hu : Below W.heap.size W u) => (hu.cell (p := ⟨w.heap.size, 4, none⟩) zW).trans f4
  have fu5 := fun (u : World) (hu : Below W.heap.size W u) => (hu.cell (p := ⟨w.heap.size, 5, none⟩) zW).trans f5
  have fu6 := fun (u : World) (hu : Below W.heap.size W u) => (hu.cell (p := ⟨w.heap.size, 6, none⟩) zW).trans f6
  have fu7 := fun (u : World) (hu : Below W.heap.size W u) => (hu.cell (p := ⟨w.heap.size, 7, none⟩) zW).trans f7
  have fu8 := fun (u : World) (hu : Below W.heap.size W u) => (hu.cell (p := ⟨w.heap.size, 8, none⟩) zW).trans f8
  have fu9 := fun (u : World) (hu : Below W.heap.size W u) => (hu.cell (p := ⟨w.heap.size, 9, none⟩) zW).trans f9
  have fu10 := fun (u : World) (hu : Below W.heap.size W u) => (hu.cell (p := ⟨w.heap.size, 10, none⟩) zW).trans f10
  have fu11 := fun (u : World) (hu : Below W.heap.size W u) => (hu.cell (p := ⟨w.heap.size, 11, none⟩) zW).trans f11
  have fu12 := fun (u : World) (hu : Below W.heap.size W u) => (hu.cell (p := ⟨w.heap.size, 12, none⟩) zW).trans f12
  have HS := Lib.hid (And.intro (HL.out.below BW) (And.intro (HO.out.1.below BW2) (And.intro (HI.out.below BW) BW)))
  have hb0 : Below W.heap.size W W := Below.refl _ _
  clear hW hr BW3 TW BW2 BW A1 A2 A3 b0 b1 b2 b3 b4 b5 b6 b7 b8 b9 b10 b11 b12 c0 c1 c2 c3 c4 c5 c6 c7 c8 c9 c10 c11 c12 d0 d1 d2 d3 d4 d5 d6 d7 d8 d9 d10 d11 d12 e0 e1 e2 e3 e4 e5 e6 e7 e8 e9 e10 e11 e12 f0 f1 f2 f3 f4 f5 f6 f7 f8 f9 f10 f11 f12
  skip
  refine (step17_all _ _ ls i0 i1 i2 i3 i4 i5 i6 i7 i8 i9 i10 i11 (.slice bo n bc) n F _ (HS.out.1.below hb0) (by omega) (HS.out.2.2.1.below hb0) (by omega) r1 r2).mono ?_
  rintro e x0 ⟨rfl, hx0⟩
  have hb10 : Below W.heap.size W x0 := bmore hb0 hx0
  clear hx0
  go_wp2_with fail
  refine (step17_all _ _ ls i0 (40 + k % 10) i2 i3 i4 i5 i6 i7 i8 i9 i10 i11 (.slice bo n bc) n F _ (HS.out.1.below hb10) (by omega) (HS.out.2.2.1.below hb10) (by omega) r1 r2).mono ?_
  rintro e x1 ⟨rfl, hx1⟩
  have hb11 : Below W.heap.size W x1 := bmore hb10 hx1
  clear hx1
  go_wp2_with fail
  refine (step17_all _ _ ys y0 y1 y2 y3 y4 y5 y6 y7 y8 y9 y10 y11 (.slice bo n bc) n F _ (HS.out.2.1.below hb11) (by omega) (HS.out.2.2.1.below hb11) (by omega) r3 r4).mono ?_
  rintro e x2 ⟨rfl, hx2⟩
  have hb12 : Below W.heap.size W x2 := bmore hb11 hx2
  clear hx2
  go_wp2_with fail
  refine (step17_all _ _ ys y0 (40 + k % 9) y2 y3 y4 y5 y6 y7 y8 y9 y10 y11 (.slice bo n bc) n F _ (HS.out.2.1.below hb12) (by omega) (HS.out.2.2.1.below hb12) (by omega) r3 r4).mono ?_
  rintro e x3 ⟨rfl, hx3⟩
  have hb13 : Below W.heap.size W x3 := bmore hb12 hx3
  clear hx3
  go_wp2_with fail
  refine (step17_all _ _ ys y0 (40 + k % 9) y2 y3 y4 y5 y6 y7 y8 y9 y10 y11 (.slice bo n bc) n F _ (HS.out.2.1.below hb13) (by omega) (HS.out.2.2.1.below hb13) (by omega) r3 r4).mono ?_
  rintro e x4 ⟨rfl, hx4⟩
  have hb14 : Below W.heap.size W x4 := bmore hb13 hx4
  clear hx4
  have BZ := bmore HS.out.2.2.2 hb14
  go_wp2
  go_ret
  exact ⟨by first | rfl | (simp; done), BZ⟩
theorem sweepSteps_any (l c : Value) (ls cs : List Int) (i0 i1 i2 i3 i4 i5 i6 i7 i8 i9 i10 i11 : Int) (bt : Value) (n : Nat) (F : Nat → Int) (age k : Int) (w : World) (hl : InSlice .i64 w l ls) (hc : InSlice .u8 w c cs) (hI : Its w bt n F) (r1 : -9223372036854775808 ≤ i6) (r2 : i6 ≤ 9223372036854775807) (k1 : 0 ≤ k) (k2 : k ≤ 255) : Calls Try.prog 8 #[l, .agg #[.int .i64 i0, .int .i64 i1, .int .i64 i2, .int .i64 i3, .int .i64 i4, .int .i64 i5, .int .i64 i6, .int .i64 i7, .int .i64 i8, .int .i64 i9, .int .i64 i10, .int .i64 i11, bt], .int .i64 age, .int .u8 k, c] w fun e w' => e = .returned (.bool true) ∧ Below w.heap.size w w' := by
  by_cases h1 : 150 < ls.length
  · exact sweepSteps_l l c ls cs i0 i1 i2 i3 i4 i5 i6 i7 i8 i9 i10 i11 bt n F age k w hl hc hI r1 r2 k1 k2 h1
  · by_cases h2 : 150 < cs.length
    · exact sweepSteps_c l c ls cs i0 i1 i2 i3 i4 i5 i6 i7 i8 i9 i10 i11 bt n F age k w hl hc hI r1 r2 k1 k2 (by omega) h2
    · by_cases h3 : 20 < n
      · exact sweepSteps_n l c ls cs i0 i1 i2 i3 i4 i5 i6 i7 i8 i9 i10 i11 bt n F age k w hl hc hI r1 r2 k1 k2 (by omega) (by omega) h3
      · exact sweepSteps_d l c ls cs i0 i1 i2 i3 i4 i5 i6 i7 i8 i9 i10 i11 bt n F age k w hl hc hI r1 r2 k1 k2 (by omega) (by omega) (by omega)

theorem Try.resTypes8 : Try.f8.resultTypes = #[4] := by kernel_rfl
theorem sweepSteps_rds64 : Try.prog.readableRec 25 = true ∧ 25 < Try.prog.types.size := ⟨by kernel_rfl, of_decide_eq_true (by kernel_rfl)⟩
theorem sweepSteps_rdthread : Try.prog.readableRec 39 = true ∧ 39 < Try.prog.types.size := ⟨by kernel_rfl, of_decide_eq_true (by kernel_rfl)⟩
theorem sweepSteps_rdint : Try.prog.readableRec 3 = true ∧ 3 < Try.prog.types.size := ⟨by kernel_rfl, of_decide_eq_true (by kernel_rfl)⟩
theorem sweepSteps_rdu8 : Try.prog.readableRec 5 = true ∧ 5 < Try.prog.types.size := ⟨by kernel_rfl, of_decide_eq_true (by kernel_rfl)⟩
theorem sweepSteps_rdbytes : Try.prog.readableRec 22 = true ∧ 22 < Try.prog.types.size := ⟨by kernel_rfl, of_decide_eq_true (by kernel_rfl)⟩
set_option maxRecDepth 100000 in
theorem sweepSteps_lifted (os : Os) (started : os.Started) (H : Type) (enc : TypeId × Value → H) :
    ReturnsInHanded {} Try.checked os 8 .any (Rows.sweepStepsSpec.pre6 enc Try.prog Try.f8 Rows.sweepStepsRow.domain false) (Rows.sweepStepsSpec.post enc Try.prog Try.f8 false true false false) := by
  refine law_lifted (C := Try.checked) (T := 4) Try.own started (by kernel_rfl) Try.func8
    (ChangeSpec.witness6 (enc := enc) (C := Try.checked) false ⟨#[], #[.slice none 0 0, .agg #[.int .i64 0, .int .i64 0, .int .i64 0, .int .i64 0, .int .i64 0, .int .i64 0, .int .i64 0, .int .i64 0, .int .i64 0, .int .i64 0, .int .i64 0, .int .i64 0, .slice none 0 0], .int .i64 0, .int .u8 0, .slice none 0 0], []⟩ 8 (by kernel_rfl) (by kernel_rfl) (by kernel_rfl) (by kernel_rfl))
    Try.laidOut (fun t ht => ?_) Try.resTypes8 Try.underlying4 rfl (fun ds hd => ?_) ?_
  · rw [Try.params8] at ht
    exact (show ∀ t ∈ [25, 39, 3, 5, 22], Try.prog.readableRec t = true ∧ t < Try.prog.types.size from List.forall_mem_cons.2 ⟨sweepSteps_rds64, List.forall_mem_cons.2 ⟨sweepSteps_rdthread, List.forall_mem_cons.2 ⟨sweepSteps_rdint, List.forall_mem_cons.2 ⟨sweepSteps_rdu8, List.forall_mem_cons.2 ⟨sweepSteps_rdbytes, fun _ h => by cases h⟩⟩⟩⟩⟩) t ht
  · rw [Try.params8] at hd
    match ds, hd with
    | [e0, e1, e2, e3, e4], _ => rfl
  · intro W base args ds p hval0 hA0
    have hval : ∀ (j : Nat) t v, Try.f8.params[j]? = some t → args[j]? = some v → Value.okWide Try.prog W .any base t v := hval0
    have hA : DataW.TrodAll enc Try.prog W 0 (fun _ => true) true Try.f8.params.toList args.toList ds p := hA0
    rw [Try.params8] at hA hval
    obtain ⟨v0, vs0, d0, ds0, p0, q0, hargs, rfl, rfl, h0, r0⟩ := trodAll_cons hA
    obtain ⟨v1, vs1, d1, ds1, p1, q1, rfl, rfl, rfl, h1, r1⟩ := trodAll_cons r0
    obtain ⟨v2, vs2, d2, ds2, p2, q2, rfl, rfl, rfl, h2, r2⟩ := trodAll_cons r1
    obtain ⟨v3, vs3, d3, ds3, p3, q3, rfl, rfl, rfl, h3, r3⟩ := trodAll_cons r2
    obtain ⟨v4, vs4, d4, ds4, p4, q4, rfl, rfl, rfl, h4, r4⟩ := trodAll_cons r3
    obtain ⟨rfl, rfl, rfl⟩ := trodAll_nil r4
    obtain rfl : args = #[v0, v1, v2, v3, v4] := by cases args; simp_all
    obtain ⟨l, sl⟩ := open_inslice (k := .i64) Try.underlying25 Try.underlying2 (by kernel_rfl) (hval 0 25 v0 rfl rfl) h0
    obtain ⟨i0, i1, i2, i3, i4, i5, i6, i7, i8, i9, i10, i11, tb, tn, tF, rfl, _, tI, t1, t2⟩ := open_thread (hval 1 39 v1 rfl rfl) h1
    obtain ⟨age, rfl, _, _, wage⟩ := open_int Try.underlying3 (hval 2 3 v2 rfl rfl) h2
    have bage := bounds_i64 wage
    obtain ⟨k, rfl, _, _, wk⟩ := open_int Try.underlying5 (hval 3 5 v3 rfl rfl) h3
    have bk := bounds_u8 wk
    obtain ⟨c, sc⟩ := open_inslice (k := .u8) Try.underlying22 Try.underlying5 (by kernel_rfl) (hval 4 22 v4 rfl rfl) h4
    exact sweepSteps_any v0 v4 l c i0 i1 i2 i3 i4 i5 i6 i7 i8 i9 i10 i11 tb tn tF age k W sl sc tI t1 t2 bk.1 bk.2

/-- SweepSteps: for every input the call returns true. -/
theorem sweepSteps_said : Rows.SweepStepsSaid :=
  OpenClaim.holds_of_wide 8 Try.f8 rfl rfl rfl rfl rfl rfl rfl ⟨rfl, rfl, rfl, rfl, rfl⟩ rfl rfl rfl rfl rfl (by as_aux_lemma => kernel_rfl) Try.func8 (by as_aux_lemma => kernel_rfl)
    (of_decide_eq_true (by as_aux_lemma => kernel_rfl)) (by unfold Func.isWrapper; first | (rw [if_pos (by decide +kernel)]; kernel_rfl) | (rw [if_neg (by decide +kernel)]; exact ⟨rfl, rfl⟩))
    (fun os started H enc _ => sweepSteps_lifted os started H enc)
#print axioms sweepSteps_said

end Go.Proofs.Ythdhilmmcabnlaa
