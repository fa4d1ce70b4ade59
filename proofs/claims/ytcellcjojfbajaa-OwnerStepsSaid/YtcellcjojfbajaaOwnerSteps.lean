/- OwnerSteps: a step of any thread at any memory, and of choices, is what the chapter says: the law returns true for every input. -/
import Derived.Test.YtcellcjojfbajaaOwSa
import Derived.Test.YtcellcjojfbajaaOwSb
import Derived.Test.YtcellcjojfbajaaOwSc
import Derived.Test.YtcellcjojfbajaaOwO
import Derived.Test.YtcellcjojfbajaaSame15
import Derived.Test.YtcellcjojfbajaaFrame
namespace Go.Proofs.Ytcellcjojfbajaa
set_option linter.unusedSimpArgs false
set_option linter.unusedVariables false
open Go.RowKit
open Go.ChangeShapes Go.WideShapes Go.ChangeAt

set_option maxRecDepth 100000 in
set_option maxHeartbeats 2000000 in
theorem Tame2_any (w : World) (i0 i1 i2 i3 i4 i5 i6 i7 i8 i9 i10 i11 : Int) (bo : Option Addr) (bn bc : Nat) (k : Int) (k0 : 0 ≤ k) (k1 : k ≤ 255) :
    Calls Try.prog 26 #[.agg #[.int .i64 i0, .int .i64 i1, .int .i64 i2, .int .i64 i3, .int .i64 i4, .int .i64 i5, .int .i64 i6, .int .i64 i7, .int .i64 i8, .int .i64 i9, .int .i64 i10, .int .i64 i11, .slice bo bn bc], .int .u8 k] w fun e w' => ∃ y0 y1 y2 y3 y4 y5 y6 y7 y8 y9 y10 y11 : Int, e = .returned (.agg #[.int .i64 y0, .int .i64 y1, .int .i64 y2, .int .i64 y3, .int .i64 y4, .int .i64 y5, .int .i64 y6, .int .i64 y7, .int .i64 y8, .int .i64 y9, .int .i64 y10, .int .i64 y11, .slice bo bn bc]) ∧ -9223372036854775808 ≤ y2 ∧ y2 ≤ 9223372036854775807 ∧ Below w.heap.size w w' := by
  go_enter Try.func26, Try.ntmps26
  go_wp2
  have hw : ∀ z : Int, -9223372036854775808 ≤ wrap64 z ∧ wrap64 z ≤ 9223372036854775807 := fun z => by unfold wrap64; omega
  refine bodyPost_ret (v := .agg #[.int .i64 i0, .int .i64 (k % 50), .int .i64 (3 + 5 * (k % 7)), .int .i64 i3, .int .i64 (bits BinOp.and IntKind.i64 i4 3), .int .i64 (bits BinOp.and IntKind.i64 i5 31), .int .i64 (wrap64 (3 + wrap64 (5 * bits BinOp.and IntKind.i64 i6 7))), .int .i64 (wrap64 (3 + wrap64 (5 * bits BinOp.and IntKind.i64 i7 7))), .int .i64 (bits BinOp.and IntKind.i64 i8 7), .int .i64 (bits BinOp.and IntKind.i64 i9 7), .int .i64 (bits BinOp.and IntKind.i64 i10 15), .int .i64 (bits BinOp.and IntKind.i64 i11 3), .slice bo bn bc]) (by simp [results, Try.results26, go_sem]) rfl ⟨_, _, _, _, _, _, _, _, _, _, _, _, rfl, by omega, by omega, by go_grown⟩

theorem step15_all (w : World) (l : Value) (xs : List Int) (i0 i1 i2 i3 i4 i5 i6 i7 i8 i9 i10 i11 : Int) (bt : Value) (n : Nat) (Fi : Nat → Int) (ok ov : Int) (hl : Sl w l xs) (hn : xs.length ≤ 1000) (hI : Its w bt n Fi) (hn2 : n ≤ 1000000) (r1 : -9223372036854775808 ≤ i2) (r2 : i2 ≤ 9223372036854775807) (o1 : 0 ≤ ok) (o2 : ok ≤ 255) (o3 : -2147483648 ≤ ov) (o4 : ov ≤ 2147483647) :
    Calls Try.prog 27 #[l, .agg #[.int .i64 i0, .int .i64 i1, .int .i64 i2, .int .i64 i3, .int .i64 i4, .int .i64 i5, .int .i64 i6, .int .i64 i7, .int .i64 i8, .int .i64 i9, .int .i64 i10, .int .i64 i11, bt], .agg #[.int .u8 ok, .int .i32 ov]] w fun e w' => e = .returned (.bool true) ∧ Below w.heap.size w w' := by
  by_cases h1 : i1 < 1
  · exact step15_a w l xs i0 i1 i2 i3 i4 i5 i6 i7 i8 i9 i10 i11 bt n Fi ok ov hl hn hI hn2 r1 r2 o1 o2 o3 o4 h1
  · by_cases h2 : i1 ≤ 16
    · exact step15_b w l xs i0 i1 i2 i3 i4 i5 i6 i7 i8 i9 i10 i11 bt n Fi ok ov hl hn hI hn2 r1 r2 o1 o2 o3 o4 (by omega) h2
    · exact step15_c w l xs i0 i1 i2 i3 i4 i5 i6 i7 i8 i9 i10 i11 bt n Fi ok ov hl hn hI hn2 r1 r2 o1 o2 o3 o4 (by omega) (by omega)

set_option maxRecDepth 100000 in
set_option maxHeartbeats 2000000 in
theorem ownerSteps_l (l c : Value) (ls cs : List Int) (i0 i1 i2 i3 i4 i5 i6 i7 i8 i9 i10 i11 : Int) (bt : Value) (n : Nat) (F : Nat → Int) (ok ov k : Int) (w : World) (hl : InSlice .i64 w l ls) (hc : InSlice .u8 w c cs) (hI : Its w bt n F) (r1 : -9223372036854775808 ≤ i2) (r2 : i2 ≤ 9223372036854775807) (o1 : 0 ≤ ok) (o2 : ok ≤ 255) (o3 : -2147483648 ≤ ov) (o4 : ov ≤ 2147483647) (k1 : 0 ≤ k) (k2 : k ≤ 255) (h : 150 < ls.length) : Calls Try.prog 6 #[l, .agg #[.int .i64 i0, .int .i64 i1, .int .i64 i2, .int .i64 i3, .int .i64 i4, .int .i64 i5, .int .i64 i6, .int .i64 i7, .int .i64 i8, .int .i64 i9, .int .i64 i10, .int .i64 i11, bt], .agg #[.int .u8 ok, .int .i32 ov], .int .u8 k, c] w fun e w' => e = .returned (.bool true) ∧ Below w.heap.size w w' := by
  obtain ⟨ao, cap, rfl, -, -, -⟩ := hl
  obtain ⟨bo', cap', rfl, -, -, -⟩ := hc
  obtain ⟨bo, bc, rfl, -⟩ := hI
  have h' : (150 : Int) < (ls.length : Int) := by omega
  skip
  skip
  go_enter Try.func6, Try.ntmps6
  go_wp2_with fail
  refine (known15_any _).mono ?_
  rintro e w1 ⟨rfl, hb⟩
  have B1 : Below w.heap.size w w1 := Below.trans (by go_grown) (hb.mono (by simp; try omega))
  go_wp2
  go_ret
  exact ⟨by first | rfl | (simp; done), B1⟩

set_option maxRecDepth 100000 in
set_option maxHeartbeats 2000000 in
theorem ownerSteps_c (l c : Value) (ls cs : List Int) (i0 i1 i2 i3 i4 i5 i6 i7 i8 i9 i10 i11 : Int) (bt : Value) (n : Nat) (F : Nat → Int) (ok ov k : Int) (w : World) (hl : InSlice .i64 w l ls) (hc : InSlice .u8 w c cs) (hI : Its w bt n F) (r1 : -9223372036854775808 ≤ i2) (r2 : i2 ≤ 9223372036854775807) (o1 : 0 ≤ ok) (o2 : ok ≤ 255) (o3 : -2147483648 ≤ ov) (o4 : ov ≤ 2147483647) (k1 : 0 ≤ k) (k2 : k ≤ 255) (h1 : ls.length ≤ 150) (h : 150 < cs.length) : Calls Try.prog 6 #[l, .agg #[.int .i64 i0, .int .i64 i1, .int .i64 i2, .int .i64 i3, .int .i64 i4, .int .i64 i5, .int .i64 i6, .int .i64 i7, .int .i64 i8, .int .i64 i9, .int .i64 i10, .int .i64 i11, bt], .agg #[.int .u8 ok, .int .i32 ov], .int .u8 k, c] w fun e w' => e = .returned (.bool true) ∧ Below w.heap.size w w' := by
  obtain ⟨ao, cap, rfl, -, -, -⟩ := hl
  obtain ⟨bo', cap', rfl, -, -, -⟩ := hc
  obtain ⟨bo, bc, rfl, -⟩ := hI
  have h' : (150 : Int) < (cs.length : Int) := by omega
  have h1b : (ls.length : Int) ≤ 150 := by omega
  skip
  go_enter Try.func6, Try.ntmps6
  go_wp2_with fail
  refine (known15_any _).mono ?_
  rintro e w1 ⟨rfl, hb⟩
  have B1 : Below w.heap.size w w1 := Below.trans (by go_grown) (hb.mono (by simp; try omega))
  go_wp2
  go_ret
  exact ⟨by first | rfl | (simp; done), B1⟩

set_option maxRecDepth 100000 in
set_option maxHeartbeats 2000000 in
theorem ownerSteps_n (l c : Value) (ls cs : List Int) (i0 i1 i2 i3 i4 i5 i6 i7 i8 i9 i10 i11 : Int) (bt : Value) (n : Nat) (F : Nat → Int) (ok ov k : Int) (w : World) (hl : InSlice .i64 w l ls) (hc : InSlice .u8 w c cs) (hI : Its w bt n F) (r1 : -9223372036854775808 ≤ i2) (r2 : i2 ≤ 9223372036854775807) (o1 : 0 ≤ ok) (o2 : ok ≤ 255) (o3 : -2147483648 ≤ ov) (o4 : ov ≤ 2147483647) (k1 : 0 ≤ k) (k2 : k ≤ 255) (h1 : ls.length ≤ 150) (h2 : cs.length ≤ 150) (h : 20 < n) : Calls Try.prog 6 #[l, .agg #[.int .i64 i0, .int .i64 i1, .int .i64 i2, .int .i64 i3, .int .i64 i4, .int .i64 i5, .int .i64 i6, .int .i64 i7, .int .i64 i8, .int .i64 i9, .int .i64 i10, .int .i64 i11, bt], .agg #[.int .u8 ok, .int .i32 ov], .int .u8 k, c] w fun e w' => e = .returned (.bool true) ∧ Below w.heap.size w w' := by
  obtain ⟨ao, cap, rfl, -, -, -⟩ := hl
  obtain ⟨bo', cap', rfl, -, -, -⟩ := hc
  obtain ⟨bo, bc, rfl, -⟩ := hI
  have h' : (20 : Int) < (n : Int) := by omega
  have h1b : (ls.length : Int) ≤ 150 := by omega
  have h2b : (cs.length : Int) ≤ 150 := by omega
  go_enter Try.func6, Try.ntmps6
  go_wp2_with fail
  refine (known15_any _).mono ?_
  rintro e w1 ⟨rfl, hb⟩
  have B1 : Below w.heap.size w w1 := Below.trans (by go_grown) (hb.mono (by simp; try omega))
  go_wp2
  go_ret
  exact ⟨by first | rfl | (simp; done), B1⟩

set_option maxRecDepth 100000 in
set_option maxHeartbeats 4000000 in
theorem ownerSteps_d (l c : Value) (ls cs : List Int) (i0 i1 i2 i3 i4 i5 i6 i7 i8 i9 i10 i11 : Int) (bt : Value) (n : Nat) (F : Nat → Int) (ok ov k : Int) (w : World) (hl : InSlice .i64 w l ls) (hc : InSlice .u8 w c cs) (hI : Its w bt n F) (r1 : -9223372036854775808 ≤ i2) (r2 : i2 ≤ 9223372036854775807) (o1 : 0 ≤ ok) (o2 : ok ≤ 255) (o3 : -2147483648 ≤ ov) (o4 : ov ≤ 2147483647) (k1 : 0 ≤ k) (k2 : k ≤ 255) (h1 : ls.length ≤ 150) (h2 : cs.length ≤ 150) (h3 : n ≤ 20) : Calls Try.prog 6 #[l, .agg #[.int .i64 i0, .int .i64 i1, .int .i64 i2, .int .i64 i3, .int .i64 i4, .int .i64 i5, .int .i64 i6, .int .i64 i7, .int .i64 i8, .int .i64 i9, .int .i64 i10, .int .i64 i11, bt], .agg #[.int .u8 ok, .int .i32 ov], .int .u8 k, c] w fun e w' => e = .returned (.bool true) ∧ Below w.heap.size w w' := by
  have HL := Lib.hid hl.sl
  have HC := Lib.hid hc
  have HI := Lib.hid hI
  obtain ⟨ao, cap, rfl, -, -, -⟩ := hl
  obtain ⟨bo', cap', rfl, -, -, -⟩ := hc
  obtain ⟨bo, bc, rfl, -⟩ := hI
  have h1b : (ls.length : Int) ≤ 150 := by omega
  have h2b : (cs.length : Int) ≤ 150 := by omega
  have h3b : (n : Int) ≤ 20 := by omega
  go_enter Try.func6, Try.ntmps6
  go_wp2_with fail
  generalize hq : w.heap.size = q0
  generalize hW0 : World.alloc _ _ = W0
  have QQ : W0.heap[q0]? = some (.cells #[.int .i64 i0, .int .i64 i1, .int .i64 i2, .int .i64 i3, .int .i64 i4, .int .i64 i5, .int .i64 i6, .int .i64 i7, .int .i64 i8, .int .i64 i9, .int .i64 i10, .int .i64 i11, .slice bo n bc] 30 (0, 0)) ∧ W0.heap[q0 + 1]? = some (.cells #[.int .u8 ok, .int .i32 ov] 23 (0, 0)) := by rw [← hW0]; exact alloc2_at hq _ _
  have B0 : Below w.heap.size w W0 := by rw [← hW0]; go_grown
  have zq : q0 + 1 < W0.heap.size := (Array.getElem?_eq_some_iff.1 QQ.2).1
  clear hW0
  refine (known15_any _).mono ?_
  rintro e w1 ⟨rfl, hb1⟩
  have T1 := (hb1.block q0 (by omega)).trans QQ.1
  have P1 := (hb1.block (q0 + 1) zq).trans QQ.2
  have B1 : Below w.heap.size w w1 := bmore B0 hb1
  have z1 : q0 + 1 < w1.heap.size := Nat.lt_of_lt_of_le zq hb1.size
  clear hb1 QQ B0
  go_wp2_with fail
  refine (CellsOf_f _ cs _ (HC.out.below B1) (by omega)).mono ?_
  rintro e w2 ⟨v, ys, rfl, hR, hyl, hb2, -, -⟩
  obtain ⟨co, cap2, rfl⟩ := hR.shape
  have T2 := (hb2.block q0 (by omega)).trans T1
  have P2 := (hb2.block (q0 + 1) z1).trans P1
  have B2 := bmore B1 hb2
  have z2 : q0 + 1 < w2.heap.size := Nat.lt_of_lt_of_le z1 hb2.size
  have z2a : q0 < w2.heap.size := by omega
  obtain ⟨⟨a0, a1, a2, a3, a4, a5, a6, a7, a8, a9, a10, a11, a12⟩, -⟩ := blk13 T2
  have HO := Lib.hid (And.intro hR.sl (And.intro B2 (And.intro T2 P2)))
  clear hb2 hR B1 B2 T1 T2 P1 P2
  go_wp2_with fail
  refine (Tame2_any _ i0 i1 i2 i3 i4 i5 i6 i7 i8 i9 i10 i11 bo n bc k k1 k2).mono ?_
  rintro e w3 ⟨y0, y1, y2, y3, y4, y5, y6, y7, y8, y9, y10, y11, rfl, r3, r4, hb3⟩
  have T3 := (hb3.block q0 (by omega)).trans HO.out.2.2.1
  have P3 := (hb3.block (q0 + 1) z2).trans HO.out.2.2.2
  have z3 : q0 + 1 < w3.heap.size := Nat.lt_of_lt_of_le z2 hb3.size
  have z3z : q0 < w3.heap.size := by omega
  have z3a : q0 < w3.heap.size + 1 := by omega
  have z3b : q0 < w3.heap.size + 1 + 1 := by omega
  obtain ⟨⟨b0, b1, b2, b3, b4, b5, b6, b7, b8, b9, b10, b11, b12⟩, -⟩ := blk13 T3
  have H3 := Lib.hid (And.intro hb3 (And.intro T3 P3))
  clear hb3 T3 P3 a0 a1 a2 a3 a4 a5 a6 a7 a8 a9 a10 a11 a12
  go_upto_region 7 with fail
  generalize hr : w3.heap.size = r
  generalize hW : World.alloc _ _ = W
  have AA : W.heap[r]? = some (.cells #[.int .i64 y0, .int .i64 y1, .int .i64 y2, .int .i64 y3, .int .i64 y4, .int .i64 y5, .int .i64 y6, .int .i64 y7, .int .i64 y8, .int .i64 y9, .int .i64 y10, .int .i64 y11, .slice bo n bc] 30 (0, 0)) ∧ W.heap[r + 1]? = some (.cells #[.int .i64 i0, .int .i64 (k % 18), .int .i64 i2, .int .i64 i3, .int .i64 i4, .int .i64 i5, .int .i64 i6, .int .i64 i7, .int .i64 i8, .int .i64 i9, .int .i64 i10, .int .i64 i11, .slice bo n bc] 30 (0, 0)) := by
    rw [← hW]; exact alloc2_at hr _ _
  have BW3 : Below w3.heap.size w3 W := by rw [← hW]; go_grown
  have TW := (BW3.block q0 (by omega)).trans H3.out.2.1
  have PW := (BW3.block (q0 + 1) z3).trans H3.out.2.2
  have BW2 := bmore H3.out.1 BW3
  have BW := bmore HO.out.2.1 BW2
  obtain ⟨A1, A2⟩ := AA
  have zr : r < W.heap.size := (Array.getElem?_eq_some_iff.1 A1).1
  have zr1 : r + 1 < W.heap.size := (Array.getElem?_eq_some_iff.1 A2).1
  have zW : q0 < W.heap.size := (Array.getElem?_eq_some_iff.1 TW).1
  have zW1 : q0 + 1 < W.heap.size := (Array.getElem?_eq_some_iff.1 PW).1
  obtain ⟨⟨c0, c1, c2, c3, c4, c5, c6, c7, c8, c9, c10, c11, c12⟩, -⟩ := blk13 A1
  obtain ⟨⟨e0, e1, e2, e3, e4, e5, e6, e7, e8, e9, e10, e11, e12⟩, -⟩ := blk13 A2
  obtain ⟨⟨f0, f1, f2, f3, f4, f5, f6, f7, f8, f9, f10, f11, f12⟩, -⟩ := blk13 TW
  obtain ⟨⟨g0, g1⟩, -⟩ := blk2c PW
  have cu0 := fun (u : World) (hu : Below W.heap.size W u) => (hu.cell (p := ⟨r, 0, none⟩) zr).trans c0
  have cu1 := fun (u : World) (hu : Below W.heap.size W u) => (hu.cell (p := ⟨r, 1, none⟩) zr).trans c1
  have cu2 := fun (u : World) (hu : Below W.heap.size W u) => (hu.cell (p := ⟨r, 2, none⟩) zr).trans c2
  have cu3 := fun (u : World) (hu : Below W.heap.size W u) => (hu.cell (p := ⟨r, 3, none⟩) zr).trans c3
  have cu4 := fun (u : World) (hu : Below W.heap.size W u) => (hu.cell (p := ⟨r, 4, none⟩) zr).trans c4
  have cu5 := fun (u : World) (hu : Below W.heap.size W u) => (hu.cell (p := ⟨r, 5, none⟩) zr).trans c5
  have cu6 := fun (u : World) (hu : Below W.heap.size W u) => (hu.cell (p := ⟨r, 6, none⟩) zr).trans c6
  have cu7 := fun (u : World) (hu : Below W.heap.size W u) => (hu.cell (p := ⟨r, 7, none⟩) zr).trans c7
  have cu8 := fun (u : World) (hu : Below W.heap.size W u) => (hu.cell (p := ⟨r, 8, none⟩) zr).trans c8
  have cu9 := fun (u : World) (hu : Below W.heap.size W u) => (hu.cell (p := ⟨r, 9, none⟩) zr).trans c9
  have cu10 := fun (u : World) (hu : Below W.heap.size W u) => (hu.cell (p := ⟨r, 10, none⟩) zr).trans c10
  have cu11 := fun (u : World) (hu : Below W.heap.size W u) => (hu.cell (p := ⟨r, 11, none⟩) zr).trans c11
  have cu12 := fun (u : World) (hu : Below W.heap.size W u) => (hu.cell (p := ⟨r, 12, none⟩) zr).trans c12
  have eu0 := fun (u : World) (hu : Below W.heap.size W u) => (hu.cell (p := ⟨r + 1, 0, none⟩) zr1).trans e0
  have eu1 := fun (u : World) (hu : Below W.heap.size W u) => (hu.cell (p := ⟨r + 1, 1, none⟩) zr1).trans e1
  have eu2 := fun (u : World) (hu : Below W.heap.size W u) => (hu.cell (p := ⟨r + 1, 2, none⟩) zr1).trans e2
  have eu3 := fun (u : World) (hu : Below W.heap.size W u) => (hu.cell (p := ⟨r + 1, 3, none⟩) zr1).trans e3
  have eu4 := fun (u : World) (hu : Below W.heap.size W u) => (hu.cell (p := ⟨r + 1, 4, none⟩) zr1).trans e4
  have eu5 := fun (u : World) (hu : Below W.heap.size W u) => (hu.cell (p := ⟨r + 1, 5, none⟩) zr1).trans e5
  have eu6 := fun (u : World) (hu : Below W.heap.size W u) => (hu.cell (p := ⟨r + 1, 6, none⟩) zr1).trans e6
  have eu7 := fun (u : World) (hu : Below W.heap.size W u) => (hu.cell (p := ⟨r + 1, 7, none⟩) zr1).trans e7
  have eu8 := fun (u : World) (hu : Below W.heap.size W u) => (hu.cell (p := ⟨r + 1, 8, none⟩) zr1).trans e8
  have eu9 := fun (u : World) (hu : Below W.heap.size W u) => (hu.cell (p := ⟨r + 1, 9, none⟩) zr1).trans e9
  have eu10 := fun (u : World) (hu : Below W.heap.size W u) => (hu.cell (p := ⟨r + 1, 10, none⟩) zr1).trans e10
  have eu11 := fun (u : World) (hu : Below W.heap.size W u) => (hu.cell (p := ⟨r + 1, 11, none⟩) zr1).trans e11
  have eu12 := fun (u : World) (hu : Below W.heap.size W u) => (hu.cell (p := ⟨r + 1, 12, none⟩) zr1).trans e12
  have fu0 := fun (u : World) (hu : Below W.heap.size W u) => (hu.cell (p := ⟨q0, 0, none⟩) zW).trans f0
  have fu1 := fun (u : World) (hu : Below W.heap.size W u) => (hu.cell (p := ⟨q0, 1, none⟩) zW).trans f1
  have fu2 := fun (u : World) (hu : Below W.heap.size W u) => (hu.cell (p := ⟨q0, 2, none⟩) zW).trans f2
  have fu3 := fun (u : World) (hu : Below W.heap.size W u) => (hu.cell (p := ⟨q0, 3, none⟩) zW).trans f3
  have fu4 := fun (u : World) (hu : Below W.heap.size W u) => (hu.cell (p := ⟨q0, 4, none⟩) zW).trans f4
  have fu5 := fun (u : World) (hu : Below W.heap.size W u) => (hu.cell (p := ⟨q0, 5, none⟩) zW).trans f5
  have fu6 := fun (u : World) (hu : Below W.heap.size W u) => (hu.cell (p := ⟨q0, 6, none⟩) zW).trans f6
  have fu7 := fun (u : World) (hu : Below W.heap.size W u) => (hu.cell (p := ⟨q0, 7, none⟩) zW).trans f7
  have fu8 := fun (u : World) (hu : Below W.heap.size W u) => (hu.cell (p := ⟨q0, 8, none⟩) zW).trans f8
  have fu9 := fun (u : World) (hu : Below W.heap.size W u) => (hu.cell (p := ⟨q0, 9, none⟩) zW).trans f9
  have fu10 := fun (u : World) (hu : Below W.heap.size W u) => (hu.cell (p := ⟨q0, 10, none⟩) zW).trans f10
  have fu11 := fun (u : World) (hu : Below W.heap.size W u) => (hu.cell (p := ⟨q0, 11, none⟩) zW).trans f11
  have fu12 := fun (u : World) (hu : Below W.heap.size W u) => (hu.cell (p := ⟨q0, 12, none⟩) zW).trans f12
  have gu0 := fun (u : World) (hu : Below W.heap.size W u) => (hu.cell (p := ⟨q0 + 1, 0, none⟩) zW1).trans g0
  have gu1 := fun (u : World) (hu : Below W.heap.size W u) => (hu.cell (p := ⟨q0 + 1, 1, none⟩) zW1).trans g1
  have HS := Lib.hid (And.intro (HL.out.below BW) (And.intro (HO.out.1.below BW2) (And.intro (HI.out.below BW) BW)))
  have hb0 : Below W.heap.size W W := Below.refl _ _
  clear hW hr BW3 TW PW BW2 BW A1 A2 b0 b1 b2 b3 b4 b5 b6 b7 b8 b9 b10 b11 b12 c0 c1 c2 c3 c4 c5 c6 c7 c8 c9 c10 c11 c12 e0 e1 e2 e3 e4 e5 e6 e7 e8 e9 e10 e11 e12 f0 f1 f2 f3 f4 f5 f6 f7 f8 f9 f10 f11 f12 g0 g1
  go_wp2_with fail
  refine (step15_all _ _ ls i0 i1 i2 i3 i4 i5 i6 i7 i8 i9 i10 i11 (.slice bo n bc) n F ok ov (HS.out.1.below hb0) (by omega) (HS.out.2.2.1.below hb0) (by omega) r1 r2 o1 o2 o3 o4).mono ?_
  rintro e x0 ⟨rfl, hx0⟩
  have hb10 : Below W.heap.size W x0 := bmore hb0 hx0
  clear hx0
  go_wp2_with fail
  refine (step15_all _ _ ls i0 (k % 18) i2 i3 i4 i5 i6 i7 i8 i9 i10 i11 (.slice bo n bc) n F ok ov (HS.out.1.below hb10) (by omega) (HS.out.2.2.1.below hb10) (by omega) r1 r2 o1 o2 o3 o4).mono ?_
  rintro e x1 ⟨rfl, hx1⟩
  have hb11 : Below W.heap.size W x1 := bmore hb10 hx1
  clear hx1
  go_wp2_with fail
  refine (step15_all _ _ ys y0 y1 y2 y3 y4 y5 y6 y7 y8 y9 y10 y11 (.slice bo n bc) n F ok ov (HS.out.2.1.below hb11) (by omega) (HS.out.2.2.1.below hb11) (by omega) r3 r4 o1 o2 o3 o4).mono ?_
  rintro e x2 ⟨rfl, hx2⟩
  have hb12 : Below W.heap.size W x2 := bmore hb11 hx2
  clear hx2
  go_wp2_with fail
  refine (step15_all _ _ ys i0 (k % 18) i2 i3 i4 i5 i6 i7 i8 i9 i10 i11 (.slice bo n bc) n F ok ov (HS.out.2.1.below hb12) (by omega) (HS.out.2.2.1.below hb12) (by omega) r1 r2 o1 o2 o3 o4).mono ?_
  rintro e x3 ⟨rfl, hx3⟩
  have hb13 : Below W.heap.size W x3 := bmore hb12 hx3
  clear hx3
  go_wp2_with fail
  refine (step15_all _ _ ls y0 y1 y2 y3 y4 y5 y6 y7 y8 y9 y10 y11 (.slice bo n bc) n F ok ov (HS.out.1.below hb13) (by omega) (HS.out.2.2.1.below hb13) (by omega) r3 r4 o1 o2 o3 o4).mono ?_
  rintro e x4 ⟨rfl, hx4⟩
  have hb14 : Below W.heap.size W x4 := bmore hb13 hx4
  clear hx4
  have BZ := bmore HS.out.2.2.2 hb14
  go_wp2
  go_ret
  exact ⟨by first | rfl | (simp; done), hq ▸ BZ⟩
theorem ownerSteps_any (l c : Value) (ls cs : List Int) (i0 i1 i2 i3 i4 i5 i6 i7 i8 i9 i10 i11 : Int) (bt : Value) (n : Nat) (F : Nat → Int) (ok ov k : Int) (w : World) (hl : InSlice .i64 w l ls) (hc : InSlice .u8 w c cs) (hI : Its w bt n F) (r1 : -9223372036854775808 ≤ i2) (r2 : i2 ≤ 9223372036854775807) (o1 : 0 ≤ ok) (o2 : ok ≤ 255) (o3 : -2147483648 ≤ ov) (o4 : ov ≤ 2147483647) (k1 : 0 ≤ k) (k2 : k ≤ 255) : Calls Try.prog 6 #[l, .agg #[.int .i64 i0, .int .i64 i1, .int .i64 i2, .int .i64 i3, .int .i64 i4, .int .i64 i5, .int .i64 i6, .int .i64 i7, .int .i64 i8, .int .i64 i9, .int .i64 i10, .int .i64 i11, bt], .agg #[.int .u8 ok, .int .i32 ov], .int .u8 k, c] w fun e w' => e = .returned (.bool true) ∧ Below w.heap.size w w' := by
  by_cases h1 : 150 < ls.length
  · exact ownerSteps_l l c ls cs i0 i1 i2 i3 i4 i5 i6 i7 i8 i9 i10 i11 bt n F ok ov k w hl hc hI r1 r2 o1 o2 o3 o4 k1 k2 h1
  · by_cases h2 : 150 < cs.length
    · exact ownerSteps_c l c ls cs i0 i1 i2 i3 i4 i5 i6 i7 i8 i9 i10 i11 bt n F ok ov k w hl hc hI r1 r2 o1 o2 o3 o4 k1 k2 (by omega) h2
    · by_cases h3 : 20 < n
      · exact ownerSteps_n l c ls cs i0 i1 i2 i3 i4 i5 i6 i7 i8 i9 i10 i11 bt n F ok ov k w hl hc hI r1 r2 o1 o2 o3 o4 k1 k2 (by omega) (by omega) h3
      · exact ownerSteps_d l c ls cs i0 i1 i2 i3 i4 i5 i6 i7 i8 i9 i10 i11 bt n F ok ov k w hl hc hI r1 r2 o1 o2 o3 o4 k1 k2 (by omega) (by omega) (by omega)

theorem Try.resTypes6 : Try.f6.resultTypes = #[4] := by kernel_rfl
theorem ownerSteps_rds64 : Try.prog.readableRec 45 = true ∧ 45 < Try.prog.types.size := ⟨by kernel_rfl, of_decide_eq_true (by kernel_rfl)⟩
theorem ownerSteps_rdthread : Try.prog.readableRec 30 = true ∧ 30 < Try.prog.types.size := ⟨by kernel_rfl, of_decide_eq_true (by kernel_rfl)⟩
theorem ownerSteps_rdop : Try.prog.readableRec 23 = true ∧ 23 < Try.prog.types.size := ⟨by kernel_rfl, of_decide_eq_true (by kernel_rfl)⟩
theorem ownerSteps_rdu8 : Try.prog.readableRec 5 = true ∧ 5 < Try.prog.types.size := ⟨by kernel_rfl, of_decide_eq_true (by kernel_rfl)⟩
theorem ownerSteps_rdbytes : Try.prog.readableRec 44 = true ∧ 44 < Try.prog.types.size := ⟨by kernel_rfl, of_decide_eq_true (by kernel_rfl)⟩
set_option maxRecDepth 100000 in
theorem ownerSteps_lifted (os : Os) (started : os.Started) (H : Type) (enc : TypeId × Value → H) :
    ReturnsInHanded {} Try.checked os 6 .any (Rows.ownerStepsSpec.pre6 enc Try.prog Try.f6 Rows.ownerStepsRow.domain false) (Rows.ownerStepsSpec.post enc Try.prog Try.f6 false true false false) := by
  refine law_lifted (C := Try.checked) (T := 4) Try.own started (by kernel_rfl) Try.func6
    (ChangeSpec.witness6 (enc := enc) (C := Try.checked) false ⟨#[], #[.slice none 0 0, .agg #[.int .i64 0, .int .i64 0, .int .i64 0, .int .i64 0, .int .i64 0, .int .i64 0, .int .i64 0, .int .i64 0, .int .i64 0, .int .i64 0, .int .i64 0, .int .i64 0, .slice none 0 0], .agg #[.int .u8 0, .int .i32 0], .int .u8 0, .slice none 0 0], []⟩ 8 (by kernel_rfl) (by kernel_rfl) (by kernel_rfl) (by kernel_rfl))
    Try.laidOut (fun t ht => ?_) Try.resTypes6 Try.underlying4 rfl (fun ds hd => ?_) ?_
  · rw [Try.params6] at ht
    exact (show ∀ t ∈ [45, 30, 23, 5, 44], Try.prog.readableRec t = true ∧ t < Try.prog.types.size from List.forall_mem_cons.2 ⟨ownerSteps_rds64, List.forall_mem_cons.2 ⟨ownerSteps_rdthread, List.forall_mem_cons.2 ⟨ownerSteps_rdop, List.forall_mem_cons.2 ⟨ownerSteps_rdu8, List.forall_mem_cons.2 ⟨ownerSteps_rdbytes, fun _ h => by cases h⟩⟩⟩⟩⟩) t ht
  · rw [Try.params6] at hd
    match ds, hd with
    | [e0, e1, e2, e3, e4], _ => rfl
  · intro W base args ds p hval0 hA0
    have hval : ∀ (j : Nat) t v, Try.f6.params[j]? = some t → args[j]? = some v → Value.okWide Try.prog W .any base t v := hval0
    have hA : DataW.TrodAll enc Try.prog W 0 (fun _ => true) true Try.f6.params.toList args.toList ds p := hA0
    rw [Try.params6] at hA hval
    obtain ⟨v0, vs0, d0, ds0, p0, q0, hargs, rfl, rfl, h0, r0⟩ := trodAll_cons hA
    obtain ⟨v1, vs1, d1, ds1, p1, q1, rfl, rfl, rfl, h1, r1⟩ := trodAll_cons r0
    obtain ⟨v2, vs2, d2, ds2, p2, q2, rfl, rfl, rfl, h2, r2⟩ := trodAll_cons r1
    obtain ⟨v3, vs3, d3, ds3, p3, q3, rfl, rfl, rfl, h3, r3⟩ := trodAll_cons r2
    obtain ⟨v4, vs4, d4, ds4, p4, q4, rfl, rfl, rfl, h4, r4⟩ := trodAll_cons r3
    obtain ⟨rfl, rfl, rfl⟩ := trodAll_nil r4
    obtain rfl : args = #[v0, v1, v2, v3, v4] := by cases args; simp_all
    obtain ⟨l, sl⟩ := open_inslice (k := .i64) Try.underlying45 Try.underlying2 (by kernel_rfl) (hval 0 45 v0 rfl rfl) h0
    obtain ⟨i0, i1, i2, i3, i4, i5, i6, i7, i8, i9, i10, i11, tb, tn, tF, rfl, _, tI, t1, t2⟩ := open_thread2 (hval 1 30 v1 rfl rfl) h1
    obtain ⟨ok, ov, rfl, o1, o2, o3, o4⟩ := open_op (hval 2 23 v2 rfl rfl) h2
    obtain ⟨k, rfl, _, _, wk⟩ := open_int Try.underlying5 (hval 3 5 v3 rfl rfl) h3
    have bk := bounds_u8 wk
    obtain ⟨c, sc⟩ := open_inslice (k := .u8) Try.underlying44 Try.underlying5 (by kernel_rfl) (hval 4 44 v4 rfl rfl) h4
    exact ownerSteps_any v0 v4 l c i0 i1 i2 i3 i4 i5 i6 i7 i8 i9 i10 i11 tb tn tF ok ov k W sl sc tI t1 t2 o1 o2 o3 o4 bk.1 bk.2

/-- OwnerSteps: for every input the call returns true. -/
theorem ownerSteps_said : Rows.OwnerStepsSaid :=
  OpenClaim.holds_of_wide 6 Try.f6 rfl rfl rfl rfl rfl rfl rfl ⟨rfl, rfl, rfl, rfl, rfl⟩ rfl rfl rfl rfl rfl (by as_aux_lemma => kernel_rfl) Try.func6 (by as_aux_lemma => kernel_rfl)
    (of_decide_eq_true (by as_aux_lemma => kernel_rfl)) (by unfold Func.isWrapper; first | (rw [if_pos (by decide +kernel)]; kernel_rfl) | (rw [if_neg (by decide +kernel)]; exact ⟨rfl, rfl⟩))
    (fun os started H enc _ => ownerSteps_lifted os started H enc)
#print axioms ownerSteps_said

end Go.Proofs.Ytcellcjojfbajaa
