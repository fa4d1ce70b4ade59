/- Who begins to ask, in the reference of layer 15. -/
import Derived.Test.YtcellcjojfbajaaOwP
import Derived.Test.YtcellcjojfbajaaWord
namespace Go.Proofs.Ytcellcjojfbajaa
set_option linter.unusedSimpArgs false
set_option linter.unusedVariables false
open Go.RowKit
open Go.ChangeShapes Go.WideShapes Go.ChangeAt

set_option maxRecDepth 100000 in
set_option maxHeartbeats 4000000 in
theorem rBegin15_a (w : World) (i0 i1 i2 i3 i4 i5 i6 i7 i8 i9 i10 i11 k v : Int) (bo : Option Addr) (bn bc : Nat) (k1 : 0 ≤ k) (k2 : k ≤ 255) (v1 : -2147483648 ≤ v) (v2 : v ≤ 2147483647) (h1 : (i1 != 0) = true) :
    Calls Try.prog 18 #[.agg #[.int .i64 i0, .int .i64 i1, .int .i64 i2, .int .i64 i3, .int .i64 i4, .int .i64 i5, .int .i64 i6, .int .i64 i7, .int .i64 i8, .int .i64 i9, .int .i64 i10, .int .i64 i11, .slice bo bn bc], .agg #[.int .u8 k, .int .i32 v]] w fun e w' => e = .returned (.tuple #[.agg #[.int .i64 i0, .int .i64 i1, .int .i64 i2, .int .i64 i3, .int .i64 i4, .int .i64 i5, .int .i64 i6, .int .i64 i7, .int .i64 i8, .int .i64 i9, .int .i64 i10, .int .i64 i11, .slice bo bn bc], .bool false]) ∧ Below w.heap.size w w' := by
  go_enter Try.func18, Try.ntmps18
  go_wp2
  refine bodyPost_ret (v := .tuple #[.agg #[.int .i64 i0, .int .i64 i1, .int .i64 i2, .int .i64 i3, .int .i64 i4, .int .i64 i5, .int .i64 i6, .int .i64 i7, .int .i64 i8, .int .i64 i9, .int .i64 i10, .int .i64 i11, .slice bo bn bc], .bool false]) (by simp [results, Try.results18, go_sem]) rfl ⟨rfl, by go_grown⟩

set_option maxRecDepth 100000 in
set_option maxHeartbeats 4000000 in
theorem rBegin15_b (w : World) (i0 i1 i2 i3 i4 i5 i6 i7 i8 i9 i10 i11 k v : Int) (bo : Option Addr) (bn bc : Nat) (k1 : 0 ≤ k) (k2 : k ≤ 255) (v1 : -2147483648 ≤ v) (v2 : v ≤ 2147483647) (h1 : (i1 != 0) = false) (h2 : (i2 != 0) = false) :
    Calls Try.prog 18 #[.agg #[.int .i64 i0, .int .i64 i1, .int .i64 i2, .int .i64 i3, .int .i64 i4, .int .i64 i5, .int .i64 i6, .int .i64 i7, .int .i64 i8, .int .i64 i9, .int .i64 i10, .int .i64 i11, .slice bo bn bc], .agg #[.int .u8 k, .int .i32 v]] w fun e w' => e = .returned (.tuple #[.agg #[.int .i64 i0, .int .i64 1, .int .i64 i2, .int .i64 (wrap64 (i3 + 1)), .int .i64 (wordOf k v), .int .i64 i5, .int .i64 i6, .int .i64 i7, .int .i64 i8, .int .i64 i9, .int .i64 i10, .int .i64 i11, .slice bo bn bc], .bool true]) ∧ Below w.heap.size w w' := by
  go_enter Try.func18, Try.ntmps18
  go_wp2_with fail
  generalize hW : World.alloc _ _ = W
  have A : (W.heap[w.heap.size]? = some (.cells #[.int .i64 i0, .int .i64 i1, .int .i64 i2, .int .i64 i3, .int .i64 i4, .int .i64 i5, .int .i64 i6, .int .i64 i7, .int .i64 i8, .int .i64 i9, .int .i64 i10, .int .i64 i11, .slice bo bn bc] 30 (0, 0)) ∧ W.heap[w.heap.size + 1 + 1]? = some (.cells #[.int .i64 0, .int .i64 0, .int .i64 0, .int .i64 0, .int .i64 0, .int .i64 0, .int .i64 0, .int .i64 0, .int .i64 0, .int .i64 0, .int .i64 0, .int .i64 0, .slice none 0 0] 30 (0, 0))) ∧ Below w.heap.size w W := by
    rw [← hW]
    exact ⟨⟨(alloc3_heap _ _ _ _).1, (alloc3_heap _ _ _ _).2.2⟩, by go_grown⟩
  clear hW
  refine (rOp_any k v W k1 k2 v1 v2).mono ?_
  rintro e w1 ⟨rfl, hb1⟩
  have zW : w.heap.size + 1 + 1 < W.heap.size := (Array.getElem?_eq_some_iff.1 A.1.2).1
  have B0 := (hb1.block w.heap.size (by omega)).trans A.1.1
  have B2 := (hb1.block (w.heap.size + 1 + 1) (by omega)).trans A.1.2
  have BW : Below w.heap.size w w1 := A.2.trans (hb1.mono A.2.size)
  have z1 : w.heap.size + 1 + 1 < w1.heap.size := (Array.getElem?_eq_some_iff.1 B2).1
  have z1a : w.heap.size < w1.heap.size := by omega
  obtain ⟨⟨a0, a1, a2, a3, a4, a5, a6, a7, a8, a9, a10, a11, a12⟩, -⟩ := blk13 B0
  have af0 := blkF B0 0; have af1 := blkF B0 1; have af2 := blkF B0 2; have af3 := blkF B0 3; have af4 := blkF B0 4; have af5 := blkF B0 5; have af6 := blkF B0 6; have af7 := blkF B0 7; have af8 := blkF B0 8; have af9 := blkF B0 9; have af10 := blkF B0 10; have af11 := blkF B0 11; have af12 := blkF B0 12
  obtain ⟨⟨c0, c1, c2, c3, c4, c5, c6, c7, c8, c9, c10, c11, c12⟩, -⟩ := blk13 B2
  have cf0 := blkF B2 0; have cf1 := blkF B2 1; have cf2 := blkF B2 2; have cf3 := blkF B2 3; have cf4 := blkF B2 4; have cf5 := blkF B2 5; have cf6 := blkF B2 6; have cf7 := blkF B2 7; have cf8 := blkF B2 8; have cf9 := blkF B2 9; have cf10 := blkF B2 10; have cf11 := blkF B2 11; have cf12 := blkF B2 12
  have HB := Lib.hid (And.intro BW (And.intro B0 B2))
  have af1 := blkF B0 1
  have af3 := blkF B0 3
  have af4 := blkF B0 4
  clear A hb1 B0 B2 BW zW c0 c1 c2 c3 c4 c5 c6 c7 c8 c9 c10 c11 c12 cf0 cf1 cf2 cf3 cf4 cf5 cf6 cf7 cf8 cf9 cf10 cf11 cf12
  go_upto_region 8 with fail
  generalize hw4 : World.setCell _ _ _ = w4
  have E5 : w4.heap[w.heap.size]? = some (.cells #[.int .i64 i0, .int .i64 1, .int .i64 i2, .int .i64 (wrap64 (i3 + 1)), .int .i64 (wordOf k v), .int .i64 i5, .int .i64 i6, .int .i64 i7, .int .i64 i8, .int .i64 i9, .int .i64 i10, .int .i64 i11, .slice bo bn bc] 30 (0, 0)) := by
    rw [← hw4]
    have a0_ : (w1.setCell ⟨w.heap.size, 4, none⟩ (.int .i64 (wordOf k v))).heap[w.heap.size]? = some (.cells #[.int .i64 i0, .int .i64 i1, .int .i64 i2, .int .i64 i3, .int .i64 (wordOf k v), .int .i64 i5, .int .i64 i6, .int .i64 i7, .int .i64 i8, .int .i64 i9, .int .i64 i10, .int .i64 i11, .slice bo bn bc] 30 (0, 0)) := by rw [heap_setCell_self (HB.out.2.1)]; rfl
    have a1_ : ((w1.setCell ⟨w.heap.size, 4, none⟩ (.int .i64 (wordOf k v))).setCell ⟨w.heap.size, 3, none⟩ (.int .i64 (wrap64 (i3 + 1)))).heap[w.heap.size]? = some (.cells #[.int .i64 i0, .int .i64 i1, .int .i64 i2, .int .i64 (wrap64 (i3 + 1)), .int .i64 (wordOf k v), .int .i64 i5, .int .i64 i6, .int .i64 i7, .int .i64 i8, .int .i64 i9, .int .i64 i10, .int .i64 i11, .slice bo bn bc] 30 (0, 0)) := by rw [heap_setCell_self (a0_)]; rfl
    have a2_ : (((w1.setCell ⟨w.heap.size, 4, none⟩ (.int .i64 (wordOf k v))).setCell ⟨w.heap.size, 3, none⟩ (.int .i64 (wrap64 (i3 + 1)))).setCell ⟨w.heap.size, 1, none⟩ (.int .i64 1)).heap[w.heap.size]? = some (.cells #[.int .i64 i0, .int .i64 1, .int .i64 i2, .int .i64 (wrap64 (i3 + 1)), .int .i64 (wordOf k v), .int .i64 i5, .int .i64 i6, .int .i64 i7, .int .i64 i8, .int .i64 i9, .int .i64 i10, .int .i64 i11, .slice bo bn bc] 30 (0, 0)) := by rw [heap_setCell_self (a1_)]; rfl
    exact a2_
  have KQ : Kept (fun k => k = w.heap.size) w1 w4 := by rw [← hw4]; exact ((((Kept.refl (fun k => k = w.heap.size) w1).setCell (p := ⟨w.heap.size, 4, none⟩) (fun _ => rfl) _).setCell (p := ⟨w.heap.size, 3, none⟩) (fun _ => rfl) _).setCell (p := ⟨w.heap.size, 1, none⟩) (fun _ => rfl) _)
  have E7 := (KQ.block (w.heap.size + 1 + 1) (by omega) (by omega)).trans HB.out.2.2
  have z4 : w.heap.size + 1 + 1 < w4.heap.size := (Array.getElem?_eq_some_iff.1 E7).1
  have z4a : w.heap.size < w4.heap.size := by omega
  clear hw4 a0 a1 a2 a3 a4 a5 a6 a7 a8 a9 a10 a11 a12 af0 af1 af2 af3 af4 af5 af6 af7 af8 af9 af10 af11 af12
  obtain ⟨⟨a0, a1, a2, a3, a4, a5, a6, a7, a8, a9, a10, a11, a12⟩, -⟩ := blk13 E5
  obtain ⟨⟨c0, c1, c2, c3, c4, c5, c6, c7, c8, c9, c10, c11, c12⟩, -⟩ := blk13 E7
  have cf0 := blkF E7 0; have cf1 := blkF E7 1; have cf2 := blkF E7 2; have cf3 := blkF E7 3; have cf4 := blkF E7 4; have cf5 := blkF E7 5; have cf6 := blkF E7 6; have cf7 := blkF E7 7; have cf8 := blkF E7 8; have cf9 := blkF E7 9; have cf10 := blkF E7 10; have cf11 := blkF E7 11; have cf12 := blkF E7 12
  have HE := Lib.hid (And.intro KQ E7)
  clear E5 E7 KQ
  go_wp2
  generalize hw7 : World.setCell _ _ _ = w7
  have E : w7.heap[w.heap.size + 1 + 1]? = some (.cells #[.int .i64 i0, .int .i64 1, .int .i64 i2, .int .i64 (wrap64 (i3 + 1)), .int .i64 (wordOf k v), .int .i64 i5, .int .i64 i6, .int .i64 i7, .int .i64 i8, .int .i64 i9, .int .i64 i10, .int .i64 i11, .slice bo bn bc] 30 (0, 0)) ∧ Kept (fun k => k = w.heap.size + 1 + 1) w4 w7 := by
    rw [← hw7]
    exact ⟨set13 HE.out.2 rfl, kept_set13 _ _ _ _ _ _ _ _ _ _ _ _ _ _ _⟩
  obtain ⟨⟨s0, s1, s2, s3, s4, s5, s6, s7, s8, s9, s10, s11, s12⟩, -⟩ := blk13 E.1
  have BZ := HB.out.1.trans (((HE.out.1.mono (fun k _ e => .inl e)).trans (E.2.mono (fun k _ e => .inr e)) : Kept (fun k => k = w.heap.size ∨ k = w.heap.size + 1 + 1) w1 w7).below HB.out.1.size (fun k hk e => by omega))
  refine bodyPost_ret (v := .tuple #[.agg #[.int .i64 i0, .int .i64 1, .int .i64 i2, .int .i64 (wrap64 (i3 + 1)), .int .i64 (wordOf k v), .int .i64 i5, .int .i64 i6, .int .i64 i7, .int .i64 i8, .int .i64 i9, .int .i64 i10, .int .i64 i11, .slice bo bn bc], .bool true]) (by simp [results, Try.results18, go_sem, s0, s1, s2, s3, s4, s5, s6, s7, s8, s9, s10, s11, s12]) rfl ⟨rfl, BZ⟩

set_option maxRecDepth 100000 in
set_option maxHeartbeats 4000000 in
theorem rBegin15_c (w : World) (i0 i1 i2 i3 i4 i5 i6 i7 i8 i9 i10 i11 k v : Int) (bo : Option Addr) (bn bc : Nat) (k1 : 0 ≤ k) (k2 : k ≤ 255) (v1 : -2147483648 ≤ v) (v2 : v ≤ 2147483647) (h1 : (i1 != 0) = false) (h2 : (i2 != 0) = true) :
    Calls Try.prog 18 #[.agg #[.int .i64 i0, .int .i64 i1, .int .i64 i2, .int .i64 i3, .int .i64 i4, .int .i64 i5, .int .i64 i6, .int .i64 i7, .int .i64 i8, .int .i64 i9, .int .i64 i10, .int .i64 i11, .slice bo bn bc], .agg #[.int .u8 k, .int .i32 v]] w fun e w' => e = .returned (.tuple #[.agg #[.int .i64 i0, .int .i64 2, .int .i64 i2, .int .i64 (wrap64 (i3 + 1)), .int .i64 (wordOf k v), .int .i64 i5, .int .i64 i6, .int .i64 i7, .int .i64 i8, .int .i64 i9, .int .i64 i10, .int .i64 i11, .slice bo bn bc], .bool true]) ∧ Below w.heap.size w w' := by
  go_enter Try.func18, Try.ntmps18
  go_wp2_with fail
  generalize hW : World.alloc _ _ = W
  have A : (W.heap[w.heap.size]? = some (.cells #[.int .i64 i0, .int .i64 i1, .int .i64 i2, .int .i64 i3, .int .i64 i4, .int .i64 i5, .int .i64 i6, .int .i64 i7, .int .i64 i8, .int .i64 i9, .int .i64 i10, .int .i64 i11, .slice bo bn bc] 30 (0, 0)) ∧ W.heap[w.heap.size + 1 + 1]? = some (.cells #[.int .i64 0, .int .i64 0, .int .i64 0, .int .i64 0, .int .i64 0, .int .i64 0, .int .i64 0, .int .i64 0, .int .i64 0, .int .i64 0, .int .i64 0, .int .i64 0, .slice none 0 0] 30 (0, 0))) ∧ Below w.heap.size w W := by
    rw [← hW]
    exact ⟨⟨(alloc3_heap _ _ _ _).1, (alloc3_heap _ _ _ _).2.2⟩, by go_grown⟩
  clear hW
  refine (rOp_any k v W k1 k2 v1 v2).mono ?_
  rintro e w1 ⟨rfl, hb1⟩
  have zW : w.heap.size + 1 + 1 < W.heap.size := (Array.getElem?_eq_some_iff.1 A.1.2).1
  have B0 := (hb1.block w.heap.size (by omega)).trans A.1.1
  have B2 := (hb1.block (w.heap.size + 1 + 1) (by omega)).trans A.1.2
  have BW : Below w.heap.size w w1 := A.2.trans (hb1.mono A.2.size)
  have z1 : w.heap.size + 1 + 1 < w1.heap.size := (Array.getElem?_eq_some_iff.1 B2).1
  have z1a : w.heap.size < w1.heap.size := by omega
  obtain ⟨⟨a0, a1, a2, a3, a4, a5, a6, a7, a8, a9, a10, a11, a12⟩, -⟩ := blk13 B0
  have af0 := blkF B0 0; have af1 := blkF B0 1; have af2 := blkF B0 2; have af3 := blkF B0 3; have af4 := blkF B0 4; have af5 := blkF B0 5; have af6 := blkF B0 6; have af7 := blkF B0 7; have af8 := blkF B0 8; have af9 := blkF B0 9; have af10 := blkF B0 10; have af11 := blkF B0 11; have af12 := blkF B0 12
  obtain ⟨⟨c0, c1, c2, c3, c4, c5, c6, c7, c8, c9, c10, c11, c12⟩, -⟩ := blk13 B2
  have cf0 := blkF B2 0; have cf1 := blkF B2 1; have cf2 := blkF B2 2; have cf3 := blkF B2 3; have cf4 := blkF B2 4; have cf5 := blkF B2 5; have cf6 := blkF B2 6; have cf7 := blkF B2 7; have cf8 := blkF B2 8; have cf9 := blkF B2 9; have cf10 := blkF B2 10; have cf11 := blkF B2 11; have cf12 := blkF B2 12
  have HB := Lib.hid (And.intro BW (And.intro B0 B2))
  have af1 := blkF B0 1
  have af3 := blkF B0 3
  have af4 := blkF B0 4
  clear A hb1 B0 B2 BW zW c0 c1 c2 c3 c4 c5 c6 c7 c8 c9 c10 c11 c12 cf0 cf1 cf2 cf3 cf4 cf5 cf6 cf7 cf8 cf9 cf10 cf11 cf12
  go_upto_region 8 with fail
  generalize hw4 : World.setCell _ _ _ = w4
  have E5 : w4.heap[w.heap.size]? = some (.cells #[.int .i64 i0, .int .i64 2, .int .i64 i2, .int .i64 (wrap64 (i3 + 1)), .int .i64 (wordOf k v), .int .i64 i5, .int .i64 i6, .int .i64 i7, .int .i64 i8, .int .i64 i9, .int .i64 i10, .int .i64 i11, .slice bo bn bc] 30 (0, 0)) := by
    rw [← hw4]
    have a0_ : (w1.setCell ⟨w.heap.size, 4, none⟩ (.int .i64 (wordOf k v))).heap[w.heap.size]? = some (.cells #[.int .i64 i0, .int .i64 i1, .int .i64 i2, .int .i64 i3, .int .i64 (wordOf k v), .int .i64 i5, .int .i64 i6, .int .i64 i7, .int .i64 i8, .int .i64 i9, .int .i64 i10, .int .i64 i11, .slice bo bn bc] 30 (0, 0)) := by rw [heap_setCell_self (HB.out.2.1)]; rfl
    have a1_ : ((w1.setCell ⟨w.heap.size, 4, none⟩ (.int .i64 (wordOf k v))).setCell ⟨w.heap.size, 3, none⟩ (.int .i64 (wrap64 (i3 + 1)))).heap[w.heap.size]? = some (.cells #[.int .i64 i0, .int .i64 i1, .int .i64 i2, .int .i64 (wrap64 (i3 + 1)), .int .i64 (wordOf k v), .int .i64 i5, .int .i64 i6, .int .i64 i7, .int .i64 i8, .int .i64 i9, .int .i64 i10, .int .i64 i11, .slice bo bn bc] 30 (0, 0)) := by rw [heap_setCell_self (a0_)]; rfl
    have a2_ : (((w1.setCell ⟨w.heap.size, 4, none⟩ (.int .i64 (wordOf k v))).setCell ⟨w.heap.size, 3, none⟩ (.int .i64 (wrap64 (i3 + 1)))).setCell ⟨w.heap.size, 1, none⟩ (.int .i64 1)).heap[w.heap.size]? = some (.cells #[.int .i64 i0, .int .i64 1, .int .i64 i2, .int .i64 (wrap64 (i3 + 1)), .int .i64 (wordOf k v), .int .i64 i5, .int .i64 i6, .int .i64 i7, .int .i64 i8, .int .i64 i9, .int .i64 i10, .int .i64 i11, .slice bo bn bc] 30 (0, 0)) := by rw [heap_setCell_self (a1_)]; rfl
    have a3_ : ((((w1.setCell ⟨w.heap.size, 4, none⟩ (.int .i64 (wordOf k v))).setCell ⟨w.heap.size, 3, none⟩ (.int .i64 (wrap64 (i3 + 1)))).setCell ⟨w.heap.size, 1, none⟩ (.int .i64 1)).setCell ⟨w.heap.size, 1, none⟩ (.int .i64 2)).heap[w.heap.size]? = some (.cells #[.int .i64 i0, .int .i64 2, .int .i64 i2, .int .i64 (wrap64 (i3 + 1)), .int .i64 (wordOf k v), .int .i64 i5, .int .i64 i6, .int .i64 i7, .int .i64 i8, .int .i64 i9, .int .i64 i10, .int .i64 i11, .slice bo bn bc] 30 (0, 0)) := by rw [heap_setCell_self (a2_)]; rfl
    exact a3_
  have KQ : Kept (fun k => k = w.heap.size) w1 w4 := by rw [← hw4]; exact (((((Kept.refl (fun k => k = w.heap.size) w1).setCell (p := ⟨w.heap.size, 4, none⟩) (fun _ => rfl) _).setCell (p := ⟨w.heap.size, 3, none⟩) (fun _ => rfl) _).setCell (p := ⟨w.heap.size, 1, none⟩) (fun _ => rfl) _).setCell (p := ⟨w.heap.size, 1, none⟩) (fun _ => rfl) _)
  have E7 := (KQ.block (w.heap.size + 1 + 1) (by omega) (by omega)).trans HB.out.2.2
  have z4 : w.heap.size + 1 + 1 < w4.heap.size := (Array.getElem?_eq_some_iff.1 E7).1
  have z4a : w.heap.size < w4.heap.size := by omega
  clear hw4 a0 a1 a2 a3 a4 a5 a6 a7 a8 a9 a10 a11 a12 af0 af1 af2 af3 af4 af5 af6 af7 af8 af9 af10 af11 af12
  obtain ⟨⟨a0, a1, a2, a3, a4, a5, a6, a7, a8, a9, a10, a11, a12⟩, -⟩ := blk13 E5
  obtain ⟨⟨c0, c1, c2, c3, c4, c5, c6, c7, c8, c9, c10, c11, c12⟩, -⟩ := blk13 E7
  have cf0 := blkF E7 0; have cf1 := blkF E7 1; have cf2 := blkF E7 2; have cf3 := blkF E7 3; have cf4 := blkF E7 4; have cf5 := blkF E7 5; have cf6 := blkF E7 6; have cf7 := blkF E7 7; have cf8 := blkF E7 8; have cf9 := blkF E7 9; have cf10 := blkF E7 10; have cf11 := blkF E7 11; have cf12 := blkF E7 12
  have HE := Lib.hid (And.intro KQ E7)
  clear E5 E7 KQ
  go_wp2
  generalize hw7 : World.setCell _ _ _ = w7
  have E : w7.heap[w.heap.size + 1 + 1]? = some (.cells #[.int .i64 i0, .int .i64 2, .int .i64 i2, .int .i64 (wrap64 (i3 + 1)), .int .i64 (wordOf k v), .int .i64 i5, .int .i64 i6, .int .i64 i7, .int .i64 i8, .int .i64 i9, .int .i64 i10, .int .i64 i11, .slice bo bn bc] 30 (0, 0)) ∧ Kept (fun k => k = w.heap.size + 1 + 1) w4 w7 := by
    rw [← hw7]
    exact ⟨set13 HE.out.2 rfl, kept_set13 _ _ _ _ _ _ _ _ _ _ _ _ _ _ _⟩
  obtain ⟨⟨s0, s1, s2, s3, s4, s5, s6, s7, s8, s9, s10, s11, s12⟩, -⟩ := blk13 E.1
  have BZ := HB.out.1.trans (((HE.out.1.mono (fun k _ e => .inl e)).trans (E.2.mono (fun k _ e => .inr e)) : Kept (fun k => k = w.heap.size ∨ k = w.heap.size + 1 + 1) w1 w7).below HB.out.1.size (fun k hk e => by omega))
  refine bodyPost_ret (v := .tuple #[.agg #[.int .i64 i0, .int .i64 2, .int .i64 i2, .int .i64 (wrap64 (i3 + 1)), .int .i64 (wordOf k v), .int .i64 i5, .int .i64 i6, .int .i64 i7, .int .i64 i8, .int .i64 i9, .int .i64 i10, .int .i64 i11, .slice bo bn bc], .bool true]) (by simp [results, Try.results18, go_sem, s0, s1, s2, s3, s4, s5, s6, s7, s8, s9, s10, s11, s12]) rfl ⟨rfl, BZ⟩

theorem rBegin15_f (w : World) (t : Th) (k v : Int) (bo : Option Addr) (bn bc : Nat) (k1 : 0 ≤ k) (k2 : k ≤ 255) (v1 : -2147483648 ≤ v) (v2 : v ≤ 2147483647) :
    Calls Try.prog 18 #[thV t (.slice bo bn bc), .agg #[.int .u8 k, .int .i32 v]] w fun e w' => e = .returned (.tuple #[thV (begT k v t) (.slice bo bn bc), .bool (decide (t.i1 = 0))]) ∧ Below w.heap.size w w' := by
  obtain ⟨i0, i1, i2, i3, i4, i5, i6, i7, i8, i9, i10, i11⟩ := t
  by_cases h1 : i1 = 0
  · by_cases h2 : i2 = 0
    · have := rBegin15_b w i0 i1 i2 i3 i4 i5 i6 i7 i8 i9 i10 i11 k v bo bn bc k1 k2 v1 v2 (by simp [h1]) (by simp [h2])
      simpa [thV, begT, h1, h2] using this
    · have := rBegin15_c w i0 i1 i2 i3 i4 i5 i6 i7 i8 i9 i10 i11 k v bo bn bc k1 k2 v1 v2 (by simp [h1]) (by simp [h2])
      simpa [thV, begT, h1, h2] using this
  · have := rBegin15_a w i0 i1 i2 i3 i4 i5 i6 i7 i8 i9 i10 i11 k v bo bn bc k1 k2 v1 v2 (by simp [h1])
    simpa [thV, begT, h1] using this

end Go.Proofs.Ytcellcjojfbajaa
