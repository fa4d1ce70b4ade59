/- The reference of layer 17: seek. -/
import Derived.Test.YthdhilmmcabnlaaRef17A
import Derived.Deep.RegionWith
import Derived.Deep.CutRange
namespace Go.Proofs.Ythdhilmmcabnlaa
set_option linter.unusedSimpArgs false
set_option linter.unusedVariables false
open Go.RowKit
open Go.ChangeShapes Go.WideShapes Go.ChangeAt

set_option maxRecDepth 100000 in
set_option maxHeartbeats 8000000 in
theorem rSeek17_40a (w : World) (v : Value) (q : Option Nat) (N st : Int) (xs : List Int) (i0 i2 i3 i4 i5 i6 i7 i8 i9 i10 i11 : Int) (bo : Option Addr) (bn bc : Nat) (age y a : Int) (h : RVal w v q N xs st) (ha : 1 = a) (hy : cellAt xs a = y) (s0 : 0 ≤ st) (s1 : st < 1000000) (h0 : (y == 0) = true) :
    Calls Try.prog 48 #[v, .int .i64 age, .agg #[.int .i64 i0, .int .i64 40, .int .i64 i2, .int .i64 i3, .int .i64 i4, .int .i64 i5, .int .i64 i6, .int .i64 i7, .int .i64 i8, .int .i64 i9, .int .i64 i10, .int .i64 i11, .slice bo bn bc]] w fun e w' => ∃ v', e = .returned (.tuple #[v', .agg #[.int .i64 i0, .int .i64 48, .int .i64 i2, .int .i64 i3, .int .i64 i4, .int .i64 y, .int .i64 i6, .int .i64 i7, .int .i64 i8, .int .i64 i9, .int .i64 i10, .int .i64 i11, .slice bo bn bc]]) ∧ RVal w' v' q N xs (st + cntAt xs a) ∧ Below w.heap.size w w' := by
  have hqlt : ∀ k, q = some k → k < w.heap.size := fun k e => by subst e; exact h.lt
  obtain ⟨ao, cap, rfl, -, -⟩ := h.open
  have H := Lib.hid (And.intro h hqlt)
  have Hy := Lib.hid (And.intro ha hy)
  clear h hy hqlt ha
  go_enter Try.func48, Try.ntmps48
  go_wp2_with fail
  first | rw [Hy.out.1] | skip
  refine (rLoad17_any _ _ q N st xs i0 40 i2 i3 i4 i5 i6 i7 i8 i9 i10 i11 bo bn bc a y (H.out.1.below (by go_grown)) Hy.out.2 s0 s1).mono ?_
  rintro e w1 ⟨v', rfl, h1, hb1⟩
  obtain ⟨ao', cap', rfl, -, -⟩ := h1.open
  have z1 : w.heap.size + 1 + 1 + 1 < w1.heap.size := by have := hb1.size; simp at this; omega
  have z1b : w.heap.size + 1 + 1 < w1.heap.size := by omega
  have BW : Below w.heap.size w w1 := Below.trans (by go_grown) (hb1.mono (by first | omega | (simp; omega) | (simp; done)))
  have B2 : w1.heap[w.heap.size + 1 + 1]? = some (.cells #[.int .i64 0, .slice none 0 0, .int .i64 0] 33 (0, 0)) := (hb1.block (w.heap.size + 1 + 1) (by first | omega | (simp; omega) | (simp; done))).trans (alloc4_heap _ _ _ _ _).2.2.1
  have B3 : w1.heap[w.heap.size + 1 + 1 + 1]? = some (.cells #[.int .i64 0, .int .i64 0, .int .i64 0, .int .i64 0, .int .i64 0, .int .i64 0, .int .i64 0, .int .i64 0, .int .i64 0, .int .i64 0, .int .i64 0, .int .i64 0, .slice none 0 0] 39 (0, 0)) := (hb1.block (w.heap.size + 1 + 1 + 1) (by first | omega | (simp; omega) | (simp; done))).trans (alloc4_heap _ _ _ _ _).2.2.2
  have HB := Lib.hid (And.intro B2 (And.intro B3 (And.intro BW h1)))
  clear B2 B3 BW h1 hb1
  go_wp2_with fail
  generalize hn8 : w1.heap.size = n8
  generalize hW : World.alloc _ _ = W
  have AA : W.heap[n8]? = some (.cells #[.int .i64 N, .slice ao' xs.length cap', .int .i64 (st + cntAt xs a)] 33 (0, 0)) ∧ W.heap[n8 + 1]? = some (.cells #[.int .i64 i0, .int .i64 48, .int .i64 i2, .int .i64 i3, .int .i64 i4, .int .i64 y, .int .i64 i6, .int .i64 i7, .int .i64 i8, .int .i64 i9, .int .i64 i10, .int .i64 i11, .slice bo bn bc] 39 (0, 0)) := by rw [← hW]; exact alloc2_at hn8 _ _
  have KW : Kept (fun _ => False) w1 W := by rw [← hW]; exact ((Kept.refl (fun _ => False) w1).alloc _).alloc _
  have A2 := (KW.block (w.heap.size + 1 + 1) z1b (fun h => h)).trans HB.out.1
  have A3 := (KW.block (w.heap.size + 1 + 1 + 1) z1 (fun h => h)).trans HB.out.2.1
  have zz : w1.heap.size ≤ W.heap.size := KW.size
  have z3 : w.heap.size + 1 + 1 + 1 < W.heap.size := by omega
  have z2 : w.heap.size + 1 + 1 < W.heap.size := by omega
  have z8 : n8 < W.heap.size := (Array.getElem?_eq_some_iff.1 AA.1).1
  have HW := Lib.hid (And.intro KW (And.intro A2 (And.intro A3 AA)))
  obtain ⟨AA8, AA9⟩ := AA
  clear hW
  obtain ⟨d0, d1, d2, df0, df1, df2, -⟩ := blk3 AA8
  obtain ⟨⟨a0, a1, a2, a3, a4, a5, a6, a7, a8, a9, a10, a11, a12⟩, -⟩ := blk13 AA9
  obtain ⟨b0, b1, b2, bf0, bf1, bf2, -⟩ := blk3 A2
  obtain ⟨⟨c0, c1, c2, c3, c4, c5, c6, c7, c8, c9, c10, c11, c12⟩, -⟩ := blk13 A3
  have cf0 := blkF A3 0; have cf1 := blkF A3 1; have cf2 := blkF A3 2; have cf3 := blkF A3 3; have cf4 := blkF A3 4; have cf5 := blkF A3 5; have cf6 := blkF A3 6; have cf7 := blkF A3 7; have cf8 := blkF A3 8; have cf9 := blkF A3 9; have cf10 := blkF A3 10; have cf11 := blkF A3 11; have cf12 := blkF A3 12
  clear AA8 AA9 A2 A3 KW
  go_region
  all_goals
    go_wp2
    generalize hw5 : World.setCell _ _ _ = w5
    have ne : w.heap.size + 1 + 1 ≠ w.heap.size + 1 + 1 + 1 := by omega
    have D2 := HW.out.2.1
    have D3 := HW.out.2.2.1
    have E := by first | (with_reducible exact res2a D2 D3 ne _ hw5) | (with_reducible exact res2b D2 D3 ne _ hw5)
    obtain ⟨E2, E3, K5⟩ := E
    obtain ⟨r0, r1, r2, -⟩ := blk3 E2
    obtain ⟨⟨s0, s1, s2, s3, s4, s5, s6, s7, s8, s9, s10, s11, s12⟩, -⟩ := blk13 E3
    have K1 : Kept (fun k => w.heap.size ≤ k ∧ k < w.heap.size + 4) w1 w5 := (HW.out.1.mono (fun k _ e => e.elim)).step (K5 : Kept _ W w5) (fun i _ e => by omega)
    refine bodyPost_ret (v := .tuple #[.agg #[.int .i64 N, .slice ao' xs.length cap', .int .i64 (st + cntAt xs a)], .agg #[.int .i64 i0, .int .i64 48, .int .i64 i2, .int .i64 i3, .int .i64 i4, .int .i64 y, .int .i64 i6, .int .i64 i7, .int .i64 i8, .int .i64 i9, .int .i64 i10, .int .i64 i11, .slice bo bn bc]]) (by simp [results, Try.results48, go_sem, r0, r1, r2, s0, s1, s2, s3, s4, s5, s6, s7, s8, s9, s10, s11, s12]) rfl ⟨_, rfl, ?_, ?_⟩
    · have R5 := HB.out.2.2.2.kept K1 (fun k e => by have := H.out.2 k e; omega)
      first | exact R5 | exact R5.below (Below.refl _ _).drew
    · have W5 := HB.out.2.2.1.trans (K1.below (by have := HB.out.2.2.1.size; omega) (fun k hk e => by omega))
      first | exact W5 | exact W5.drew

set_option maxRecDepth 100000 in
set_option maxHeartbeats 8000000 in
theorem rSeek17_40b (w : World) (v : Value) (q : Option Nat) (N st : Int) (xs : List Int) (i0 i2 i3 i4 i5 i6 i7 i8 i9 i10 i11 : Int) (bo : Option Addr) (bn bc : Nat) (age y a : Int) (h : RVal w v q N xs st) (ha : 1 = a) (hy : cellAt xs a = y) (s0 : 0 ≤ st) (s1 : st < 1000000) (h0 : (y == 0) = false) :
    Calls Try.prog 48 #[v, .int .i64 age, .agg #[.int .i64 i0, .int .i64 40, .int .i64 i2, .int .i64 i3, .int .i64 i4, .int .i64 i5, .int .i64 i6, .int .i64 i7, .int .i64 i8, .int .i64 i9, .int .i64 i10, .int .i64 i11, .slice bo bn bc]] w fun e w' => ∃ v', e = .returned (.tuple #[v', .agg #[.int .i64 i0, .int .i64 41, .int .i64 i2, .int .i64 i3, .int .i64 i4, .int .i64 y, .int .i64 i6, .int .i64 y, .int .i64 i8, .int .i64 i9, .int .i64 i10, .int .i64 i11, .slice bo bn bc]]) ∧ RVal w' v' q N xs (st + cntAt xs a) ∧ Below w.heap.size w w' := by
  have hqlt : ∀ k, q = some k → k < w.heap.size := fun k e => by subst e; exact h.lt
  obtain ⟨ao, cap, rfl, -, -⟩ := h.open
  have H := Lib.hid (And.intro h hqlt)
  have Hy := Lib.hid (And.intro ha hy)
  clear h hy hqlt ha
  go_enter Try.func48, Try.ntmps48
  go_wp2_with fail
  first | rw [Hy.out.1] | skip
  refine (rLoad17_any _ _ q N st xs i0 40 i2 i3 i4 i5 i6 i7 i8 i9 i10 i11 bo bn bc a y (H.out.1.below (by go_grown)) Hy.out.2 s0 s1).mono ?_
  rintro e w1 ⟨v', rfl, h1, hb1⟩
  obtain ⟨ao', cap', rfl, -, -⟩ := h1.open
  have z1 : w.heap.size + 1 + 1 + 1 < w1.heap.size := by have := hb1.size; simp at this; omega
  have z1b : w.heap.size + 1 + 1 < w1.heap.size := by omega
  have BW : Below w.heap.size w w1 := Below.trans (by go_grown) (hb1.mono (by first | omega | (simp; omega) | (simp; done)))
  have B2 : w1.heap[w.heap.size + 1 + 1]? = some (.cells #[.int .i64 0, .slice none 0 0, .int .i64 0] 33 (0, 0)) := (hb1.block (w.heap.size + 1 + 1) (by first | omega | (simp; omega) | (simp; done))).trans (alloc4_heap _ _ _ _ _).2.2.1
  have B3 : w1.heap[w.heap.size + 1 + 1 + 1]? = some (.cells #[.int .i64 0, .int .i64 0, .int .i64 0, .int .i64 0, .int .i64 0, .int .i64 0, .int .i64 0, .int .i64 0, .int .i64 0, .int .i64 0, .int .i64 0, .int .i64 0, .slice none 0 0] 39 (0, 0)) := (hb1.block (w.heap.size + 1 + 1 + 1) (by first | omega | (simp; omega) | (simp; done))).trans (alloc4_heap _ _ _ _ _).2.2.2
  have HB := Lib.hid (And.intro B2 (And.intro B3 (And.intro BW h1)))
  clear B2 B3 BW h1 hb1
  go_wp2_with fail
  generalize hn8 : w1.heap.size = n8
  generalize hW : World.alloc _ _ = W
  have AA : W.heap[n8]? = some (.cells #[.int .i64 N, .slice ao' xs.length cap', .int .i64 (st + cntAt xs a)] 33 (0, 0)) ∧ W.heap[n8 + 1]? = some (.cells #[.int .i64 i0, .int .i64 41, .int .i64 i2, .int .i64 i3, .int .i64 i4, .int .i64 y, .int .i64 i6, .int .i64 y, .int .i64 i8, .int .i64 i9, .int .i64 i10, .int .i64 i11, .slice bo bn bc] 39 (0, 0)) := by rw [← hW]; exact alloc2_at hn8 _ _
  have KW : Kept (fun _ => False) w1 W := by rw [← hW]; exact ((Kept.refl (fun _ => False) w1).alloc _).alloc _
  have A2 := (KW.block (w.heap.size + 1 + 1) z1b (fun h => h)).trans HB.out.1
  have A3 := (KW.block (w.heap.size + 1 + 1 + 1) z1 (fun h => h)).trans HB.out.2.1
  have zz : w1.heap.size ≤ W.heap.size := KW.size
  have z3 : w.heap.size + 1 + 1 + 1 < W.heap.size := by omega
  have z2 : w.heap.size + 1 + 1 < W.heap.size := by omega
  have z8 : n8 < W.heap.size := (Array.getElem?_eq_some_iff.1 AA.1).1
  have HW := Lib.hid (And.intro KW (And.intro A2 (And.intro A3 AA)))
  obtain ⟨AA8, AA9⟩ := AA
  clear hW
  obtain ⟨d0, d1, d2, df0, df1, df2, -⟩ := blk3 AA8
  obtain ⟨⟨a0, a1, a2, a3, a4, a5, a6, a7, a8, a9, a10, a11, a12⟩, -⟩ := blk13 AA9
  obtain ⟨b0, b1, b2, bf0, bf1, bf2, -⟩ := blk3 A2
  obtain ⟨⟨c0, c1, c2, c3, c4, c5, c6, c7, c8, c9, c10, c11, c12⟩, -⟩ := blk13 A3
  have cf0 := blkF A3 0; have cf1 := blkF A3 1; have cf2 := blkF A3 2; have cf3 := blkF A3 3; have cf4 := blkF A3 4; have cf5 := blkF A3 5; have cf6 := blkF A3 6; have cf7 := blkF A3 7; have cf8 := blkF A3 8; have cf9 := blkF A3 9; have cf10 := blkF A3 10; have cf11 := blkF A3 11; have cf12 := blkF A3 12
  clear AA8 AA9 A2 A3 KW
  go_region
  all_goals
    go_wp2
    generalize hw5 : World.setCell _ _ _ = w5
    have ne : w.heap.size + 1 + 1 ≠ w.heap.size + 1 + 1 + 1 := by omega
    have D2 := HW.out.2.1
    have D3 := HW.out.2.2.1
    have E := by first | (with_reducible exact res2a D2 D3 ne _ hw5) | (with_reducible exact res2b D2 D3 ne _ hw5)
    obtain ⟨E2, E3, K5⟩ := E
    obtain ⟨r0, r1, r2, -⟩ := blk3 E2
    obtain ⟨⟨s0, s1, s2, s3, s4, s5, s6, s7, s8, s9, s10, s11, s12⟩, -⟩ := blk13 E3
    have K1 : Kept (fun k => w.heap.size ≤ k ∧ k < w.heap.size + 4) w1 w5 := (HW.out.1.mono (fun k _ e => e.elim)).step (K5 : Kept _ W w5) (fun i _ e => by omega)
    refine bodyPost_ret (v := .tuple #[.agg #[.int .i64 N, .slice ao' xs.length cap', .int .i64 (st + cntAt xs a)], .agg #[.int .i64 i0, .int .i64 41, .int .i64 i2, .int .i64 i3, .int .i64 i4, .int .i64 y, .int .i64 i6, .int .i64 y, .int .i64 i8, .int .i64 i9, .int .i64 i10, .int .i64 i11, .slice bo bn bc]]) (by simp [results, Try.results48, go_sem, r0, r1, r2, s0, s1, s2, s3, s4, s5, s6, s7, s8, s9, s10, s11, s12]) rfl ⟨_, rfl, ?_, ?_⟩
    · have R5 := HB.out.2.2.2.kept K1 (fun k e => by have := H.out.2 k e; omega)
      first | exact R5 | exact R5.below (Below.refl _ _).drew
    · have W5 := HB.out.2.2.1.trans (K1.below (by have := HB.out.2.2.1.size; omega) (fun k hk e => by omega))
      first | exact W5 | exact W5.drew

set_option maxRecDepth 100000 in
set_option maxHeartbeats 8000000 in
theorem rSeek17_41a (w : World) (v : Value) (q : Option Nat) (N st : Int) (xs : List Int) (i0 i2 i3 i4 i5 i6 i7 i8 i9 i10 i11 : Int) (bo : Option Addr) (bn bc : Nat) (age y a : Int) (h : RVal w v q N xs st) (ha : wrap64 (i7 + 3) = a) (hy : cellAt xs a = y) (s0 : 0 ≤ st) (s1 : st < 1000000) (h0 : (y == 0) = true) :
    Calls Try.prog 48 #[v, .int .i64 age, .agg #[.int .i64 i0, .int .i64 41, .int .i64 i2, .int .i64 i3, .int .i64 i4, .int .i64 i5, .int .i64 i6, .int .i64 i7, .int .i64 i8, .int .i64 i9, .int .i64 i10, .int .i64 i11, .slice bo bn bc]] w fun e w' => ∃ v', e = .returned (.tuple #[v', .agg #[.int .i64 i0, .int .i64 48, .int .i64 i2, .int .i64 i3, .int .i64 i4, .int .i64 y, .int .i64 i6, .int .i64 i7, .int .i64 i8, .int .i64 i9, .int .i64 i10, .int .i64 i11, .slice bo bn bc]]) ∧ RVal w' v' q N xs (st + cntAt xs a) ∧ Below w.heap.size w w' := by
  have hqlt : ∀ k, q = some k → k < w.heap.size := fun k e => by subst e; exact h.lt
  obtain ⟨ao, cap, rfl, -, -⟩ := h.open
  have H := Lib.hid (And.intro h hqlt)
  have Hy := Lib.hid (And.intro ha hy)
  clear h hy hqlt ha
  go_enter Try.func48, Try.ntmps48
  go_wp2_with fail
  first | rw [Hy.out.1] | skip
  refine (rLoad17_any _ _ q N st xs i0 41 i2 i3 i4 i5 i6 i7 i8 i9 i10 i11 bo bn bc a y (H.out.1.below (by go_grown)) Hy.out.2 s0 s1).mono ?_
  rintro e w1 ⟨v', rfl, h1, hb1⟩
  obtain ⟨ao', cap', rfl, -, -⟩ := h1.open
  have z1 : w.heap.size + 1 + 1 + 1 < w1.heap.size := by have := hb1.size; simp at this; omega
  have z1b : w.heap.size + 1 + 1 < w1.heap.size := by omega
  have BW : Below w.heap.size w w1 := Below.trans (by go_grown) (hb1.mono (by first | omega | (simp; omega) | (simp; done)))
  have B2 : w1.heap[w.heap.size + 1 + 1]? = some (.cells #[.int .i64 0, .slice none 0 0, .int .i64 0] 33 (0, 0)) := (hb1.block (w.heap.size + 1 + 1) (by first | omega | (simp; omega) | (simp; done))).trans (alloc4_heap _ _ _ _ _).2.2.1
  have B3 : w1.heap[w.heap.size + 1 + 1 + 1]? = some (.cells #[.int .i64 0, .int .i64 0, .int .i64 0, .int .i64 0, .int .i64 0, .int .i64 0, .int .i64 0, .int .i64 0, .int .i64 0, .int .i64 0, .int .i64 0, .int .i64 0, .slice none 0 0] 39 (0, 0)) := (hb1.block (w.heap.size + 1 + 1 + 1) (by first | omega | (simp; omega) | (simp; done))).trans (alloc4_heap _ _ _ _ _).2.2.2
  have HB := Lib.hid (And.intro B2 (And.intro B3 (And.intro BW h1)))
  clear B2 B3 BW h1 hb1
  go_wp2_with fail
  generalize hn8 : w1.heap.size = n8
  generalize hW : World.alloc _ _ = W
  have AA : W.heap[n8]? = some (.cells #[.int .i64 N, .slice ao' xs.length cap', .int .i64 (st + cntAt xs a)] 33 (0, 0)) ∧ W.heap[n8 + 1]? = some (.cells #[.int .i64 i0, .int .i64 48, .int .i64 i2, .int .i64 i3, .int .i64 i4, .int .i64 y, .int .i64 i6, .int .i64 i7, .int .i64 i8, .int .i64 i9, .int .i64 i10, .int .i64 i11, .slice bo bn bc] 39 (0, 0)) := by rw [← hW]; exact alloc2_at hn8 _ _
  have KW : Kept (fun _ => False) w1 W := by rw [← hW]; exact ((Kept.refl (fun _ => False) w1).alloc _).alloc _
  have A2 := (KW.block (w.heap.size + 1 + 1) z1b (fun h => h)).trans HB.out.1
  have A3 := (KW.block (w.heap.size + 1 + 1 + 1) z1 (fun h => h)).trans HB.out.2.1
  have zz : w1.heap.size ≤ W.heap.size := KW.size
  have z3 : w.heap.size + 1 + 1 + 1 < W.heap.size := by omega
  have z2 : w.heap.size + 1 + 1 < W.heap.size := by omega
  have z8 : n8 < W.heap.size := (Array.getElem?_eq_some_iff.1 AA.1).1
  have HW := Lib.hid (And.intro KW (And.intro A2 (And.intro A3 AA)))
  obtain ⟨AA8, AA9⟩ := AA
  clear hW
  obtain ⟨d0, d1, d2, df0, df1, df2, -⟩ := blk3 AA8
  obtain ⟨⟨a0, a1, a2, a3, a4, a5, a6, a7, a8, a9, a10, a11, a12⟩, -⟩ := blk13 AA9
  obtain ⟨b0, b1, b2, bf0, bf1, bf2, -⟩ := blk3 A2
  obtain ⟨⟨c0, c1, c2, c3, c4, c5, c6, c7, c8, c9, c10, c11, c12⟩, -⟩ := blk13 A3
  have cf0 := blkF A3 0; have cf1 := blkF A3 1; have cf2 := blkF A3 2; have cf3 := blkF A3 3; have cf4 := blkF A3 4; have cf5 := blkF A3 5; have cf6 := blkF A3 6; have cf7 := blkF A3 7; have cf8 := blkF A3 8; have cf9 := blkF A3 9; have cf10 := blkF A3 10; have cf11 := blkF A3 11; have cf12 := blkF A3 12
  clear AA8 AA9 A2 A3 KW
  go_region
  all_goals
    go_wp2
    generalize hw5 : World.setCell _ _ _ = w5
    have ne : w.heap.size + 1 + 1 ≠ w.heap.size + 1 + 1 + 1 := by omega
    have D2 := HW.out.2.1
    have D3 := HW.out.2.2.1
    have E := by first | (with_reducible exact res2a D2 D3 ne _ hw5) | (with_reducible exact res2b D2 D3 ne _ hw5)
    obtain ⟨E2, E3, K5⟩ := E
    obtain ⟨r0, r1, r2, -⟩ := blk3 E2
    obtain ⟨⟨s0, s1, s2, s3, s4, s5, s6, s7, s8, s9, s10, s11, s12⟩, -⟩ := blk13 E3
    have K1 : Kept (fun k => w.heap.size ≤ k ∧ k < w.heap.size + 4) w1 w5 := (HW.out.1.mono (fun k _ e => e.elim)).step (K5 : Kept _ W w5) (fun i _ e => by omega)
    refine bodyPost_ret (v := .tuple #[.agg #[.int .i64 N, .slice ao' xs.length cap', .int .i64 (st + cntAt xs a)], .agg #[.int .i64 i0, .int .i64 48, .int .i64 i2, .int .i64 i3, .int .i64 i4, .int .i64 y, .int .i64 i6, .int .i64 i7, .int .i64 i8, .int .i64 i9, .int .i64 i10, .int .i64 i11, .slice bo bn bc]]) (by simp [results, Try.results48, go_sem, r0, r1, r2, s0, s1, s2, s3, s4, s5, s6, s7, s8, s9, s10, s11, s12]) rfl ⟨_, rfl, ?_, ?_⟩
    · have R5 := HB.out.2.2.2.kept K1 (fun k e => by have := H.out.2 k e; omega)
      first | exact R5 | exact R5.below (Below.refl _ _).drew
    · have W5 := HB.out.2.2.1.trans (K1.below (by have := HB.out.2.2.1.size; omega) (fun k hk e => by omega))
      first | exact W5 | exact W5.drew

set_option maxRecDepth 100000 in
set_option maxHeartbeats 8000000 in
theorem rSeek17_41b (w : World) (v : Value) (q : Option Nat) (N st : Int) (xs : List Int) (i0 i2 i3 i4 i5 i6 i7 i8 i9 i10 i11 : Int) (bo : Option Addr) (bn bc : Nat) (age y a : Int) (h : RVal w v q N xs st) (ha : wrap64 (i7 + 3) = a) (hy : cellAt xs a = y) (s0 : 0 ≤ st) (s1 : st < 1000000) (h0 : (y == 0) = false) :
    Calls Try.prog 48 #[v, .int .i64 age, .agg #[.int .i64 i0, .int .i64 41, .int .i64 i2, .int .i64 i3, .int .i64 i4, .int .i64 i5, .int .i64 i6, .int .i64 i7, .int .i64 i8, .int .i64 i9, .int .i64 i10, .int .i64 i11, .slice bo bn bc]] w fun e w' => ∃ v', e = .returned (.tuple #[v', .agg #[.int .i64 i0, .int .i64 42, .int .i64 i2, .int .i64 i3, .int .i64 i4, .int .i64 y, .int .i64 y, .int .i64 i7, .int .i64 i8, .int .i64 i9, .int .i64 i10, .int .i64 i11, .slice bo bn bc]]) ∧ RVal w' v' q N xs (st + cntAt xs a) ∧ Below w.heap.size w w' := by
  have hqlt : ∀ k, q = some k → k < w.heap.size := fun k e => by subst e; exact h.lt
  obtain ⟨ao, cap, rfl, -, -⟩ := h.open
  have H := Lib.hid (And.intro h hqlt)
  have Hy := Lib.hid (And.intro ha hy)
  clear h hy hqlt ha
  go_enter Try.func48, Try.ntmps48
  go_wp2_with fail
  first | rw [Hy.out.1] | skip
  refine (rLoad17_any _ _ q N st xs i0 41 i2 i3 i4 i5 i6 i7 i8 i9 i10 i11 bo bn bc a y (H.out.1.below (by go_grown)) Hy.out.2 s0 s1).mono ?_
  rintro e w1 ⟨v', rfl, h1, hb1⟩
  obtain ⟨ao', cap', rfl, -, -⟩ := h1.open
  have z1 : w.heap.size + 1 + 1 + 1 < w1.heap.size := by have := hb1.size; simp at this; omega
  have z1b : w.heap.size + 1 + 1 < w1.heap.size := by omega
  have BW : Below w.heap.size w w1 := Below.trans (by go_grown) (hb1.mono (by first | omega | (simp; omega) | (simp; done)))
  have B2 : w1.heap[w.heap.size + 1 + 1]? = some (.cells #[.int .i64 0, .slice none 0 0, .int .i64 0] 33 (0, 0)) := (hb1.block (w.heap.size + 1 + 1) (by first | omega | (simp; omega) | (simp; done))).trans (alloc4_heap _ _ _ _ _).2.2.1
  have B3 : w1.heap[w.heap.size + 1 + 1 + 1]? = some (.cells #[.int .i64 0, .int .i64 0, .int .i64 0, .int .i64 0, .int .i64 0, .int .i64 0, .int .i64 0, .int .i64 0, .int .i64 0, .int .i64 0, .int .i64 0, .int .i64 0, .slice none 0 0] 39 (0, 0)) := (hb1.block (w.heap.size + 1 + 1 + 1) (by first | omega | (simp; omega) | (simp; done))).trans (alloc4_heap _ _ _ _ _).2.2.2
  have HB := Lib.hid (And.intro B2 (And.intro B3 (And.intro BW h1)))
  clear B2 B3 BW h1 hb1
  go_wp2_with fail
  generalize hn8 : w1.heap.size = n8
  generalize hW : World.alloc _ _ = W
  have AA : W.heap[n8]? = some (.cells #[.int .i64 N, .slice ao' xs.length cap', .int .i64 (st + cntAt xs a)] 33 (0, 0)) ∧ W.heap[n8 + 1]? = some (.cells #[.int .i64 i0, .int .i64 42, .int .i64 i2, .int .i64 i3, .int .i64 i4, .int .i64 y, .int .i64 y, .int .i64 i7, .int .i64 i8, .int .i64 i9, .int .i64 i10, .int .i64 i11, .slice bo bn bc] 39 (0, 0)) := by rw [← hW]; exact alloc2_at hn8 _ _
  have KW : Kept (fun _ => False) w1 W := by rw [← hW]; exact ((Kept.refl (fun _ => False) w1).alloc _).alloc _
  have A2 := (KW.block (w.heap.size + 1 + 1) z1b (fun h => h)).trans HB.out.1
  have A3 := (KW.block (w.heap.size + 1 + 1 + 1) z1 (fun h => h)).trans HB.out.2.1
  have zz : w1.heap.size ≤ W.heap.size := KW.size
  have z3 : w.heap.size + 1 + 1 + 1 < W.heap.size := by omega
  have z2 : w.heap.size + 1 + 1 < W.heap.size := by omega
  have z8 : n8 < W.heap.size := (Array.getElem?_eq_some_iff.1 AA.1).1
  have HW := Lib.hid (And.intro KW (And.intro A2 (And.intro A3 AA)))
  obtain ⟨AA8, AA9⟩ := AA
  clear hW
  obtain ⟨d0, d1, d2, df0, df1, df2, -⟩ := blk3 AA8
  obtain ⟨⟨a0, a1, a2, a3, a4, a5, a6, a7, a8, a9, a10, a11, a12⟩, -⟩ := blk13 AA9
  obtain ⟨b0, b1, b2, bf0, bf1, bf2, -⟩ := blk3 A2
  obtain ⟨⟨c0, c1, c2, c3, c4, c5, c6, c7, c8, c9, c10, c11, c12⟩, -⟩ := blk13 A3
  have cf0 := blkF A3 0; have cf1 := blkF A3 1; have cf2 := blkF A3 2; have cf3 := blkF A3 3; have cf4 := blkF A3 4; have cf5 := blkF A3 5; have cf6 := blkF A3 6; have cf7 := blkF A3 7; have cf8 := blkF A3 8; have cf9 := blkF A3 9; have cf10 := blkF A3 10; have cf11 := blkF A3 11; have cf12 := blkF A3 12
  clear AA8 AA9 A2 A3 KW
  go_region
  all_goals
    go_wp2
    generalize hw5 : World.setCell _ _ _ = w5
    have ne : w.heap.size + 1 + 1 ≠ w.heap.size + 1 + 1 + 1 := by omega
    have D2 := HW.out.2.1
    have D3 := HW.out.2.2.1
    have E := by first | (with_reducible exact res2a D2 D3 ne _ hw5) | (with_reducible exact res2b D2 D3 ne _ hw5)
    obtain ⟨E2, E3, K5⟩ := E
    obtain ⟨r0, r1, r2, -⟩ := blk3 E2
    obtain ⟨⟨s0, s1, s2, s3, s4, s5, s6, s7, s8, s9, s10, s11, s12⟩, -⟩ := blk13 E3
    have K1 : Kept (fun k => w.heap.size ≤ k ∧ k < w.heap.size + 4) w1 w5 := (HW.out.1.mono (fun k _ e => e.elim)).step (K5 : Kept _ W w5) (fun i _ e => by omega)
    refine bodyPost_ret (v := .tuple #[.agg #[.int .i64 N, .slice ao' xs.length cap', .int .i64 (st + cntAt xs a)], .agg #[.int .i64 i0, .int .i64 42, .int .i64 i2, .int .i64 i3, .int .i64 i4, .int .i64 y, .int .i64 y, .int .i64 i7, .int .i64 i8, .int .i64 i9, .int .i64 i10, .int .i64 i11, .slice bo bn bc]]) (by simp [results, Try.results48, go_sem, r0, r1, r2, s0, s1, s2, s3, s4, s5, s6, s7, s8, s9, s10, s11, s12]) rfl ⟨_, rfl, ?_, ?_⟩
    · have R5 := HB.out.2.2.2.kept K1 (fun k e => by have := H.out.2 k e; omega)
      first | exact R5 | exact R5.below (Below.refl _ _).drew
    · have W5 := HB.out.2.2.1.trans (K1.below (by have := HB.out.2.2.1.size; omega) (fun k hk e => by omega))
      first | exact W5 | exact W5.drew

end Go.Proofs.Ythdhilmmcabnlaa
