/- The reference of layer 17: load, by. -/
import Derived.Test.YthdhilmmcabnlaaThr3
import Derived.BigRegion
import Derived.Deep.CutRange
namespace Go.Proofs.Ythdhilmmcabnlaa
set_option linter.unusedSimpArgs false
set_option linter.unusedVariables false
open Go.RowKit
open Go.ChangeShapes Go.WideShapes Go.ChangeAt

set_option maxRecDepth 100000 in
set_option maxHeartbeats 1000000 in
theorem rBy17_any (w : World) (i0 i1 i2 i3 i4 i5 i6 i7 i8 i9 i10 i11 : Int) (bo : Option Addr) (bn bc : Nat) :
    Calls Try.prog 50 #[.agg #[.int .i64 i0, .int .i64 i1, .int .i64 i2, .int .i64 i3, .int .i64 i4, .int .i64 i5, .int .i64 i6, .int .i64 i7, .int .i64 i8, .int .i64 i9, .int .i64 i10, .int .i64 i11, .slice bo bn bc]] w fun e w' => e = .returned (.agg #[.int .i64 i0, .int .i64 41, .int .i64 i2, .int .i64 i3, .int .i64 i4, .int .i64 i5, .int .i64 i6, .int .i64 i6, .int .i64 i8, .int .i64 i9, .int .i64 i10, .int .i64 i11, .slice bo bn bc]) ∧ Below w.heap.size w w' := by
  go_enter Try.func50, Try.ntmps50
  go_wp2
  refine bodyPost_ret (v := .agg #[.int .i64 i0, .int .i64 41, .int .i64 i2, .int .i64 i3, .int .i64 i4, .int .i64 i5, .int .i64 i6, .int .i64 i6, .int .i64 i8, .int .i64 i9, .int .i64 i10, .int .i64 i11, .slice bo bn bc]) (by simp [results, Try.results50, go_sem]) rfl ⟨rfl, by go_grown⟩

set_option maxRecDepth 100000 in
set_option maxHeartbeats 4000000 in
theorem rLoad17_any (w : World) (v : Value) (q : Option Nat) (N st : Int) (xs : List Int) (i0 i1 i2 i3 i4 i5 i6 i7 i8 i9 i10 i11 : Int) (bo : Option Addr) (bn bc : Nat) (a y : Int) (h : RVal w v q N xs st) (hy : cellAt xs a = y) (s0 : 0 ≤ st) (s1 : st < 1000000) :
    Calls Try.prog 51 #[v, .agg #[.int .i64 i0, .int .i64 i1, .int .i64 i2, .int .i64 i3, .int .i64 i4, .int .i64 i5, .int .i64 i6, .int .i64 i7, .int .i64 i8, .int .i64 i9, .int .i64 i10, .int .i64 i11, .slice bo bn bc], .int .i64 a] w fun e w' => ∃ v', e = .returned (.tuple #[v', .agg #[.int .i64 i0, .int .i64 i1, .int .i64 i2, .int .i64 i3, .int .i64 i4, .int .i64 y, .int .i64 i6, .int .i64 i7, .int .i64 i8, .int .i64 i9, .int .i64 i10, .int .i64 i11, .slice bo bn bc]]) ∧ RVal w' v' q N xs (st + cntAt xs a) ∧ Below w.heap.size w w' := by
  have hqlt : ∀ k, q = some k → k < w.heap.size := fun k e => by subst e; exact h.lt
  obtain ⟨ao, cap, rfl, -, -⟩ := h.open
  have H := Lib.hid (And.intro h hqlt)
  have Hy := Lib.hid hy
  clear h hy hqlt
  go_enter Try.func51, Try.ntmps51
  go_wp2_with fail
  refine (rLoad_f (H.out.1.below (by go_grown)) a s0 (by omega)).mono ?_
  rintro e w1 ⟨v', rfl, h1, hb1⟩
  obtain ⟨ao', cap', rfl, -, -⟩ := h1.open
  rw [Hy.out]
  have z1 : w.heap.size + 1 + 1 + 1 < w1.heap.size := by have := hb1.size; simp at this; omega
  have z1a : w.heap.size + 1 < w1.heap.size := by omega
  have z1b : w.heap.size + 1 + 1 < w1.heap.size := by omega
  have BW : Below w.heap.size w w1 := Below.trans (by go_grown) (hb1.mono (by first | omega | (simp; omega) | (simp; done)))
  have B1 : w1.heap[w.heap.size + 1]? = some (.cells #[.int .i64 i0, .int .i64 i1, .int .i64 i2, .int .i64 i3, .int .i64 i4, .int .i64 i5, .int .i64 i6, .int .i64 i7, .int .i64 i8, .int .i64 i9, .int .i64 i10, .int .i64 i11, .slice bo bn bc] 39 (0, 0)) := (hb1.block (w.heap.size + 1) (by first | omega | (simp; omega) | (simp; done))).trans (alloc4_heap _ _ _ _ _).2.1
  have B2 : w1.heap[w.heap.size + 1 + 1]? = some (.cells #[.int .i64 0, .slice none 0 0, .int .i64 0] 33 (0, 0)) := (hb1.block (w.heap.size + 1 + 1) (by first | omega | (simp; omega) | (simp; done))).trans (alloc4_heap _ _ _ _ _).2.2.1
  have B3 : w1.heap[w.heap.size + 1 + 1 + 1]? = some (.cells #[.int .i64 0, .int .i64 0, .int .i64 0, .int .i64 0, .int .i64 0, .int .i64 0, .int .i64 0, .int .i64 0, .int .i64 0, .int .i64 0, .int .i64 0, .int .i64 0, .slice none 0 0] 39 (0, 0)) := (hb1.block (w.heap.size + 1 + 1 + 1) (by first | omega | (simp; omega) | (simp; done))).trans (alloc4_heap _ _ _ _ _).2.2.2
  obtain ⟨⟨a0, a1, a2, a3, a4, a5, a6, a7, a8, a9, a10, a11, a12⟩, -⟩ := blk13 B1
  have af0 := blkF B1 0; have af1 := blkF B1 1; have af2 := blkF B1 2; have af3 := blkF B1 3; have af4 := blkF B1 4; have af5 := blkF B1 5; have af6 := blkF B1 6; have af7 := blkF B1 7; have af8 := blkF B1 8; have af9 := blkF B1 9; have af10 := blkF B1 10; have af11 := blkF B1 11; have af12 := blkF B1 12
  obtain ⟨b0, b1, b2, bf0, bf1, bf2, -⟩ := blk3 B2
  obtain ⟨⟨c0, c1, c2, c3, c4, c5, c6, c7, c8, c9, c10, c11, c12⟩, -⟩ := blk13 B3
  have cf0 := blkF B3 0; have cf1 := blkF B3 1; have cf2 := blkF B3 2; have cf3 := blkF B3 3; have cf4 := blkF B3 4; have cf5 := blkF B3 5; have cf6 := blkF B3 6; have cf7 := blkF B3 7; have cf8 := blkF B3 8; have cf9 := blkF B3 9; have cf10 := blkF B3 10; have cf11 := blkF B3 11; have cf12 := blkF B3 12
  have HB := Lib.hid (And.intro B1 (And.intro B2 (And.intro B3 (And.intro BW h1))))
  clear B1 B2 B3 BW h1 hb1
  go_wp2
  generalize hn8 : w1.heap.size = n8
  generalize hW : World.alloc _ _ = W
  have A8 : W.heap[n8]? = some (.cells #[.int .i64 N, .slice ao' xs.length cap', .int .i64 (st + cntAt xs a)] 33 (0, 0)) := by rw [← hW, ← hn8]; exact alloc_at (by simp) _
  have KW : Kept (fun k => k = w.heap.size + 1) w1 W := by rw [← hW]; exact ((Kept.refl (fun k => k = w.heap.size + 1) w1).setCell (p := ⟨w.heap.size + 1, 5, none⟩) (fun _ => rfl) _).alloc _
  have A1 : W.heap[w.heap.size + 1]? = some (.cells #[.int .i64 i0, .int .i64 i1, .int .i64 i2, .int .i64 i3, .int .i64 i4, .int .i64 y, .int .i64 i6, .int .i64 i7, .int .i64 i8, .int .i64 i9, .int .i64 i10, .int .i64 i11, .slice bo bn bc] 39 (0, 0)) := by
    rw [← hW, Below.heap_alloc _ _ _ (by simp; omega), heap_setCell_self HB.out.1]; rfl
  have A2 := (KW.block (w.heap.size + 1 + 1) z1b (by omega)).trans HB.out.2.1
  have A3 := (KW.block (w.heap.size + 1 + 1 + 1) z1 (by omega)).trans HB.out.2.2.1
  have zz : w1.heap.size ≤ W.heap.size := KW.size
  have HW := Lib.hid (And.intro KW (And.intro A2 A3))
  clear hW hn8 a0 a1 a2 a3 a4 a5 a6 a7 a8 a9 a10 a11 a12 af0 af1 af2 af3 af4 af5 af6 af7 af8 af9 af10 af11 af12 b0 b1 b2 bf0 bf1 bf2 c0 c1 c2 c3 c4 c5 c6 c7 c8 c9 c10 c11 c12 cf0 cf1 cf2 cf3 cf4 cf5 cf6 cf7 cf8 cf9 cf10 cf11 cf12
  obtain ⟨d0, d1, d2, df0, df1, df2, -⟩ := blk3 A8
  obtain ⟨⟨a0, a1, a2, a3, a4, a5, a6, a7, a8, a9, a10, a11, a12⟩, -⟩ := blk13 A1
  obtain ⟨b0, b1, b2, bf0, bf1, bf2, -⟩ := blk3 A2
  obtain ⟨⟨c0, c1, c2, c3, c4, c5, c6, c7, c8, c9, c10, c11, c12⟩, -⟩ := blk13 A3
  have cf0 := blkF A3 0; have cf1 := blkF A3 1; have cf2 := blkF A3 2; have cf3 := blkF A3 3; have cf4 := blkF A3 4; have cf5 := blkF A3 5; have cf6 := blkF A3 6; have cf7 := blkF A3 7; have cf8 := blkF A3 8; have cf9 := blkF A3 9; have cf10 := blkF A3 10; have cf11 := blkF A3 11; have cf12 := blkF A3 12
  clear A8 A1 A2 A3 KW
  go_region
  all_goals
    go_wp2
    generalize hw5 : World.setCell _ _ _ = w5
    have D2 : W.heap[w.heap.size + 1 + 1]? = some (.cells #[.int .i64 0, .slice none 0 0, .int .i64 0] 33 (0, 0)) := HW.out.2.1
    have D3 : W.heap[w.heap.size + 1 + 1 + 1]? = some (.cells #[.int .i64 0, .int .i64 0, .int .i64 0, .int .i64 0, .int .i64 0, .int .i64 0, .int .i64 0, .int .i64 0, .int .i64 0, .int .i64 0, .int .i64 0, .int .i64 0, .slice none 0 0] 39 (0, 0)) := HW.out.2.2
    have ne : w.heap.size + 1 + 1 ≠ w.heap.size + 1 + 1 + 1 := by omega
    have E := by first | (with_reducible exact res2a D2 D3 ne _ hw5) | (with_reducible exact res2b D2 D3 ne _ hw5)
    obtain ⟨E2, E3, K5⟩ := E
    obtain ⟨r0, r1, r2, -⟩ := blk3 E2
    obtain ⟨⟨s0, s1, s2, s3, s4, s5, s6, s7, s8, s9, s10, s11, s12⟩, -⟩ := blk13 E3
    have K1 : Kept (fun k => w.heap.size ≤ k ∧ k < w.heap.size + 4) w1 w5 := (HW.out.1.mono (fun k _ e => by omega)).step (K5 : Kept _ W w5) (fun i _ e => by omega)
    refine bodyPost_ret (v := .tuple #[.agg #[.int .i64 N, .slice ao' xs.length cap', .int .i64 (st + cntAt xs a)], .agg #[.int .i64 i0, .int .i64 i1, .int .i64 i2, .int .i64 i3, .int .i64 i4, .int .i64 y, .int .i64 i6, .int .i64 i7, .int .i64 i8, .int .i64 i9, .int .i64 i10, .int .i64 i11, .slice bo bn bc]]) (by simp [results, Try.results51, go_sem, r0, r1, r2, s0, s1, s2, s3, s4, s5, s6, s7, s8, s9, s10, s11, s12]) rfl ⟨_, rfl, ?_, ?_⟩
    · have R5 := HB.out.2.2.2.2.kept K1 (fun k e => by have := H.out.2 k e; omega)
      first | exact R5 | exact R5.below (Below.refl _ _).drew
    · have W5 := HB.out.2.2.2.1.trans (K1.below (by have := HB.out.2.2.2.1.size; omega) (fun k hk e => by omega))
      first | exact W5 | exact W5.drew

end Go.Proofs.Ythdhilmmcabnlaa
