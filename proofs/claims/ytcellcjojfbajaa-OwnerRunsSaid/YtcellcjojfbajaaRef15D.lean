/- The reference of layer 15, place by place. -/
import Derived.Test.YtcellcjojfbajaaRef15A
import Derived.Test.YtcellcjojfbajaaWord
import Derived.Deep.RegionWith
import Derived.Deep.CutRange
import Derived.Deep.Cut
import Derived.BigRegion
namespace Go.Proofs.Ytcellcjojfbajaa
set_option linter.unusedSimpArgs false
set_option linter.unusedVariables false
open Go.RowKit
open Go.ChangeShapes Go.WideShapes Go.ChangeAt

set_option maxRecDepth 100000 in
set_option maxHeartbeats 8000000 in
theorem rStep15 (w : World) (v : Value) (q : Option Nat) (N st : Int) (xs : List Int) (i0 i2 i3 i4 i5 i6 i7 i8 i9 i10 i11 : Int) (bo : Option Addr) (bn bc : Nat) (h : RVal w v q N xs st) (hn : xs.length ≤ 1000000) (s0 : 0 ≤ st) (s1 : st < 1000000) (r1 : -9223372036854775808 ≤ i2) (r2 : i2 ≤ 9223372036854775807) (y : Int) (hy : cellAt xs (i2) = y) (p : Int) (hp : (if y = i4 then (7 : Int) else 16) = p) :
    Calls Try.prog 21 #[v, .agg #[.int .i64 i0, .int .i64 15, .int .i64 i2, .int .i64 i3, .int .i64 i4, .int .i64 i5, .int .i64 i6, .int .i64 i7, .int .i64 i8, .int .i64 i9, .int .i64 i10, .int .i64 i11, .slice bo bn bc]] w fun e w' => ∃ v' q', e = .returned (.tuple #[v', .agg #[.int .i64 i0, .int .i64 p, .int .i64 i2, .int .i64 i3, .int .i64 i4, .int .i64 y, .int .i64 i6, .int .i64 i7, .int .i64 i8, .int .i64 i9, .int .i64 i10, .int .i64 i11, .slice bo bn bc], .agg #[.int .u8 0, .int .i32 0], .bool false]) ∧ RVal w' v' q' N (xs) (st + cntAt xs (i2)) ∧ (q' = q ∨ ∀ k, q' = some k → w.heap.size ≤ k) ∧ Below w.heap.size w w' := by
  have hqlt : ∀ k, q = some k → k < w.heap.size := fun k e => by subst e; exact h.lt
  obtain ⟨ao, cap, rfl, -, -⟩ := h.open
  have H := Lib.hid (And.intro h hqlt)
  have HY := Lib.hid (And.intro hy hp)
  clear h hqlt hy hp
  go_enter Try.func21, Try.ntmps21
  go_wp2_with fail
  refine (rLoad_f (H.out.1.below (by go_grown)) (i2) s0 (by omega)).mono ?_
  rintro e w1 ⟨v', rfl, h1, hb1⟩
  obtain ⟨q1, hq⟩ : ∃ q1, q1 = q := ⟨q, rfl⟩
  rw [← hq] at h1
  have hq1 : q1 = q ∨ ∀ k, q1 = some k → w.heap.size + 5 ≤ k := .inl hq
  clear hq
  rw [HY.out.1]
  have HQ := Lib.hid (show (q1 = q ∨ ∀ k, q1 = some k → w.heap.size ≤ k) ∧ (∀ k, q1 = some k → ¬ (w.heap.size ≤ k ∧ k < w.heap.size + 5)) from by
    have hz := H.out.2
    have hq2 : q1 = q ∨ ∀ k, q1 = some k → w.heap.size + 5 ≤ k := by
      rcases hq1 with rfl | hq
      · exact .inl rfl
      · exact .inr (fun k e => by have := hq k e; (try simp at this); omega)
    refine ⟨?_, fun k e => ?_⟩
    · rcases hq2 with rfl | hq
      · exact .inl rfl
      · exact .inr (fun k e => by have := hq k e; omega)
    · rcases hq2 with rfl | hq
      · have := hz k e; omega
      · have := hq k e; omega)
  clear hq1
  obtain ⟨ao', cap', rfl, -, -⟩ := h1.open
  have z1 : w.heap.size + 1 + 1 + 1 + 1 < w1.heap.size := by have := hb1.size; simp at this; omega
  have z11 : w.heap.size + 1 < w1.heap.size := by omega
  have z12 : w.heap.size + 1 + 1 < w1.heap.size := by omega
  have z13 : w.heap.size + 1 + 1 + 1 < w1.heap.size := by omega
  have BW : Below w.heap.size w w1 := Below.trans (by go_grown) (hb1.mono (by first | omega | (simp; omega) | (simp; done)))
  have B1 : w1.heap[w.heap.size + 1]? = some (.cells #[.int .i64 i0, .int .i64 15, .int .i64 i2, .int .i64 i3, .int .i64 i4, .int .i64 i5, .int .i64 i6, .int .i64 i7, .int .i64 i8, .int .i64 i9, .int .i64 i10, .int .i64 i11, .slice bo bn bc] 30 (0, 0)) := (hb1.block (w.heap.size + 1) (by first | omega | (simp; omega) | (simp; done))).trans (alloc5_heap _ _ _ _ _ _).1
  have B2 : w1.heap[w.heap.size + 1 + 1]? = some (.cells #[.int .i64 0, .slice none 0 0, .int .i64 0] 47 (0, 0)) := (hb1.block (w.heap.size + 1 + 1) (by first | omega | (simp; omega) | (simp; done))).trans (alloc5_heap _ _ _ _ _ _).2.1
  have B3 : w1.heap[w.heap.size + 1 + 1 + 1]? = some (.cells #[.int .i64 0, .int .i64 0, .int .i64 0, .int .i64 0, .int .i64 0, .int .i64 0, .int .i64 0, .int .i64 0, .int .i64 0, .int .i64 0, .int .i64 0, .int .i64 0, .slice none 0 0] 30 (0, 0)) := (hb1.block (w.heap.size + 1 + 1 + 1) (by first | omega | (simp; omega) | (simp; done))).trans (alloc5_heap _ _ _ _ _ _).2.2.1
  have B4 : w1.heap[w.heap.size + 1 + 1 + 1 + 1]? = some (.cells #[.int .u8 0, .int .i32 0] 25 (0, 0)) := (hb1.block (w.heap.size + 1 + 1 + 1 + 1) (by first | omega | (simp; omega) | (simp; done))).trans (alloc5_heap _ _ _ _ _ _).2.2.2
  obtain ⟨⟨a0, a1, a2, a3, a4, a5, a6, a7, a8, a9, a10, a11, a12⟩, -⟩ := blk13 B1
  have af0 := blkF B1 0; have af1 := blkF B1 1; have af2 := blkF B1 2; have af3 := blkF B1 3; have af4 := blkF B1 4; have af5 := blkF B1 5; have af6 := blkF B1 6; have af7 := blkF B1 7; have af8 := blkF B1 8; have af9 := blkF B1 9; have af10 := blkF B1 10; have af11 := blkF B1 11; have af12 := blkF B1 12
  have HB := Lib.hid (And.intro B2 (And.intro B3 (And.intro BW (And.intro h1 (And.intro B1 B4)))))
  clear B1 B2 B3 B4 BW h1 hb1
  go_wp2_with fail
  refine (rFirst_p _ 7 16 p _ (by have := HY.out.2; simpa using this)).mono ?_
  rintro e w' ⟨rfl, rfl⟩
  go_wp2_with fail
  generalize hn8 : w1.heap.size = n8
  generalize hW : World.alloc _ _ = W
  have A8 : W.heap[n8]? = some (.cells #[.int .i64 N, .slice ao' (xs).length cap', .int .i64 (st + cntAt xs (i2))] 47 (0, 0)) := by rw [← hW, ← hn8]; exact alloc_at (by simp) _
  have KW : Kept (fun k => k = w.heap.size + 1) w1 W := by rw [← hW]; exact (((Kept.refl (fun k => k = w.heap.size + 1) w1).setCell (p := ⟨w.heap.size + 1, 5, none⟩) (fun _ => rfl) _).setCell (p := ⟨w.heap.size + 1, 1, none⟩) (fun _ => rfl) _).alloc _
  have A1 : W.heap[w.heap.size + 1]? = some (.cells #[.int .i64 i0, .int .i64 p, .int .i64 i2, .int .i64 i3, .int .i64 i4, .int .i64 y, .int .i64 i6, .int .i64 i7, .int .i64 i8, .int .i64 i9, .int .i64 i10, .int .i64 i11, .slice bo bn bc] 30 (0, 0)) := by
    rw [← hW, Below.heap_alloc _ _ _ (by first | omega | (simp; omega))]
    have a_0 := HB.out.2.2.2.2.1
    have a_1 : (w1.setCell ⟨w.heap.size + 1, 5, none⟩ (.int .i64 y)).heap[w.heap.size + 1]? = some (.cells #[.int .i64 i0, .int .i64 15, .int .i64 i2, .int .i64 i3, .int .i64 i4, .int .i64 y, .int .i64 i6, .int .i64 i7, .int .i64 i8, .int .i64 i9, .int .i64 i10, .int .i64 i11, .slice bo bn bc] 30 (0, 0)) := by rw [heap_setCell_self a_0]; rfl
    have a_2 : ((w1.setCell ⟨w.heap.size + 1, 5, none⟩ (.int .i64 y)).setCell ⟨w.heap.size + 1, 1, none⟩ (.int .i64 p)).heap[w.heap.size + 1]? = some (.cells #[.int .i64 i0, .int .i64 p, .int .i64 i2, .int .i64 i3, .int .i64 i4, .int .i64 y, .int .i64 i6, .int .i64 i7, .int .i64 i8, .int .i64 i9, .int .i64 i10, .int .i64 i11, .slice bo bn bc] 30 (0, 0)) := by rw [heap_setCell_self a_1]; rfl
    exact a_2
  have A2 := (KW.block (w.heap.size + 1 + 1) (by omega) (by omega)).trans HB.out.1
  have A3 := (KW.block (w.heap.size + 1 + 1 + 1) (by omega) (by omega)).trans HB.out.2.1
  have A4 := (KW.block (w.heap.size + 1 + 1 + 1 + 1) (by omega) (by omega)).trans HB.out.2.2.2.2.2
  have zz : w1.heap.size ≤ W.heap.size := KW.size
  have zn : n8 < W.heap.size := (Array.getElem?_eq_some_iff.1 A8).1
  have zw1 : w.heap.size + 1 < W.heap.size := by omega
  have zw2 : w.heap.size + 1 + 1 < W.heap.size := by omega
  have zw3 : w.heap.size + 1 + 1 + 1 < W.heap.size := by omega
  have zw4 : w.heap.size + 1 + 1 + 1 + 1 < W.heap.size := by omega
  have HW := Lib.hid (And.intro KW (And.intro A2 (And.intro A3 A4)))
  clear hW hn8 a0 a1 a2 a3 a4 a5 a6 a7 a8 a9 a10 a11 a12 af0 af1 af2 af3 af4 af5 af6 af7 af8 af9 af10 af11 af12
  obtain ⟨d0, d1, d2, df0, df1, df2, -⟩ := blk3 A8
  obtain ⟨⟨a0, a1, a2, a3, a4, a5, a6, a7, a8, a9, a10, a11, a12⟩, -⟩ := blk13 A1
  obtain ⟨b0, b1, b2, bf0, bf1, bf2, -⟩ := blk3 A2
  obtain ⟨⟨c0, c1, c2, c3, c4, c5, c6, c7, c8, c9, c10, c11, c12⟩, -⟩ := blk13 A3
  have cf0 := blkF A3 0; have cf1 := blkF A3 1; have cf2 := blkF A3 2; have cf3 := blkF A3 3; have cf4 := blkF A3 4; have cf5 := blkF A3 5; have cf6 := blkF A3 6; have cf7 := blkF A3 7; have cf8 := blkF A3 8; have cf9 := blkF A3 9; have cf10 := blkF A3 10; have cf11 := blkF A3 11; have cf12 := blkF A3 12
  obtain ⟨⟨g0, g1⟩, -⟩ := blk2c A4
  have gf0 := blkF A4 0
  have gf1 := blkF A4 1
  clear A8 A1 A2 A3 A4 KW
  go_region
  all_goals
    go_wp2
    generalize hw5 : World.setCell _ _ _ = w5
    have n1 : w.heap.size + 1 + 1 ≠ w.heap.size + 1 + 1 + 1 := by omega
    have n2 : w.heap.size + 1 + 1 ≠ w.heap.size + 1 + 1 + 1 + 1 := by omega
    have n3 : w.heap.size + 1 + 1 + 1 ≠ w.heap.size + 1 + 1 + 1 + 1 := by omega
    have D2 := HW.out.2.1
    have D3 := HW.out.2.2.1
    have D4 := HW.out.2.2.2
    have E := by first | (with_reducible exact res3_xyz D2 D3 D4 n1 n2 n3 _ hw5) | (with_reducible exact res3_xzy D2 D3 D4 n1 n2 n3 _ hw5) | (with_reducible exact res3_yxz D2 D3 D4 n1 n2 n3 _ hw5) | (with_reducible exact res3_yzx D2 D3 D4 n1 n2 n3 _ hw5) | (with_reducible exact res3_zxy D2 D3 D4 n1 n2 n3 _ hw5) | (with_reducible exact res3_zyx D2 D3 D4 n1 n2 n3 _ hw5)
    obtain ⟨E2, E3, E4, K5⟩ := E
    obtain ⟨⟨u0, u1⟩, -⟩ := blk2c E4
    obtain ⟨r0, r1', r2', -⟩ := blk3 E2
    obtain ⟨⟨s0, s1, s2, s3, s4, s5, s6, s7, s8, s9, s10, s11, s12⟩, -⟩ := blk13 E3
    have K1 : Kept (fun k => w.heap.size ≤ k ∧ k < w.heap.size + 5) w1 w5 := (HW.out.1.mono (fun k _ e => by omega)).step (K5 : Kept _ W w5) (fun i _ e => by omega)
    refine bodyPost_ret (v := .tuple #[.agg #[.int .i64 N, .slice ao' (xs).length cap', .int .i64 (st + cntAt xs (i2))], .agg #[.int .i64 i0, .int .i64 p, .int .i64 i2, .int .i64 i3, .int .i64 i4, .int .i64 y, .int .i64 i6, .int .i64 i7, .int .i64 i8, .int .i64 i9, .int .i64 i10, .int .i64 i11, .slice bo bn bc], .agg #[.int .u8 0, .int .i32 0], .bool false]) (by simp [results, Try.results21, go_sem, r0, r1', r2', s0, s1, s2, s3, s4, s5, s6, s7, s8, s9, s10, s11, s12, u0, u1]) rfl ⟨_, _, rfl, ?_, HQ.out.1, ?_⟩
    · have R5 := HB.out.2.2.2.1.kept K1 HQ.out.2
      first | exact R5 | exact R5.below (Below.refl _ _).drew
    · have W5 := HB.out.2.2.1.trans (K1.below (by have := HB.out.2.2.1.size; omega) (fun k hk e => by omega))
      first | exact W5 | exact W5.drew

set_option maxRecDepth 100000 in
set_option maxHeartbeats 8000000 in
theorem rStep16 (w : World) (v : Value) (q : Option Nat) (N st : Int) (xs : List Int) (i0 i2 i3 i4 i5 i6 i7 i8 i9 i10 i11 : Int) (bo : Option Addr) (bn bc : Nat) (h : RVal w v q N xs st) (hn : xs.length ≤ 1000000) (s0 : 0 ≤ st) (s1 : st < 1000000) (r1 : -9223372036854775808 ≤ i2) (r2 : i2 ≤ 9223372036854775807)  :
    Calls Try.prog 21 #[v, .agg #[.int .i64 i0, .int .i64 16, .int .i64 i2, .int .i64 i3, .int .i64 i4, .int .i64 i5, .int .i64 i6, .int .i64 i7, .int .i64 i8, .int .i64 i9, .int .i64 i10, .int .i64 i11, .slice bo bn bc]] w fun e w' => ∃ v' q', e = .returned (.tuple #[v', .agg #[.int .i64 i0, .int .i64 11, .int .i64 i2, .int .i64 i3, .int .i64 i4, .int .i64 i5, .int .i64 i6, .int .i64 i7, .int .i64 i8, .int .i64 i9, .int .i64 i10, .int .i64 i11, .slice bo bn bc], .agg #[.int .u8 0, .int .i32 0], .bool false]) ∧ RVal w' v' q' N (cellSet xs (wrap64 (i2 + 1)) (0)) (st + cntAt xs (wrap64 (i2 + 1))) ∧ (q' = q ∨ ∀ k, q' = some k → w.heap.size ≤ k) ∧ Below w.heap.size w w' := by
  have hqlt : ∀ k, q = some k → k < w.heap.size := fun k e => by subst e; exact h.lt
  obtain ⟨ao, cap, rfl, -, -⟩ := h.open
  have H := Lib.hid (And.intro h hqlt)
  clear h hqlt 
  go_enter Try.func21, Try.ntmps21
  go_wp2_with fail
  refine (rStore_f (H.out.1.below (by go_grown)) (wrap64 (i2 + 1)) (0) hn s0 (by omega)).mono ?_
  rintro e w1 ⟨v', q1, rfl, h1, hq1, hb1⟩
  have HQ := Lib.hid (show (q1 = q ∨ ∀ k, q1 = some k → w.heap.size ≤ k) ∧ (∀ k, q1 = some k → ¬ (w.heap.size ≤ k ∧ k < w.heap.size + 5)) from by
    have hz := H.out.2
    have hq2 : q1 = q ∨ ∀ k, q1 = some k → w.heap.size + 5 ≤ k := by
      rcases hq1 with rfl | hq
      · exact .inl rfl
      · exact .inr (fun k e => by have := hq k e; (try simp at this); omega)
    refine ⟨?_, fun k e => ?_⟩
    · rcases hq2 with rfl | hq
      · exact .inl rfl
      · exact .inr (fun k e => by have := hq k e; omega)
    · rcases hq2 with rfl | hq
      · have := hz k e; omega
      · have := hq k e; omega)
  clear hq1
  obtain ⟨ao', cap', rfl, -, -⟩ := h1.open
  have z1 : w.heap.size + 1 + 1 + 1 + 1 < w1.heap.size := by have := hb1.size; simp at this; omega
  have z11 : w.heap.size + 1 < w1.heap.size := by omega
  have z12 : w.heap.size + 1 + 1 < w1.heap.size := by omega
  have z13 : w.heap.size + 1 + 1 + 1 < w1.heap.size := by omega
  have BW : Below w.heap.size w w1 := Below.trans (by go_grown) (hb1.mono (by first | omega | (simp; omega) | (simp; done)))
  have B1 : w1.heap[w.heap.size + 1]? = some (.cells #[.int .i64 i0, .int .i64 16, .int .i64 i2, .int .i64 i3, .int .i64 i4, .int .i64 i5, .int .i64 i6, .int .i64 i7, .int .i64 i8, .int .i64 i9, .int .i64 i10, .int .i64 i11, .slice bo bn bc] 30 (0, 0)) := (hb1.block (w.heap.size + 1) (by first | omega | (simp; omega) | (simp; done))).trans (alloc5_heap _ _ _ _ _ _).1
  have B2 : w1.heap[w.heap.size + 1 + 1]? = some (.cells #[.int .i64 0, .slice none 0 0, .int .i64 0] 47 (0, 0)) := (hb1.block (w.heap.size + 1 + 1) (by first | omega | (simp; omega) | (simp; done))).trans (alloc5_heap _ _ _ _ _ _).2.1
  have B3 : w1.heap[w.heap.size + 1 + 1 + 1]? = some (.cells #[.int .i64 0, .int .i64 0, .int .i64 0, .int .i64 0, .int .i64 0, .int .i64 0, .int .i64 0, .int .i64 0, .int .i64 0, .int .i64 0, .int .i64 0, .int .i64 0, .slice none 0 0] 30 (0, 0)) := (hb1.block (w.heap.size + 1 + 1 + 1) (by first | omega | (simp; omega) | (simp; done))).trans (alloc5_heap _ _ _ _ _ _).2.2.1
  have B4 : w1.heap[w.heap.size + 1 + 1 + 1 + 1]? = some (.cells #[.int .u8 0, .int .i32 0] 25 (0, 0)) := (hb1.block (w.heap.size + 1 + 1 + 1 + 1) (by first | omega | (simp; omega) | (simp; done))).trans (alloc5_heap _ _ _ _ _ _).2.2.2
  obtain ⟨⟨a0, a1, a2, a3, a4, a5, a6, a7, a8, a9, a10, a11, a12⟩, -⟩ := blk13 B1
  have af0 := blkF B1 0; have af1 := blkF B1 1; have af2 := blkF B1 2; have af3 := blkF B1 3; have af4 := blkF B1 4; have af5 := blkF B1 5; have af6 := blkF B1 6; have af7 := blkF B1 7; have af8 := blkF B1 8; have af9 := blkF B1 9; have af10 := blkF B1 10; have af11 := blkF B1 11; have af12 := blkF B1 12
  have HB := Lib.hid (And.intro B2 (And.intro B3 (And.intro BW (And.intro h1 (And.intro B1 B4)))))
  clear B1 B2 B3 B4 BW h1 hb1
  go_wp2_with fail
  generalize hn8 : w1.heap.size = n8
  generalize hW : World.alloc _ _ = W
  have A8 : W.heap[n8]? = some (.cells #[.int .i64 N, .slice ao' (cellSet xs (wrap64 (i2 + 1)) (0)).length cap', .int .i64 (st + cntAt xs (wrap64 (i2 + 1)))] 47 (0, 0)) := by rw [← hW, ← hn8]; exact alloc_at (by simp) _
  have KW : Kept (fun k => k = w.heap.size + 1) w1 W := by rw [← hW]; exact ((Kept.refl (fun k => k = w.heap.size + 1) w1).setCell (p := ⟨w.heap.size + 1, 1, none⟩) (fun _ => rfl) _).alloc _
  have A1 : W.heap[w.heap.size + 1]? = some (.cells #[.int .i64 i0, .int .i64 11, .int .i64 i2, .int .i64 i3, .int .i64 i4, .int .i64 i5, .int .i64 i6, .int .i64 i7, .int .i64 i8, .int .i64 i9, .int .i64 i10, .int .i64 i11, .slice bo bn bc] 30 (0, 0)) := by
    rw [← hW, Below.heap_alloc _ _ _ (by first | omega | (simp; omega))]
    have a_0 := HB.out.2.2.2.2.1
    have a_1 : (w1.setCell ⟨w.heap.size + 1, 1, none⟩ (.int .i64 11)).heap[w.heap.size + 1]? = some (.cells #[.int .i64 i0, .int .i64 11, .int .i64 i2, .int .i64 i3, .int .i64 i4, .int .i64 i5, .int .i64 i6, .int .i64 i7, .int .i64 i8, .int .i64 i9, .int .i64 i10, .int .i64 i11, .slice bo bn bc] 30 (0, 0)) := by rw [heap_setCell_self a_0]; rfl
    exact a_1
  have A2 := (KW.block (w.heap.size + 1 + 1) (by omega) (by omega)).trans HB.out.1
  have A3 := (KW.block (w.heap.size + 1 + 1 + 1) (by omega) (by omega)).trans HB.out.2.1
  have A4 := (KW.block (w.heap.size + 1 + 1 + 1 + 1) (by omega) (by omega)).trans HB.out.2.2.2.2.2
  have zz : w1.heap.size ≤ W.heap.size := KW.size
  have zn : n8 < W.heap.size := (Array.getElem?_eq_some_iff.1 A8).1
  have zw1 : w.heap.size + 1 < W.heap.size := by omega
  have zw2 : w.heap.size + 1 + 1 < W.heap.size := by omega
  have zw3 : w.heap.size + 1 + 1 + 1 < W.heap.size := by omega
  have zw4 : w.heap.size + 1 + 1 + 1 + 1 < W.heap.size := by omega
  have HW := Lib.hid (And.intro KW (And.intro A2 (And.intro A3 A4)))
  clear hW hn8 a0 a1 a2 a3 a4 a5 a6 a7 a8 a9 a10 a11 a12 af0 af1 af2 af3 af4 af5 af6 af7 af8 af9 af10 af11 af12
  obtain ⟨d0, d1, d2, df0, df1, df2, -⟩ := blk3 A8
  obtain ⟨⟨a0, a1, a2, a3, a4, a5, a6, a7, a8, a9, a10, a11, a12⟩, -⟩ := blk13 A1
  obtain ⟨b0, b1, b2, bf0, bf1, bf2, -⟩ := blk3 A2
  obtain ⟨⟨c0, c1, c2, c3, c4, c5, c6, c7, c8, c9, c10, c11, c12⟩, -⟩ := blk13 A3
  have cf0 := blkF A3 0; have cf1 := blkF A3 1; have cf2 := blkF A3 2; have cf3 := blkF A3 3; have cf4 := blkF A3 4; have cf5 := blkF A3 5; have cf6 := blkF A3 6; have cf7 := blkF A3 7; have cf8 := blkF A3 8; have cf9 := blkF A3 9; have cf10 := blkF A3 10; have cf11 := blkF A3 11; have cf12 := blkF A3 12
  obtain ⟨⟨g0, g1⟩, -⟩ := blk2c A4
  have gf0 := blkF A4 0
  have gf1 := blkF A4 1
  clear A8 A1 A2 A3 A4 KW
  go_region
  all_goals
    go_wp2
    generalize hw5 : World.setCell _ _ _ = w5
    have n1 : w.heap.size + 1 + 1 ≠ w.heap.size + 1 + 1 + 1 := by omega
    have n2 : w.heap.size + 1 + 1 ≠ w.heap.size + 1 + 1 + 1 + 1 := by omega
    have n3 : w.heap.size + 1 + 1 + 1 ≠ w.heap.size + 1 + 1 + 1 + 1 := by omega
    have D2 := HW.out.2.1
    have D3 := HW.out.2.2.1
    have D4 := HW.out.2.2.2
    have E := by first | (with_reducible exact res3_xyz D2 D3 D4 n1 n2 n3 _ hw5) | (with_reducible exact res3_xzy D2 D3 D4 n1 n2 n3 _ hw5) | (with_reducible exact res3_yxz D2 D3 D4 n1 n2 n3 _ hw5) | (with_reducible exact res3_yzx D2 D3 D4 n1 n2 n3 _ hw5) | (with_reducible exact res3_zxy D2 D3 D4 n1 n2 n3 _ hw5) | (with_reducible exact res3_zyx D2 D3 D4 n1 n2 n3 _ hw5)
    obtain ⟨E2, E3, E4, K5⟩ := E
    obtain ⟨⟨u0, u1⟩, -⟩ := blk2c E4
    obtain ⟨r0, r1', r2', -⟩ := blk3 E2
    obtain ⟨⟨s0, s1, s2, s3, s4, s5, s6, s7, s8, s9, s10, s11, s12⟩, -⟩ := blk13 E3
    have K1 : Kept (fun k => w.heap.size ≤ k ∧ k < w.heap.size + 5) w1 w5 := (HW.out.1.mono (fun k _ e => by omega)).step (K5 : Kept _ W w5) (fun i _ e => by omega)
    refine bodyPost_ret (v := .tuple #[.agg #[.int .i64 N, .slice ao' (cellSet xs (wrap64 (i2 + 1)) (0)).length cap', .int .i64 (st + cntAt xs (wrap64 (i2 + 1)))], .agg #[.int .i64 i0, .int .i64 11, .int .i64 i2, .int .i64 i3, .int .i64 i4, .int .i64 i5, .int .i64 i6, .int .i64 i7, .int .i64 i8, .int .i64 i9, .int .i64 i10, .int .i64 i11, .slice bo bn bc], .agg #[.int .u8 0, .int .i32 0], .bool false]) (by simp [results, Try.results21, go_sem, r0, r1', r2', s0, s1, s2, s3, s4, s5, s6, s7, s8, s9, s10, s11, s12, u0, u1]) rfl ⟨_, _, rfl, ?_, HQ.out.1, ?_⟩
    · have R5 := HB.out.2.2.2.1.kept K1 HQ.out.2
      first | exact R5 | exact R5.below (Below.refl _ _).drew
    · have W5 := HB.out.2.2.1.trans (K1.below (by have := HB.out.2.2.1.size; omega) (fun k hk e => by omega))
      first | exact W5 | exact W5.drew

set_option maxRecDepth 100000 in
set_option maxHeartbeats 8000000 in
theorem rStep11 (w : World) (v : Value) (q : Option Nat) (N st : Int) (xs : List Int) (i0 i2 i3 i4 i5 i6 i7 i8 i9 i10 i11 : Int) (bo : Option Addr) (bn bc : Nat) (h : RVal w v q N xs st) (hn : xs.length ≤ 1000000) (s0 : 0 ≤ st) (s1 : st < 1000000) (r1 : -9223372036854775808 ≤ i2) (r2 : i2 ≤ 9223372036854775807) (y : Int) (hy : cellAt xs (i2) = y) (p : Int) (hp : (if y = i4 then (12 : Int) else 14) = p) :
    Calls Try.prog 21 #[v, .agg #[.int .i64 i0, .int .i64 11, .int .i64 i2, .int .i64 i3, .int .i64 i4, .int .i64 i5, .int .i64 i6, .int .i64 i7, .int .i64 i8, .int .i64 i9, .int .i64 i10, .int .i64 i11, .slice bo bn bc]] w fun e w' => ∃ v' q', e = .returned (.tuple #[v', .agg #[.int .i64 i0, .int .i64 p, .int .i64 i2, .int .i64 i3, .int .i64 i4, .int .i64 y, .int .i64 i6, .int .i64 i7, .int .i64 i8, .int .i64 i9, .int .i64 i10, .int .i64 i11, .slice bo bn bc], .agg #[.int .u8 0, .int .i32 0], .bool false]) ∧ RVal w' v' q' N (xs) (st + cntAt xs (i2)) ∧ (q' = q ∨ ∀ k, q' = some k → w.heap.size ≤ k) ∧ Below w.heap.size w w' := by
  have hqlt : ∀ k, q = some k → k < w.heap.size := fun k e => by subst e; exact h.lt
  obtain ⟨ao, cap, rfl, -, -⟩ := h.open
  have H := Lib.hid (And.intro h hqlt)
  have HY := Lib.hid (And.intro hy hp)
  clear h hqlt hy hp
  go_enter Try.func21, Try.ntmps21
  go_wp2_with fail
  refine (rLoad_f (H.out.1.below (by go_grown)) (i2) s0 (by omega)).mono ?_
  rintro e w1 ⟨v', rfl, h1, hb1⟩
  obtain ⟨q1, hq⟩ : ∃ q1, q1 = q := ⟨q, rfl⟩
  rw [← hq] at h1
  have hq1 : q1 = q ∨ ∀ k, q1 = some k → w.heap.size + 5 ≤ k := .inl hq
  clear hq
  rw [HY.out.1]
  have HQ := Lib.hid (show (q1 = q ∨ ∀ k, q1 = some k → w.heap.size ≤ k) ∧ (∀ k, q1 = some k → ¬ (w.heap.size ≤ k ∧ k < w.heap.size + 5)) from by
    have hz := H.out.2
    have hq2 : q1 = q ∨ ∀ k, q1 = some k → w.heap.size + 5 ≤ k := by
      rcases hq1 with rfl | hq
      · exact .inl rfl
      · exact .inr (fun k e => by have := hq k e; (try simp at this); omega)
    refine ⟨?_, fun k e => ?_⟩
    · rcases hq2 with rfl | hq
      · exact .inl rfl
      · exact .inr (fun k e => by have := hq k e; omega)
    · rcases hq2 with rfl | hq
      · have := hz k e; omega
      · have := hq k e; omega)
  clear hq1
  obtain ⟨ao', cap', rfl, -, -⟩ := h1.open
  have z1 : w.heap.size + 1 + 1 + 1 + 1 < w1.heap.size := by have := hb1.size; simp at this; omega
  have z11 : w.heap.size + 1 < w1.heap.size := by omega
  have z12 : w.heap.size + 1 + 1 < w1.heap.size := by omega
  have z13 : w.heap.size + 1 + 1 + 1 < w1.heap.size := by omega
  have BW : Below w.heap.size w w1 := Below.trans (by go_grown) (hb1.mono (by first | omega | (simp; omega) | (simp; done)))
  have B1 : w1.heap[w.heap.size + 1]? = some (.cells #[.int .i64 i0, .int .i64 11, .int .i64 i2, .int .i64 i3, .int .i64 i4, .int .i64 i5, .int .i64 i6, .int .i64 i7, .int .i64 i8, .int .i64 i9, .int .i64 i10, .int .i64 i11, .slice bo bn bc] 30 (0, 0)) := (hb1.block (w.heap.size + 1) (by first | omega | (simp; omega) | (simp; done))).trans (alloc5_heap _ _ _ _ _ _).1
  have B2 : w1.heap[w.heap.size + 1 + 1]? = some (.cells #[.int .i64 0, .slice none 0 0, .int .i64 0] 47 (0, 0)) := (hb1.block (w.heap.size + 1 + 1) (by first | omega | (simp; omega) | (simp; done))).trans (alloc5_heap _ _ _ _ _ _).2.1
  have B3 : w1.heap[w.heap.size + 1 + 1 + 1]? = some (.cells #[.int .i64 0, .int .i64 0, .int .i64 0, .int .i64 0, .int .i64 0, .int .i64 0, .int .i64 0, .int .i64 0, .int .i64 0, .int .i64 0, .int .i64 0, .int .i64 0, .slice none 0 0] 30 (0, 0)) := (hb1.block (w.heap.size + 1 + 1 + 1) (by first | omega | (simp; omega) | (simp; done))).trans (alloc5_heap _ _ _ _ _ _).2.2.1
  have B4 : w1.heap[w.heap.size + 1 + 1 + 1 + 1]? = some (.cells #[.int .u8 0, .int .i32 0] 25 (0, 0)) := (hb1.block (w.heap.size + 1 + 1 + 1 + 1) (by first | omega | (simp; omega) | (simp; done))).trans (alloc5_heap _ _ _ _ _ _).2.2.2
  obtain ⟨⟨a0, a1, a2, a3, a4, a5, a6, a7, a8, a9, a10, a11, a12⟩, -⟩ := blk13 B1
  have af0 := blkF B1 0; have af1 := blkF B1 1; have af2 := blkF B1 2; have af3 := blkF B1 3; have af4 := blkF B1 4; have af5 := blkF B1 5; have af6 := blkF B1 6; have af7 := blkF B1 7; have af8 := blkF B1 8; have af9 := blkF B1 9; have af10 := blkF B1 10; have af11 := blkF B1 11; have af12 := blkF B1 12
  have HB := Lib.hid (And.intro B2 (And.intro B3 (And.intro BW (And.intro h1 (And.intro B1 B4)))))
  clear B1 B2 B3 B4 BW h1 hb1
  go_wp2_with fail
  refine (rFirst_p _ 12 14 p _ (by have := HY.out.2; simpa using this)).mono ?_
  rintro e w' ⟨rfl, rfl⟩
  go_wp2_with fail
  generalize hn8 : w1.heap.size = n8
  generalize hW : World.alloc _ _ = W
  have A8 : W.heap[n8]? = some (.cells #[.int .i64 N, .slice ao' (xs).length cap', .int .i64 (st + cntAt xs (i2))] 47 (0, 0)) := by rw [← hW, ← hn8]; exact alloc_at (by simp) _
  have KW : Kept (fun k => k = w.heap.size + 1) w1 W := by rw [← hW]; exact (((Kept.refl (fun k => k = w.heap.size + 1) w1).setCell (p := ⟨w.heap.size + 1, 5, none⟩) (fun _ => rfl) _).setCell (p := ⟨w.heap.size + 1, 1, none⟩) (fun _ => rfl) _).alloc _
  have A1 : W.heap[w.heap.size + 1]? = some (.cells #[.int .i64 i0, .int .i64 p, .int .i64 i2, .int .i64 i3, .int .i64 i4, .int .i64 y, .int .i64 i6, .int .i64 i7, .int .i64 i8, .int .i64 i9, .int .i64 i10, .int .i64 i11, .slice bo bn bc] 30 (0, 0)) := by
    rw [← hW, Below.heap_alloc _ _ _ (by first | omega | (simp; omega))]
    have a_0 := HB.out.2.2.2.2.1
    have a_1 : (w1.setCell ⟨w.heap.size + 1, 5, none⟩ (.int .i64 y)).heap[w.heap.size + 1]? = some (.cells #[.int .i64 i0, .int .i64 11, .int .i64 i2, .int .i64 i3, .int .i64 i4, .int .i64 y, .int .i64 i6, .int .i64 i7, .int .i64 i8, .int .i64 i9, .int .i64 i10, .int .i64 i11, .slice bo bn bc] 30 (0, 0)) := by rw [heap_setCell_self a_0]; rfl
    have a_2 : ((w1.setCell ⟨w.heap.size + 1, 5, none⟩ (.int .i64 y)).setCell ⟨w.heap.size + 1, 1, none⟩ (.int .i64 p)).heap[w.heap.size + 1]? = some (.cells #[.int .i64 i0, .int .i64 p, .int .i64 i2, .int .i64 i3, .int .i64 i4, .int .i64 y, .int .i64 i6, .int .i64 i7, .int .i64 i8, .int .i64 i9, .int .i64 i10, .int .i64 i11, .slice bo bn bc] 30 (0, 0)) := by rw [heap_setCell_self a_1]; rfl
    exact a_2
  have A2 := (KW.block (w.heap.size + 1 + 1) (by omega) (by omega)).trans HB.out.1
  have A3 := (KW.block (w.heap.size + 1 + 1 + 1) (by omega) (by omega)).trans HB.out.2.1
  have A4 := (KW.block (w.heap.size + 1 + 1 + 1 + 1) (by omega) (by omega)).trans HB.out.2.2.2.2.2
  have zz : w1.heap.size ≤ W.heap.size := KW.size
  have zn : n8 < W.heap.size := (Array.getElem?_eq_some_iff.1 A8).1
  have zw1 : w.heap.size + 1 < W.heap.size := by omega
  have zw2 : w.heap.size + 1 + 1 < W.heap.size := by omega
  have zw3 : w.heap.size + 1 + 1 + 1 < W.heap.size := by omega
  have zw4 : w.heap.size + 1 + 1 + 1 + 1 < W.heap.size := by omega
  have HW := Lib.hid (And.intro KW (And.intro A2 (And.intro A3 A4)))
  clear hW hn8 a0 a1 a2 a3 a4 a5 a6 a7 a8 a9 a10 a11 a12 af0 af1 af2 af3 af4 af5 af6 af7 af8 af9 af10 af11 af12
  obtain ⟨d0, d1, d2, df0, df1, df2, -⟩ := blk3 A8
  obtain ⟨⟨a0, a1, a2, a3, a4, a5, a6, a7, a8, a9, a10, a11, a12⟩, -⟩ := blk13 A1
  obtain ⟨b0, b1, b2, bf0, bf1, bf2, -⟩ := blk3 A2
  obtain ⟨⟨c0, c1, c2, c3, c4, c5, c6, c7, c8, c9, c10, c11, c12⟩, -⟩ := blk13 A3
  have cf0 := blkF A3 0; have cf1 := blkF A3 1; have cf2 := blkF A3 2; have cf3 := blkF A3 3; have cf4 := blkF A3 4; have cf5 := blkF A3 5; have cf6 := blkF A3 6; have cf7 := blkF A3 7; have cf8 := blkF A3 8; have cf9 := blkF A3 9; have cf10 := blkF A3 10; have cf11 := blkF A3 11; have cf12 := blkF A3 12
  obtain ⟨⟨g0, g1⟩, -⟩ := blk2c A4
  have gf0 := blkF A4 0
  have gf1 := blkF A4 1
  clear A8 A1 A2 A3 A4 KW
  go_region
  all_goals
    go_wp2
    generalize hw5 : World.setCell _ _ _ = w5
    have n1 : w.heap.size + 1 + 1 ≠ w.heap.size + 1 + 1 + 1 := by omega
    have n2 : w.heap.size + 1 + 1 ≠ w.heap.size + 1 + 1 + 1 + 1 := by omega
    have n3 : w.heap.size + 1 + 1 + 1 ≠ w.heap.size + 1 + 1 + 1 + 1 := by omega
    have D2 := HW.out.2.1
    have D3 := HW.out.2.2.1
    have D4 := HW.out.2.2.2
    have E := by first | (with_reducible exact res3_xyz D2 D3 D4 n1 n2 n3 _ hw5) | (with_reducible exact res3_xzy D2 D3 D4 n1 n2 n3 _ hw5) | (with_reducible exact res3_yxz D2 D3 D4 n1 n2 n3 _ hw5) | (with_reducible exact res3_yzx D2 D3 D4 n1 n2 n3 _ hw5) | (with_reducible exact res3_zxy D2 D3 D4 n1 n2 n3 _ hw5) | (with_reducible exact res3_zyx D2 D3 D4 n1 n2 n3 _ hw5)
    obtain ⟨E2, E3, E4, K5⟩ := E
    obtain ⟨⟨u0, u1⟩, -⟩ := blk2c E4
    obtain ⟨r0, r1', r2', -⟩ := blk3 E2
    obtain ⟨⟨s0, s1, s2, s3, s4, s5, s6, s7, s8, s9, s10, s11, s12⟩, -⟩ := blk13 E3
    have K1 : Kept (fun k => w.heap.size ≤ k ∧ k < w.heap.size + 5) w1 w5 := (HW.out.1.mono (fun k _ e => by omega)).step (K5 : Kept _ W w5) (fun i _ e => by omega)
    refine bodyPost_ret (v := .tuple #[.agg #[.int .i64 N, .slice ao' (xs).length cap', .int .i64 (st + cntAt xs (i2))], .agg #[.int .i64 i0, .int .i64 p, .int .i64 i2, .int .i64 i3, .int .i64 i4, .int .i64 y, .int .i64 i6, .int .i64 i7, .int .i64 i8, .int .i64 i9, .int .i64 i10, .int .i64 i11, .slice bo bn bc], .agg #[.int .u8 0, .int .i32 0], .bool false]) (by simp [results, Try.results21, go_sem, r0, r1', r2', s0, s1, s2, s3, s4, s5, s6, s7, s8, s9, s10, s11, s12, u0, u1]) rfl ⟨_, _, rfl, ?_, HQ.out.1, ?_⟩
    · have R5 := HB.out.2.2.2.1.kept K1 HQ.out.2
      first | exact R5 | exact R5.below (Below.refl _ _).drew
    · have W5 := HB.out.2.2.1.trans (K1.below (by have := HB.out.2.2.1.size; omega) (fun k hk e => by omega))
      first | exact W5 | exact W5.drew

set_option maxRecDepth 100000 in
set_option maxHeartbeats 8000000 in
theorem rStep12 (w : World) (v : Value) (q : Option Nat) (N st : Int) (xs : List Int) (i0 i2 i3 i4 i5 i6 i7 i8 i9 i10 i11 : Int) (bo : Option Addr) (bn bc : Nat) (h : RVal w v q N xs st) (hn : xs.length ≤ 1000000) (s0 : 0 ≤ st) (s1 : st < 1000000) (r1 : -9223372036854775808 ≤ i2) (r2 : i2 ≤ 9223372036854775807) (y : Int) (hy : cellAt xs (0) = y) (p : Int) (hp : (if y = 0 then (13 : Int) else 11) = p) :
    Calls Try.prog 21 #[v, .agg #[.int .i64 i0, .int .i64 12, .int .i64 i2, .int .i64 i3, .int .i64 i4, .int .i64 i5, .int .i64 i6, .int .i64 i7, .int .i64 i8, .int .i64 i9, .int .i64 i10, .int .i64 i11, .slice bo bn bc]] w fun e w' => ∃ v' q', e = .returned (.tuple #[v', .agg #[.int .i64 i0, .int .i64 p, .int .i64 i2, .int .i64 i3, .int .i64 i4, .int .i64 y, .int .i64 i6, .int .i64 i7, .int .i64 i8, .int .i64 i9, .int .i64 i10, .int .i64 i11, .slice bo bn bc], .agg #[.int .u8 0, .int .i32 0], .bool false]) ∧ RVal w' v' q' N (xs) (st + cntAt xs (0)) ∧ (q' = q ∨ ∀ k, q' = some k → w.heap.size ≤ k) ∧ Below w.heap.size w w' := by
  have hqlt : ∀ k, q = some k → k < w.heap.size := fun k e => by subst e; exact h.lt
  obtain ⟨ao, cap, rfl, -, -⟩ := h.open
  have H := Lib.hid (And.intro h hqlt)
  have HY := Lib.hid (And.intro hy hp)
  clear h hqlt hy hp
  go_enter Try.func21, Try.ntmps21
  go_wp2_with fail
  refine (rLoad_f (H.out.1.below (by go_grown)) (0) s0 (by omega)).mono ?_
  rintro e w1 ⟨v', rfl, h1, hb1⟩
  obtain ⟨q1, hq⟩ : ∃ q1, q1 = q := ⟨q, rfl⟩
  rw [← hq] at h1
  have hq1 : q1 = q ∨ ∀ k, q1 = some k → w.heap.size + 5 ≤ k := .inl hq
  clear hq
  rw [HY.out.1]
  have HQ := Lib.hid (show (q1 = q ∨ ∀ k, q1 = some k → w.heap.size ≤ k) ∧ (∀ k, q1 = some k → ¬ (w.heap.size ≤ k ∧ k < w.heap.size + 5)) from by
    have hz := H.out.2
    have hq2 : q1 = q ∨ ∀ k, q1 = some k → w.heap.size + 5 ≤ k := by
      rcases hq1 with rfl | hq
      · exact .inl rfl
      · exact .inr (fun k e => by have := hq k e; (try simp at this); omega)
    refine ⟨?_, fun k e => ?_⟩
    · rcases hq2 with rfl | hq
      · exact .inl rfl
      · exact .inr (fun k e => by have := hq k e; omega)
    · rcases hq2 with rfl | hq
      · have := hz k e; omega
      · have := hq k e; omega)
  clear hq1
  obtain ⟨ao', cap', rfl, -, -⟩ := h1.open
  have z1 : w.heap.size + 1 + 1 + 1 + 1 < w1.heap.size := by have := hb1.size; simp at this; omega
  have z11 : w.heap.size + 1 < w1.heap.size := by omega
  have z12 : w.heap.size + 1 + 1 < w1.heap.size := by omega
  have z13 : w.heap.size + 1 + 1 + 1 < w1.heap.size := by omega
  have BW : Below w.heap.size w w1 := Below.trans (by go_grown) (hb1.mono (by first | omega | (simp; omega) | (simp; done)))
  have B1 : w1.heap[w.heap.size + 1]? = some (.cells #[.int .i64 i0, .int .i64 12, .int .i64 i2, .int .i64 i3, .int .i64 i4, .int .i64 i5, .int .i64 i6, .int .i64 i7, .int .i64 i8, .int .i64 i9, .int .i64 i10, .int .i64 i11, .slice bo bn bc] 30 (0, 0)) := (hb1.block (w.heap.size + 1) (by first | omega | (simp; omega) | (simp; done))).trans (alloc5_heap _ _ _ _ _ _).1
  have B2 : w1.heap[w.heap.size + 1 + 1]? = some (.cells #[.int .i64 0, .slice none 0 0, .int .i64 0] 47 (0, 0)) := (hb1.block (w.heap.size + 1 + 1) (by first | omega | (simp; omega) | (simp; done))).trans (alloc5_heap _ _ _ _ _ _).2.1
  have B3 : w1.heap[w.heap.size + 1 + 1 + 1]? = some (.cells #[.int .i64 0, .int .i64 0, .int .i64 0, .int .i64 0, .int .i64 0, .int .i64 0, .int .i64 0, .int .i64 0, .int .i64 0, .int .i64 0, .int .i64 0, .int .i64 0, .slice none 0 0] 30 (0, 0)) := (hb1.block (w.heap.size + 1 + 1 + 1) (by first | omega | (simp; omega) | (simp; done))).trans (alloc5_heap _ _ _ _ _ _).2.2.1
  have B4 : w1.heap[w.heap.size + 1 + 1 + 1 + 1]? = some (.cells #[.int .u8 0, .int .i32 0] 25 (0, 0)) := (hb1.block (w.heap.size + 1 + 1 + 1 + 1) (by first | omega | (simp; omega) | (simp; done))).trans (alloc5_heap _ _ _ _ _ _).2.2.2
  obtain ⟨⟨a0, a1, a2, a3, a4, a5, a6, a7, a8, a9, a10, a11, a12⟩, -⟩ := blk13 B1
  have af0 := blkF B1 0; have af1 := blkF B1 1; have af2 := blkF B1 2; have af3 := blkF B1 3; have af4 := blkF B1 4; have af5 := blkF B1 5; have af6 := blkF B1 6; have af7 := blkF B1 7; have af8 := blkF B1 8; have af9 := blkF B1 9; have af10 := blkF B1 10; have af11 := blkF B1 11; have af12 := blkF B1 12
  have HB := Lib.hid (And.intro B2 (And.intro B3 (And.intro BW (And.intro h1 (And.intro B1 B4)))))
  clear B1 B2 B3 B4 BW h1 hb1
  go_wp2_with fail
  refine (rFirst_p _ 13 11 p _ (by have := HY.out.2; simpa using this)).mono ?_
  rintro e w' ⟨rfl, rfl⟩
  go_wp2_with fail
  generalize hn8 : w1.heap.size = n8
  generalize hW : World.alloc _ _ = W
  have A8 : W.heap[n8]? = some (.cells #[.int .i64 N, .slice ao' (xs).length cap', .int .i64 (st + cntAt xs (0))] 47 (0, 0)) := by rw [← hW, ← hn8]; exact alloc_at (by simp) _
  have KW : Kept (fun k => k = w.heap.size + 1) w1 W := by rw [← hW]; exact (((Kept.refl (fun k => k = w.heap.size + 1) w1).setCell (p := ⟨w.heap.size + 1, 5, none⟩) (fun _ => rfl) _).setCell (p := ⟨w.heap.size + 1, 1, none⟩) (fun _ => rfl) _).alloc _
  have A1 : W.heap[w.heap.size + 1]? = some (.cells #[.int .i64 i0, .int .i64 p, .int .i64 i2, .int .i64 i3, .int .i64 i4, .int .i64 y, .int .i64 i6, .int .i64 i7, .int .i64 i8, .int .i64 i9, .int .i64 i10, .int .i64 i11, .slice bo bn bc] 30 (0, 0)) := by
    rw [← hW, Below.heap_alloc _ _ _ (by first | omega | (simp; omega))]
    have a_0 := HB.out.2.2.2.2.1
    have a_1 : (w1.setCell ⟨w.heap.size + 1, 5, none⟩ (.int .i64 y)).heap[w.heap.size + 1]? = some (.cells #[.int .i64 i0, .int .i64 12, .int .i64 i2, .int .i64 i3, .int .i64 i4, .int .i64 y, .int .i64 i6, .int .i64 i7, .int .i64 i8, .int .i64 i9, .int .i64 i10, .int .i64 i11, .slice bo bn bc] 30 (0, 0)) := by rw [heap_setCell_self a_0]; rfl
    have a_2 : ((w1.setCell ⟨w.heap.size + 1, 5, none⟩ (.int .i64 y)).setCell ⟨w.heap.size + 1, 1, none⟩ (.int .i64 p)).heap[w.heap.size + 1]? = some (.cells #[.int .i64 i0, .int .i64 p, .int .i64 i2, .int .i64 i3, .int .i64 i4, .int .i64 y, .int .i64 i6, .int .i64 i7, .int .i64 i8, .int .i64 i9, .int .i64 i10, .int .i64 i11, .slice bo bn bc] 30 (0, 0)) := by rw [heap_setCell_self a_1]; rfl
    exact a_2
  have A2 := (KW.block (w.heap.size + 1 + 1) (by omega) (by omega)).trans HB.out.1
  have A3 := (KW.block (w.heap.size + 1 + 1 + 1) (by omega) (by omega)).trans HB.out.2.1
  have A4 := (KW.block (w.heap.size + 1 + 1 + 1 + 1) (by omega) (by omega)).trans HB.out.2.2.2.2.2
  have zz : w1.heap.size ≤ W.heap.size := KW.size
  have zn : n8 < W.heap.size := (Array.getElem?_eq_some_iff.1 A8).1
  have zw1 : w.heap.size + 1 < W.heap.size := by omega
  have zw2 : w.heap.size + 1 + 1 < W.heap.size := by omega
  have zw3 : w.heap.size + 1 + 1 + 1 < W.heap.size := by omega
  have zw4 : w.heap.size + 1 + 1 + 1 + 1 < W.heap.size := by omega
  have HW := Lib.hid (And.intro KW (And.intro A2 (And.intro A3 A4)))
  clear hW hn8 a0 a1 a2 a3 a4 a5 a6 a7 a8 a9 a10 a11 a12 af0 af1 af2 af3 af4 af5 af6 af7 af8 af9 af10 af11 af12
  obtain ⟨d0, d1, d2, df0, df1, df2, -⟩ := blk3 A8
  obtain ⟨⟨a0, a1, a2, a3, a4, a5, a6, a7, a8, a9, a10, a11, a12⟩, -⟩ := blk13 A1
  obtain ⟨b0, b1, b2, bf0, bf1, bf2, -⟩ := blk3 A2
  obtain ⟨⟨c0, c1, c2, c3, c4, c5, c6, c7, c8, c9, c10, c11, c12⟩, -⟩ := blk13 A3
  have cf0 := blkF A3 0; have cf1 := blkF A3 1; have cf2 := blkF A3 2; have cf3 := blkF A3 3; have cf4 := blkF A3 4; have cf5 := blkF A3 5; have cf6 := blkF A3 6; have cf7 := blkF A3 7; have cf8 := blkF A3 8; have cf9 := blkF A3 9; have cf10 := blkF A3 10; have cf11 := blkF A3 11; have cf12 := blkF A3 12
  obtain ⟨⟨g0, g1⟩, -⟩ := blk2c A4
  have gf0 := blkF A4 0
  have gf1 := blkF A4 1
  clear A8 A1 A2 A3 A4 KW
  go_region
  all_goals
    go_wp2
    generalize hw5 : World.setCell _ _ _ = w5
    have n1 : w.heap.size + 1 + 1 ≠ w.heap.size + 1 + 1 + 1 := by omega
    have n2 : w.heap.size + 1 + 1 ≠ w.heap.size + 1 + 1 + 1 + 1 := by omega
    have n3 : w.heap.size + 1 + 1 + 1 ≠ w.heap.size + 1 + 1 + 1 + 1 := by omega
    have D2 := HW.out.2.1
    have D3 := HW.out.2.2.1
    have D4 := HW.out.2.2.2
    have E := by first | (with_reducible exact res3_xyz D2 D3 D4 n1 n2 n3 _ hw5) | (with_reducible exact res3_xzy D2 D3 D4 n1 n2 n3 _ hw5) | (with_reducible exact res3_yxz D2 D3 D4 n1 n2 n3 _ hw5) | (with_reducible exact res3_yzx D2 D3 D4 n1 n2 n3 _ hw5) | (with_reducible exact res3_zxy D2 D3 D4 n1 n2 n3 _ hw5) | (with_reducible exact res3_zyx D2 D3 D4 n1 n2 n3 _ hw5)
    obtain ⟨E2, E3, E4, K5⟩ := E
    obtain ⟨⟨u0, u1⟩, -⟩ := blk2c E4
    obtain ⟨r0, r1', r2', -⟩ := blk3 E2
    obtain ⟨⟨s0, s1, s2, s3, s4, s5, s6, s7, s8, s9, s10, s11, s12⟩, -⟩ := blk13 E3
    have K1 : Kept (fun k => w.heap.size ≤ k ∧ k < w.heap.size + 5) w1 w5 := (HW.out.1.mono (fun k _ e => by omega)).step (K5 : Kept _ W w5) (fun i _ e => by omega)
    refine bodyPost_ret (v := .tuple #[.agg #[.int .i64 N, .slice ao' (xs).length cap', .int .i64 (st + cntAt xs (0))], .agg #[.int .i64 i0, .int .i64 p, .int .i64 i2, .int .i64 i3, .int .i64 i4, .int .i64 y, .int .i64 i6, .int .i64 i7, .int .i64 i8, .int .i64 i9, .int .i64 i10, .int .i64 i11, .slice bo bn bc], .agg #[.int .u8 0, .int .i32 0], .bool false]) (by simp [results, Try.results21, go_sem, r0, r1', r2', s0, s1, s2, s3, s4, s5, s6, s7, s8, s9, s10, s11, s12, u0, u1]) rfl ⟨_, _, rfl, ?_, HQ.out.1, ?_⟩
    · have R5 := HB.out.2.2.2.1.kept K1 HQ.out.2
      first | exact R5 | exact R5.below (Below.refl _ _).drew
    · have W5 := HB.out.2.2.1.trans (K1.below (by have := HB.out.2.2.1.size; omega) (fun k hk e => by omega))
      first | exact W5 | exact W5.drew

set_option maxRecDepth 100000 in
set_option maxHeartbeats 8000000 in
theorem rStep13a (w : World) (v : Value) (q : Option Nat) (N st : Int) (xs : List Int) (i0 i2 i3 i4 i5 i6 i7 i8 i9 i10 i11 : Int) (bo : Option Addr) (bn bc : Nat) (h : RVal w v q N xs st) (hn : xs.length ≤ 1000000) (s0 : 0 ≤ st) (s1 : st < 1000000) (r1 : -9223372036854775808 ≤ i2) (r2 : i2 ≤ 9223372036854775807) (hs : swapIs xs 0 0 = true) :
    Calls Try.prog 21 #[v, .agg #[.int .i64 i0, .int .i64 13, .int .i64 i2, .int .i64 i3, .int .i64 i4, .int .i64 i5, .int .i64 i6, .int .i64 i7, .int .i64 i8, .int .i64 i9, .int .i64 i10, .int .i64 i11, .slice bo bn bc]] w fun e w' => ∃ v' q', e = .returned (.tuple #[v', .agg #[.int .i64 i0, .int .i64 20, .int .i64 i2, .int .i64 i3, .int .i64 i4, .int .i64 i5, .int .i64 i6, .int .i64 i7, .int .i64 i8, .int .i64 i9, .int .i64 i10, .int .i64 0, .slice bo bn bc], .agg #[.int .u8 0, .int .i32 0], .bool false]) ∧ RVal w' v' q' N (cellSwap xs (0) (0) (wrap64 (i0 + 1))) (st + cntAt xs (0)) ∧ (q' = q ∨ ∀ k, q' = some k → w.heap.size ≤ k) ∧ Below w.heap.size w w' := by
  have hqlt : ∀ k, q = some k → k < w.heap.size := fun k e => by subst e; exact h.lt
  obtain ⟨ao, cap, rfl, -, -⟩ := h.open
  have H := Lib.hid (And.intro h hqlt)
  have HY := Lib.hid (hs)
  clear h hqlt hs
  go_enter Try.func21, Try.ntmps21
  go_wp2_with fail
  refine (rSwap_f (H.out.1.below (by go_grown)) (0) (0) (wrap64 (i0 + 1)) hn s0 (by omega)).mono ?_
  rintro e w1 ⟨v', q1, rfl, h1, hq1, hb1⟩
  rw [HY.out]
  have HQ := Lib.hid (show (q1 = q ∨ ∀ k, q1 = some k → w.heap.size ≤ k) ∧ (∀ k, q1 = some k → ¬ (w.heap.size ≤ k ∧ k < w.heap.size + 5)) from by
    have hz := H.out.2
    have hq2 : q1 = q ∨ ∀ k, q1 = some k → w.heap.size + 5 ≤ k := by
      rcases hq1 with rfl | hq
      · exact .inl rfl
      · exact .inr (fun k e => by have := hq k e; (try simp at this); omega)
    refine ⟨?_, fun k e => ?_⟩
    · rcases hq2 with rfl | hq
      · exact .inl rfl
      · exact .inr (fun k e => by have := hq k e; omega)
    · rcases hq2 with rfl | hq
      · have := hz k e; omega
      · have := hq k e; omega)
  clear hq1
  obtain ⟨ao', cap', rfl, -, -⟩ := h1.open
  have z1 : w.heap.size + 1 + 1 + 1 + 1 < w1.heap.size := by have := hb1.size; simp at this; omega
  have z11 : w.heap.size + 1 < w1.heap.size := by omega
  have z12 : w.heap.size + 1 + 1 < w1.heap.size := by omega
  have z13 : w.heap.size + 1 + 1 + 1 < w1.heap.size := by omega
  have BW : Below w.heap.size w w1 := Below.trans (by go_grown) (hb1.mono (by first | omega | (simp; omega) | (simp; done)))
  have B1 : w1.heap[w.heap.size + 1]? = some (.cells #[.int .i64 i0, .int .i64 13, .int .i64 i2, .int .i64 i3, .int .i64 i4, .int .i64 i5, .int .i64 i6, .int .i64 i7, .int .i64 i8, .int .i64 i9, .int .i64 i10, .int .i64 i11, .slice bo bn bc] 30 (0, 0)) := (hb1.block (w.heap.size + 1) (by first | omega | (simp; omega) | (simp; done))).trans (alloc5_heap _ _ _ _ _ _).1
  have B2 : w1.heap[w.heap.size + 1 + 1]? = some (.cells #[.int .i64 0, .slice none 0 0, .int .i64 0] 47 (0, 0)) := (hb1.block (w.heap.size + 1 + 1) (by first | omega | (simp; omega) | (simp; done))).trans (alloc5_heap _ _ _ _ _ _).2.1
  have B3 : w1.heap[w.heap.size + 1 + 1 + 1]? = some (.cells #[.int .i64 0, .int .i64 0, .int .i64 0, .int .i64 0, .int .i64 0, .int .i64 0, .int .i64 0, .int .i64 0, .int .i64 0, .int .i64 0, .int .i64 0, .int .i64 0, .slice none 0 0] 30 (0, 0)) := (hb1.block (w.heap.size + 1 + 1 + 1) (by first | omega | (simp; omega) | (simp; done))).trans (alloc5_heap _ _ _ _ _ _).2.2.1
  have B4 : w1.heap[w.heap.size + 1 + 1 + 1 + 1]? = some (.cells #[.int .u8 0, .int .i32 0] 25 (0, 0)) := (hb1.block (w.heap.size + 1 + 1 + 1 + 1) (by first | omega | (simp; omega) | (simp; done))).trans (alloc5_heap _ _ _ _ _ _).2.2.2
  obtain ⟨⟨a0, a1, a2, a3, a4, a5, a6, a7, a8, a9, a10, a11, a12⟩, -⟩ := blk13 B1
  have af0 := blkF B1 0; have af1 := blkF B1 1; have af2 := blkF B1 2; have af3 := blkF B1 3; have af4 := blkF B1 4; have af5 := blkF B1 5; have af6 := blkF B1 6; have af7 := blkF B1 7; have af8 := blkF B1 8; have af9 := blkF B1 9; have af10 := blkF B1 10; have af11 := blkF B1 11; have af12 := blkF B1 12
  have HB := Lib.hid (And.intro B2 (And.intro B3 (And.intro BW (And.intro h1 (And.intro B1 B4)))))
  clear B1 B2 B3 B4 BW h1 hb1
  go_wp2_with fail
  refine (rFirst_p _ 20 11 20 _ (by decide)).mono ?_
  rintro e w' ⟨rfl, rfl⟩
  go_wp2_with fail
  generalize hn8 : w1.heap.size = n8
  generalize hW : World.alloc _ _ = W
  have A8 : W.heap[n8]? = some (.cells #[.int .i64 N, .slice ao' (cellSwap xs (0) (0) (wrap64 (i0 + 1))).length cap', .int .i64 (st + cntAt xs (0))] 47 (0, 0)) := by rw [← hW, ← hn8]; exact alloc_at (by simp) _
  have KW : Kept (fun k => k = w.heap.size + 1) w1 W := by rw [← hW]; exact (((Kept.refl (fun k => k = w.heap.size + 1) w1).setCell (p := ⟨w.heap.size + 1, 1, none⟩) (fun _ => rfl) _).setCell (p := ⟨w.heap.size + 1, 11, none⟩) (fun _ => rfl) _).alloc _
  have A1 : W.heap[w.heap.size + 1]? = some (.cells #[.int .i64 i0, .int .i64 20, .int .i64 i2, .int .i64 i3, .int .i64 i4, .int .i64 i5, .int .i64 i6, .int .i64 i7, .int .i64 i8, .int .i64 i9, .int .i64 i10, .int .i64 0, .slice bo bn bc] 30 (0, 0)) := by
    rw [← hW, Below.heap_alloc _ _ _ (by first | omega | (simp; omega))]
    have a_0 := HB.out.2.2.2.2.1
    have a_1 : (w1.setCell ⟨w.heap.size + 1, 1, none⟩ (.int .i64 20)).heap[w.heap.size + 1]? = some (.cells #[.int .i64 i0, .int .i64 20, .int .i64 i2, .int .i64 i3, .int .i64 i4, .int .i64 i5, .int .i64 i6, .int .i64 i7, .int .i64 i8, .int .i64 i9, .int .i64 i10, .int .i64 i11, .slice bo bn bc] 30 (0, 0)) := by rw [heap_setCell_self a_0]; rfl
    have a_2 : ((w1.setCell ⟨w.heap.size + 1, 1, none⟩ (.int .i64 20)).setCell ⟨w.heap.size + 1, 11, none⟩ (.int .i64 0)).heap[w.heap.size + 1]? = some (.cells #[.int .i64 i0, .int .i64 20, .int .i64 i2, .int .i64 i3, .int .i64 i4, .int .i64 i5, .int .i64 i6, .int .i64 i7, .int .i64 i8, .int .i64 i9, .int .i64 i10, .int .i64 0, .slice bo bn bc] 30 (0, 0)) := by rw [heap_setCell_self a_1]; rfl
    exact a_2
  have A2 := (KW.block (w.heap.size + 1 + 1) (by omega) (by omega)).trans HB.out.1
  have A3 := (KW.block (w.heap.size + 1 + 1 + 1) (by omega) (by omega)).trans HB.out.2.1
  have A4 := (KW.block (w.heap.size + 1 + 1 + 1 + 1) (by omega) (by omega)).trans HB.out.2.2.2.2.2
  have zz : w1.heap.size ≤ W.heap.size := KW.size
  have zn : n8 < W.heap.size := (Array.getElem?_eq_some_iff.1 A8).1
  have zw1 : w.heap.size + 1 < W.heap.size := by omega
  have zw2 : w.heap.size + 1 + 1 < W.heap.size := by omega
  have zw3 : w.heap.size + 1 + 1 + 1 < W.heap.size := by omega
  have zw4 : w.heap.size + 1 + 1 + 1 + 1 < W.heap.size := by omega
  have HW := Lib.hid (And.intro KW (And.intro A2 (And.intro A3 A4)))
  clear hW hn8 a0 a1 a2 a3 a4 a5 a6 a7 a8 a9 a10 a11 a12 af0 af1 af2 af3 af4 af5 af6 af7 af8 af9 af10 af11 af12
  obtain ⟨d0, d1, d2, df0, df1, df2, -⟩ := blk3 A8
  obtain ⟨⟨a0, a1, a2, a3, a4, a5, a6, a7, a8, a9, a10, a11, a12⟩, -⟩ := blk13 A1
  obtain ⟨b0, b1, b2, bf0, bf1, bf2, -⟩ := blk3 A2
  obtain ⟨⟨c0, c1, c2, c3, c4, c5, c6, c7, c8, c9, c10, c11, c12⟩, -⟩ := blk13 A3
  have cf0 := blkF A3 0; have cf1 := blkF A3 1; have cf2 := blkF A3 2; have cf3 := blkF A3 3; have cf4 := blkF A3 4; have cf5 := blkF A3 5; have cf6 := blkF A3 6; have cf7 := blkF A3 7; have cf8 := blkF A3 8; have cf9 := blkF A3 9; have cf10 := blkF A3 10; have cf11 := blkF A3 11; have cf12 := blkF A3 12
  obtain ⟨⟨g0, g1⟩, -⟩ := blk2c A4
  have gf0 := blkF A4 0
  have gf1 := blkF A4 1
  clear A8 A1 A2 A3 A4 KW
  go_region
  all_goals
    go_wp2
    generalize hw5 : World.setCell _ _ _ = w5
    have n1 : w.heap.size + 1 + 1 ≠ w.heap.size + 1 + 1 + 1 := by omega
    have n2 : w.heap.size + 1 + 1 ≠ w.heap.size + 1 + 1 + 1 + 1 := by omega
    have n3 : w.heap.size + 1 + 1 + 1 ≠ w.heap.size + 1 + 1 + 1 + 1 := by omega
    have D2 := HW.out.2.1
    have D3 := HW.out.2.2.1
    have D4 := HW.out.2.2.2
    have E := by first | (with_reducible exact res3_xyz D2 D3 D4 n1 n2 n3 _ hw5) | (with_reducible exact res3_xzy D2 D3 D4 n1 n2 n3 _ hw5) | (with_reducible exact res3_yxz D2 D3 D4 n1 n2 n3 _ hw5) | (with_reducible exact res3_yzx D2 D3 D4 n1 n2 n3 _ hw5) | (with_reducible exact res3_zxy D2 D3 D4 n1 n2 n3 _ hw5) | (with_reducible exact res3_zyx D2 D3 D4 n1 n2 n3 _ hw5)
    obtain ⟨E2, E3, E4, K5⟩ := E
    obtain ⟨⟨u0, u1⟩, -⟩ := blk2c E4
    obtain ⟨r0, r1', r2', -⟩ := blk3 E2
    obtain ⟨⟨s0, s1, s2, s3, s4, s5, s6, s7, s8, s9, s10, s11, s12⟩, -⟩ := blk13 E3
    have K1 : Kept (fun k => w.heap.size ≤ k ∧ k < w.heap.size + 5) w1 w5 := (HW.out.1.mono (fun k _ e => by omega)).step (K5 : Kept _ W w5) (fun i _ e => by omega)
    refine bodyPost_ret (v := .tuple #[.agg #[.int .i64 N, .slice ao' (cellSwap xs (0) (0) (wrap64 (i0 + 1))).length cap', .int .i64 (st + cntAt xs (0))], .agg #[.int .i64 i0, .int .i64 20, .int .i64 i2, .int .i64 i3, .int .i64 i4, .int .i64 i5, .int .i64 i6, .int .i64 i7, .int .i64 i8, .int .i64 i9, .int .i64 i10, .int .i64 0, .slice bo bn bc], .agg #[.int .u8 0, .int .i32 0], .bool false]) (by simp [results, Try.results21, go_sem, r0, r1', r2', s0, s1, s2, s3, s4, s5, s6, s7, s8, s9, s10, s11, s12, u0, u1]) rfl ⟨_, _, rfl, ?_, HQ.out.1, ?_⟩
    · have R5 := HB.out.2.2.2.1.kept K1 HQ.out.2
      first | exact R5 | exact R5.below (Below.refl _ _).drew
    · have W5 := HB.out.2.2.1.trans (K1.below (by have := HB.out.2.2.1.size; omega) (fun k hk e => by omega))
      first | exact W5 | exact W5.drew

set_option maxRecDepth 100000 in
set_option maxHeartbeats 8000000 in
theorem rStep13b (w : World) (v : Value) (q : Option Nat) (N st : Int) (xs : List Int) (i0 i2 i3 i4 i5 i6 i7 i8 i9 i10 i11 : Int) (bo : Option Addr) (bn bc : Nat) (h : RVal w v q N xs st) (hn : xs.length ≤ 1000000) (s0 : 0 ≤ st) (s1 : st < 1000000) (r1 : -9223372036854775808 ≤ i2) (r2 : i2 ≤ 9223372036854775807) (hs : swapIs xs 0 0 = false) :
    Calls Try.prog 21 #[v, .agg #[.int .i64 i0, .int .i64 13, .int .i64 i2, .int .i64 i3, .int .i64 i4, .int .i64 i5, .int .i64 i6, .int .i64 i7, .int .i64 i8, .int .i64 i9, .int .i64 i10, .int .i64 i11, .slice bo bn bc]] w fun e w' => ∃ v' q', e = .returned (.tuple #[v', .agg #[.int .i64 i0, .int .i64 11, .int .i64 i2, .int .i64 i3, .int .i64 i4, .int .i64 i5, .int .i64 i6, .int .i64 i7, .int .i64 i8, .int .i64 i9, .int .i64 i10, .int .i64 i11, .slice bo bn bc], .agg #[.int .u8 0, .int .i32 0], .bool false]) ∧ RVal w' v' q' N (cellSwap xs (0) (0) (wrap64 (i0 + 1))) (st + cntAt xs (0)) ∧ (q' = q ∨ ∀ k, q' = some k → w.heap.size ≤ k) ∧ Below w.heap.size w w' := by
  have hqlt : ∀ k, q = some k → k < w.heap.size := fun k e => by subst e; exact h.lt
  obtain ⟨ao, cap, rfl, -, -⟩ := h.open
  have H := Lib.hid (And.intro h hqlt)
  have HY := Lib.hid (hs)
  clear h hqlt hs
  go_enter Try.func21, Try.ntmps21
  go_wp2_with fail
  refine (rSwap_f (H.out.1.below (by go_grown)) (0) (0) (wrap64 (i0 + 1)) hn s0 (by omega)).mono ?_
  rintro e w1 ⟨v', q1, rfl, h1, hq1, hb1⟩
  rw [HY.out]
  have HQ := Lib.hid (show (q1 = q ∨ ∀ k, q1 = some k → w.heap.size ≤ k) ∧ (∀ k, q1 = some k → ¬ (w.heap.size ≤ k ∧ k < w.heap.size + 5)) from by
    have hz := H.out.2
    have hq2 : q1 = q ∨ ∀ k, q1 = some k → w.heap.size + 5 ≤ k := by
      rcases hq1 with rfl | hq
      · exact .inl rfl
      · exact .inr (fun k e => by have := hq k e; (try simp at this); omega)
    refine ⟨?_, fun k e => ?_⟩
    · rcases hq2 with rfl | hq
      · exact .inl rfl
      · exact .inr (fun k e => by have := hq k e; omega)
    · rcases hq2 with rfl | hq
      · have := hz k e; omega
      · have := hq k e; omega)
  clear hq1
  obtain ⟨ao', cap', rfl, -, -⟩ := h1.open
  have z1 : w.heap.size + 1 + 1 + 1 + 1 < w1.heap.size := by have := hb1.size; simp at this; omega
  have z11 : w.heap.size + 1 < w1.heap.size := by omega
  have z12 : w.heap.size + 1 + 1 < w1.heap.size := by omega
  have z13 : w.heap.size + 1 + 1 + 1 < w1.heap.size := by omega
  have BW : Below w.heap.size w w1 := Below.trans (by go_grown) (hb1.mono (by first | omega | (simp; omega) | (simp; done)))
  have B1 : w1.heap[w.heap.size + 1]? = some (.cells #[.int .i64 i0, .int .i64 13, .int .i64 i2, .int .i64 i3, .int .i64 i4, .int .i64 i5, .int .i64 i6, .int .i64 i7, .int .i64 i8, .int .i64 i9, .int .i64 i10, .int .i64 i11, .slice bo bn bc] 30 (0, 0)) := (hb1.block (w.heap.size + 1) (by first | omega | (simp; omega) | (simp; done))).trans (alloc5_heap _ _ _ _ _ _).1
  have B2 : w1.heap[w.heap.size + 1 + 1]? = some (.cells #[.int .i64 0, .slice none 0 0, .int .i64 0] 47 (0, 0)) := (hb1.block (w.heap.size + 1 + 1) (by first | omega | (simp; omega) | (simp; done))).trans (alloc5_heap _ _ _ _ _ _).2.1
  have B3 : w1.heap[w.heap.size + 1 + 1 + 1]? = some (.cells #[.int .i64 0, .int .i64 0, .int .i64 0, .int .i64 0, .int .i64 0, .int .i64 0, .int .i64 0, .int .i64 0, .int .i64 0, .int .i64 0, .int .i64 0, .int .i64 0, .slice none 0 0] 30 (0, 0)) := (hb1.block (w.heap.size + 1 + 1 + 1) (by first | omega | (simp; omega) | (simp; done))).trans (alloc5_heap _ _ _ _ _ _).2.2.1
  have B4 : w1.heap[w.heap.size + 1 + 1 + 1 + 1]? = some (.cells #[.int .u8 0, .int .i32 0] 25 (0, 0)) := (hb1.block (w.heap.size + 1 + 1 + 1 + 1) (by first | omega | (simp; omega) | (simp; done))).trans (alloc5_heap _ _ _ _ _ _).2.2.2
  obtain ⟨⟨a0, a1, a2, a3, a4, a5, a6, a7, a8, a9, a10, a11, a12⟩, -⟩ := blk13 B1
  have af0 := blkF B1 0; have af1 := blkF B1 1; have af2 := blkF B1 2; have af3 := blkF B1 3; have af4 := blkF B1 4; have af5 := blkF B1 5; have af6 := blkF B1 6; have af7 := blkF B1 7; have af8 := blkF B1 8; have af9 := blkF B1 9; have af10 := blkF B1 10; have af11 := blkF B1 11; have af12 := blkF B1 12
  have HB := Lib.hid (And.intro B2 (And.intro B3 (And.intro BW (And.intro h1 (And.intro B1 B4)))))
  clear B1 B2 B3 B4 BW h1 hb1
  go_wp2_with fail
  refine (rFirst_p _ 20 11 11 _ (by decide)).mono ?_
  rintro e w' ⟨rfl, rfl⟩
  go_wp2_with fail
  generalize hn8 : w1.heap.size = n8
  generalize hW : World.alloc _ _ = W
  have A8 : W.heap[n8]? = some (.cells #[.int .i64 N, .slice ao' (cellSwap xs (0) (0) (wrap64 (i0 + 1))).length cap', .int .i64 (st + cntAt xs (0))] 47 (0, 0)) := by rw [← hW, ← hn8]; exact alloc_at (by simp) _
  have KW : Kept (fun k => k = w.heap.size + 1) w1 W := by rw [← hW]; exact ((Kept.refl (fun k => k = w.heap.size + 1) w1).setCell (p := ⟨w.heap.size + 1, 1, none⟩) (fun _ => rfl) _).alloc _
  have A1 : W.heap[w.heap.size + 1]? = some (.cells #[.int .i64 i0, .int .i64 11, .int .i64 i2, .int .i64 i3, .int .i64 i4, .int .i64 i5, .int .i64 i6, .int .i64 i7, .int .i64 i8, .int .i64 i9, .int .i64 i10, .int .i64 i11, .slice bo bn bc] 30 (0, 0)) := by
    rw [← hW, Below.heap_alloc _ _ _ (by first | omega | (simp; omega))]
    have a_0 := HB.out.2.2.2.2.1
    have a_1 : (w1.setCell ⟨w.heap.size + 1, 1, none⟩ (.int .i64 11)).heap[w.heap.size + 1]? = some (.cells #[.int .i64 i0, .int .i64 11, .int .i64 i2, .int .i64 i3, .int .i64 i4, .int .i64 i5, .int .i64 i6, .int .i64 i7, .int .i64 i8, .int .i64 i9, .int .i64 i10, .int .i64 i11, .slice bo bn bc] 30 (0, 0)) := by rw [heap_setCell_self a_0]; rfl
    exact a_1
  have A2 := (KW.block (w.heap.size + 1 + 1) (by omega) (by omega)).trans HB.out.1
  have A3 := (KW.block (w.heap.size + 1 + 1 + 1) (by omega) (by omega)).trans HB.out.2.1
  have A4 := (KW.block (w.heap.size + 1 + 1 + 1 + 1) (by omega) (by omega)).trans HB.out.2.2.2.2.2
  have zz : w1.heap.size ≤ W.heap.size := KW.size
  have zn : n8 < W.heap.size := (Array.getElem?_eq_some_iff.1 A8).1
  have zw1 : w.heap.size + 1 < W.heap.size := by omega
  have zw2 : w.heap.size + 1 + 1 < W.heap.size := by omega
  have zw3 : w.heap.size + 1 + 1 + 1 < W.heap.size := by omega
  have zw4 : w.heap.size + 1 + 1 + 1 + 1 < W.heap.size := by omega
  have HW := Lib.hid (And.intro KW (And.intro A2 (And.intro A3 A4)))
  clear hW hn8 a0 a1 a2 a3 a4 a5 a6 a7 a8 a9 a10 a11 a12 af0 af1 af2 af3 af4 af5 af6 af7 af8 af9 af10 af11 af12
  obtain ⟨d0, d1, d2, df0, df1, df2, -⟩ := blk3 A8
  obtain ⟨⟨a0, a1, a2, a3, a4, a5, a6, a7, a8, a9, a10, a11, a12⟩, -⟩ := blk13 A1
  obtain ⟨b0, b1, b2, bf0, bf1, bf2, -⟩ := blk3 A2
  obtain ⟨⟨c0, c1, c2, c3, c4, c5, c6, c7, c8, c9, c10, c11, c12⟩, -⟩ := blk13 A3
  have cf0 := blkF A3 0; have cf1 := blkF A3 1; have cf2 := blkF A3 2; have cf3 := blkF A3 3; have cf4 := blkF A3 4; have cf5 := blkF A3 5; have cf6 := blkF A3 6; have cf7 := blkF A3 7; have cf8 := blkF A3 8; have cf9 := blkF A3 9; have cf10 := blkF A3 10; have cf11 := blkF A3 11; have cf12 := blkF A3 12
  obtain ⟨⟨g0, g1⟩, -⟩ := blk2c A4
  have gf0 := blkF A4 0
  have gf1 := blkF A4 1
  clear A8 A1 A2 A3 A4 KW
  go_region
  all_goals
    go_wp2
    generalize hw5 : World.setCell _ _ _ = w5
    have n1 : w.heap.size + 1 + 1 ≠ w.heap.size + 1 + 1 + 1 := by omega
    have n2 : w.heap.size + 1 + 1 ≠ w.heap.size + 1 + 1 + 1 + 1 := by omega
    have n3 : w.heap.size + 1 + 1 + 1 ≠ w.heap.size + 1 + 1 + 1 + 1 := by omega
    have D2 := HW.out.2.1
    have D3 := HW.out.2.2.1
    have D4 := HW.out.2.2.2
    have E := by first | (with_reducible exact res3_xyz D2 D3 D4 n1 n2 n3 _ hw5) | (with_reducible exact res3_xzy D2 D3 D4 n1 n2 n3 _ hw5) | (with_reducible exact res3_yxz D2 D3 D4 n1 n2 n3 _ hw5) | (with_reducible exact res3_yzx D2 D3 D4 n1 n2 n3 _ hw5) | (with_reducible exact res3_zxy D2 D3 D4 n1 n2 n3 _ hw5) | (with_reducible exact res3_zyx D2 D3 D4 n1 n2 n3 _ hw5)
    obtain ⟨E2, E3, E4, K5⟩ := E
    obtain ⟨⟨u0, u1⟩, -⟩ := blk2c E4
    obtain ⟨r0, r1', r2', -⟩ := blk3 E2
    obtain ⟨⟨s0, s1, s2, s3, s4, s5, s6, s7, s8, s9, s10, s11, s12⟩, -⟩ := blk13 E3
    have K1 : Kept (fun k => w.heap.size ≤ k ∧ k < w.heap.size + 5) w1 w5 := (HW.out.1.mono (fun k _ e => by omega)).step (K5 : Kept _ W w5) (fun i _ e => by omega)
    refine bodyPost_ret (v := .tuple #[.agg #[.int .i64 N, .slice ao' (cellSwap xs (0) (0) (wrap64 (i0 + 1))).length cap', .int .i64 (st + cntAt xs (0))], .agg #[.int .i64 i0, .int .i64 11, .int .i64 i2, .int .i64 i3, .int .i64 i4, .int .i64 i5, .int .i64 i6, .int .i64 i7, .int .i64 i8, .int .i64 i9, .int .i64 i10, .int .i64 i11, .slice bo bn bc], .agg #[.int .u8 0, .int .i32 0], .bool false]) (by simp [results, Try.results21, go_sem, r0, r1', r2', s0, s1, s2, s3, s4, s5, s6, s7, s8, s9, s10, s11, s12, u0, u1]) rfl ⟨_, _, rfl, ?_, HQ.out.1, ?_⟩
    · have R5 := HB.out.2.2.2.1.kept K1 HQ.out.2
      first | exact R5 | exact R5.below (Below.refl _ _).drew
    · have W5 := HB.out.2.2.1.trans (K1.below (by have := HB.out.2.2.1.size; omega) (fun k hk e => by omega))
      first | exact W5 | exact W5.drew

end Go.Proofs.Ytcellcjojfbajaa
