/- The reference of layer 17: Step. -/
import Derived.Test.YthdhilmmcabnlaaThr4
import Derived.Test.YthdhilmmcabnlaaRef17A
import Derived.Deep.RegionWith
import Derived.Deep.CutRange
import Derived.Deep.Cut
namespace Go.Proofs.Ythdhilmmcabnlaa
set_option linter.unusedSimpArgs false
set_option linter.unusedVariables false
open Go.RowKit
open Go.ChangeShapes Go.WideShapes Go.ChangeAt

set_option maxRecDepth 100000 in
set_option maxHeartbeats 8000000 in
theorem rStep17_44a (w : World) (v : Value) (q : Option Nat) (N st : Int) (xs : List Int) (i0 i2 i3 i4 i5 i6 i7 i8 i9 i10 i11 : Int) (bo : Option Addr) (bn bc : Nat) (age : Int) (h : RVal w v q N xs st) (hn : xs.length ≤ 1000000) (s0 : 0 ≤ st) (s1 : st < 1000000) (hs : swapIs xs i6 0 = true) :
    Calls Try.prog 28 #[v, .int .i64 age, .agg #[.int .i64 i0, .int .i64 44, .int .i64 i2, .int .i64 i3, .int .i64 i4, .int .i64 i5, .int .i64 i6, .int .i64 i7, .int .i64 i8, .int .i64 i9, .int .i64 i10, .int .i64 i11, .slice bo bn bc]] w fun e w' => ∃ v' q', e = .returned (.tuple #[v', .agg #[.int .i64 i0, .int .i64 45, .int .i64 i2, .int .i64 i3, .int .i64 i4, .int .i64 i5, .int .i64 i6, .int .i64 i7, .int .i64 i8, .int .i64 i9, .int .i64 i10, .int .i64 i11, .slice bo bn bc]]) ∧ RVal w' v' q' N (cellSwap xs i6 0 (-1)) (st + cntAt xs i6) ∧ (q' = q ∨ ∀ k, q' = some k → w.heap.size ≤ k) ∧ Below w.heap.size w w' := by
  have hqlt : ∀ k, q = some k → k < w.heap.size := fun k e => by subst e; exact h.lt
  obtain ⟨ao, cap, rfl, -, -⟩ := h.open
  have H := Lib.hid (And.intro h hqlt)
  have Hs := Lib.hid hs
  clear h hqlt hs
  go_enter Try.func28, Try.ntmps28
  go_wp2_with fail
  refine (rSwap_f (H.out.1.below (by go_grown)) i6 0 (-1) hn s0 (by omega)).mono ?_
  rintro e w1 ⟨v', q1, rfl, h1, hq1, hb1⟩
  rw [Hs.out]
  have HQ := Lib.hid (show (q1 = q ∨ ∀ k, q1 = some k → w.heap.size ≤ k) ∧ (∀ k, q1 = some k → ¬ (w.heap.size ≤ k ∧ k < w.heap.size + 5)) from by
    have hz := H.out.2
    have hq2 : q1 = q ∨ ∀ k, q1 = some k → w.heap.size + 5 ≤ k := by
      rcases hq1 with rfl | hq
      · exact .inl rfl
      · exact .inr (fun k e => by have := hq k e; simp at this; omega)
    refine ⟨?_, fun k e => ?_⟩
    · rcases hq2 with rfl | hq
      · exact .inl rfl
      · exact .inr (fun k e => by have := hq k e; omega)
    · rcases hq2 with rfl | hq
      · have := hz k e; omega
      · have := hq k e; omega)
  clear hq1
  obtain ⟨ao', cap', rfl, -, -⟩ := h1.open
  have z1 : w.heap.size + 1 + 1 + 1 + 1 < w1.heap.size := by have := hb1.size; simp at this; omega
  have z1a : w.heap.size + 1 < w1.heap.size := by omega
  have z1b : w.heap.size + 1 + 1 < w1.heap.size := by omega
  have z1c : w.heap.size + 1 + 1 + 1 < w1.heap.size := by omega
  have BW : Below w.heap.size w w1 := Below.trans (by go_grown) (hb1.mono (by first | omega | (simp; omega) | (simp; done)))
  have B1 : w1.heap[w.heap.size + 1]? = some (.cells #[.int .i64 i0, .int .i64 44, .int .i64 i2, .int .i64 i3, .int .i64 i4, .int .i64 i5, .int .i64 i6, .int .i64 i7, .int .i64 i8, .int .i64 i9, .int .i64 i10, .int .i64 i11, .slice bo bn bc] 39 (0, 0)) := (hb1.block (w.heap.size + 1) (by first | omega | (simp; omega) | (simp; done))).trans (alloc5_heap _ _ _ _ _ _).1
  have B2 : w1.heap[w.heap.size + 1 + 1]? = some (.cells #[.int .i64 0, .slice none 0 0, .int .i64 0] 33 (0, 0)) := (hb1.block (w.heap.size + 1 + 1) (by first | omega | (simp; omega) | (simp; done))).trans (alloc5_heap _ _ _ _ _ _).2.1
  have B3 : w1.heap[w.heap.size + 1 + 1 + 1]? = some (.cells #[.int .i64 0, .int .i64 0, .int .i64 0, .int .i64 0, .int .i64 0, .int .i64 0, .int .i64 0, .int .i64 0, .int .i64 0, .int .i64 0, .int .i64 0, .int .i64 0, .slice none 0 0] 39 (0, 0)) := (hb1.block (w.heap.size + 1 + 1 + 1) (by first | omega | (simp; omega) | (simp; done))).trans (alloc5_heap _ _ _ _ _ _).2.2.1
  have B4 : w1.heap[w.heap.size + 1 + 1 + 1 + 1]? = some (.cells #[.int .i64 N, .slice ao xs.length cap, .int .i64 st] 33 (0, 0)) := (hb1.block (w.heap.size + 1 + 1 + 1 + 1) (by first | omega | (simp; omega) | (simp; done))).trans (alloc5_heap _ _ _ _ _ _).2.2.2
  obtain ⟨⟨a0, a1, a2, a3, a4, a5, a6, a7, a8, a9, a10, a11, a12⟩, -⟩ := blk13 B1
  have af0 := blkF B1 0; have af1 := blkF B1 1; have af2 := blkF B1 2; have af3 := blkF B1 3; have af4 := blkF B1 4; have af5 := blkF B1 5; have af6 := blkF B1 6; have af7 := blkF B1 7; have af8 := blkF B1 8; have af9 := blkF B1 9; have af10 := blkF B1 10; have af11 := blkF B1 11; have af12 := blkF B1 12
  obtain ⟨d0, d1, d2, df0, df1, df2, -⟩ := blk3 B4
  have HB := Lib.hid (And.intro B2 (And.intro B3 (And.intro BW (And.intro h1 (And.intro B1 B4)))))
  clear B1 B2 B3 B4 BW h1 hb1
  go_wp2_with fail
  generalize hW : World.alloc _ _ = W
  have q4 : (((w1.setCell ⟨w.heap.size + 1 + 1 + 1 + 1, 0, none⟩ (.int .i64 N)).setCell ⟨w.heap.size + 1 + 1 + 1 + 1, 1, none⟩ (.slice ao' (cellSwap xs i6 0 (-1)).length cap')).setCell ⟨w.heap.size + 1 + 1 + 1 + 1, 2, none⟩ (.int .i64 (st + cntAt xs i6))).heap[w.heap.size + 1 + 1 + 1 + 1]? = some (.cells #[.int .i64 N, .slice ao' (cellSwap xs i6 0 (-1)).length cap', .int .i64 (st + cntAt xs i6)] 33 (0, 0)) := set3 HB.out.2.2.2.2.2 rfl
  have q1a : (((w1.setCell ⟨w.heap.size + 1 + 1 + 1 + 1, 0, none⟩ (.int .i64 N)).setCell ⟨w.heap.size + 1 + 1 + 1 + 1, 1, none⟩ (.slice ao' (cellSwap xs i6 0 (-1)).length cap')).setCell ⟨w.heap.size + 1 + 1 + 1 + 1, 2, none⟩ (.int .i64 (st + cntAt xs i6))).heap[w.heap.size + 1]? = _ := ((kept_set3 w1 (w.heap.size + 1 + 1 + 1 + 1) _ _ _).block (w.heap.size + 1) z1a (by omega)).trans HB.out.2.2.2.2.1
  have AW4 : W.heap[w.heap.size + 1 + 1 + 1 + 1]? = some (.cells #[.int .i64 N, .slice ao' (cellSwap xs i6 0 (-1)).length cap', .int .i64 (st + cntAt xs i6)] 33 (0, 0)) := by
    rw [← hW, Below.heap_alloc _ _ _ (by simp; omega), Below.heap_setCell _ _ _ _ (by simp; try omega)]; exact q4
  have AW1 : W.heap[w.heap.size + 1]? = some (.cells #[.int .i64 i0, .int .i64 45, .int .i64 i2, .int .i64 i3, .int .i64 i4, .int .i64 i5, .int .i64 i6, .int .i64 i7, .int .i64 i8, .int .i64 i9, .int .i64 i10, .int .i64 i11, .slice bo bn bc] 39 (0, 0)) := by
    rw [← hW, Below.heap_alloc _ _ _ (by simp; omega), heap_setCell_self q1a]; rfl
  have KW : Kept (fun k => k = w.heap.size + 1 ∨ k = w.heap.size + 1 + 1 + 1 + 1) w1 W := by
    rw [← hW]
    refine Kept.alloc ?_ _
    exact (((((Kept.refl (fun k => k = w.heap.size + 1 ∨ k = w.heap.size + 1 + 1 + 1 + 1) w1).setCell (p := ⟨w.heap.size + 1 + 1 + 1 + 1, 0, none⟩) (fun _ => .inr rfl) _).setCell (p := ⟨w.heap.size + 1 + 1 + 1 + 1, 1, none⟩) (fun _ => .inr rfl) _).setCell (p := ⟨w.heap.size + 1 + 1 + 1 + 1, 2, none⟩) (fun _ => .inr rfl) _).setCell (p := ⟨w.heap.size + 1, 1, none⟩) (fun _ => .inl rfl) _)
  clear q4 q1a hW a0 a1 a2 a3 a4 a5 a6 a7 a8 a9 a10 a11 a12 af0 af1 af2 af3 af4 af5 af6 af7 af8 af9 af10 af11 af12 d0 d1 d2 df0 df1 df2
  have A2 := (KW.block (w.heap.size + 1 + 1) z1b (by omega)).trans HB.out.1
  have A3 := (KW.block (w.heap.size + 1 + 1 + 1) z1c (by omega)).trans HB.out.2.1
  have zz : w1.heap.size ≤ W.heap.size := KW.size
  have z3 : w.heap.size + 1 + 1 + 1 < W.heap.size := by omega
  have z2 : w.heap.size + 1 + 1 < W.heap.size := by omega
  have z4 : w.heap.size + 1 + 1 + 1 + 1 < W.heap.size := by omega
  have zr1 : w.heap.size + 1 < W.heap.size := by omega
  have HW := Lib.hid (And.intro KW (And.intro A2 A3))
  obtain ⟨d0, d1, d2, df0, df1, df2, -⟩ := blk3 AW4
  obtain ⟨⟨a0, a1, a2, a3, a4, a5, a6, a7, a8, a9, a10, a11, a12⟩, -⟩ := blk13 AW1
  obtain ⟨b0, b1, b2, bf0, bf1, bf2, -⟩ := blk3 A2
  obtain ⟨⟨c0, c1, c2, c3, c4, c5, c6, c7, c8, c9, c10, c11, c12⟩, -⟩ := blk13 A3
  have cf0 := blkF A3 0; have cf1 := blkF A3 1; have cf2 := blkF A3 2; have cf3 := blkF A3 3; have cf4 := blkF A3 4; have cf5 := blkF A3 5; have cf6 := blkF A3 6; have cf7 := blkF A3 7; have cf8 := blkF A3 8; have cf9 := blkF A3 9; have cf10 := blkF A3 10; have cf11 := blkF A3 11; have cf12 := blkF A3 12
  clear AW4 AW1 A2 A3 KW
  go_region
  all_goals
    go_wp2
    generalize hw5 : World.setCell _ _ _ = w5
    have ne : w.heap.size + 1 + 1 ≠ w.heap.size + 1 + 1 + 1 := by omega
    have D2 := HW.out.2.1
    have D3 := HW.out.2.2
    have E := by first | (with_reducible exact res2a D2 D3 ne _ hw5) | (with_reducible exact res2b D2 D3 ne _ hw5)
    obtain ⟨E2, E3, K5⟩ := E
    obtain ⟨r0, r1, r2, -⟩ := blk3 E2
    obtain ⟨⟨s0, s1, s2, s3, s4, s5, s6, s7, s8, s9, s10, s11, s12⟩, -⟩ := blk13 E3
    have K1 : Kept (fun k => w.heap.size ≤ k ∧ k < w.heap.size + 5) w1 w5 := (HW.out.1.mono (fun k _ e => by omega)).step (K5 : Kept _ W w5) (fun i _ e => by omega)
    refine bodyPost_ret (v := .tuple #[.agg #[.int .i64 N, .slice ao' (cellSwap xs i6 0 (-1)).length cap', .int .i64 (st + cntAt xs i6)], .agg #[.int .i64 i0, .int .i64 45, .int .i64 i2, .int .i64 i3, .int .i64 i4, .int .i64 i5, .int .i64 i6, .int .i64 i7, .int .i64 i8, .int .i64 i9, .int .i64 i10, .int .i64 i11, .slice bo bn bc]]) (by simp [results, Try.results28, go_sem, r0, r1, r2, s0, s1, s2, s3, s4, s5, s6, s7, s8, s9, s10, s11, s12]) rfl ⟨_, _, rfl, ?_, HQ.out.1, ?_⟩
    · have R5 := HB.out.2.2.2.1.kept K1 HQ.out.2
      first | exact R5 | exact R5.below (Below.refl _ _).drew
    · have W5 := HB.out.2.2.1.trans (K1.below (by have := HB.out.2.2.1.size; omega) (fun k hk e => by omega))
      first | exact W5 | exact W5.drew

set_option maxRecDepth 100000 in
set_option maxHeartbeats 8000000 in
theorem rStep17_44b (w : World) (v : Value) (q : Option Nat) (N st : Int) (xs : List Int) (i0 i2 i3 i4 i5 i6 i7 i8 i9 i10 i11 : Int) (bo : Option Addr) (bn bc : Nat) (age : Int) (h : RVal w v q N xs st) (hn : xs.length ≤ 1000000) (s0 : 0 ≤ st) (s1 : st < 1000000) (hs : swapIs xs i6 0 = false) :
    Calls Try.prog 28 #[v, .int .i64 age, .agg #[.int .i64 i0, .int .i64 44, .int .i64 i2, .int .i64 i3, .int .i64 i4, .int .i64 i5, .int .i64 i6, .int .i64 i7, .int .i64 i8, .int .i64 i9, .int .i64 i10, .int .i64 i11, .slice bo bn bc]] w fun e w' => ∃ v' q', e = .returned (.tuple #[v', .agg #[.int .i64 i0, .int .i64 41, .int .i64 i2, .int .i64 i3, .int .i64 i4, .int .i64 i5, .int .i64 i6, .int .i64 i6, .int .i64 i8, .int .i64 i9, .int .i64 i10, .int .i64 i11, .slice bo bn bc]]) ∧ RVal w' v' q' N (cellSwap xs i6 0 (-1)) (st + cntAt xs i6) ∧ (q' = q ∨ ∀ k, q' = some k → w.heap.size ≤ k) ∧ Below w.heap.size w w' := by
  have hqlt : ∀ k, q = some k → k < w.heap.size := fun k e => by subst e; exact h.lt
  obtain ⟨ao, cap, rfl, -, -⟩ := h.open
  have H := Lib.hid (And.intro h hqlt)
  have Hs := Lib.hid hs
  clear h hqlt hs
  go_enter Try.func28, Try.ntmps28
  go_wp2_with fail
  refine (rSwap_f (H.out.1.below (by go_grown)) i6 0 (-1) hn s0 (by omega)).mono ?_
  rintro e w1 ⟨v', q1, rfl, h1, hq1, hb1⟩
  rw [Hs.out]
  have HQ := Lib.hid (show (q1 = q ∨ ∀ k, q1 = some k → w.heap.size ≤ k) ∧ (∀ k, q1 = some k → ¬ (w.heap.size ≤ k ∧ k < w.heap.size + 5)) from by
    have hz := H.out.2
    have hq2 : q1 = q ∨ ∀ k, q1 = some k → w.heap.size + 5 ≤ k := by
      rcases hq1 with rfl | hq
      · exact .inl rfl
      · exact .inr (fun k e => by have := hq k e; simp at this; omega)
    refine ⟨?_, fun k e => ?_⟩
    · rcases hq2 with rfl | hq
      · exact .inl rfl
      · exact .inr (fun k e => by have := hq k e; omega)
    · rcases hq2 with rfl | hq
      · have := hz k e; omega
      · have := hq k e; omega)
  clear hq1
  obtain ⟨ao', cap', rfl, -, -⟩ := h1.open
  have z1 : w.heap.size + 1 + 1 + 1 + 1 < w1.heap.size := by have := hb1.size; simp at this; omega
  have z1a : w.heap.size + 1 < w1.heap.size := by omega
  have z1b : w.heap.size + 1 + 1 < w1.heap.size := by omega
  have z1c : w.heap.size + 1 + 1 + 1 < w1.heap.size := by omega
  have BW : Below w.heap.size w w1 := Below.trans (by go_grown) (hb1.mono (by first | omega | (simp; omega) | (simp; done)))
  have B1 : w1.heap[w.heap.size + 1]? = some (.cells #[.int .i64 i0, .int .i64 44, .int .i64 i2, .int .i64 i3, .int .i64 i4, .int .i64 i5, .int .i64 i6, .int .i64 i7, .int .i64 i8, .int .i64 i9, .int .i64 i10, .int .i64 i11, .slice bo bn bc] 39 (0, 0)) := (hb1.block (w.heap.size + 1) (by first | omega | (simp; omega) | (simp; done))).trans (alloc5_heap _ _ _ _ _ _).1
  have B2 : w1.heap[w.heap.size + 1 + 1]? = some (.cells #[.int .i64 0, .slice none 0 0, .int .i64 0] 33 (0, 0)) := (hb1.block (w.heap.size + 1 + 1) (by first | omega | (simp; omega) | (simp; done))).trans (alloc5_heap _ _ _ _ _ _).2.1
  have B3 : w1.heap[w.heap.size + 1 + 1 + 1]? = some (.cells #[.int .i64 0, .int .i64 0, .int .i64 0, .int .i64 0, .int .i64 0, .int .i64 0, .int .i64 0, .int .i64 0, .int .i64 0, .int .i64 0, .int .i64 0, .int .i64 0, .slice none 0 0] 39 (0, 0)) := (hb1.block (w.heap.size + 1 + 1 + 1) (by first | omega | (simp; omega) | (simp; done))).trans (alloc5_heap _ _ _ _ _ _).2.2.1
  have B4 : w1.heap[w.heap.size + 1 + 1 + 1 + 1]? = some (.cells #[.int .i64 N, .slice ao xs.length cap, .int .i64 st] 33 (0, 0)) := (hb1.block (w.heap.size + 1 + 1 + 1 + 1) (by first | omega | (simp; omega) | (simp; done))).trans (alloc5_heap _ _ _ _ _ _).2.2.2
  obtain ⟨⟨a0, a1, a2, a3, a4, a5, a6, a7, a8, a9, a10, a11, a12⟩, -⟩ := blk13 B1
  have af0 := blkF B1 0; have af1 := blkF B1 1; have af2 := blkF B1 2; have af3 := blkF B1 3; have af4 := blkF B1 4; have af5 := blkF B1 5; have af6 := blkF B1 6; have af7 := blkF B1 7; have af8 := blkF B1 8; have af9 := blkF B1 9; have af10 := blkF B1 10; have af11 := blkF B1 11; have af12 := blkF B1 12
  obtain ⟨d0, d1, d2, df0, df1, df2, -⟩ := blk3 B4
  have HB := Lib.hid (And.intro B2 (And.intro B3 (And.intro BW (And.intro h1 (And.intro B1 B4)))))
  clear B1 B2 B3 B4 BW h1 hb1
  go_wp2_with fail
  generalize hn8 : w1.heap.size = n8
  generalize hW : World.alloc _ _ = W
  have AA8 : W.heap[n8]? = some (.cells #[.int .i64 N, .slice ao' (cellSwap xs i6 0 (-1)).length cap', .int .i64 (st + cntAt xs i6)] 33 (0, 0)) := by rw [← hW]; exact alloc_at hn8 _
  have KW : Kept (fun _ => False) w1 W := by rw [← hW]; exact (Kept.refl (fun _ => False) w1).alloc _
  have A2 := (KW.block (w.heap.size + 1 + 1) z1b (fun h => h)).trans HB.out.1
  have A3 := (KW.block (w.heap.size + 1 + 1 + 1) z1c (fun h => h)).trans HB.out.2.1
  have A1 := (KW.block (w.heap.size + 1) z1a (fun h => h)).trans HB.out.2.2.2.2.1
  have zz : w1.heap.size ≤ W.heap.size := KW.size
  have z3 : w.heap.size + 1 + 1 + 1 < W.heap.size := by omega
  have z2 : w.heap.size + 1 + 1 < W.heap.size := by omega
  have z8 : n8 < W.heap.size := (Array.getElem?_eq_some_iff.1 AA8).1
  have HW := Lib.hid (And.intro KW (And.intro A2 (And.intro A3 (And.intro AA8 trivial))))
  clear hW a0 a1 a2 a3 a4 a5 a6 a7 a8 a9 a10 a11 a12 af0 af1 af2 af3 af4 af5 af6 af7 af8 af9 af10 af11 af12 d0 d1 d2 df0 df1 df2
  obtain ⟨d0, d1, d2, df0, df1, df2, -⟩ := blk3 AA8
  obtain ⟨⟨a0, a1, a2, a3, a4, a5, a6, a7, a8, a9, a10, a11, a12⟩, -⟩ := blk13 A1
  obtain ⟨b0, b1, b2, bf0, bf1, bf2, -⟩ := blk3 A2
  obtain ⟨⟨c0, c1, c2, c3, c4, c5, c6, c7, c8, c9, c10, c11, c12⟩, -⟩ := blk13 A3
  have cf0 := blkF A3 0; have cf1 := blkF A3 1; have cf2 := blkF A3 2; have cf3 := blkF A3 3; have cf4 := blkF A3 4; have cf5 := blkF A3 5; have cf6 := blkF A3 6; have cf7 := blkF A3 7; have cf8 := blkF A3 8; have cf9 := blkF A3 9; have cf10 := blkF A3 10; have cf11 := blkF A3 11; have cf12 := blkF A3 12
  clear AA8 A1 A2 A3 KW
  go_region_with (
     go_at_call 50
     refine (rBy17_any _ i0 44 i2 i3 i4 i5 i6 i7 i8 i9 i10 i11 bo bn bc).mono ?_
     rintro e w9 ⟨rfl, hb9⟩
     first
      | (have K9 : Kept (fun k => k = w.heap.size + 1 + 1 ∨ k = w.heap.size + 1 + 1 + 1) W w9 := by
           with_reducible exact ((Kept.refl (fun k => k = w.heap.size + 1 + 1 ∨ k = w.heap.size + 1 + 1 + 1) W).drew).trans (keptF hb9)
         have F2 : w9.heap[w.heap.size + 1 + 1]? = some (.cells #[.int .i64 0, .slice none 0 0, .int .i64 0] 33 (0, 0)) := (hb9.block (w.heap.size + 1 + 1) z2).trans HW.out.2.1
         have F3 : w9.heap[w.heap.size + 1 + 1 + 1]? = some (.cells #[.int .i64 0, .int .i64 0, .int .i64 0, .int .i64 0, .int .i64 0, .int .i64 0, .int .i64 0, .int .i64 0, .int .i64 0, .int .i64 0, .int .i64 0, .int .i64 0, .slice none 0 0] 39 (0, 0)) := (hb9.block (w.heap.size + 1 + 1 + 1) z3).trans HW.out.2.2.1
         have F8 : w9.heap[n8]? = some (.cells #[.int .i64 N, .slice ao' (cellSwap xs i6 0 (-1)).length cap', .int .i64 (st + cntAt xs i6)] 33 (0, 0)) := (hb9.block n8 z8).trans HW.out.2.2.2.1
         obtain ⟨l0, l1, l2, -⟩ := blk3 F8
         have y8 : n8 < w9.heap.size := (Array.getElem?_eq_some_iff.1 F8).1
         obtain ⟨e0, e1, e2, ef0, ef1, ef2, -⟩ := blk3 F2
         obtain ⟨⟨g0, g1, g2, g3, g4, g5, g6, g7, g8, g9, g10, g11, g12⟩, -⟩ := blk13 F3
         have gf0 := blkF F3 0
         have gf1 := blkF F3 1
         have gf2 := blkF F3 2
         have gf3 := blkF F3 3
         have gf4 := blkF F3 4
         have gf5 := blkF F3 5
         have gf6 := blkF F3 6
         have gf7 := blkF F3 7
         have gf8 := blkF F3 8
         have gf9 := blkF F3 9
         have gf10 := blkF F3 10
         have gf11 := blkF F3 11
         have gf12 := blkF F3 12
         have y2 : w.heap.size + 1 + 1 < w9.heap.size := (Array.getElem?_eq_some_iff.1 F2).1
         have y3 : w.heap.size + 1 + 1 + 1 < w9.heap.size := (Array.getElem?_eq_some_iff.1 F3).1
         have HX := Lib.hid (And.intro K9 (And.intro F2 F3))
         clear K9 F2 F3 F8 hb9)
      | (have K9 : Kept (fun k => k = w.heap.size + 1 + 1 ∨ k = w.heap.size + 1 + 1 + 1) W w9 := by
           with_reducible exact (((((Kept.refl (fun k => k = w.heap.size + 1 + 1 ∨ k = w.heap.size + 1 + 1 + 1) W).drew).setCell (p := ⟨w.heap.size + 1 + 1, 0, none⟩) (fun _ => .inl rfl) _).setCell (p := ⟨w.heap.size + 1 + 1, 1, none⟩) (fun _ => .inl rfl) _).setCell (p := ⟨w.heap.size + 1 + 1, 2, none⟩) (fun _ => .inl rfl) _).trans (keptF hb9)
         have F2 : w9.heap[w.heap.size + 1 + 1]? = some (.cells #[.int .i64 N, .slice ao' (cellSwap xs i6 0 (-1)).length cap', .int .i64 (st + cntAt xs i6)] 33 (0, 0)) := (hb9.block (w.heap.size + 1 + 1) (by simp; omega)).trans (set3 HW.out.2.1 rfl)
         have F3 : w9.heap[w.heap.size + 1 + 1 + 1]? = some (.cells #[.int .i64 0, .int .i64 0, .int .i64 0, .int .i64 0, .int .i64 0, .int .i64 0, .int .i64 0, .int .i64 0, .int .i64 0, .int .i64 0, .int .i64 0, .int .i64 0, .slice none 0 0] 39 (0, 0)) := (hb9.block (w.heap.size + 1 + 1 + 1) (by simp; omega)).trans (((kept_set3 _ (w.heap.size + 1 + 1) _ _ _).block (w.heap.size + 1 + 1 + 1) z3 (by omega)).trans HW.out.2.2.1)
         obtain ⟨e0, e1, e2, ef0, ef1, ef2, -⟩ := blk3 F2
         obtain ⟨⟨g0, g1, g2, g3, g4, g5, g6, g7, g8, g9, g10, g11, g12⟩, -⟩ := blk13 F3
         have gf0 := blkF F3 0
         have gf1 := blkF F3 1
         have gf2 := blkF F3 2
         have gf3 := blkF F3 3
         have gf4 := blkF F3 4
         have gf5 := blkF F3 5
         have gf6 := blkF F3 6
         have gf7 := blkF F3 7
         have gf8 := blkF F3 8
         have gf9 := blkF F3 9
         have gf10 := blkF F3 10
         have gf11 := blkF F3 11
         have gf12 := blkF F3 12
         have y2 : w.heap.size + 1 + 1 < w9.heap.size := (Array.getElem?_eq_some_iff.1 F2).1
         have y3 : w.heap.size + 1 + 1 + 1 < w9.heap.size := (Array.getElem?_eq_some_iff.1 F3).1
         have HX := Lib.hid (And.intro K9 (And.intro F2 F3))
         clear K9 F2 F3 hb9))
  all_goals
    go_wp2
    generalize hw5 : World.setCell _ _ _ = w5
    have ne : w.heap.size + 1 + 1 ≠ w.heap.size + 1 + 1 + 1 := by omega
    have D2 := HX.out.2.1
    have D3 := HX.out.2.2
    have E := by first | (with_reducible exact res1 D2 D3 ne _ hw5) | (with_reducible exact res2a D2 D3 ne _ hw5) | (with_reducible exact res2b D2 D3 ne _ hw5)
    obtain ⟨E2, E3, K5⟩ := E
    obtain ⟨r0, r1, r2, -⟩ := blk3 E2
    obtain ⟨⟨s0, s1, s2, s3, s4, s5, s6, s7, s8, s9, s10, s11, s12⟩, -⟩ := blk13 E3
    have K1 : Kept (fun k => w.heap.size ≤ k ∧ k < w.heap.size + 5) w1 w5 := ((HW.out.1.mono (fun k _ e => e.elim)).step (HX.out.1 : Kept _ W w9) (fun i _ e => by omega)).step K5 (fun i _ e => by omega)
    refine bodyPost_ret (v := .tuple #[.agg #[.int .i64 N, .slice ao' (cellSwap xs i6 0 (-1)).length cap', .int .i64 (st + cntAt xs i6)], .agg #[.int .i64 i0, .int .i64 41, .int .i64 i2, .int .i64 i3, .int .i64 i4, .int .i64 i5, .int .i64 i6, .int .i64 i6, .int .i64 i8, .int .i64 i9, .int .i64 i10, .int .i64 i11, .slice bo bn bc]]) (by simp [results, Try.results28, go_sem, r0, r1, r2, s0, s1, s2, s3, s4, s5, s6, s7, s8, s9, s10, s11, s12]) rfl ⟨_, _, rfl, ?_, HQ.out.1, ?_⟩
    · have R5 := HB.out.2.2.2.1.kept K1 HQ.out.2
      first | exact R5 | exact R5.below (Below.refl _ _).drew
    · have W5 := HB.out.2.2.1.trans (K1.below (by have := HB.out.2.2.1.size; omega) (fun k hk e => by omega))
      first | exact W5 | exact W5.drew

set_option maxRecDepth 100000 in
set_option maxHeartbeats 8000000 in
theorem rStep17_45 (w : World) (v : Value) (q : Option Nat) (N st : Int) (xs : List Int) (i0 i2 i3 i4 i5 i6 i7 i8 i9 i10 i11 : Int) (bo : Option Addr) (bn bc : Nat) (age : Int) (h : RVal w v q N xs st) (hn : xs.length ≤ 1000000) (s0 : 0 ≤ st) (s1 : st < 1000000) (a y : Int) (ha : wrap64 (i6 + 3) = a) (hy : cellAt xs a = y) :
    Calls Try.prog 28 #[v, .int .i64 age, .agg #[.int .i64 i0, .int .i64 45, .int .i64 i2, .int .i64 i3, .int .i64 i4, .int .i64 i5, .int .i64 i6, .int .i64 i7, .int .i64 i8, .int .i64 i9, .int .i64 i10, .int .i64 i11, .slice bo bn bc]] w fun e w' => ∃ v', e = .returned (.tuple #[v', .agg #[.int .i64 i0, .int .i64 46, .int .i64 i2, .int .i64 i3, .int .i64 i4, .int .i64 y, .int .i64 i6, .int .i64 i7, .int .i64 i8, .int .i64 i9, .int .i64 i10, .int .i64 i11, .slice bo bn bc]]) ∧ RVal w' v' q N (xs) (st + cntAt xs a) ∧ Below w.heap.size w w' := by
  have hqlt : ∀ k, q = some k → k < w.heap.size := fun k e => by subst e; exact h.lt
  obtain ⟨ao, cap, rfl, -, -⟩ := h.open
  have H := Lib.hid (And.intro h hqlt)
  have Hy := Lib.hid (And.intro ha hy)
  clear h hqlt ha hy
  go_enter Try.func28, Try.ntmps28
  go_wp2_with fail
  rw [Hy.out.1]
  refine (rLoad17_any _ _ q N st xs i0 45 i2 i3 i4 i5 i6 i7 i8 i9 i10 i11 bo bn bc a y (H.out.1.below (by go_grown)) Hy.out.2 s0 s1).mono ?_
  rintro e w1 ⟨v', rfl, h1, hb1⟩
  obtain ⟨ao', cap', rfl, -, -⟩ := h1.open
  have z1 : w.heap.size + 1 + 1 + 1 + 1 < w1.heap.size := by have := hb1.size; simp at this; omega
  have z1a : w.heap.size + 1 < w1.heap.size := by omega
  have z1b : w.heap.size + 1 + 1 < w1.heap.size := by omega
  have z1c : w.heap.size + 1 + 1 + 1 < w1.heap.size := by omega
  have BW : Below w.heap.size w w1 := Below.trans (by go_grown) (hb1.mono (by first | omega | (simp; omega) | (simp; done)))
  have B1 : w1.heap[w.heap.size + 1]? = some (.cells #[.int .i64 i0, .int .i64 45, .int .i64 i2, .int .i64 i3, .int .i64 i4, .int .i64 i5, .int .i64 i6, .int .i64 i7, .int .i64 i8, .int .i64 i9, .int .i64 i10, .int .i64 i11, .slice bo bn bc] 39 (0, 0)) := (hb1.block (w.heap.size + 1) (by first | omega | (simp; omega) | (simp; done))).trans (alloc5_heap _ _ _ _ _ _).1
  have B2 : w1.heap[w.heap.size + 1 + 1]? = some (.cells #[.int .i64 0, .slice none 0 0, .int .i64 0] 33 (0, 0)) := (hb1.block (w.heap.size + 1 + 1) (by first | omega | (simp; omega) | (simp; done))).trans (alloc5_heap _ _ _ _ _ _).2.1
  have B3 : w1.heap[w.heap.size + 1 + 1 + 1]? = some (.cells #[.int .i64 0, .int .i64 0, .int .i64 0, .int .i64 0, .int .i64 0, .int .i64 0, .int .i64 0, .int .i64 0, .int .i64 0, .int .i64 0, .int .i64 0, .int .i64 0, .slice none 0 0] 39 (0, 0)) := (hb1.block (w.heap.size + 1 + 1 + 1) (by first | omega | (simp; omega) | (simp; done))).trans (alloc5_heap _ _ _ _ _ _).2.2.1
  have B4 : w1.heap[w.heap.size + 1 + 1 + 1 + 1]? = some (.cells #[.int .i64 N, .slice ao xs.length cap, .int .i64 st] 33 (0, 0)) := (hb1.block (w.heap.size + 1 + 1 + 1 + 1) (by first | omega | (simp; omega) | (simp; done))).trans (alloc5_heap _ _ _ _ _ _).2.2.2
  have HB := Lib.hid (And.intro B2 (And.intro B3 (And.intro BW (And.intro h1 (And.intro B1 B4)))))
  clear B1 B2 B3 B4 BW h1 hb1
  go_upto_region 17 with fail
  generalize hn8 : w1.heap.size = n8
  generalize hW1 : World.alloc _ _ = W1
  have AA : W1.heap[n8]? = some (.cells #[.int .i64 N, .slice ao' xs.length cap', .int .i64 (st + cntAt xs a)] 33 (0, 0)) ∧ W1.heap[n8 + 1]? = some (.cells #[.int .i64 i0, .int .i64 45, .int .i64 i2, .int .i64 i3, .int .i64 i4, .int .i64 y, .int .i64 i6, .int .i64 i7, .int .i64 i8, .int .i64 i9, .int .i64 i10, .int .i64 i11, .slice bo bn bc] 39 (0, 0)) := by rw [← hW1]; exact alloc2_at hn8 _ _
  have K1 : Kept (fun _ => False) w1 W1 := by rw [← hW1]; exact ((Kept.refl (fun _ => False) w1).alloc _).alloc _
  have A1 := (K1.block (w.heap.size + 1) z1a (fun h => h)).trans HB.out.2.2.2.2.1
  have A4 := (K1.block (w.heap.size + 1 + 1 + 1 + 1) z1 (fun h => h)).trans HB.out.2.2.2.2.2
  have zz1 : w1.heap.size ≤ W1.heap.size := K1.size
  have y8 : n8 + 1 < W1.heap.size := (Array.getElem?_eq_some_iff.1 AA.2).1
  have y8' : n8 < W1.heap.size := by omega
  have y4 : w.heap.size + 1 + 1 + 1 + 1 < W1.heap.size := by omega
  have y1 : w.heap.size + 1 < W1.heap.size := by omega
  have HW1 := Lib.hid (And.intro K1 (And.intro A1 A4))
  obtain ⟨AA8, AA9⟩ := AA
  obtain ⟨d0, d1, d2, df0, df1, df2, -⟩ := blk3 AA8
  obtain ⟨⟨a0, a1, a2, a3, a4, a5, a6, a7, a8, a9, a10, a11, a12⟩, -⟩ := blk13 AA9
  obtain ⟨b0, b1, b2, bf0, bf1, bf2, -⟩ := blk3 A4
  obtain ⟨⟨c0, c1, c2, c3, c4, c5, c6, c7, c8, c9, c10, c11, c12⟩, -⟩ := blk13 A1
  have cf0 := blkF A1 0; have cf1 := blkF A1 1; have cf2 := blkF A1 2; have cf3 := blkF A1 3; have cf4 := blkF A1 4; have cf5 := blkF A1 5; have cf6 := blkF A1 6; have cf7 := blkF A1 7; have cf8 := blkF A1 8; have cf9 := blkF A1 9; have cf10 := blkF A1 10; have cf11 := blkF A1 11; have cf12 := blkF A1 12
  clear AA8 AA9 A1 A4 K1 hW1
  go_wp2_with fail
  generalize hW : World.setCell _ _ _ = W
  obtain ⟨q4, q1a, qk⟩ := res2a (W := W1) (r2 := w.heap.size + 1 + 1 + 1 + 1) (r3 := w.heap.size + 1) (y0 := .int .i64 N) (y1 := .slice ao' xs.length cap') (y2 := .int .i64 (st + cntAt xs a)) (x0 := .int .i64 i0) (x1 := .int .i64 45) (x2 := .int .i64 i2) (x3 := .int .i64 i3) (x4 := .int .i64 i4) (x5 := .int .i64 y) (x6 := .int .i64 i6) (x7 := .int .i64 i7) (x8 := .int .i64 i8) (x9 := .int .i64 i9) (x10 := .int .i64 i10) (x11 := .int .i64 i11) (x12 := .slice bo bn bc) HW1.out.2.2 HW1.out.2.1 (by omega) _ rfl
  have AW4 : W.heap[w.heap.size + 1 + 1 + 1 + 1]? = some (.cells #[.int .i64 N, .slice ao' xs.length cap', .int .i64 (st + cntAt xs a)] 33 (0, 0)) := by
    rw [← hW, Below.heap_setCell _ _ _ _ (by simp; try omega)]; exact q4
  have AW1 : W.heap[w.heap.size + 1]? = some (.cells #[.int .i64 i0, .int .i64 46, .int .i64 i2, .int .i64 i3, .int .i64 i4, .int .i64 y, .int .i64 i6, .int .i64 i7, .int .i64 i8, .int .i64 i9, .int .i64 i10, .int .i64 i11, .slice bo bn bc] 39 (0, 0)) := by
    rw [← hW, heap_setCell_self q1a]; rfl
  have KW : Kept (fun k => k = w.heap.size + 1 ∨ k = w.heap.size + 1 + 1 + 1 + 1) w1 W := by
    rw [← hW]
    exact (((HW1.out.1.mono (fun _ _ e => e.elim)).trans (qk.mono (fun _ _ e => e.symm))).setCell (p := ⟨w.heap.size + 1, 1, none⟩) (fun _ => .inl rfl) _)
  clear q4 q1a qk hW a0 a1 a2 a3 a4 a5 a6 a7 a8 a9 a10 a11 a12 c0 c1 c2 c3 c4 c5 c6 c7 c8 c9 c10 c11 c12 cf0 cf1 cf2 cf3 cf4 cf5 cf6 cf7 cf8 cf9 cf10 cf11 cf12 d0 d1 d2 df0 df1 df2 b0 b1 b2 bf0 bf1 bf2 y8 y8' y4 y1 zz1
  have A2 := (KW.block (w.heap.size + 1 + 1) z1b (by omega)).trans HB.out.1
  have A3 := (KW.block (w.heap.size + 1 + 1 + 1) z1c (by omega)).trans HB.out.2.1
  have zz : w1.heap.size ≤ W.heap.size := KW.size
  have z3 : w.heap.size + 1 + 1 + 1 < W.heap.size := by omega
  have z2 : w.heap.size + 1 + 1 < W.heap.size := by omega
  have z4 : w.heap.size + 1 + 1 + 1 + 1 < W.heap.size := by omega
  have zr1 : w.heap.size + 1 < W.heap.size := by omega
  have HW := Lib.hid (And.intro KW (And.intro A2 A3))
  obtain ⟨d0, d1, d2, df0, df1, df2, -⟩ := blk3 AW4
  obtain ⟨⟨a0, a1, a2, a3, a4, a5, a6, a7, a8, a9, a10, a11, a12⟩, -⟩ := blk13 AW1
  obtain ⟨b0, b1, b2, bf0, bf1, bf2, -⟩ := blk3 A2
  obtain ⟨⟨c0, c1, c2, c3, c4, c5, c6, c7, c8, c9, c10, c11, c12⟩, -⟩ := blk13 A3
  have cf0 := blkF A3 0; have cf1 := blkF A3 1; have cf2 := blkF A3 2; have cf3 := blkF A3 3; have cf4 := blkF A3 4; have cf5 := blkF A3 5; have cf6 := blkF A3 6; have cf7 := blkF A3 7; have cf8 := blkF A3 8; have cf9 := blkF A3 9; have cf10 := blkF A3 10; have cf11 := blkF A3 11; have cf12 := blkF A3 12
  clear AW4 AW1 A2 A3 KW
  go_region
  all_goals
    go_wp2
    generalize hw5 : World.setCell _ _ _ = w5
    have ne : w.heap.size + 1 + 1 ≠ w.heap.size + 1 + 1 + 1 := by omega
    have D2 := HW.out.2.1
    have D3 := HW.out.2.2
    have E := by first | (with_reducible exact res2a D2 D3 ne _ hw5) | (with_reducible exact res2b D2 D3 ne _ hw5)
    obtain ⟨E2, E3, K5⟩ := E
    obtain ⟨r0, r1, r2, -⟩ := blk3 E2
    obtain ⟨⟨s0, s1, s2, s3, s4, s5, s6, s7, s8, s9, s10, s11, s12⟩, -⟩ := blk13 E3
    have K1 : Kept (fun k => w.heap.size ≤ k ∧ k < w.heap.size + 5) w1 w5 := (HW.out.1.mono (fun k _ e => by omega)).step (K5 : Kept _ W w5) (fun i _ e => by omega)
    refine bodyPost_ret (v := .tuple #[.agg #[.int .i64 N, .slice ao' xs.length cap', .int .i64 (st + cntAt xs a)], .agg #[.int .i64 i0, .int .i64 46, .int .i64 i2, .int .i64 i3, .int .i64 i4, .int .i64 y, .int .i64 i6, .int .i64 i7, .int .i64 i8, .int .i64 i9, .int .i64 i10, .int .i64 i11, .slice bo bn bc]]) (by simp [results, Try.results28, go_sem, r0, r1, r2, s0, s1, s2, s3, s4, s5, s6, s7, s8, s9, s10, s11, s12]) rfl ⟨_, rfl, ?_, ?_⟩
    · have R5 := HB.out.2.2.2.1.kept K1 (fun k e => by have := H.out.2 k e; omega)
      first | exact R5 | exact R5.below (Below.refl _ _).drew
    · have W5 := HB.out.2.2.1.trans (K1.below (by have := HB.out.2.2.1.size; omega) (fun k hk e => by omega))
      first | exact W5 | exact W5.drew

set_option maxRecDepth 100000 in
set_option maxHeartbeats 8000000 in
theorem rStep17_46 (w : World) (v : Value) (q : Option Nat) (N st : Int) (xs : List Int) (i0 i2 i3 i4 i5 i6 i7 i8 i9 i10 i11 : Int) (bo : Option Addr) (bn bc : Nat) (age : Int) (h : RVal w v q N xs st) (hn : xs.length ≤ 1000000) (s0 : 0 ≤ st) (s1 : st < 1000000) (a : Int) (ha : wrap64 (i7 + 3) = a) :
    Calls Try.prog 28 #[v, .int .i64 age, .agg #[.int .i64 i0, .int .i64 46, .int .i64 i2, .int .i64 i3, .int .i64 i4, .int .i64 i5, .int .i64 i6, .int .i64 i7, .int .i64 i8, .int .i64 i9, .int .i64 i10, .int .i64 i11, .slice bo bn bc]] w fun e w' => ∃ v' q', e = .returned (.tuple #[v', .agg #[.int .i64 i0, .int .i64 47, .int .i64 i2, .int .i64 i3, .int .i64 i4, .int .i64 i5, .int .i64 i6, .int .i64 i7, .int .i64 i8, .int .i64 i9, .int .i64 i10, .int .i64 i11, .slice bo bn bc]]) ∧ RVal w' v' q' N (cellSet xs a i5) (st + cntAt xs a) ∧ (q' = q ∨ ∀ k, q' = some k → w.heap.size ≤ k) ∧ Below w.heap.size w w' := by
  have hqlt : ∀ k, q = some k → k < w.heap.size := fun k e => by subst e; exact h.lt
  obtain ⟨ao, cap, rfl, -, -⟩ := h.open
  have H := Lib.hid (And.intro h hqlt)
  have Hy := Lib.hid ha
  clear h hqlt ha
  go_enter Try.func28, Try.ntmps28
  go_wp2_with fail
  first | rw [Hy.out] | (have Hz := Hy.out; subst Hz)
  refine (rStore_f (H.out.1.below (by go_grown)) _ i5 hn s0 (by omega)).mono ?_
  rintro e w1 ⟨v', q1, rfl, h1, hq1, hb1⟩
  have HQ := Lib.hid (show (q1 = q ∨ ∀ k, q1 = some k → w.heap.size ≤ k) ∧ (∀ k, q1 = some k → ¬ (w.heap.size ≤ k ∧ k < w.heap.size + 5)) from by
    have hz := H.out.2
    have hq2 : q1 = q ∨ ∀ k, q1 = some k → w.heap.size + 5 ≤ k := by
      rcases hq1 with rfl | hq
      · exact .inl rfl
      · exact .inr (fun k e => by have := hq k e; simp at this; omega)
    refine ⟨?_, fun k e => ?_⟩
    · rcases hq2 with rfl | hq
      · exact .inl rfl
      · exact .inr (fun k e => by have := hq k e; omega)
    · rcases hq2 with rfl | hq
      · have := hz k e; omega
      · have := hq k e; omega)
  clear hq1
  obtain ⟨ao', cap', rfl, -, -⟩ := h1.open
  have z1 : w.heap.size + 1 + 1 + 1 + 1 < w1.heap.size := by have := hb1.size; simp at this; omega
  have z1a : w.heap.size + 1 < w1.heap.size := by omega
  have z1b : w.heap.size + 1 + 1 < w1.heap.size := by omega
  have z1c : w.heap.size + 1 + 1 + 1 < w1.heap.size := by omega
  have BW : Below w.heap.size w w1 := Below.trans (by go_grown) (hb1.mono (by first | omega | (simp; omega) | (simp; done)))
  have B1 : w1.heap[w.heap.size + 1]? = some (.cells #[.int .i64 i0, .int .i64 46, .int .i64 i2, .int .i64 i3, .int .i64 i4, .int .i64 i5, .int .i64 i6, .int .i64 i7, .int .i64 i8, .int .i64 i9, .int .i64 i10, .int .i64 i11, .slice bo bn bc] 39 (0, 0)) := (hb1.block (w.heap.size + 1) (by first | omega | (simp; omega) | (simp; done))).trans (alloc5_heap _ _ _ _ _ _).1
  have B2 : w1.heap[w.heap.size + 1 + 1]? = some (.cells #[.int .i64 0, .slice none 0 0, .int .i64 0] 33 (0, 0)) := (hb1.block (w.heap.size + 1 + 1) (by first | omega | (simp; omega) | (simp; done))).trans (alloc5_heap _ _ _ _ _ _).2.1
  have B3 : w1.heap[w.heap.size + 1 + 1 + 1]? = some (.cells #[.int .i64 0, .int .i64 0, .int .i64 0, .int .i64 0, .int .i64 0, .int .i64 0, .int .i64 0, .int .i64 0, .int .i64 0, .int .i64 0, .int .i64 0, .int .i64 0, .slice none 0 0] 39 (0, 0)) := (hb1.block (w.heap.size + 1 + 1 + 1) (by first | omega | (simp; omega) | (simp; done))).trans (alloc5_heap _ _ _ _ _ _).2.2.1
  have B4 : w1.heap[w.heap.size + 1 + 1 + 1 + 1]? = some (.cells #[.int .i64 N, .slice ao xs.length cap, .int .i64 st] 33 (0, 0)) := (hb1.block (w.heap.size + 1 + 1 + 1 + 1) (by first | omega | (simp; omega) | (simp; done))).trans (alloc5_heap _ _ _ _ _ _).2.2.2
  obtain ⟨⟨a0, a1, a2, a3, a4, a5, a6, a7, a8, a9, a10, a11, a12⟩, -⟩ := blk13 B1
  have af0 := blkF B1 0; have af1 := blkF B1 1; have af2 := blkF B1 2; have af3 := blkF B1 3; have af4 := blkF B1 4; have af5 := blkF B1 5; have af6 := blkF B1 6; have af7 := blkF B1 7; have af8 := blkF B1 8; have af9 := blkF B1 9; have af10 := blkF B1 10; have af11 := blkF B1 11; have af12 := blkF B1 12
  obtain ⟨d0, d1, d2, df0, df1, df2, -⟩ := blk3 B4
  have HB := Lib.hid (And.intro B2 (And.intro B3 (And.intro BW (And.intro h1 (And.intro B1 B4)))))
  clear B1 B2 B3 B4 BW h1 hb1
  go_wp2_with fail
  generalize hW : World.setCell _ _ _ = W
  have q4 : (((w1.setCell ⟨w.heap.size + 1 + 1 + 1 + 1, 0, none⟩ (.int .i64 N)).setCell ⟨w.heap.size + 1 + 1 + 1 + 1, 1, none⟩ (.slice ao' (cellSet xs a i5).length cap')).setCell ⟨w.heap.size + 1 + 1 + 1 + 1, 2, none⟩ (.int .i64 (st + cntAt xs a))).heap[w.heap.size + 1 + 1 + 1 + 1]? = some (.cells #[.int .i64 N, .slice ao' (cellSet xs a i5).length cap', .int .i64 (st + cntAt xs a)] 33 (0, 0)) := set3 HB.out.2.2.2.2.2 rfl
  have q1a : (((w1.setCell ⟨w.heap.size + 1 + 1 + 1 + 1, 0, none⟩ (.int .i64 N)).setCell ⟨w.heap.size + 1 + 1 + 1 + 1, 1, none⟩ (.slice ao' (cellSet xs a i5).length cap')).setCell ⟨w.heap.size + 1 + 1 + 1 + 1, 2, none⟩ (.int .i64 (st + cntAt xs a))).heap[w.heap.size + 1]? = _ := ((kept_set3 w1 (w.heap.size + 1 + 1 + 1 + 1) _ _ _).block (w.heap.size + 1) z1a (by omega)).trans HB.out.2.2.2.2.1
  have AW4 : W.heap[w.heap.size + 1 + 1 + 1 + 1]? = some (.cells #[.int .i64 N, .slice ao' (cellSet xs a i5).length cap', .int .i64 (st + cntAt xs a)] 33 (0, 0)) := by
    rw [← hW, Below.heap_setCell _ _ _ _ (by simp; try omega)]; exact q4
  have AW1 : W.heap[w.heap.size + 1]? = some (.cells #[.int .i64 i0, .int .i64 47, .int .i64 i2, .int .i64 i3, .int .i64 i4, .int .i64 i5, .int .i64 i6, .int .i64 i7, .int .i64 i8, .int .i64 i9, .int .i64 i10, .int .i64 i11, .slice bo bn bc] 39 (0, 0)) := by
    rw [← hW, heap_setCell_self q1a]; rfl
  have KW : Kept (fun k => k = w.heap.size + 1 ∨ k = w.heap.size + 1 + 1 + 1 + 1) w1 W := by
    rw [← hW]
    skip
    exact (((((Kept.refl (fun k => k = w.heap.size + 1 ∨ k = w.heap.size + 1 + 1 + 1 + 1) w1).setCell (p := ⟨w.heap.size + 1 + 1 + 1 + 1, 0, none⟩) (fun _ => .inr rfl) _).setCell (p := ⟨w.heap.size + 1 + 1 + 1 + 1, 1, none⟩) (fun _ => .inr rfl) _).setCell (p := ⟨w.heap.size + 1 + 1 + 1 + 1, 2, none⟩) (fun _ => .inr rfl) _).setCell (p := ⟨w.heap.size + 1, 1, none⟩) (fun _ => .inl rfl) _)
  clear q4 q1a hW a0 a1 a2 a3 a4 a5 a6 a7 a8 a9 a10 a11 a12 af0 af1 af2 af3 af4 af5 af6 af7 af8 af9 af10 af11 af12 d0 d1 d2 df0 df1 df2
  have A2 := (KW.block (w.heap.size + 1 + 1) z1b (by omega)).trans HB.out.1
  have A3 := (KW.block (w.heap.size + 1 + 1 + 1) z1c (by omega)).trans HB.out.2.1
  have zz : w1.heap.size ≤ W.heap.size := KW.size
  have z3 : w.heap.size + 1 + 1 + 1 < W.heap.size := by omega
  have z2 : w.heap.size + 1 + 1 < W.heap.size := by omega
  have z4 : w.heap.size + 1 + 1 + 1 + 1 < W.heap.size := by omega
  have zr1 : w.heap.size + 1 < W.heap.size := by omega
  have HW := Lib.hid (And.intro KW (And.intro A2 A3))
  obtain ⟨d0, d1, d2, df0, df1, df2, -⟩ := blk3 AW4
  obtain ⟨⟨a0, a1, a2, a3, a4, a5, a6, a7, a8, a9, a10, a11, a12⟩, -⟩ := blk13 AW1
  obtain ⟨b0, b1, b2, bf0, bf1, bf2, -⟩ := blk3 A2
  obtain ⟨⟨c0, c1, c2, c3, c4, c5, c6, c7, c8, c9, c10, c11, c12⟩, -⟩ := blk13 A3
  have cf0 := blkF A3 0; have cf1 := blkF A3 1; have cf2 := blkF A3 2; have cf3 := blkF A3 3; have cf4 := blkF A3 4; have cf5 := blkF A3 5; have cf6 := blkF A3 6; have cf7 := blkF A3 7; have cf8 := blkF A3 8; have cf9 := blkF A3 9; have cf10 := blkF A3 10; have cf11 := blkF A3 11; have cf12 := blkF A3 12
  clear AW4 AW1 A2 A3 KW
  go_region
  all_goals
    go_wp2
    generalize hw5 : World.setCell _ _ _ = w5
    have ne : w.heap.size + 1 + 1 ≠ w.heap.size + 1 + 1 + 1 := by omega
    have D2 := HW.out.2.1
    have D3 := HW.out.2.2
    have E := by first | (with_reducible exact res2a D2 D3 ne _ hw5) | (with_reducible exact res2b D2 D3 ne _ hw5)
    obtain ⟨E2, E3, K5⟩ := E
    obtain ⟨r0, r1, r2, -⟩ := blk3 E2
    obtain ⟨⟨s0, s1, s2, s3, s4, s5, s6, s7, s8, s9, s10, s11, s12⟩, -⟩ := blk13 E3
    have K1 : Kept (fun k => w.heap.size ≤ k ∧ k < w.heap.size + 5) w1 w5 := (HW.out.1.mono (fun k _ e => by omega)).step (K5 : Kept _ W w5) (fun i _ e => by omega)
    refine bodyPost_ret (v := .tuple #[.agg #[.int .i64 N, .slice ao' (cellSet xs a i5).length cap', .int .i64 (st + cntAt xs a)], .agg #[.int .i64 i0, .int .i64 47, .int .i64 i2, .int .i64 i3, .int .i64 i4, .int .i64 i5, .int .i64 i6, .int .i64 i7, .int .i64 i8, .int .i64 i9, .int .i64 i10, .int .i64 i11, .slice bo bn bc]]) (by simp [results, Try.results28, go_sem, r0, r1, r2, s0, s1, s2, s3, s4, s5, s6, s7, s8, s9, s10, s11, s12]) rfl ⟨_, _, rfl, ?_, HQ.out.1, ?_⟩
    · have R5 := HB.out.2.2.2.1.kept K1 HQ.out.2
      first | exact R5 | exact R5.below (Below.refl _ _).drew
    · have W5 := HB.out.2.2.1.trans (K1.below (by have := HB.out.2.2.1.size; omega) (fun k hk e => by omega))
      first | exact W5 | exact W5.drew

end Go.Proofs.Ythdhilmmcabnlaa
