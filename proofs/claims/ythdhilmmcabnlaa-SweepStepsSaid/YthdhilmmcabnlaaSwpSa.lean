/- A step at any memory, of a thread whose place lies ahead of all of who sweeps. -/
import Derived.Test.YthdhilmmcabnlaaSwpS
import Derived.Deep.RegionWith
namespace Go.Proofs.Ythdhilmmcabnlaa
set_option linter.unusedSimpArgs false
set_option linter.unusedVariables false
open Go.RowKit
open Go.ChangeShapes Go.WideShapes Go.ChangeAt

set_option maxRecDepth 100000 in
set_option maxHeartbeats 40000000 in
theorem step17_a (w : World) (l : Value) (xs : List Int) (i0 i1 i2 i3 i4 i5 i6 i7 i8 i9 i10 i11 : Int) (bt : Value) (n : Nat) (Fi : Nat → Int) (age : Int) (hl : Sl w l xs) (hn : xs.length ≤ 1000) (hI : Its w bt n Fi) (hn2 : n ≤ 1000000) (r1 : -9223372036854775808 ≤ i6) (r2 : i6 ≤ 9223372036854775807) (h40 : i1 < 40) :
    Calls Try.prog 26 #[l, .agg #[.int .i64 i0, .int .i64 i1, .int .i64 i2, .int .i64 i3, .int .i64 i4, .int .i64 i5, .int .i64 i6, .int .i64 i7, .int .i64 i8, .int .i64 i9, .int .i64 i10, .int .i64 i11, bt], .int .i64 age] w fun e w' => e = .returned (.bool true) ∧ Below w.heap.size w w' := by
  have HL := Lib.hid hl
  have HI := Lib.hid hI
  obtain ⟨lo, lc, rfl, -⟩ := hl
  obtain ⟨bo, bc, rfl, -⟩ := hI
  go_enter Try.func26, Try.ntmps26
  go_wp2_with fail
  generalize hW0 : World.alloc _ _ = W0
  have T0 : W0.heap[w.heap.size]? = some (.cells #[.int .i64 i0, .int .i64 i1, .int .i64 i2, .int .i64 i3, .int .i64 i4, .int .i64 i5, .int .i64 i6, .int .i64 i7, .int .i64 i8, .int .i64 i9, .int .i64 i10, .int .i64 i11, .slice bo n bc] 39 (0, 0)) := by rw [← hW0]; exact heap_alloc_new _ _
  have B0 : Below w.heap.size w W0 := by rw [← hW0]; go_grown
  have z0 : w.heap.size < W0.heap.size := (Array.getElem?_eq_some_iff.1 T0).1
  have H0 := Lib.hid (And.intro B0 T0)
  clear hW0 B0 T0
  refine (Memory13_f _ xs _ (HL.out.below H0.out.1) hn).mono ?_
  rintro e w1 ⟨v, b, g, q, rfl, h, -⟩
  obtain ⟨ao1, cap1, rfl, -, -⟩ := h.rv.open
  have zb : b < w1.heap.size := h.ms.mem.lt
  have zw : W0.heap.size ≤ w1.heap.size := h.ms.B.size
  have T1 := (h.ms.B.block w.heap.size z0).trans H0.out.2
  have z1 : w.heap.size < w1.heap.size := by omega
  have hfar := h.far
  have hbw : ¬ Foot b g w.heap.size := by
    rintro (e | e)
    · have := h.ms.2.1; omega
    · have := h.ms.2.2.1 _ e.symm; omega
  have H := Lib.hid (And.intro h (And.intro hfar hbw))
  obtain ⟨⟨a0, a1, a2, a3, a4, a5, a6, a7, a8, a9, a10, a11, a12⟩, -⟩ := blk13 T1
  clear h T1 hfar hbw
  go_wp2_with fail
  generalize hW2 : World.alloc _ _ = W2
  have R2 : W2.heap[w1.heap.size]? = some (.cells #[.int .i64 xs.length, .slice ao1 xs.length cap1, .int .i64 (1 + xs.length)] 33 (0, 0)) := by rw [← hW2]; exact heap_alloc_new _ _
  have B2 : Below w1.heap.size w1 W2 := by rw [← hW2]; go_grown
  generalize hr8 : w1.heap.size = r8
  rw [hr8] at R2
  have z2 : w1.heap.size < W2.heap.size := by rw [hr8]; exact (Array.getElem?_eq_some_iff.1 R2).1
  refine (sStep_f W0 W2 b g _ _ xs ⟨i0, i1, i2, i3, i4, i5, i6, i7, i8, i9, i10, i11⟩ (.slice bo n bc) n Fi age (H.out.1.ms.below B2) (HI.out.below (bmore H0.out.1 (H.out.1.ms.B.trans (B2.mono zw)))) hn2 (by omega) (by omega) ⟨r1, r2⟩).mono ?_
  rintro e w3 ⟨bt3, he, m3, I3, k3⟩
  obtain ⟨bo3, bc3, rfl, -⟩ := id I3
  obtain ⟨t3, ht3⟩ : ∃ t, swT xs age ⟨i0, i1, i2, i3, i4, i5, i6, i7, i8, i9, i10, i11⟩ = t := ⟨_, rfl⟩
  rw [ht3] at he
  have c3 := swC_rng xs ⟨i0, i1, i2, i3, i4, i5, i6, i7, i8, i9, i10, i11⟩
  obtain ⟨X3, hX3⟩ : ∃ X, swX xs ⟨i0, i1, i2, i3, i4, i5, i6, i7, i8, i9, i10, i11⟩ = X := ⟨_, rfl⟩
  obtain ⟨C3, hC3⟩ : ∃ C, swC xs ⟨i0, i1, i2, i3, i4, i5, i6, i7, i8, i9, i10, i11⟩ = C := ⟨_, rfl⟩
  have l3 : X3.length = xs.length := by rw [← hX3]; exact swX_len _ _
  rw [hX3, hC3] at m3
  rw [hC3] at c3
  have HT := Lib.hid (And.intro ht3 (And.intro hX3 hC3))
  clear ht3 hX3 hC3
  obtain ⟨y0, y1, y2, y3, y4, y5, y6, y7, y8, y9, y10, y11⟩ := t3
  simp only [thV] at he
  subst he
  have hf8 : ¬ Foot b g r8 := H.out.2.1 r8 (by omega)
  have R3 := (k3.block r8 (by omega) hf8).trans R2
  have T3 := (k3.block w.heap.size (by omega) H.out.2.2).trans ((B2.block w.heap.size z1).trans ((H.out.1.ms.B.block w.heap.size z0).trans H0.out.2))
  have V3 : RVal w3 (.agg #[.int .i64 xs.length, .slice ao1 xs.length cap1, .int .i64 (1 + xs.length)]) q xs.length xs (1 + xs.length) := (H.out.1.rv.below B2).kept k3 (fun k e => H.out.1.2.2.1 k e)
  have z3 : w.heap.size < w3.heap.size := (Array.getElem?_eq_some_iff.1 T3).1
  have z38 : r8 < w3.heap.size := (Array.getElem?_eq_some_iff.1 R3).1
  have l3' : (X3.length : Int) = xs.length := by omega
  have H3 := Lib.hid (And.intro m3 (And.intro I3 (And.intro V3 (And.intro R3 (And.intro T3 l3)))))
  have K3 := Lib.hid (And.intro B2 k3)
  obtain ⟨b0, b1, b2, bf0, bf1, bf2, -⟩ := blk3 R3
  obtain ⟨⟨c0, c1, c2, c3, c4, c5, c6, c7, c8, c9, c10, c11, c12⟩, -⟩ := blk13 T3
  clear hW2 R2 m3 I3 k3 R3 T3 V3 B2 a0 a1 a2 a3 a4 a5 a6 a7 a8 a9 a10 a11 a12 hr8 hf8 l3 l3'
  go_wp2_with fail
  generalize hW4 : World.alloc _ _ = W4
  generalize hr9 : w3.heap.size = r9
  have U4 : W4.heap[r9]? = some (.cells #[.int .i64 y0, .int .i64 y1, .int .i64 y2, .int .i64 y3, .int .i64 y4, .int .i64 y5, .int .i64 y6, .int .i64 y7, .int .i64 y8, .int .i64 y9, .int .i64 y10, .int .i64 y11, .slice bo3 n bc3] 39 (0, 0)) := by rw [← hW4]; exact alloc_at hr9 _
  have B4 : Below w3.heap.size w3 W4 := by rw [← hW4]; go_grown
  refine (rStep17_f W4 _ q _ _ xs ⟨i0, i1, i2, i3, i4, i5, i6, i7, i8, i9, i10, i11⟩ bo n bc age (H3.out.2.2.1.below B4) (by omega) (by omega) (by omega)).mono ?_
  rintro e w5 ⟨v5, q5, he, V5, -, hb5⟩
  obtain ⟨ao5, cap5, rfl, -, row5⟩ := V5.open
  rw [HT.out.1] at he
  simp only [thV] at he
  subst he
  rw [HT.out.2.1] at row5 ⊢
  rw [HT.out.2.2]
  have B35 : Below w3.heap.size w3 w5 := bmore B4 hb5
  have U5 := (hb5.block r9 (Array.getElem?_eq_some_iff.1 U4).1).trans U4
  have T5 := (B35.block w.heap.size z3).trans H3.out.2.2.2.2.1
  have z5 : w.heap.size < w5.heap.size := (Array.getElem?_eq_some_iff.1 T5).1
  have z59 : r9 < w5.heap.size := (Array.getElem?_eq_some_iff.1 U5).1
  have H5 := Lib.hid (And.intro B35 (And.intro U5 (And.intro T5 row5)))
  clear hW4 hr9 U4 B4 hb5 B35 U5 T5 V5 row5 b0 b1 b2 bf0 bf1 bf2 c0 c1 c2 c3 c4 c5 c6 c7 c8 c9 c10 c11 c12
  go_wp2_with fail
  generalize hr10 : w5.heap.size = r10
  generalize hW : World.alloc _ _ = W
  have AA : W.heap[r10]? = some (.cells #[.int .i64 xs.length, .slice ao5 X3.length cap5, .int .i64 (1 + xs.length + C3)] 33 (0, 0)) ∧ W.heap[r10 + 1]? = some (.cells #[.int .i64 y0, .int .i64 y1, .int .i64 y2, .int .i64 y3, .int .i64 y4, .int .i64 y5, .int .i64 y6, .int .i64 y7, .int .i64 y8, .int .i64 y9, .int .i64 y10, .int .i64 y11, .slice bo n bc] 39 (0, 0)) := by rw [← hW]; exact alloc2_at hr10 _ _
  have BW : Below w5.heap.size w5 W := by rw [← hW]; go_grown
  have UW := (BW.block r9 z59).trans H5.out.2.1
  have TW := (BW.block w.heap.size z5).trans H5.out.2.2.1
  have rowW := H5.out.2.2.2.below BW
  have mW := H3.out.1.below (H5.out.1.trans (BW.mono H5.out.1.size))
  have IW := H3.out.2.1.below (H5.out.1.trans (BW.mono H5.out.1.size))
  have BwW : Below w.heap.size w W := H0.out.1.trans (mW.B.mono H0.out.1.size)
  have IW2 := HI.out.below BwW
  have l3 := H3.out.2.2.2.2.2
  have HW := Lib.hid (And.intro mW (And.intro IW (And.intro IW2 (And.intro rowW BwW))))
  have hlenW : X3.length ≤ 1000000 := by omega
  clear l3
  obtain ⟨AA8, AA9⟩ := AA
  have zW9 : r9 < W.heap.size := (Array.getElem?_eq_some_iff.1 UW).1
  have zW10 : r10 < W.heap.size := (Array.getElem?_eq_some_iff.1 AA8).1
  have zW11 : r10 + 1 < W.heap.size := (Array.getElem?_eq_some_iff.1 AA9).1
  have zW : w.heap.size < W.heap.size := (Array.getElem?_eq_some_iff.1 TW).1
  obtain ⟨⟨a0, a1, a2, a3, a4, a5, a6, a7, a8, a9, a10, a11, a12⟩, -⟩ := blk13 UW
  obtain ⟨⟨b0, b1, b2, b3, b4, b5, b6, b7, b8, b9, b10, b11, b12⟩, -⟩ := blk13 AA9
  obtain ⟨⟨c0, c1, c2, c3, c4, c5, c6, c7, c8, c9, c10, c11, c12⟩, -⟩ := blk13 TW
  obtain ⟨d0, d1, d2, -⟩ := blk3 AA8
  have au0 := fun (u : World) (hu : Below W.heap.size W u) => (hu.cell (p := ⟨r9, 0, none⟩) zW9).trans a0
  have au1 := fun (u : World) (hu : Below W.heap.size W u) => (hu.cell (p := ⟨r9, 1, none⟩) zW9).trans a1
  have au2 := fun (u : World) (hu : Below W.heap.size W u) => (hu.cell (p := ⟨r9, 2, none⟩) zW9).trans a2
  have au3 := fun (u : World) (hu : Below W.heap.size W u) => (hu.cell (p := ⟨r9, 3, none⟩) zW9).trans a3
  have au4 := fun (u : World) (hu : Below W.heap.size W u) => (hu.cell (p := ⟨r9, 4, none⟩) zW9).trans a4
  have au5 := fun (u : World) (hu : Below W.heap.size W u) => (hu.cell (p := ⟨r9, 5, none⟩) zW9).trans a5
  have au6 := fun (u : World) (hu : Below W.heap.size W u) => (hu.cell (p := ⟨r9, 6, none⟩) zW9).trans a6
  have au7 := fun (u : World) (hu : Below W.heap.size W u) => (hu.cell (p := ⟨r9, 7, none⟩) zW9).trans a7
  have au8 := fun (u : World) (hu : Below W.heap.size W u) => (hu.cell (p := ⟨r9, 8, none⟩) zW9).trans a8
  have au9 := fun (u : World) (hu : Below W.heap.size W u) => (hu.cell (p := ⟨r9, 9, none⟩) zW9).trans a9
  have au10 := fun (u : World) (hu : Below W.heap.size W u) => (hu.cell (p := ⟨r9, 10, none⟩) zW9).trans a10
  have au11 := fun (u : World) (hu : Below W.heap.size W u) => (hu.cell (p := ⟨r9, 11, none⟩) zW9).trans a11
  have au12 := fun (u : World) (hu : Below W.heap.size W u) => (hu.cell (p := ⟨r9, 12, none⟩) zW9).trans a12
  have bu0 := fun (u : World) (hu : Below W.heap.size W u) => (hu.cell (p := ⟨r10 + 1, 0, none⟩) zW11).trans b0
  have bu1 := fun (u : World) (hu : Below W.heap.size W u) => (hu.cell (p := ⟨r10 + 1, 1, none⟩) zW11).trans b1
  have bu2 := fun (u : World) (hu : Below W.heap.size W u) => (hu.cell (p := ⟨r10 + 1, 2, none⟩) zW11).trans b2
  have bu3 := fun (u : World) (hu : Below W.heap.size W u) => (hu.cell (p := ⟨r10 + 1, 3, none⟩) zW11).trans b3
  have bu4 := fun (u : World) (hu : Below W.heap.size W u) => (hu.cell (p := ⟨r10 + 1, 4, none⟩) zW11).trans b4
  have bu5 := fun (u : World) (hu : Below W.heap.size W u) => (hu.cell (p := ⟨r10 + 1, 5, none⟩) zW11).trans b5
  have bu6 := fun (u : World) (hu : Below W.heap.size W u) => (hu.cell (p := ⟨r10 + 1, 6, none⟩) zW11).trans b6
  have bu7 := fun (u : World) (hu : Below W.heap.size W u) => (hu.cell (p := ⟨r10 + 1, 7, none⟩) zW11).trans b7
  have bu8 := fun (u : World) (hu : Below W.heap.size W u) => (hu.cell (p := ⟨r10 + 1, 8, none⟩) zW11).trans b8
  have bu9 := fun (u : World) (hu : Below W.heap.size W u) => (hu.cell (p := ⟨r10 + 1, 9, none⟩) zW11).trans b9
  have bu10 := fun (u : World) (hu : Below W.heap.size W u) => (hu.cell (p := ⟨r10 + 1, 10, none⟩) zW11).trans b10
  have bu11 := fun (u : World) (hu : Below W.heap.size W u) => (hu.cell (p := ⟨r10 + 1, 11, none⟩) zW11).trans b11
  have bu12 := fun (u : World) (hu : Below W.heap.size W u) => (hu.cell (p := ⟨r10 + 1, 12, none⟩) zW11).trans b12
  have cu0 := fun (u : World) (hu : Below W.heap.size W u) => (hu.cell (p := ⟨w.heap.size, 0, none⟩) zW).trans c0
  have cu1 := fun (u : World) (hu : Below W.heap.size W u) => (hu.cell (p := ⟨w.heap.size, 1, none⟩) zW).trans c1
  have cu2 := fun (u : World) (hu : Below W.heap.size W u) => (hu.cell (p := ⟨w.heap.size, 2, none⟩) zW).trans c2
  have cu3 := fun (u : World) (hu : Below W.heap.size W u) => (hu.cell (p := ⟨w.heap.size, 3, none⟩) zW).trans c3
  have cu4 := fun (u : World) (hu : Below W.heap.size W u) => (hu.cell (p := ⟨w.heap.size, 4, none⟩) zW).trans c4
  have cu5 := fun (u : World) (hu : Below W.heap.size W u) => (hu.cell (p := ⟨w.heap.size, 5, none⟩) zW).trans c5
  have cu6 := fun (u : World) (hu : Below W.heap.size W u) => (hu.cell (p := ⟨w.heap.size, 6, none⟩) zW).trans c6
  have cu7 := fun (u : World) (hu : Below W.heap.size W u) => (hu.cell (p := ⟨w.heap.size, 7, none⟩) zW).trans c7
  have cu8 := fun (u : World) (hu : Below W.heap.size W u) => (hu.cell (p := ⟨w.heap.size, 8, none⟩) zW).trans c8
  have cu9 := fun (u : World) (hu : Below W.heap.size W u) => (hu.cell (p := ⟨w.heap.size, 9, none⟩) zW).trans c9
  have cu10 := fun (u : World) (hu : Below W.heap.size W u) => (hu.cell (p := ⟨w.heap.size, 10, none⟩) zW).trans c10
  have cu11 := fun (u : World) (hu : Below W.heap.size W u) => (hu.cell (p := ⟨w.heap.size, 11, none⟩) zW).trans c11
  have cu12 := fun (u : World) (hu : Below W.heap.size W u) => (hu.cell (p := ⟨w.heap.size, 12, none⟩) zW).trans c12
  have du0 := fun (u : World) (hu : Below W.heap.size W u) => (hu.cell (p := ⟨r10, 0, none⟩) zW10).trans d0
  have du1 := fun (u : World) (hu : Below W.heap.size W u) => (hu.cell (p := ⟨r10, 1, none⟩) zW10).trans d1
  have du2 := fun (u : World) (hu : Below W.heap.size W u) => (hu.cell (p := ⟨r10, 2, none⟩) zW10).trans d2
  clear hW hr10 AA8 AA9 UW TW rowW mW IW IW2 BwW BW a0 a1 a2 a3 a4 a5 a6 a7 a8 a9 a10 a11 a12 b0 b1 b2 b3 b4 b5 b6 b7 b8 b9 b10 b11 b12 c0 c1 c2 c3 c4 c5 c6 c7 c8 c9 c10 c11 c12 d0 d1 d2
  have hbd : Below W.heap.size W W.drew := (Below.refl _ _).drew
  have hb0 : Below W.heap.size W W := Below.refl _ _
  first
    | (go_region_with (first | (go_at_call 29; with_reducible refine (Same15_self _ y0 y1 y2 y3 y4 y5 y6 y7 y8 y9 y10 y11 _ _ n Fi (HW.out.2.1.below (by with_reducible assumption)) (HW.out.2.2.1.below (by with_reducible assumption)) hn2).mono ?_; rintro e w6 ⟨rfl, hb⟩; have hb6 : Below W.heap.size W w6 := bmore (by with_reducible assumption) hb; clear hb) | (go_at_call 16; with_reducible refine (Cells_ms (HW.out.1.below (by with_reducible assumption))).mono ?_; rintro e w7 ⟨ao7, cap7, rfl, -, r7, hb, -⟩; have hb7 : Below W.heap.size W w7 := bmore (by with_reducible assumption) hb; clear hb) | (go_at_call 21; with_reducible refine (Same64_self _ _ X3 _ r7 (HW.out.2.2.2.1.below (by with_reducible assumption)) hlenW).mono ?_; rintro e w8 ⟨rfl, hb⟩; have hb8 : Below W.heap.size W w8 := bmore (by with_reducible assumption) hb; clear hb) | (go_at_call 47; with_reducible refine (Steps_ms (HW.out.1.below (by with_reducible assumption))).mono ?_; rintro e w9 ⟨rfl, rfl⟩) | (go_at_call 22; with_reducible refine (Sweeps_a _ i0 i1 i2 i3 i4 i5 i6 i7 i8 i9 i10 i11 bo n bc h40).mono ?_; rintro e w10 ⟨rfl, hb⟩; have hb10 : Below W.heap.size W w10 := bmore (by with_reducible assumption) hb; clear hb))
       all_goals
         have BZ := bmore HW.out.2.2.2.2 (show Below W.heap.size W _ from by with_reducible assumption)
         go_wp2
         go_ret
         exact ⟨by first | rfl | (simp; done) | (simp; omega), BZ⟩)
    | fail "x"

end Go.Proofs.Ythdhilmmcabnlaa
