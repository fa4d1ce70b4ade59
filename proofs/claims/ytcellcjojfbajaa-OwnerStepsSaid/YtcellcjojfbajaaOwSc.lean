/- A step at any memory: what package owner and the reference do is the same. -/
import Derived.Test.YtcellcjojfbajaaOwS0
namespace Go.Proofs.Ytcellcjojfbajaa
set_option linter.unusedSimpArgs false
set_option linter.unusedVariables false
open Go.RowKit
open Go.ChangeShapes Go.WideShapes Go.ChangeAt

set_option maxRecDepth 100000 in
set_option maxHeartbeats 8000000 in
theorem step15_c (w : World) (l : Value) (xs : List Int) (i0 i1 i2 i3 i4 i5 i6 i7 i8 i9 i10 i11 : Int) (bt : Value) (n : Nat) (Fi : Nat → Int) (ok ov : Int) (hl : Sl w l xs) (hn : xs.length ≤ 1000) (hI : Its w bt n Fi) (hn2 : n ≤ 1000000) (r1 : -9223372036854775808 ≤ i2) (r2 : i2 ≤ 9223372036854775807) (o1 : 0 ≤ ok) (o2 : ok ≤ 255) (o3 : -2147483648 ≤ ov) (o4 : ov ≤ 2147483647) (h1 : 1 ≤ i1) (h2 : 16 < i1) :
    Calls Try.prog 27 #[l, .agg #[.int .i64 i0, .int .i64 i1, .int .i64 i2, .int .i64 i3, .int .i64 i4, .int .i64 i5, .int .i64 i6, .int .i64 i7, .int .i64 i8, .int .i64 i9, .int .i64 i10, .int .i64 i11, bt], .agg #[.int .u8 ok, .int .i32 ov]] w fun e w' => e = .returned (.bool true) ∧ Below w.heap.size w w' := by
  have HL := Lib.hid hl
  have HI := Lib.hid hI
  obtain ⟨lo, lc, rfl, -⟩ := hl
  obtain ⟨bo, bc, rfl, -⟩ := hI
  go_enter Try.func27, Try.ntmps27
  go_wp2_with fail
  generalize hq : w.heap.size = q0
  generalize hW0 : World.alloc _ _ = W0
  have QQ : W0.heap[q0]? = some (.cells #[.int .i64 i0, .int .i64 i1, .int .i64 i2, .int .i64 i3, .int .i64 i4, .int .i64 i5, .int .i64 i6, .int .i64 i7, .int .i64 i8, .int .i64 i9, .int .i64 i10, .int .i64 i11, .slice bo n bc] 30 (0, 0)) ∧ W0.heap[q0 + 1]? = some (.cells #[.int .u8 ok, .int .i32 ov] 23 (0, 0)) := by rw [← hW0]; exact alloc2_at hq _ _
  have B0 : Below w.heap.size w W0 := by rw [← hW0]; go_grown
  have zq : q0 + 1 < W0.heap.size := (Array.getElem?_eq_some_iff.1 QQ.2).1
  have H0 := Lib.hid (And.intro B0 QQ)
  clear hW0 B0 QQ
  refine (Memory13_f _ xs _ (HL.out.below H0.out.1) hn).mono ?_
  rintro e w1 ⟨v, b, g, q, rfl, h, -⟩
  obtain ⟨ao1, cap1, rfl, -, -⟩ := h.rv.open
  have zb : b < w1.heap.size := h.ms.mem.lt
  have zw : W0.heap.size ≤ w1.heap.size := h.ms.B.size
  have zb0 : W0.heap.size ≤ b := h.ms.2.1
  have T1 := (h.ms.B.block q0 (by omega)).trans H0.out.2.1
  have hfar := h.far
  have hbw : ∀ j, j < W0.heap.size → ¬ Foot b g j := fun j hj e => by
    rcases e with e | e
    · omega
    · have := h.ms.2.2.1 _ e.symm; omega
  have H := Lib.hid (And.intro h (And.intro hfar hbw))
  obtain ⟨⟨a0, a1, a2, a3, a4, a5, a6, a7, a8, a9, a10, a11, a12⟩, -⟩ := blk13 T1
  clear h T1 hfar hbw
  have z1 : q0 < w1.heap.size := by omega
  go_wp2_with fail
  generalize hr8 : w1.heap.size = r8
  generalize hW2 : World.alloc _ _ = W2
  have R2 : W2.heap[r8]? = some (.cells #[.int .i64 xs.length, .slice ao1 xs.length cap1, .int .i64 (1 + xs.length)] 47 (0, 0)) := by rw [← hW2]; exact alloc_at hr8 _
  have B2 : Below w1.heap.size w1 W2 := by rw [← hW2]; go_grown
  have z2 : r8 < W2.heap.size := (Array.getElem?_eq_some_iff.1 R2).1
  refine (oStep_f W0 W2 b g _ _ xs ⟨i0, i1, i2, i3, i4, i5, i6, i7, i8, i9, i10, i11⟩ (.slice bo n bc) n Fi (H.out.1.ms.below B2) (HI.out.below (bmore H0.out.1 (H.out.1.ms.B.trans (B2.mono zw)))) hn2 (by omega) (by omega) ⟨r1, r2⟩).mono ?_
  rintro e w3 ⟨bt3, g3, he, m3, I3, k3, hg3⟩
  obtain ⟨bo3, bc3, rfl, -⟩ := id I3
  obtain ⟨t3, ht3⟩ : ∃ t, owT xs.length xs ⟨i0, i1, i2, i3, i4, i5, i6, i7, i8, i9, i10, i11⟩ = t := ⟨_, rfl⟩
  obtain ⟨X3, hX3⟩ : ∃ X, owX xs.length xs ⟨i0, i1, i2, i3, i4, i5, i6, i7, i8, i9, i10, i11⟩ = X := ⟨_, rfl⟩
  obtain ⟨C3, hC3⟩ : ∃ C, owC xs.length xs ⟨i0, i1, i2, i3, i4, i5, i6, i7, i8, i9, i10, i11⟩ = C := ⟨_, rfl⟩
  obtain ⟨rk, hrk⟩ : ∃ C, owK xs ⟨i0, i1, i2, i3, i4, i5, i6, i7, i8, i9, i10, i11⟩ = C := ⟨_, rfl⟩
  obtain ⟨rv, hrv⟩ : ∃ C, owV xs ⟨i0, i1, i2, i3, i4, i5, i6, i7, i8, i9, i10, i11⟩ = C := ⟨_, rfl⟩
  obtain ⟨td, htd⟩ : ∃ C, decide (i1 = 14) = C := ⟨_, rfl⟩
  have c3 := owC_rng xs.length xs ⟨i0, i1, i2, i3, i4, i5, i6, i7, i8, i9, i10, i11⟩
  rw [ht3, hrk, hrv, show decide ((⟨i0, i1, i2, i3, i4, i5, i6, i7, i8, i9, i10, i11⟩ : Th).i1 = 14) = td from htd] at he
  rw [hX3, hC3] at m3
  rw [hC3] at c3
  have l3 : X3.length ≤ 1000 := m3.len
  have HT := Lib.hid (And.intro ht3 (And.intro hX3 (And.intro hC3 (And.intro hrk (And.intro hrv htd)))))
  clear ht3 hX3 hC3 hrk hrv htd
  obtain ⟨y0, y1, y2, y3, y4, y5, y6, y7, y8, y9, y10, y11⟩ := t3
  simp only [thV] at he
  subst he
  have hf8 : ¬ Foot b g r8 := H.out.2.1 r8 (by omega)
  have R3 := (k3.block r8 (by omega) hf8).trans R2
  have T3 := (k3.block q0 (by omega) (H.out.2.2 q0 (by omega))).trans ((B2.block q0 z1).trans ((H.out.1.ms.B.block q0 (by omega)).trans H0.out.2.1))
  have P3 := (k3.block (q0 + 1) (by omega) (H.out.2.2 (q0 + 1) zq)).trans ((B2.block (q0 + 1) (by omega)).trans ((H.out.1.ms.B.block (q0 + 1) zq).trans H0.out.2.2))
  have V3 : RVal w3 (.agg #[.int .i64 xs.length, .slice ao1 xs.length cap1, .int .i64 (1 + xs.length)]) q xs.length xs (1 + xs.length) := (H.out.1.rv.below B2).kept k3 (fun k e => H.out.1.2.2.1 k e)
  have z3 : q0 < w3.heap.size := (Array.getElem?_eq_some_iff.1 T3).1
  have z3p : q0 + 1 < w3.heap.size := (Array.getElem?_eq_some_iff.1 P3).1
  have z38 : r8 < w3.heap.size := (Array.getElem?_eq_some_iff.1 R3).1
  have H3 := Lib.hid (And.intro m3 (And.intro I3 (And.intro V3 (And.intro R3 (And.intro T3 P3)))))
  obtain ⟨b0, b1, b2, bf0, bf1, bf2, -⟩ := blk3 R3
  obtain ⟨⟨c0, c1, c2, c3, c4, c5, c6, c7, c8, c9, c10, c11, c12⟩, -⟩ := blk13 T3
  clear hW2 R2 m3 I3 k3 R3 T3 P3 V3 B2 a0 a1 a2 a3 a4 a5 a6 a7 a8 a9 a10 a11 a12 hr8 hf8 hg3
  go_wp2_with fail
  generalize hr9 : w3.heap.size = r9
  generalize hW4 : World.alloc _ _ = W4
  have U4 : W4.heap[r9]? = some (.cells #[.int .i64 y0, .int .i64 y1, .int .i64 y2, .int .i64 y3, .int .i64 y4, .int .i64 y5, .int .i64 y6, .int .i64 y7, .int .i64 y8, .int .i64 y9, .int .i64 y10, .int .i64 y11, .slice bo3 n bc3] 30 (0, 0)) ∧ W4.heap[r9 + 1]? = some (.cells #[.int .u8 rk, .int .i32 rv] 25 (0, 0)) := by rw [← hW4]; exact alloc2_at hr9 _ _
  have B4 : Below w3.heap.size w3 W4 := by rw [← hW4]; go_grown
  have z4 : r9 + 1 < W4.heap.size := (Array.getElem?_eq_some_iff.1 U4.2).1
  refine (rStep15_f W4 _ q _ _ xs ⟨i0, i1, i2, i3, i4, i5, i6, i7, i8, i9, i10, i11⟩ bo n bc (H3.out.2.2.1.below B4) (by omega) (by omega) (by omega) (by omega) (by omega) (by omega) ⟨r1, r2⟩).mono ?_
  rintro e w5 ⟨v5, q5, he, V5, -, hb5⟩
  obtain ⟨ao5, cap5, rfl, -, row5⟩ := V5.open
  rw [HT.out.1, HT.out.2.2.2.1, HT.out.2.2.2.2.1, show decide ((⟨i0, i1, i2, i3, i4, i5, i6, i7, i8, i9, i10, i11⟩ : Th).i1 = 14) = td from HT.out.2.2.2.2.2] at he
  simp only [thV] at he
  subst he
  rw [HT.out.2.1] at row5 ⊢
  rw [HT.out.2.2.1]
  have B35 : Below w3.heap.size w3 w5 := bmore B4 hb5
  have U5 := (hb5.block r9 (by omega)).trans U4.1
  have U5b := (hb5.block (r9 + 1) z4).trans U4.2
  have T5 := (B35.block q0 z3).trans H3.out.2.2.2.2.1
  have P5 := (B35.block (q0 + 1) z3p).trans H3.out.2.2.2.2.2
  have z5 : q0 < w5.heap.size := (Array.getElem?_eq_some_iff.1 T5).1
  have z5p : q0 + 1 < w5.heap.size := (Array.getElem?_eq_some_iff.1 P5).1
  have z59 : r9 + 1 < w5.heap.size := (Array.getElem?_eq_some_iff.1 U5b).1
  have H5 := Lib.hid (And.intro B35 (And.intro U5 (And.intro U5b (And.intro T5 (And.intro P5 row5)))))
  clear hW4 hr9 U4 B4 hb5 B35 U5 U5b T5 P5 V5 row5 b0 b1 b2 bf0 bf1 bf2 c0 c1 c2 c3 c4 c5 c6 c7 c8 c9 c10 c11 c12
  go_upto_region 6 with fail
  generalize hr10 : w5.heap.size = r10
  generalize hW : World.alloc _ _ = W
  have AA : W.heap[r10]? = some (.cells #[.int .i64 xs.length, .slice ao5 X3.length cap5, .int .i64 (1 + xs.length + C3)] 47 (0, 0)) ∧ W.heap[r10 + 1]? = some (.cells #[.int .i64 y0, .int .i64 y1, .int .i64 y2, .int .i64 y3, .int .i64 y4, .int .i64 y5, .int .i64 y6, .int .i64 y7, .int .i64 y8, .int .i64 y9, .int .i64 y10, .int .i64 y11, .slice bo n bc] 30 (0, 0)) ∧ W.heap[r10 + 1 + 1]? = some (.cells #[.int .u8 rk, .int .i32 rv] 25 (0, 0)) := by
    rw [← hW, ← hr10]
    exact ⟨(Below.heap_alloc _ _ _ (by simp; try omega)).trans (alloc2_heap0 _ _ _), (Below.heap_alloc _ _ _ (by simp; try omega)).trans (alloc2_heap1 _ _ _), alloc_at (by simp) _⟩
  have BW : Below w5.heap.size w5 W := by rw [← hW]; go_grown
  have H6 := Lib.hid (And.intro AA BW)
  have zz5 : w5.heap.size ≤ W.heap.size := BW.size
  have zA : r10 + 1 + 1 < W.heap.size := (Array.getElem?_eq_some_iff.1 AA.2.2).1
  have hr10' : w5.heap.size ≤ r10 := by omega
  clear hW hr10 AA BW
  have T6 := (H6.out.2.block q0 z5).trans H5.out.2.2.2.1
  have P6 := (H6.out.2.block (q0 + 1) z5p).trans H5.out.2.2.2.2.1
  have z6 : q0 + 1 < W.heap.size := by omega
  have z6a : q0 < W.heap.size := by omega
  obtain ⟨⟨d0, d1, d2, d3, d4, d5, d6, d7, d8, d9, d10, d11, d12⟩, -⟩ := blk13 T6
  obtain ⟨⟨p0, p1⟩, -⟩ := blk2c P6
  clear T6 P6
  go_wp2_with fail
  have BwW : Below w.heap.size w W := bmore H0.out.1 (H3.out.1.B.trans ((H5.out.1.trans (H6.out.2.mono H5.out.1.size)).mono H3.out.1.B.size))
  refine (oBegin_f W ⟨i0, i1, i2, i3, i4, i5, i6, i7, i8, i9, i10, i11⟩ ok ov (.slice bo n bc) n Fi (HI.out.below BwW) hn2 o1 o2 o3 o4).mono ?_
  rintro e w7 ⟨bt7, he, I7, hb7⟩
  obtain ⟨bo7, bc7, rfl, -⟩ := id I7
  obtain ⟨t7, ht7⟩ : ∃ t, begT ok ov ⟨i0, i1, i2, i3, i4, i5, i6, i7, i8, i9, i10, i11⟩ = t := ⟨_, rfl⟩
  obtain ⟨bg, hbg⟩ : ∃ C, decide (i1 = 0) = C := ⟨_, rfl⟩
  rw [ht7, show decide ((⟨i0, i1, i2, i3, i4, i5, i6, i7, i8, i9, i10, i11⟩ : Th).i1 = 0) = bg from hbg] at he
  have HT7 := Lib.hid (And.intro ht7 hbg)
  obtain ⟨b0, b1, b2, b3, b4, b5, b6, b7, b8, b9, b10, b11⟩ := t7
  simp only [thV] at he
  subst he
  have z7 : W.heap.size ≤ w7.heap.size := hb7.size
  have T7 := (hb7.block q0 (by omega)).trans ((H6.out.2.block q0 z5).trans H5.out.2.2.2.1)
  have P7 := (hb7.block (q0 + 1) (by omega)).trans ((H6.out.2.block (q0 + 1) z5p).trans H5.out.2.2.2.2.1)
  have z70 : q0 + 1 < w7.heap.size := (Array.getElem?_eq_some_iff.1 P7).1
  have z71 : q0 < w7.heap.size := by omega
  have HI7 := Lib.hid (And.intro I7 (And.intro hb7 (And.intro T7 P7)))
  clear ht7 hbg d0 d1 d2 d3 d4 d5 d6 d7 d8 d9 d10 d11 d12 p0 p1 I7 hb7
  obtain ⟨⟨d0, d1, d2, d3, d4, d5, d6, d7, d8, d9, d10, d11, d12⟩, -⟩ := blk13 T7
  obtain ⟨⟨p0, p1⟩, -⟩ := blk2c P7
  clear T7 P7
  go_wp2_with fail
  generalize hr16 : w7.heap.size = r16
  generalize hW8 : World.alloc _ _ = W8
  have A16 : W8.heap[r16]? = some (.cells #[.int .i64 b0, .int .i64 b1, .int .i64 b2, .int .i64 b3, .int .i64 b4, .int .i64 b5, .int .i64 b6, .int .i64 b7, .int .i64 b8, .int .i64 b9, .int .i64 b10, .int .i64 b11, .slice bo7 n bc7] 30 (0, 0)) := by rw [← hW8]; exact alloc_at hr16 _
  have B8 : Below w7.heap.size w7 W8 := by rw [← hW8]; go_grown
  have hr16' : w7.heap.size ≤ r16 := by omega
  have z8 : r16 < W8.heap.size := (Array.getElem?_eq_some_iff.1 A16).1
  clear hW8 hr16
  refine (rBegin15_f W8 ⟨i0, i1, i2, i3, i4, i5, i6, i7, i8, i9, i10, i11⟩ ok ov bo n bc o1 o2 o3 o4).mono ?_
  rintro e w9 ⟨he, hb9⟩
  rw [HT7.out.1, show decide ((⟨i0, i1, i2, i3, i4, i5, i6, i7, i8, i9, i10, i11⟩ : Th).i1 = 0) = bg from HT7.out.2] at he
  simp only [thV] at he
  subst he
  have H9 := Lib.hid (And.intro A16 (And.intro B8 hb9))
  have z9 : W8.heap.size ≤ w9.heap.size := hb9.size
  have z89 : w7.heap.size ≤ W8.heap.size := B8.size
  clear A16 B8 hb9 d0 d1 d2 d3 d4 d5 d6 d7 d8 d9 d10 d11 d12 p0 p1
  go_wp2_with fail
  generalize hr18 : w9.heap.size = r18
  generalize hZ : World.alloc _ _ = Z
  have A18 : Z.heap[r18]? = some (.cells #[.int .i64 b0, .int .i64 b1, .int .i64 b2, .int .i64 b3, .int .i64 b4, .int .i64 b5, .int .i64 b6, .int .i64 b7, .int .i64 b8, .int .i64 b9, .int .i64 b10, .int .i64 b11, .slice bo n bc] 30 (0, 0)) := by rw [← hZ]; exact alloc_at hr18 _
  have BZ9 : Below w9.heap.size w9 Z := by rw [← hZ]; go_grown
  have zZ : w9.heap.size ≤ Z.heap.size := BZ9.size
  have BWZ : Below W.heap.size W Z := bmore (bmore (bmore HI7.out.2.1 H9.out.2.1) H9.out.2.2) BZ9
  have B5Z : Below w5.heap.size w5 Z := bmore H6.out.2 BWZ
  have B3Z : Below w3.heap.size w3 Z := bmore H5.out.1 B5Z
  have BwZ : Below w.heap.size w Z := bmore BwW BWZ
  have G9 := (B5Z.block r9 (by omega)).trans H5.out.2.1
  have G9b := (B5Z.block (r9 + 1) z59).trans H5.out.2.2.1
  have G12 := (BWZ.block r10 (by omega)).trans H6.out.1.1
  have G13 := (BWZ.block (r10 + 1) (by omega)).trans H6.out.1.2.1
  have G14 := (BWZ.block (r10 + 1 + 1) zA).trans H6.out.1.2.2
  have B9Z : Below W8.heap.size W8 Z := bmore H9.out.2.2 BZ9
  have G16 := (B9Z.block r16 z8).trans H9.out.1
  have GT := (B3Z.block q0 z3).trans H3.out.2.2.2.2.1
  have HW := Lib.hid (And.intro (H3.out.1.below B3Z) (And.intro (H3.out.2.1.below B3Z) (And.intro (HI.out.below BwZ) (And.intro ((H5.out.2.2.2.2.2).below B5Z) (And.intro (HI7.out.1.below (bmore (bmore H9.out.2.1 H9.out.2.2) BZ9)) BwZ)))))
  have xa : r9 < Z.heap.size := (Array.getElem?_eq_some_iff.1 G9).1
  have xb : r9 + 1 < Z.heap.size := (Array.getElem?_eq_some_iff.1 G9b).1
  have xc : r10 < Z.heap.size := (Array.getElem?_eq_some_iff.1 G12).1
  have xd : r10 + 1 < Z.heap.size := (Array.getElem?_eq_some_iff.1 G13).1
  have xe : r10 + 1 + 1 < Z.heap.size := (Array.getElem?_eq_some_iff.1 G14).1
  have xf : r16 < Z.heap.size := (Array.getElem?_eq_some_iff.1 G16).1
  have xg : r18 < Z.heap.size := (Array.getElem?_eq_some_iff.1 A18).1
  have xh : q0 < Z.heap.size := (Array.getElem?_eq_some_iff.1 GT).1
  obtain ⟨⟨a0, a1, a2, a3, a4, a5, a6, a7, a8, a9, a10, a11, a12⟩, -⟩ := blk13 G9
  obtain ⟨⟨e0, e1⟩, -⟩ := blk2c G9b
  obtain ⟨d0, d1, d2, -⟩ := blk3 G12
  obtain ⟨⟨h0, h1, h2, h3, h4, h5, h6, h7, h8, h9, h10, h11, h12⟩, -⟩ := blk13 G13
  obtain ⟨⟨k0, k1⟩, -⟩ := blk2c G14
  obtain ⟨⟨m0, m1, m2, m3, m4, m5, m6, m7, m8, m9, m10, m11, m12⟩, -⟩ := blk13 G16
  obtain ⟨⟨u0, u1, u2, u3, u4, u5, u6, u7, u8, u9, u10, u11, u12⟩, -⟩ := blk13 A18
  obtain ⟨⟨t0, t1, t2, t3, t4, t5, t6, t7, t8, t9, t10, t11, t12⟩, -⟩ := blk13 GT
  have hlenW : X3.length ≤ 1000000 := by omega
  have au0 := fun (u : World) (hu : Below Z.heap.size Z u) => (hu.cell (p := ⟨r9, 0, none⟩) xa).trans a0
  have au1 := fun (u : World) (hu : Below Z.heap.size Z u) => (hu.cell (p := ⟨r9, 1, none⟩) xa).trans a1
  have au2 := fun (u : World) (hu : Below Z.heap.size Z u) => (hu.cell (p := ⟨r9, 2, none⟩) xa).trans a2
  have au3 := fun (u : World) (hu : Below Z.heap.size Z u) => (hu.cell (p := ⟨r9, 3, none⟩) xa).trans a3
  have au4 := fun (u : World) (hu : Below Z.heap.size Z u) => (hu.cell (p := ⟨r9, 4, none⟩) xa).trans a4
  have au5 := fun (u : World) (hu : Below Z.heap.size Z u) => (hu.cell (p := ⟨r9, 5, none⟩) xa).trans a5
  have au6 := fun (u : World) (hu : Below Z.heap.size Z u) => (hu.cell (p := ⟨r9, 6, none⟩) xa).trans a6
  have au7 := fun (u : World) (hu : Below Z.heap.size Z u) => (hu.cell (p := ⟨r9, 7, none⟩) xa).trans a7
  have au8 := fun (u : World) (hu : Below Z.heap.size Z u) => (hu.cell (p := ⟨r9, 8, none⟩) xa).trans a8
  have au9 := fun (u : World) (hu : Below Z.heap.size Z u) => (hu.cell (p := ⟨r9, 9, none⟩) xa).trans a9
  have au10 := fun (u : World) (hu : Below Z.heap.size Z u) => (hu.cell (p := ⟨r9, 10, none⟩) xa).trans a10
  have au11 := fun (u : World) (hu : Below Z.heap.size Z u) => (hu.cell (p := ⟨r9, 11, none⟩) xa).trans a11
  have au12 := fun (u : World) (hu : Below Z.heap.size Z u) => (hu.cell (p := ⟨r9, 12, none⟩) xa).trans a12
  have eu0 := fun (u : World) (hu : Below Z.heap.size Z u) => (hu.cell (p := ⟨r9 + 1, 0, none⟩) xb).trans e0
  have eu1 := fun (u : World) (hu : Below Z.heap.size Z u) => (hu.cell (p := ⟨r9 + 1, 1, none⟩) xb).trans e1
  have du0 := fun (u : World) (hu : Below Z.heap.size Z u) => (hu.cell (p := ⟨r10, 0, none⟩) xc).trans d0
  have du1 := fun (u : World) (hu : Below Z.heap.size Z u) => (hu.cell (p := ⟨r10, 1, none⟩) xc).trans d1
  have du2 := fun (u : World) (hu : Below Z.heap.size Z u) => (hu.cell (p := ⟨r10, 2, none⟩) xc).trans d2
  have hu0 := fun (u : World) (hu : Below Z.heap.size Z u) => (hu.cell (p := ⟨r10 + 1, 0, none⟩) xd).trans h0
  have hu1 := fun (u : World) (hu : Below Z.heap.size Z u) => (hu.cell (p := ⟨r10 + 1, 1, none⟩) xd).trans h1
  have hu2 := fun (u : World) (hu : Below Z.heap.size Z u) => (hu.cell (p := ⟨r10 + 1, 2, none⟩) xd).trans h2
  have hu3 := fun (u : World) (hu : Below Z.heap.size Z u) => (hu.cell (p := ⟨r10 + 1, 3, none⟩) xd).trans h3
  have hu4 := fun (u : World) (hu : Below Z.heap.size Z u) => (hu.cell (p := ⟨r10 + 1, 4, none⟩) xd).trans h4
  have hu5 := fun (u : World) (hu : Below Z.heap.size Z u) => (hu.cell (p := ⟨r10 + 1, 5, none⟩) xd).trans h5
  have hu6 := fun (u : World) (hu : Below Z.heap.size Z u) => (hu.cell (p := ⟨r10 + 1, 6, none⟩) xd).trans h6
  have hu7 := fun (u : World) (hu : Below Z.heap.size Z u) => (hu.cell (p := ⟨r10 + 1, 7, none⟩) xd).trans h7
  have hu8 := fun (u : World) (hu : Below Z.heap.size Z u) => (hu.cell (p := ⟨r10 + 1, 8, none⟩) xd).trans h8
  have hu9 := fun (u : World) (hu : Below Z.heap.size Z u) => (hu.cell (p := ⟨r10 + 1, 9, none⟩) xd).trans h9
  have hu10 := fun (u : World) (hu : Below Z.heap.size Z u) => (hu.cell (p := ⟨r10 + 1, 10, none⟩) xd).trans h10
  have hu11 := fun (u : World) (hu : Below Z.heap.size Z u) => (hu.cell (p := ⟨r10 + 1, 11, none⟩) xd).trans h11
  have hu12 := fun (u : World) (hu : Below Z.heap.size Z u) => (hu.cell (p := ⟨r10 + 1, 12, none⟩) xd).trans h12
  have ku0 := fun (u : World) (hu : Below Z.heap.size Z u) => (hu.cell (p := ⟨r10 + 1 + 1, 0, none⟩) xe).trans k0
  have ku1 := fun (u : World) (hu : Below Z.heap.size Z u) => (hu.cell (p := ⟨r10 + 1 + 1, 1, none⟩) xe).trans k1
  have mu0 := fun (u : World) (hu : Below Z.heap.size Z u) => (hu.cell (p := ⟨r16, 0, none⟩) xf).trans m0
  have mu1 := fun (u : World) (hu : Below Z.heap.size Z u) => (hu.cell (p := ⟨r16, 1, none⟩) xf).trans m1
  have mu2 := fun (u : World) (hu : Below Z.heap.size Z u) => (hu.cell (p := ⟨r16, 2, none⟩) xf).trans m2
  have mu3 := fun (u : World) (hu : Below Z.heap.size Z u) => (hu.cell (p := ⟨r16, 3, none⟩) xf).trans m3
  have mu4 := fun (u : World) (hu : Below Z.heap.size Z u) => (hu.cell (p := ⟨r16, 4, none⟩) xf).trans m4
  have mu5 := fun (u : World) (hu : Below Z.heap.size Z u) => (hu.cell (p := ⟨r16, 5, none⟩) xf).trans m5
  have mu6 := fun (u : World) (hu : Below Z.heap.size Z u) => (hu.cell (p := ⟨r16, 6, none⟩) xf).trans m6
  have mu7 := fun (u : World) (hu : Below Z.heap.size Z u) => (hu.cell (p := ⟨r16, 7, none⟩) xf).trans m7
  have mu8 := fun (u : World) (hu : Below Z.heap.size Z u) => (hu.cell (p := ⟨r16, 8, none⟩) xf).trans m8
  have mu9 := fun (u : World) (hu : Below Z.heap.size Z u) => (hu.cell (p := ⟨r16, 9, none⟩) xf).trans m9
  have mu10 := fun (u : World) (hu : Below Z.heap.size Z u) => (hu.cell (p := ⟨r16, 10, none⟩) xf).trans m10
  have mu11 := fun (u : World) (hu : Below Z.heap.size Z u) => (hu.cell (p := ⟨r16, 11, none⟩) xf).trans m11
  have mu12 := fun (u : World) (hu : Below Z.heap.size Z u) => (hu.cell (p := ⟨r16, 12, none⟩) xf).trans m12
  have uu0 := fun (u : World) (hu : Below Z.heap.size Z u) => (hu.cell (p := ⟨r18, 0, none⟩) xg).trans u0
  have uu1 := fun (u : World) (hu : Below Z.heap.size Z u) => (hu.cell (p := ⟨r18, 1, none⟩) xg).trans u1
  have uu2 := fun (u : World) (hu : Below Z.heap.size Z u) => (hu.cell (p := ⟨r18, 2, none⟩) xg).trans u2
  have uu3 := fun (u : World) (hu : Below Z.heap.size Z u) => (hu.cell (p := ⟨r18, 3, none⟩) xg).trans u3
  have uu4 := fun (u : World) (hu : Below Z.heap.size Z u) => (hu.cell (p := ⟨r18, 4, none⟩) xg).trans u4
  have uu5 := fun (u : World) (hu : Below Z.heap.size Z u) => (hu.cell (p := ⟨r18, 5, none⟩) xg).trans u5
  have uu6 := fun (u : World) (hu : Below Z.heap.size Z u) => (hu.cell (p := ⟨r18, 6, none⟩) xg).trans u6
  have uu7 := fun (u : World) (hu : Below Z.heap.size Z u) => (hu.cell (p := ⟨r18, 7, none⟩) xg).trans u7
  have uu8 := fun (u : World) (hu : Below Z.heap.size Z u) => (hu.cell (p := ⟨r18, 8, none⟩) xg).trans u8
  have uu9 := fun (u : World) (hu : Below Z.heap.size Z u) => (hu.cell (p := ⟨r18, 9, none⟩) xg).trans u9
  have uu10 := fun (u : World) (hu : Below Z.heap.size Z u) => (hu.cell (p := ⟨r18, 10, none⟩) xg).trans u10
  have uu11 := fun (u : World) (hu : Below Z.heap.size Z u) => (hu.cell (p := ⟨r18, 11, none⟩) xg).trans u11
  have uu12 := fun (u : World) (hu : Below Z.heap.size Z u) => (hu.cell (p := ⟨r18, 12, none⟩) xg).trans u12
  have tu0 := fun (u : World) (hu : Below Z.heap.size Z u) => (hu.cell (p := ⟨q0, 0, none⟩) xh).trans t0
  have tu1 := fun (u : World) (hu : Below Z.heap.size Z u) => (hu.cell (p := ⟨q0, 1, none⟩) xh).trans t1
  have tu2 := fun (u : World) (hu : Below Z.heap.size Z u) => (hu.cell (p := ⟨q0, 2, none⟩) xh).trans t2
  have tu3 := fun (u : World) (hu : Below Z.heap.size Z u) => (hu.cell (p := ⟨q0, 3, none⟩) xh).trans t3
  have tu4 := fun (u : World) (hu : Below Z.heap.size Z u) => (hu.cell (p := ⟨q0, 4, none⟩) xh).trans t4
  have tu5 := fun (u : World) (hu : Below Z.heap.size Z u) => (hu.cell (p := ⟨q0, 5, none⟩) xh).trans t5
  have tu6 := fun (u : World) (hu : Below Z.heap.size Z u) => (hu.cell (p := ⟨q0, 6, none⟩) xh).trans t6
  have tu7 := fun (u : World) (hu : Below Z.heap.size Z u) => (hu.cell (p := ⟨q0, 7, none⟩) xh).trans t7
  have tu8 := fun (u : World) (hu : Below Z.heap.size Z u) => (hu.cell (p := ⟨q0, 8, none⟩) xh).trans t8
  have tu9 := fun (u : World) (hu : Below Z.heap.size Z u) => (hu.cell (p := ⟨q0, 9, none⟩) xh).trans t9
  have tu10 := fun (u : World) (hu : Below Z.heap.size Z u) => (hu.cell (p := ⟨q0, 10, none⟩) xh).trans t10
  have tu11 := fun (u : World) (hu : Below Z.heap.size Z u) => (hu.cell (p := ⟨q0, 11, none⟩) xh).trans t11
  have tu12 := fun (u : World) (hu : Below Z.heap.size Z u) => (hu.cell (p := ⟨q0, 12, none⟩) xh).trans t12
  clear hZ hr18 A18 BZ9 BWZ B5Z B3Z BwZ B9Z G9 G9b G12 G13 G14 G16 GT a0 a1 a2 a3 a4 a5 a6 a7 a8 a9 a10 a11 a12 e0 e1 d0 d1 d2 h0 h1 h2 h3 h4 h5 h6 h7 h8 h9 h10 h11 h12 k0 k1 m0 m1 m2 m3 m4 m5 m6 m7 m8 m9 m10 m11 m12 u0 u1 u2 u3 u4 u5 u6 u7 u8 u9 u10 u11 u12 t0 t1 t2 t3 t4 t5 t6 t7 t8 t9 t10 t11 t12 BwW
  go_region_held3 (fun wz => Below Z.heap.size Z wz ∧ Z.heap.size ≤ wz.heap.size)
    (first | (exact ⟨(Below.refl _ _).drew, Nat.le_refl _⟩) | (go_split_ands; refine ⟨?_, ?_⟩ <;> first | (with_reducible assumption) | (have := hb.size; omega) | exact Below.trans (by with_reducible assumption) (hb.mono (by omega))))
    (first | (go_at_call 22; go_split_ands; with_reducible refine (Same15_self _ y0 y1 y2 y3 y4 y5 y6 y7 y8 y9 y10 y11 _ _ n Fi (HW.out.2.1.below (by with_reducible assumption)) (HW.out.2.2.1.below (by with_reducible assumption)) hn2).mono ?_; rintro e w20 ⟨rfl, hb⟩) | (go_at_call 22; go_split_ands; with_reducible refine (Same15_self _ b0 b1 b2 b3 b4 b5 b6 b7 b8 b9 b10 b11 _ _ n Fi (HW.out.2.2.2.2.1.below (by with_reducible assumption)) (HW.out.2.2.1.below (by with_reducible assumption)) hn2).mono ?_; rintro e w21 ⟨rfl, hb⟩) | (go_at_call 24; go_split_ands; with_reducible refine (Cells_ms (HW.out.1.below (by with_reducible assumption))).mono ?_; rintro e w22 ⟨ao7, cap7, rfl, -, r7, hb, -⟩) | (go_at_call 23; go_split_ands; with_reducible refine (Same64_self _ _ X3 _ r7 (HW.out.2.2.2.1.below (by with_reducible assumption)) hlenW).mono ?_; rintro e w23 ⟨rfl, hb⟩) | (go_at_call 29; go_split_ands; with_reducible refine (Steps_ms (HW.out.1.below (by with_reducible assumption))).mono ?_; rintro e w24 ⟨rfl, rfl⟩) | (go_at_call 36; go_split_ands; with_reducible refine (oAsks_c _ i0 i1 i2 i3 i4 i5 i6 i7 i8 i9 i10 i11 bo n bc h1 h2).mono ?_; rintro e w25 ⟨rfl, hb⟩))
  all_goals
    go_split_ands
    have BZZ := bmore HW.out.2.2.2.2.2 (show Below Z.heap.size Z _ from by with_reducible assumption)
    go_wp2
    go_ret
    exact ⟨by first | rfl | (simp; done) | (simp; omega), hq ▸ BZZ⟩

end Go.Proofs.Ytcellcjojfbajaa
