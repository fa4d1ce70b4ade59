/- OwnerIdle: the walk. -/
import Derived.Test.YtcellcjojfbajaaOwI
import Derived.Test.YtcellcjojfbajaaOwK
import Derived.Test.YtcellcjojfbajaaSame15
import Derived.Deep.RegionHeld3
namespace Go.Proofs.Ytcellcjojfbajaa
set_option linter.unusedSimpArgs false
set_option linter.unusedVariables false
open Go.RowKit
open Go.ChangeShapes Go.WideShapes Go.ChangeAt

set_option maxRecDepth 100000 in
set_option maxHeartbeats 8000000 in
theorem ownerIdle_c (l : Value) (ls : List Int) (i0 i1 i2 i3 i4 i5 i6 i7 i8 i9 i10 i11 : Int) (bt : Value) (n : Nat) (F : Nat → Int) (ok ov k : Int) (w : World) (hl : InSlice .i64 w l ls) (hI : Its w bt n F) (r1 : -9223372036854775808 ≤ i2) (r2 : i2 ≤ 9223372036854775807) (o1 : 0 ≤ ok) (o2 : ok ≤ 255) (o3 : -2147483648 ≤ ov) (o4 : ov ≤ 2147483647) (k0 : 0 ≤ k) (k1 : k ≤ 255) (h1 : ls.length ≤ 150) (h2 : n ≤ 20) (h3 : 1 ≤ i1) (h4 : 16 < i1) : Calls Try.prog 7 #[.agg #[.int .i64 i0, .int .i64 i1, .int .i64 i2, .int .i64 i3, .int .i64 i4, .int .i64 i5, .int .i64 i6, .int .i64 i7, .int .i64 i8, .int .i64 i9, .int .i64 i10, .int .i64 i11, bt], l, .agg #[.int .u8 ok, .int .i32 ov], .int .u8 k] w fun e w' => e = .returned (.bool true) ∧ Below w.heap.size w w' := by
  have HL := Lib.hid hl.sl
  have HI := Lib.hid hI
  obtain ⟨ao, cap, rfl, -, -, -⟩ := hl
  obtain ⟨bo, bc, rfl, -⟩ := hI
  have h1b : (ls.length : Int) ≤ 150 := by omega
  have h2b : (n : Int) ≤ 20 := by omega
  go_enter Try.func7, Try.ntmps7
  go_wp2_with fail
  generalize hq : w.heap.size = q
  generalize hW0 : World.alloc _ _ = W0
  have QQ : W0.heap[q]? = some (.cells #[.int .i64 i0, .int .i64 i1, .int .i64 i2, .int .i64 i3, .int .i64 i4, .int .i64 i5, .int .i64 i6, .int .i64 i7, .int .i64 i8, .int .i64 i9, .int .i64 i10, .int .i64 i11, .slice bo n bc] 30 (0, 0)) ∧ W0.heap[q + 1]? = some (.cells #[.int .u8 ok, .int .i32 ov] 23 (0, 0)) := by rw [← hW0]; exact alloc2_at hq _ _
  have B0 : Below w.heap.size w W0 := by rw [← hW0]; go_grown
  have zq : q + 1 < W0.heap.size := (Array.getElem?_eq_some_iff.1 QQ.2).1
  refine (Memory13_f _ ls _ (HL.out.below B0) (by omega)).mono ?_
  rintro e w1 ⟨v, b, g, q', rfl, h, -⟩
  obtain ⟨ao1, cap1, rfl, -, -⟩ := h.rv.open
  have zb : W0.heap.size ≤ b := h.ms.2.1
  have fq : ∀ j, j < W0.heap.size → ¬ Foot b g j := fun j hj e => by
    rcases e with e | e
    · omega
    · have := h.ms.2.2.1 _ e.symm; omega
  have HS := Lib.hid (show LS w w1 b g ls.length ls (1 + ls.length) q ⟨i0, i1, i2, i3, i4, i5, i6, i7, i8, i9, i10, i11⟩ (.slice bo n bc) [(q + 1, .cells #[.int .u8 ok, .int .i32 ov] 23 (0, 0))] from ⟨(Both.older B0 h).ms, (h.ms.B.block q (by omega)).trans QQ.1, fq q (by omega), by omega, (fun p hp => by
    rcases List.mem_singleton.1 hp with rfl
    exact ⟨(h.ms.B.block (q + 1) zq).trans QQ.2, fq (q + 1) zq, by show q + 1 ≠ q; omega⟩), by omega, ⟨r1, r2⟩⟩)
  clear hW0 QQ B0 h fq zb
  obtain ⟨⟨a0, a1, a2, a3, a4, a5, a6, a7, a8, a9, a10, a11, a12⟩, -⟩ := blk13 HS.out.at_
  have fa0 := blkF HS.out.at_ 0; have fa1 := blkF HS.out.at_ 1; have fa2 := blkF HS.out.at_ 2; have fa3 := blkF HS.out.at_ 3; have fa4 := blkF HS.out.at_ 4; have fa5 := blkF HS.out.at_ 5; have fa6 := blkF HS.out.at_ 6; have fa7 := blkF HS.out.at_ 7; have fa8 := blkF HS.out.at_ 8; have fa9 := blkF HS.out.at_ 9; have fa10 := blkF HS.out.at_ 10; have fa11 := blkF HS.out.at_ 11; have fa12 := blkF HS.out.at_ 12
  have zq1 := HS.out.lt
  go_wp2_with fail
  generalize hW : World.alloc _ _ = W
  have H2 := Lib.hid (HS.out.below (w' := W) (by rw [← hW]; go_grown))
  clear hW HS
  clear a0 a1 a2 a3 a4 a5 a6 a7 a8 a9 a10 a11 a12 fa0 fa1 fa2 fa3 fa4 fa5 fa6 fa7 fa8 fa9 fa10 fa11 fa12
  refine (Steps_ms H2.out.ms).mono ?_
  rintro e w' ⟨rfl, rfl⟩
  obtain ⟨⟨a0, a1, a2, a3, a4, a5, a6, a7, a8, a9, a10, a11, a12⟩, -⟩ := blk13 H2.out.at_
  go_wp2_with fail
  refine (oStep_no w _ b g _ _ ls i0 i1 i2 i3 i4 i5 i6 i7 i8 i9 i10 i11 (.slice bo n bc) n F H2.out.ms (HI.out.below H2.out.ms.B) (by omega) (.inr h4)).mono ?_
  rintro e w3 ⟨bt3, rfl, m3, I3, k3⟩
  obtain ⟨bo3, bc3, rfl, -⟩ := id I3
  have H3 := Lib.hid (H2.out.mem m3 k3 (.inl rfl) H2.out.s0)
  have HI3 := Lib.hid I3
  clear a0 a1 a2 a3 a4 a5 a6 a7 a8 a9 a10 a11 a12 m3 I3 k3 H2
  obtain ⟨⟨a0, a1, a2, a3, a4, a5, a6, a7, a8, a9, a10, a11, a12⟩, -⟩ := blk13 H3.out.at_
  have za := H3.out.lt
  go_wp2_with fail
  generalize hr12 : w3.heap.size = r12
  generalize hW4 : World.alloc _ _ = W4
  have AA4 : W4.heap[r12]? = some (.cells #[.int .i64 i0, .int .i64 i1, .int .i64 i2, .int .i64 i3, .int .i64 i4, .int .i64 i5, .int .i64 i6, .int .i64 i7, .int .i64 i8, .int .i64 i9, .int .i64 i10, .int .i64 i11, .slice bo3 n bc3] 30 (0, 0)) ∧ W4.heap[r12 + 1]? = some (.cells #[.int .u8 0, .int .i32 0] 25 (0, 0)) := by rw [← hW4]; exact alloc2_at hr12 _ _
  have B4 : Below w3.heap.size w3 W4 := by rw [← hW4]; go_grown
  have zl4 := H3.out.lt
  have H4 := Lib.hid (((H3.out.below B4).more AA4.1 (H3.out.ms.past r12 (by omega)) (by omega)).more AA4.2 (H3.out.ms.past (r12 + 1) (by omega)) (by omega))
  have HI4 := Lib.hid (HI3.out.below B4)
  clear hr12 hW4 AA4 B4 zl4
  clear a0 a1 a2 a3 a4 a5 a6 a7 a8 a9 a10 a11 a12 HI3
  refine (Same15_self _ i0 i1 i2 i3 i4 i5 i6 i7 i8 i9 i10 i11 (.slice bo3 n bc3) (.slice bo n bc) n F HI4.out (HI.out.below H4.out.ms.B) (by omega)).mono ?_
  rintro e w5 ⟨rfl, hb5⟩
  have H5 := Lib.hid (H4.out.below hb5)
  clear hb5 H4 HI4
  obtain ⟨⟨x0, x1⟩, zx⟩ := blk2c (H5.out.get (.head _))
  go_wp2_with fail
  refine (Steps_ms H5.out.ms).mono ?_
  rintro e w' ⟨rfl, rfl⟩
  go_wp2_with fail
  refine (Cells_ms H5.out.ms).mono ?_
  rintro e w6 ⟨ao6, cap6, rfl, -, row6, hb6, -⟩
  have H6 := Lib.hid (H5.out.below hb6)
  have HR6 := Lib.hid row6.sl
  clear hb6 row6 H5 x0 x1 zx
  go_wp2_with fail
  refine (Same64_slf _ _ ls _ HR6.out (HL.out.below H6.out.ms.B) (by omega)).mono ?_
  rintro e w7 ⟨rfl, hb7⟩
  have H7 := Lib.hid (H6.out.below hb7)
  clear hb7 H6 HR6
  obtain ⟨⟨a0, a1, a2, a3, a4, a5, a6, a7, a8, a9, a10, a11, a12⟩, -⟩ := blk13 H7.out.at_
  obtain ⟨⟨p0, p1⟩, zp⟩ := blk2c (H7.out.get (.tail _ (.tail _ (.head _))))
  have za := H7.out.lt
  have nq : q + 1 < w7.heap.size := (Array.getElem?_eq_some_iff.1 (H7.out.get (.tail _ (.tail _ (.head _))))).1
  go_wp2_with fail
  generalize hr16 : w7.heap.size = r16
  generalize hW8 : World.alloc _ _ = W8
  have AA8 : W8.heap[r16]? = some (.cells #[.int .i64 i0, .int .i64 (1 + k % 16), .int .i64 i2, .int .i64 i3, .int .i64 i4, .int .i64 i5, .int .i64 i6, .int .i64 i7, .int .i64 i8, .int .i64 i9, .int .i64 i10, .int .i64 i11, .slice bo n bc] 30 (0, 0)) := by rw [← hW8]; exact alloc_at hr16 _
  have B8 : Below w7.heap.size w7 W8 := by rw [← hW8]; go_grown
  have zl8 := H7.out.lt
  have H8 := Lib.hid ((H7.out.below B8).more AA8 (H7.out.ms.past r16 (by omega)) (by omega))
  clear hr16 hW8 AA8 B8 zl8
  clear a0 a1 a2 a3 a4 a5 a6 a7 a8 a9 a10 a11 a12 p0 p1 zp
  refine (oBegin_ao W8 i0 (1 + k % 16) i2 i3 i4 i5 i6 i7 i8 i9 i10 i11 ok ov (.slice bo n bc) n F (HI.out.below H8.out.ms.B) (by omega) o1 o2 o3 o4 (by simp; omega)).mono ?_
  rintro e w9 ⟨bt9, rfl, I9, hb9, ho9⟩
  obtain ⟨bo9, bc9, rfl, -⟩ := id I9
  have nF9 : ∀ k, (Value.slice bo9 n bc9).ownBlock = some k → ¬ Foot b g k := fun k hk => H8.out.ms.past k (ho9 k hk)
  have H9 := Lib.hid (H8.out.below hb9)
  have HI9 := Lib.hid (And.intro I9 nF9)
  clear hb9 ho9 I9 nF9 H8
  obtain ⟨⟨a0, a1, a2, a3, a4, a5, a6, a7, a8, a9, a10, a11, a12⟩, za⟩ := blk13 (H9.out.get (.head _))
  go_wp2_with fail
  generalize hr17 : w9.heap.size = r17
  generalize hWA : World.alloc _ _ = WA
  have AAA : WA.heap[r17]? = some (.cells #[.int .i64 i0, .int .i64 (1 + k % 16), .int .i64 i2, .int .i64 i3, .int .i64 i4, .int .i64 i5, .int .i64 i6, .int .i64 i7, .int .i64 i8, .int .i64 i9, .int .i64 i10, .int .i64 i11, .slice bo9 n bc9] 30 (0, 0)) := by rw [← hWA]; exact alloc_at hr17 _
  have BA : Below w9.heap.size w9 WA := by rw [← hWA]; go_grown
  have zlA := H9.out.lt
  have HA := Lib.hid ((H9.out.below BA).more AAA (H9.out.ms.past r17 (by omega)) (by omega))
  have HIA := Lib.hid (And.intro (HI9.out.1.below BA) HI9.out.2)
  clear hr17 hWA AAA BA zlA
  clear a0 a1 a2 a3 a4 a5 a6 a7 a8 a9 a10 a11 a12 za HI9 H9
  refine (oStep_f w WA b g _ _ ls ⟨i0, (1 + k % 16), i2, i3, i4, i5, i6, i7, i8, i9, i10, i11⟩ (.slice bo n bc) n F HA.out.ms (HI.out.below HA.out.ms.B) (by omega) HA.out.s0 (by omega) ⟨r1, r2⟩).mono ?_
  rintro e wB ⟨btB, gB, he, mB, IB, kB, hgB⟩
  have HIB := Lib.hid (HIA.out.1.keptB kB HIA.out.2)
  have HB := Lib.hid (HA.out.mem mB kB hgB (owC_pos HA.out.s0))
  have cB := owC_rng ls.length ls ⟨i0, (1 + k % 16), i2, i3, i4, i5, i6, i7, i8, i9, i10, i11⟩
  obtain ⟨cC, hcC⟩ : ∃ x, owC ls.length ls ⟨i0, (1 + k % 16), i2, i3, i4, i5, i6, i7, i8, i9, i10, i11⟩ = x := ⟨_, rfl⟩
  obtain ⟨tC, htC⟩ : ∃ x, owT ls.length ls ⟨i0, (1 + k % 16), i2, i3, i4, i5, i6, i7, i8, i9, i10, i11⟩ = x := ⟨_, rfl⟩
  obtain ⟨kC, hkC⟩ : ∃ x, owK ls ⟨i0, (1 + k % 16), i2, i3, i4, i5, i6, i7, i8, i9, i10, i11⟩ = x := ⟨_, rfl⟩
  obtain ⟨vC, hvC⟩ : ∃ x, owV ls ⟨i0, (1 + k % 16), i2, i3, i4, i5, i6, i7, i8, i9, i10, i11⟩ = x := ⟨_, rfl⟩
  obtain ⟨dC, hdC⟩ : ∃ x, decide ((1 + k % 16) = 14) = x := ⟨_, rfl⟩
  rw [htC, hkC, hvC, show decide ((⟨i0, (1 + k % 16), i2, i3, i4, i5, i6, i7, i8, i9, i10, i11⟩ : Th).i1 = 14) = dC from hdC] at he
  clear IB mB kB hgB HA HIA
  simp only [thV] at he
  subst he
  rw [hcC] at cB
  have HC := Lib.hid hcC
  clear hcC htC hkC hvC hdC
  go_wp2_with fail
  refine (Steps_ms HB.out.ms).mono ?_
  rintro e w' ⟨rfl, rfl⟩
  rw [HC.out]
  go_wp2_with fail
  refine (known15_any _).mono ?_
  rintro e wG ⟨rfl, hbG⟩
  have HG := Lib.hid (HB.out.below hbG)
  have HIG := Lib.hid (HIB.out.below hbG)
  clear hbG HB HIB
  obtain ⟨⟨a0, a1, a2, a3, a4, a5, a6, a7, a8, a9, a10, a11, a12⟩, za⟩ := blk13 (HG.out.get (.head _))
  obtain ⟨⟨d0, d1, d2, d3, d4, d5, d6, d7, d8, d9, d10, d11, d12⟩, zd⟩ := blk13 (HG.out.get (.tail _ (.head _)))
  go_wp2_with fail
  refine (Same15_self _ i0 (1 + k % 16) i2 i3 i4 i5 i6 i7 i8 i9 i10 i11 (.slice bo9 n bc9) (.slice bo n bc) n F HIG.out (HI.out.below HG.out.ms.B) (by omega)).mono ?_
  rintro e wH ⟨rfl, hbH⟩
  have BH := HG.out.ms.B.trans (hbH.mono HG.out.ms.B.size)
  go_wp2
  go_ret
  exact ⟨by first | rfl | (simp; done) | (simp; omega), hq ▸ BH⟩

end Go.Proofs.Ytcellcjojfbajaa
