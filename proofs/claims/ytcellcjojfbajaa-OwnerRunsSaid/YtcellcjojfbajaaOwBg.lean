/- Who begins to ask: package owner. -/
import Derived.Test.YtcellcjojfbajaaOwD
import Derived.Test.YtcellcjojfbajaaWord
namespace Go.Proofs.Ytcellcjojfbajaa
set_option linter.unusedSimpArgs false
set_option linter.unusedVariables false
open Go.RowKit
open Go.ChangeShapes Go.WideShapes Go.ChangeAt

set_option maxRecDepth 100000 in
set_option maxHeartbeats 8000000 in
theorem oBegin_a (w : World) (i0 i1 i2 i3 i4 i5 i6 i7 i8 i9 i10 i11 k v : Int) (bt : Value) (n : Nat) (F : Nat → Int) (hI : Its w bt n F) (hn : n ≤ 1000000) (k1 : 0 ≤ k) (k2 : k ≤ 255) (v1 : -2147483648 ≤ v) (v2 : v ≤ 2147483647) (h1 : (i1 != 0) = true) :
    Calls Try.prog 11 #[.agg #[.int .i64 i0, .int .i64 i1, .int .i64 i2, .int .i64 i3, .int .i64 i4, .int .i64 i5, .int .i64 i6, .int .i64 i7, .int .i64 i8, .int .i64 i9, .int .i64 i10, .int .i64 i11, bt], .agg #[.int .u8 k, .int .i32 v]] w fun e w' => ∃ bt', e = .returned (.tuple #[.agg #[.int .i64 i0, .int .i64 i1, .int .i64 i2, .int .i64 i3, .int .i64 i4, .int .i64 i5, .int .i64 i6, .int .i64 i7, .int .i64 i8, .int .i64 i9, .int .i64 i10, .int .i64 i11, bt'], .bool false]) ∧ Its w' bt' n F ∧ Below w.heap.size w w' := by
  have HI := Lib.hid hI
  obtain ⟨ao, cap, hbt, -⟩ := id hI
  subst hbt
  clear hI
  go_enter Try.func11, Try.ntmps11
  go_wp2_with fail
  refine (cloneItem_own (.slice ao n cap) n F _ (HI.out.below (by go_grown)) hn).mono ?_
  rintro e w1 ⟨bt', rfl, hI1, hb1, ho1⟩
  obtain ⟨ao', cap', hbt', -⟩ := id hI1
  subst hbt'
  have z1 : w.heap.size + 2 < w1.heap.size := by have := hb1.size; first | omega | (simp at this; omega)
  have B5 : w1.heap[w.heap.size]? = some (.cells #[.int .i64 i0, .int .i64 i1, .int .i64 i2, .int .i64 i3, .int .i64 i4, .int .i64 i5, .int .i64 i6, .int .i64 i7, .int .i64 i8, .int .i64 i9, .int .i64 i10, .int .i64 i11, .slice ao n cap] 30 (0, 0)) := (hb1.block w.heap.size (by first | omega | (simp; omega) | (simp; done))).trans (alloc3_heap _ _ _ _).1
  have B6 : w1.heap[w.heap.size + 1]? = some (.cells #[.int .u8 k, .int .i32 v] 23 (0, 0)) := (hb1.block (w.heap.size + 1) (by first | omega | (simp; omega) | (simp; done))).trans (alloc3_heap _ _ _ _).2.1
  have B7 : w1.heap[w.heap.size + 2]? = some (.cells #[.int .i64 0, .int .i64 0, .int .i64 0, .int .i64 0, .int .i64 0, .int .i64 0, .int .i64 0, .int .i64 0, .int .i64 0, .int .i64 0, .int .i64 0, .int .i64 0, .slice none 0 0] 30 (0, 0)) := (hb1.block (w.heap.size + 2) (by first | omega | (simp; omega) | (simp; done))).trans (alloc3_heap _ _ _ _).2.2
  have BW : Below w.heap.size w w1 := Below.trans (by go_grown) (hb1.mono (by first | omega | (simp; omega) | (simp; done)))
  obtain ⟨⟨c0, c1, c2, c3, c4, c5, c6, c7, c8, c9, c10, c11, c12⟩, z0⟩ := blk13 B5
  have f12 := blkF B5 12
  have ho2 : ∀ k, (Value.slice ao' n cap').ownBlock = some k → w.heap.size + 3 ≤ k ∧ k < w1.heap.size := fun k hk => ⟨by have := (ho1 k hk).1; simp at this; omega, (ho1 k hk).2⟩
  have H1 := Lib.hid (And.intro hI1 (And.intro BW (And.intro ho2 (And.intro B5 (And.intro B6 B7)))))
  obtain ⟨⟨d0, d1, d2, d3, d4, d5, d6, d7, d8, d9, d10, d11, d12⟩, -⟩ := blk13 B7
  have fc0 := blkF B7 0; have fc1 := blkF B7 1; have fc2 := blkF B7 2; have fc3 := blkF B7 3; have fc4 := blkF B7 4; have fc5 := blkF B7 5; have fc6 := blkF B7 6; have fc7 := blkF B7 7; have fc8 := blkF B7 8; have fc9 := blkF B7 9; have fc10 := blkF B7 10; have fc11 := blkF B7 11; have fc12 := blkF B7 12
  clear hb1 hI1 BW ho1 ho2 B5 B6 B7
  go_wp2
  generalize hw7 : World.setCell _ _ _ = w7
  have K2 := (Kept.refl (fun k => k = w.heap.size) w1).setCell (p := ⟨w.heap.size, 12, none⟩) (fun _ => rfl) (.slice ao' n cap')
  have E : w7.heap[w.heap.size + 2]? = some (.cells #[.int .i64 i0, .int .i64 i1, .int .i64 i2, .int .i64 i3, .int .i64 i4, .int .i64 i5, .int .i64 i6, .int .i64 i7, .int .i64 i8, .int .i64 i9, .int .i64 i10, .int .i64 i11, .slice ao' n cap'] 30 (0, 0)) ∧ Kept (fun k => k = w.heap.size ∨ k = w.heap.size + 2) w1 w7 := by
    rw [← hw7]
    exact ⟨set13 ((K2.block (w.heap.size + 2) z1 (by omega)).trans H1.out.2.2.2.2.2) rfl, (K2.mono (fun _ _ e => .inl e)).trans ((kept_set13 _ _ _ _ _ _ _ _ _ _ _ _ _ _ _).mono (fun _ _ e => .inr e))⟩
  obtain ⟨E1, KE⟩ := E
  obtain ⟨⟨r0, r1, r2, r3, r4, r5, r6, r7, r8, r9, r10, r11, r12⟩, -⟩ := blk13 E1
  have hW := H1.out.2.1.size
  refine bodyPost_ret (v := .tuple #[.agg #[.int .i64 i0, .int .i64 i1, .int .i64 i2, .int .i64 i3, .int .i64 i4, .int .i64 i5, .int .i64 i6, .int .i64 i7, .int .i64 i8, .int .i64 i9, .int .i64 i10, .int .i64 i11, .slice ao' n cap'], .bool false]) (by simp [results, Try.results11, go_sem, r0, r1, r2, r3, r4, r5, r6, r7, r8, r9, r10, r11, r12]) rfl ⟨_, rfl, ?_, ?_⟩
  · exact H1.out.1.keptB KE (fun k hk e => by have := H1.out.2.2.1 k hk; omega)
  · exact H1.out.2.1.trans (KE.below hW (fun k hk e => by omega))

set_option maxRecDepth 100000 in
set_option maxHeartbeats 8000000 in
theorem oBegin_b (w : World) (i0 i1 i2 i3 i4 i5 i6 i7 i8 i9 i10 i11 k v : Int) (bt : Value) (n : Nat) (F : Nat → Int) (hI : Its w bt n F) (hn : n ≤ 1000000) (k1 : 0 ≤ k) (k2 : k ≤ 255) (v1 : -2147483648 ≤ v) (v2 : v ≤ 2147483647) (h1 : (i1 != 0) = false) (h2 : (i2 != 0) = false) :
    Calls Try.prog 11 #[.agg #[.int .i64 i0, .int .i64 i1, .int .i64 i2, .int .i64 i3, .int .i64 i4, .int .i64 i5, .int .i64 i6, .int .i64 i7, .int .i64 i8, .int .i64 i9, .int .i64 i10, .int .i64 i11, bt], .agg #[.int .u8 k, .int .i32 v]] w fun e w' => ∃ bt', e = .returned (.tuple #[.agg #[.int .i64 i0, .int .i64 1, .int .i64 i2, .int .i64 (wrap64 (i3 + 1)), .int .i64 (wordOf k v), .int .i64 i5, .int .i64 i6, .int .i64 i7, .int .i64 i8, .int .i64 i9, .int .i64 i10, .int .i64 i11, bt'], .bool true]) ∧ Its w' bt' n F ∧ Below w.heap.size w w' := by
  have HI := Lib.hid hI
  obtain ⟨ao, cap, hbt, -⟩ := id hI
  subst hbt
  clear hI
  go_enter Try.func11, Try.ntmps11
  go_wp2_with fail
  refine (cloneItem_own (.slice ao n cap) n F _ (HI.out.below (by go_grown)) hn).mono ?_
  rintro e w1 ⟨bt', rfl, hI1, hb1, ho1⟩
  obtain ⟨ao', cap', hbt', -⟩ := id hI1
  subst hbt'
  have z1 : w.heap.size + 2 < w1.heap.size := by have := hb1.size; first | omega | (simp at this; omega)
  have B5 : w1.heap[w.heap.size]? = some (.cells #[.int .i64 i0, .int .i64 i1, .int .i64 i2, .int .i64 i3, .int .i64 i4, .int .i64 i5, .int .i64 i6, .int .i64 i7, .int .i64 i8, .int .i64 i9, .int .i64 i10, .int .i64 i11, .slice ao n cap] 30 (0, 0)) := (hb1.block w.heap.size (by first | omega | (simp; omega) | (simp; done))).trans (alloc3_heap _ _ _ _).1
  have B6 : w1.heap[w.heap.size + 1]? = some (.cells #[.int .u8 k, .int .i32 v] 23 (0, 0)) := (hb1.block (w.heap.size + 1) (by first | omega | (simp; omega) | (simp; done))).trans (alloc3_heap _ _ _ _).2.1
  have B7 : w1.heap[w.heap.size + 2]? = some (.cells #[.int .i64 0, .int .i64 0, .int .i64 0, .int .i64 0, .int .i64 0, .int .i64 0, .int .i64 0, .int .i64 0, .int .i64 0, .int .i64 0, .int .i64 0, .int .i64 0, .slice none 0 0] 30 (0, 0)) := (hb1.block (w.heap.size + 2) (by first | omega | (simp; omega) | (simp; done))).trans (alloc3_heap _ _ _ _).2.2
  have BW : Below w.heap.size w w1 := Below.trans (by go_grown) (hb1.mono (by first | omega | (simp; omega) | (simp; done)))
  obtain ⟨⟨c0, c1, c2, c3, c4, c5, c6, c7, c8, c9, c10, c11, c12⟩, z0⟩ := blk13 B5
  have f12 := blkF B5 12
  have ho2 : ∀ k, (Value.slice ao' n cap').ownBlock = some k → w.heap.size + 3 ≤ k ∧ k < w1.heap.size := fun k hk => ⟨by have := (ho1 k hk).1; simp at this; omega, (ho1 k hk).2⟩
  have H1 := Lib.hid (And.intro hI1 (And.intro BW (And.intro ho2 (And.intro B5 (And.intro B6 B7)))))
  obtain ⟨⟨k0, k9⟩, -⟩ := blk2c B6
  clear hb1 hI1 BW ho1 ho2 B5 B6 B7
  go_wp2_with fail
  generalize hw2 : World.setCell _ _ _ = w2
  have K2 : Kept (fun k => k = w.heap.size ∨ k = w.heap.size + 2) w1 w2 := by rw [← hw2]; exact (Kept.refl (fun k => k = w.heap.size ∨ k = w.heap.size + 2) w1).setCell (p := ⟨w.heap.size, 12, none⟩) (fun _ => .inl rfl) _
  have D5 : w2.heap[w.heap.size]? = some (.cells #[.int .i64 i0, .int .i64 i1, .int .i64 i2, .int .i64 i3, .int .i64 i4, .int .i64 i5, .int .i64 i6, .int .i64 i7, .int .i64 i8, .int .i64 i9, .int .i64 i10, .int .i64 i11, .slice ao' n cap'] 30 (0, 0)) := by rw [← hw2]; rw [heap_setCell_self H1.out.2.2.2.1]; rfl
  have D7 : w2.heap[w.heap.size + 2]? = some (.cells #[.int .i64 0, .int .i64 0, .int .i64 0, .int .i64 0, .int .i64 0, .int .i64 0, .int .i64 0, .int .i64 0, .int .i64 0, .int .i64 0, .int .i64 0, .int .i64 0, .slice none 0 0] 30 (0, 0)) := by rw [← hw2]; exact (Kept.block ((Kept.refl (fun k => k = w.heap.size) w1).setCell (p := ⟨w.heap.size, 12, none⟩) (fun _ => rfl) _) (w.heap.size + 2) z1 (by omega)).trans H1.out.2.2.2.2.2
  have z2 : w.heap.size + 2 < w2.heap.size := Nat.lt_of_lt_of_le z1 K2.size
  clear hw2 c0 c1 c2 c3 c4 c5 c6 c7 c8 c9 c10 c11 c12 f12 k0 k9
  refine (wOp_any k v w2 k1 k2 v1 v2).mono ?_
  rintro e w3 ⟨rfl, hb3⟩
  have G5 := (hb3.block w.heap.size (by omega)).trans D5
  have G7 := (hb3.block (w.heap.size + 2) (by omega)).trans D7
  have KS : Kept (fun k => k = w.heap.size ∨ k = w.heap.size + 2) w1 w3 := K2.trans (keptF hb3)
  obtain ⟨⟨c0, c1, c2, c3, c4, c5, c6, c7, c8, c9, c10, c11, c12⟩, z3⟩ := blk13 G5
  obtain ⟨⟨d0, d1, d2, d3, d4, d5, d6, d7, d8, d9, d10, d11, d12⟩, z4⟩ := blk13 G7
  have f1 := blkF G5 1
  have f3 := blkF G5 3
  have f4 := blkF G5 4
  have fc0 := blkF G7 0; have fc1 := blkF G7 1; have fc2 := blkF G7 2; have fc3 := blkF G7 3; have fc4 := blkF G7 4; have fc5 := blkF G7 5; have fc6 := blkF G7 6; have fc7 := blkF G7 7; have fc8 := blkF G7 8; have fc9 := blkF G7 9; have fc10 := blkF G7 10; have fc11 := blkF G7 11; have fc12 := blkF G7 12
  have HG := Lib.hid (And.intro G7 (And.intro KS G5))
  clear hb3 D5 D7 K2 G5 G7 KS d0 d1 d2 d3 d4 d5 d6 d7 d8 d9 d10 d11 d12 fc0 fc1 fc2 fc3 fc4 fc5 fc6 fc7 fc8 fc9 fc10 fc11 fc12
  go_upto_region 9 with fail
  generalize hw4 : World.setCell _ _ _ = w4
  have KQ := (((Kept.refl (fun k => k = w.heap.size) w3).setCell (p := ⟨w.heap.size, 4, none⟩) (fun _ => rfl) (.int .i64 (wordOf k v))).setCell (p := ⟨w.heap.size, 3, none⟩) (fun _ => rfl) (.int .i64 (wrap64 (i3 + 1)))).setCell (p := ⟨w.heap.size, 1, none⟩) (fun _ => rfl) (.int .i64 1)
  have E5 : w4.heap[w.heap.size]? = some (.cells #[.int .i64 i0, .int .i64 1, .int .i64 i2, .int .i64 (wrap64 (i3 + 1)), .int .i64 (wordOf k v), .int .i64 i5, .int .i64 i6, .int .i64 i7, .int .i64 i8, .int .i64 i9, .int .i64 i10, .int .i64 i11, .slice ao' n cap'] 30 (0, 0)) := by
    rw [← hw4]
    have a1 : (w3.setCell ⟨w.heap.size, 4, none⟩ (.int .i64 (wordOf k v))).heap[w.heap.size]? = some (.cells #[.int .i64 i0, .int .i64 i1, .int .i64 i2, .int .i64 i3, .int .i64 (wordOf k v), .int .i64 i5, .int .i64 i6, .int .i64 i7, .int .i64 i8, .int .i64 i9, .int .i64 i10, .int .i64 i11, .slice ao' n cap'] 30 (0, 0)) := by rw [heap_setCell_self HG.out.2.2]; rfl
    have a2 : ((w3.setCell ⟨w.heap.size, 4, none⟩ (.int .i64 (wordOf k v))).setCell ⟨w.heap.size, 3, none⟩ (.int .i64 (wrap64 (i3 + 1)))).heap[w.heap.size]? = some (.cells #[.int .i64 i0, .int .i64 i1, .int .i64 i2, .int .i64 (wrap64 (i3 + 1)), .int .i64 (wordOf k v), .int .i64 i5, .int .i64 i6, .int .i64 i7, .int .i64 i8, .int .i64 i9, .int .i64 i10, .int .i64 i11, .slice ao' n cap'] 30 (0, 0)) := by rw [heap_setCell_self a1]; rfl
    have a3 : (((w3.setCell ⟨w.heap.size, 4, none⟩ (.int .i64 (wordOf k v))).setCell ⟨w.heap.size, 3, none⟩ (.int .i64 (wrap64 (i3 + 1)))).setCell ⟨w.heap.size, 1, none⟩ (.int .i64 1)).heap[w.heap.size]? = some (.cells #[.int .i64 i0, .int .i64 1, .int .i64 i2, .int .i64 (wrap64 (i3 + 1)), .int .i64 (wordOf k v), .int .i64 i5, .int .i64 i6, .int .i64 i7, .int .i64 i8, .int .i64 i9, .int .i64 i10, .int .i64 i11, .slice ao' n cap'] 30 (0, 0)) := by rw [heap_setCell_self a2]; rfl
    skip
    exact a3
  rw [hw4] at KQ
  have E7 := (KQ.block (w.heap.size + 2) z4 (by omega)).trans HG.out.1
  have z5 : w.heap.size + 2 < w4.heap.size := (Array.getElem?_eq_some_iff.1 E7).1
  obtain ⟨⟨g0, g1, g2, g3, g4, g5, g6, g7, g8, g9, g10, g11, g12⟩, -⟩ := blk13 E5
  obtain ⟨⟨d0, d1, d2, d3, d4, d5, d6, d7, d8, d9, d10, d11, d12⟩, -⟩ := blk13 E7
  have fc0 := blkF E7 0; have fc1 := blkF E7 1; have fc2 := blkF E7 2; have fc3 := blkF E7 3; have fc4 := blkF E7 4; have fc5 := blkF E7 5; have fc6 := blkF E7 6; have fc7 := blkF E7 7; have fc8 := blkF E7 8; have fc9 := blkF E7 9; have fc10 := blkF E7 10; have fc11 := blkF E7 11; have fc12 := blkF E7 12
  have HH := Lib.hid (And.intro E7 (HG.out.2.1.trans (KQ.mono (fun _ _ e => .inl e))))
  clear hw4 KQ E5 E7 c0 c1 c2 c3 c4 c5 c6 c7 c8 c9 c10 c11 c12 f1 f3 f4
  go_wp2
  generalize hw7 : World.setCell _ _ _ = w7
  have E : w7.heap[w.heap.size + 2]? = some (.cells #[.int .i64 i0, .int .i64 1, .int .i64 i2, .int .i64 (wrap64 (i3 + 1)), .int .i64 (wordOf k v), .int .i64 i5, .int .i64 i6, .int .i64 i7, .int .i64 i8, .int .i64 i9, .int .i64 i10, .int .i64 i11, .slice ao' n cap'] 30 (0, 0)) ∧ Kept (fun k => k = w.heap.size ∨ k = w.heap.size + 2) w1 w7 := by
    rw [← hw7]
    exact ⟨set13 HH.out.1 rfl, HH.out.2.trans ((kept_set13 _ _ _ _ _ _ _ _ _ _ _ _ _ _ _).mono (fun _ _ e => .inr e))⟩
  obtain ⟨E1, KE⟩ := E
  obtain ⟨⟨r0, r1, r2, r3, r4, r5, r6, r7, r8, r9, r10, r11, r12⟩, -⟩ := blk13 E1
  have hW := H1.out.2.1.size
  refine bodyPost_ret (v := .tuple #[.agg #[.int .i64 i0, .int .i64 1, .int .i64 i2, .int .i64 (wrap64 (i3 + 1)), .int .i64 (wordOf k v), .int .i64 i5, .int .i64 i6, .int .i64 i7, .int .i64 i8, .int .i64 i9, .int .i64 i10, .int .i64 i11, .slice ao' n cap'], .bool true]) (by simp [results, Try.results11, go_sem, r0, r1, r2, r3, r4, r5, r6, r7, r8, r9, r10, r11, r12]) rfl ⟨_, rfl, ?_, ?_⟩
  · exact H1.out.1.keptB KE (fun k hk e => by have := H1.out.2.2.1 k hk; omega)
  · exact H1.out.2.1.trans (KE.below hW (fun k hk e => by omega))

set_option maxRecDepth 100000 in
set_option maxHeartbeats 8000000 in
theorem oBegin_c (w : World) (i0 i1 i2 i3 i4 i5 i6 i7 i8 i9 i10 i11 k v : Int) (bt : Value) (n : Nat) (F : Nat → Int) (hI : Its w bt n F) (hn : n ≤ 1000000) (k1 : 0 ≤ k) (k2 : k ≤ 255) (v1 : -2147483648 ≤ v) (v2 : v ≤ 2147483647) (h1 : (i1 != 0) = false) (h2 : (i2 != 0) = true) :
    Calls Try.prog 11 #[.agg #[.int .i64 i0, .int .i64 i1, .int .i64 i2, .int .i64 i3, .int .i64 i4, .int .i64 i5, .int .i64 i6, .int .i64 i7, .int .i64 i8, .int .i64 i9, .int .i64 i10, .int .i64 i11, bt], .agg #[.int .u8 k, .int .i32 v]] w fun e w' => ∃ bt', e = .returned (.tuple #[.agg #[.int .i64 i0, .int .i64 2, .int .i64 i2, .int .i64 (wrap64 (i3 + 1)), .int .i64 (wordOf k v), .int .i64 i5, .int .i64 i6, .int .i64 i7, .int .i64 i8, .int .i64 i9, .int .i64 i10, .int .i64 i11, bt'], .bool true]) ∧ Its w' bt' n F ∧ Below w.heap.size w w' := by
  have HI := Lib.hid hI
  obtain ⟨ao, cap, hbt, -⟩ := id hI
  subst hbt
  clear hI
  go_enter Try.func11, Try.ntmps11
  go_wp2_with fail
  refine (cloneItem_own (.slice ao n cap) n F _ (HI.out.below (by go_grown)) hn).mono ?_
  rintro e w1 ⟨bt', rfl, hI1, hb1, ho1⟩
  obtain ⟨ao', cap', hbt', -⟩ := id hI1
  subst hbt'
  have z1 : w.heap.size + 2 < w1.heap.size := by have := hb1.size; first | omega | (simp at this; omega)
  have B5 : w1.heap[w.heap.size]? = some (.cells #[.int .i64 i0, .int .i64 i1, .int .i64 i2, .int .i64 i3, .int .i64 i4, .int .i64 i5, .int .i64 i6, .int .i64 i7, .int .i64 i8, .int .i64 i9, .int .i64 i10, .int .i64 i11, .slice ao n cap] 30 (0, 0)) := (hb1.block w.heap.size (by first | omega | (simp; omega) | (simp; done))).trans (alloc3_heap _ _ _ _).1
  have B6 : w1.heap[w.heap.size + 1]? = some (.cells #[.int .u8 k, .int .i32 v] 23 (0, 0)) := (hb1.block (w.heap.size + 1) (by first | omega | (simp; omega) | (simp; done))).trans (alloc3_heap _ _ _ _).2.1
  have B7 : w1.heap[w.heap.size + 2]? = some (.cells #[.int .i64 0, .int .i64 0, .int .i64 0, .int .i64 0, .int .i64 0, .int .i64 0, .int .i64 0, .int .i64 0, .int .i64 0, .int .i64 0, .int .i64 0, .int .i64 0, .slice none 0 0] 30 (0, 0)) := (hb1.block (w.heap.size + 2) (by first | omega | (simp; omega) | (simp; done))).trans (alloc3_heap _ _ _ _).2.2
  have BW : Below w.heap.size w w1 := Below.trans (by go_grown) (hb1.mono (by first | omega | (simp; omega) | (simp; done)))
  obtain ⟨⟨c0, c1, c2, c3, c4, c5, c6, c7, c8, c9, c10, c11, c12⟩, z0⟩ := blk13 B5
  have f12 := blkF B5 12
  have ho2 : ∀ k, (Value.slice ao' n cap').ownBlock = some k → w.heap.size + 3 ≤ k ∧ k < w1.heap.size := fun k hk => ⟨by have := (ho1 k hk).1; simp at this; omega, (ho1 k hk).2⟩
  have H1 := Lib.hid (And.intro hI1 (And.intro BW (And.intro ho2 (And.intro B5 (And.intro B6 B7)))))
  obtain ⟨⟨k0, k9⟩, -⟩ := blk2c B6
  clear hb1 hI1 BW ho1 ho2 B5 B6 B7
  go_wp2_with fail
  generalize hw2 : World.setCell _ _ _ = w2
  have K2 : Kept (fun k => k = w.heap.size ∨ k = w.heap.size + 2) w1 w2 := by rw [← hw2]; exact (Kept.refl (fun k => k = w.heap.size ∨ k = w.heap.size + 2) w1).setCell (p := ⟨w.heap.size, 12, none⟩) (fun _ => .inl rfl) _
  have D5 : w2.heap[w.heap.size]? = some (.cells #[.int .i64 i0, .int .i64 i1, .int .i64 i2, .int .i64 i3, .int .i64 i4, .int .i64 i5, .int .i64 i6, .int .i64 i7, .int .i64 i8, .int .i64 i9, .int .i64 i10, .int .i64 i11, .slice ao' n cap'] 30 (0, 0)) := by rw [← hw2]; rw [heap_setCell_self H1.out.2.2.2.1]; rfl
  have D7 : w2.heap[w.heap.size + 2]? = some (.cells #[.int .i64 0, .int .i64 0, .int .i64 0, .int .i64 0, .int .i64 0, .int .i64 0, .int .i64 0, .int .i64 0, .int .i64 0, .int .i64 0, .int .i64 0, .int .i64 0, .slice none 0 0] 30 (0, 0)) := by rw [← hw2]; exact (Kept.block ((Kept.refl (fun k => k = w.heap.size) w1).setCell (p := ⟨w.heap.size, 12, none⟩) (fun _ => rfl) _) (w.heap.size + 2) z1 (by omega)).trans H1.out.2.2.2.2.2
  have z2 : w.heap.size + 2 < w2.heap.size := Nat.lt_of_lt_of_le z1 K2.size
  clear hw2 c0 c1 c2 c3 c4 c5 c6 c7 c8 c9 c10 c11 c12 f12 k0 k9
  refine (wOp_any k v w2 k1 k2 v1 v2).mono ?_
  rintro e w3 ⟨rfl, hb3⟩
  have G5 := (hb3.block w.heap.size (by omega)).trans D5
  have G7 := (hb3.block (w.heap.size + 2) (by omega)).trans D7
  have KS : Kept (fun k => k = w.heap.size ∨ k = w.heap.size + 2) w1 w3 := K2.trans (keptF hb3)
  obtain ⟨⟨c0, c1, c2, c3, c4, c5, c6, c7, c8, c9, c10, c11, c12⟩, z3⟩ := blk13 G5
  obtain ⟨⟨d0, d1, d2, d3, d4, d5, d6, d7, d8, d9, d10, d11, d12⟩, z4⟩ := blk13 G7
  have f1 := blkF G5 1
  have f3 := blkF G5 3
  have f4 := blkF G5 4
  have fc0 := blkF G7 0; have fc1 := blkF G7 1; have fc2 := blkF G7 2; have fc3 := blkF G7 3; have fc4 := blkF G7 4; have fc5 := blkF G7 5; have fc6 := blkF G7 6; have fc7 := blkF G7 7; have fc8 := blkF G7 8; have fc9 := blkF G7 9; have fc10 := blkF G7 10; have fc11 := blkF G7 11; have fc12 := blkF G7 12
  have HG := Lib.hid (And.intro G7 (And.intro KS G5))
  clear hb3 D5 D7 K2 G5 G7 KS d0 d1 d2 d3 d4 d5 d6 d7 d8 d9 d10 d11 d12 fc0 fc1 fc2 fc3 fc4 fc5 fc6 fc7 fc8 fc9 fc10 fc11 fc12
  go_upto_region 9 with fail
  generalize hw4 : World.setCell _ _ _ = w4
  have KQ := ((((Kept.refl (fun k => k = w.heap.size) w3).setCell (p := ⟨w.heap.size, 4, none⟩) (fun _ => rfl) (.int .i64 (wordOf k v))).setCell (p := ⟨w.heap.size, 3, none⟩) (fun _ => rfl) (.int .i64 (wrap64 (i3 + 1)))).setCell (p := ⟨w.heap.size, 1, none⟩) (fun _ => rfl) (.int .i64 1)).setCell (p := ⟨w.heap.size, 1, none⟩) (fun _ => rfl) (.int .i64 2)
  have E5 : w4.heap[w.heap.size]? = some (.cells #[.int .i64 i0, .int .i64 2, .int .i64 i2, .int .i64 (wrap64 (i3 + 1)), .int .i64 (wordOf k v), .int .i64 i5, .int .i64 i6, .int .i64 i7, .int .i64 i8, .int .i64 i9, .int .i64 i10, .int .i64 i11, .slice ao' n cap'] 30 (0, 0)) := by
    rw [← hw4]
    have a1 : (w3.setCell ⟨w.heap.size, 4, none⟩ (.int .i64 (wordOf k v))).heap[w.heap.size]? = some (.cells #[.int .i64 i0, .int .i64 i1, .int .i64 i2, .int .i64 i3, .int .i64 (wordOf k v), .int .i64 i5, .int .i64 i6, .int .i64 i7, .int .i64 i8, .int .i64 i9, .int .i64 i10, .int .i64 i11, .slice ao' n cap'] 30 (0, 0)) := by rw [heap_setCell_self HG.out.2.2]; rfl
    have a2 : ((w3.setCell ⟨w.heap.size, 4, none⟩ (.int .i64 (wordOf k v))).setCell ⟨w.heap.size, 3, none⟩ (.int .i64 (wrap64 (i3 + 1)))).heap[w.heap.size]? = some (.cells #[.int .i64 i0, .int .i64 i1, .int .i64 i2, .int .i64 (wrap64 (i3 + 1)), .int .i64 (wordOf k v), .int .i64 i5, .int .i64 i6, .int .i64 i7, .int .i64 i8, .int .i64 i9, .int .i64 i10, .int .i64 i11, .slice ao' n cap'] 30 (0, 0)) := by rw [heap_setCell_self a1]; rfl
    have a3 : (((w3.setCell ⟨w.heap.size, 4, none⟩ (.int .i64 (wordOf k v))).setCell ⟨w.heap.size, 3, none⟩ (.int .i64 (wrap64 (i3 + 1)))).setCell ⟨w.heap.size, 1, none⟩ (.int .i64 1)).heap[w.heap.size]? = some (.cells #[.int .i64 i0, .int .i64 1, .int .i64 i2, .int .i64 (wrap64 (i3 + 1)), .int .i64 (wordOf k v), .int .i64 i5, .int .i64 i6, .int .i64 i7, .int .i64 i8, .int .i64 i9, .int .i64 i10, .int .i64 i11, .slice ao' n cap'] 30 (0, 0)) := by rw [heap_setCell_self a2]; rfl
    have a4 : ((((w3.setCell ⟨w.heap.size, 4, none⟩ (.int .i64 (wordOf k v))).setCell ⟨w.heap.size, 3, none⟩ (.int .i64 (wrap64 (i3 + 1)))).setCell ⟨w.heap.size, 1, none⟩ (.int .i64 1)).setCell ⟨w.heap.size, 1, none⟩ (.int .i64 2)).heap[w.heap.size]? = some (.cells #[.int .i64 i0, .int .i64 2, .int .i64 i2, .int .i64 (wrap64 (i3 + 1)), .int .i64 (wordOf k v), .int .i64 i5, .int .i64 i6, .int .i64 i7, .int .i64 i8, .int .i64 i9, .int .i64 i10, .int .i64 i11, .slice ao' n cap'] 30 (0, 0)) := by rw [heap_setCell_self a3]; rfl
    exact a4
  rw [hw4] at KQ
  have E7 := (KQ.block (w.heap.size + 2) z4 (by omega)).trans HG.out.1
  have z5 : w.heap.size + 2 < w4.heap.size := (Array.getElem?_eq_some_iff.1 E7).1
  obtain ⟨⟨g0, g1, g2, g3, g4, g5, g6, g7, g8, g9, g10, g11, g12⟩, -⟩ := blk13 E5
  obtain ⟨⟨d0, d1, d2, d3, d4, d5, d6, d7, d8, d9, d10, d11, d12⟩, -⟩ := blk13 E7
  have fc0 := blkF E7 0; have fc1 := blkF E7 1; have fc2 := blkF E7 2; have fc3 := blkF E7 3; have fc4 := blkF E7 4; have fc5 := blkF E7 5; have fc6 := blkF E7 6; have fc7 := blkF E7 7; have fc8 := blkF E7 8; have fc9 := blkF E7 9; have fc10 := blkF E7 10; have fc11 := blkF E7 11; have fc12 := blkF E7 12
  have HH := Lib.hid (And.intro E7 (HG.out.2.1.trans (KQ.mono (fun _ _ e => .inl e))))
  clear hw4 KQ E5 E7 c0 c1 c2 c3 c4 c5 c6 c7 c8 c9 c10 c11 c12 f1 f3 f4
  go_wp2
  generalize hw7 : World.setCell _ _ _ = w7
  have E : w7.heap[w.heap.size + 2]? = some (.cells #[.int .i64 i0, .int .i64 2, .int .i64 i2, .int .i64 (wrap64 (i3 + 1)), .int .i64 (wordOf k v), .int .i64 i5, .int .i64 i6, .int .i64 i7, .int .i64 i8, .int .i64 i9, .int .i64 i10, .int .i64 i11, .slice ao' n cap'] 30 (0, 0)) ∧ Kept (fun k => k = w.heap.size ∨ k = w.heap.size + 2) w1 w7 := by
    rw [← hw7]
    exact ⟨set13 HH.out.1 rfl, HH.out.2.trans ((kept_set13 _ _ _ _ _ _ _ _ _ _ _ _ _ _ _).mono (fun _ _ e => .inr e))⟩
  obtain ⟨E1, KE⟩ := E
  obtain ⟨⟨r0, r1, r2, r3, r4, r5, r6, r7, r8, r9, r10, r11, r12⟩, -⟩ := blk13 E1
  have hW := H1.out.2.1.size
  refine bodyPost_ret (v := .tuple #[.agg #[.int .i64 i0, .int .i64 2, .int .i64 i2, .int .i64 (wrap64 (i3 + 1)), .int .i64 (wordOf k v), .int .i64 i5, .int .i64 i6, .int .i64 i7, .int .i64 i8, .int .i64 i9, .int .i64 i10, .int .i64 i11, .slice ao' n cap'], .bool true]) (by simp [results, Try.results11, go_sem, r0, r1, r2, r3, r4, r5, r6, r7, r8, r9, r10, r11, r12]) rfl ⟨_, rfl, ?_, ?_⟩
  · exact H1.out.1.keptB KE (fun k hk e => by have := H1.out.2.2.1 k hk; omega)
  · exact H1.out.2.1.trans (KE.below hW (fun k hk e => by omega))

end Go.Proofs.Ytcellcjojfbajaa
