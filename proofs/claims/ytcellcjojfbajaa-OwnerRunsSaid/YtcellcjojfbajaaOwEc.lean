/- Step of package owner, place by place: the contract of what is done there is a premise. -/
import Derived.Test.YtcellcjojfbajaaOwD
namespace Go.Proofs.Ytcellcjojfbajaa
set_option linter.unusedSimpArgs false
set_option linter.unusedVariables false
open Go.RowKit
open Go.ChangeShapes Go.WideShapes Go.ChangeAt

set_option maxRecDepth 100000 in
set_option maxHeartbeats 8000000 in
theorem oStep_13 (W0 w : World) (b : Nat) (g : Option Nat) (N st st' : Int) (xs xs' : List Int) (i0 i2 i3 i4 i5 i6 i7 i8 i9 i10 i11 y0 y1 y2 y3 y4 y5 y6 y7 y8 y9 y10 y11 rc rv : Int) (td : Bool) (bt : Value) (n : Nat) (F : Nat → Int) (h : MS W0 w b g N xs st) (hI : Its w bt n F) (hn : n ≤ 1000000) (s0 : 0 ≤ st) (hM : ∀ (u : World) (x : Nat) (bt : Value), OT W0 u x g N st xs i0 13 i2 i3 i4 i5 i6 i7 i8 i9 i10 i11 bt b 0 0 false → Calls Try.prog 66 #[.pointer (some ⟨x, 0, none⟩)] u fun e u' => e = .returned (.tuple #[]) ∧ ∃ g', OT W0 u' x g' N st' xs' y0 y1 y2 y3 y4 y5 y6 y7 y8 y9 y10 y11 bt b rc rv td ∧ Kept (FX b g x) u u' ∧ (g' = g ∨ ∃ k, g' = some k ∧ u.heap.size ≤ k)) :
    Calls Try.prog 12 #[.pointer (some ⟨b, 0, none⟩), .agg #[.int .i64 i0, .int .i64 13, .int .i64 i2, .int .i64 i3, .int .i64 i4, .int .i64 i5, .int .i64 i6, .int .i64 i7, .int .i64 i8, .int .i64 i9, .int .i64 i10, .int .i64 i11, bt]] w fun e w' => ∃ bt' g', e = .returned (.tuple #[(.agg #[.int .i64 y0, .int .i64 y1, .int .i64 y2, .int .i64 y3, .int .i64 y4, .int .i64 y5, .int .i64 y6, .int .i64 y7, .int .i64 y8, .int .i64 y9, .int .i64 y10, .int .i64 y11, bt']), .agg #[.int .u8 rc, .int .i32 rv], .bool td]) ∧ MS W0 w' b g' N xs' st' ∧ Its w' bt' n F ∧ Kept (Foot b g) w w' ∧ (g' = g ∨ ∃ k, g' = some k ∧ w.heap.size ≤ k) := by
  have HF := Lib.hid (And.intro h (And.intro hI (And.intro h.past hM)))
  obtain ⟨ao, cap, hbt, -⟩ := id hI
  subst hbt
  clear h hI hM
  go_enter Try.func12, Try.ntmps12
  go_wp2_with fail
  refine (cloneItem_own (.slice ao n cap) n F _ (HF.out.2.1.below (by go_grown)) hn).mono ?_
  rintro e w1 ⟨bt', rfl, hI1, hb1, ho1⟩
  obtain ⟨ao', cap', hbt', -⟩ := id hI1
  subst hbt'
  have z1 : w.heap.size + 2 < w1.heap.size := by have := hb1.size; first | omega | (simp at this; omega)
  have B5 : w1.heap[w.heap.size]? = some (.cells #[.int .i64 i0, .int .i64 13, .int .i64 i2, .int .i64 i3, .int .i64 i4, .int .i64 i5, .int .i64 i6, .int .i64 i7, .int .i64 i8, .int .i64 i9, .int .i64 i10, .int .i64 i11, .slice ao n cap] 30 (0, 0)) := (hb1.block w.heap.size (by first | omega | (simp; omega) | (simp; done))).trans (alloc3_heap _ _ _ _).1
  have B6 : w1.heap[w.heap.size + 1]? = some (.cells #[.int .i64 0, .int .i64 0, .int .i64 0, .int .i64 0, .int .i64 0, .int .i64 0, .int .i64 0, .int .i64 0, .int .i64 0, .int .i64 0, .int .i64 0, .int .i64 0, .slice none 0 0] 30 (0, 0)) := (hb1.block (w.heap.size + 1) (by first | omega | (simp; omega) | (simp; done))).trans (alloc3_heap _ _ _ _).2.1
  have B7 : w1.heap[w.heap.size + 2]? = some (.cells #[.int .u8 0, .int .i32 0] 25 (0, 0)) := (hb1.block (w.heap.size + 2) (by first | omega | (simp; omega) | (simp; done))).trans (alloc3_heap _ _ _ _).2.2
  have BW : Below w.heap.size w w1 := Below.trans (by go_grown) (hb1.mono (by first | omega | (simp; omega) | (simp; done)))
  obtain ⟨⟨c0, c1, c2, c3, c4, c5, c6, c7, c8, c9, c10, c11, c12⟩, z0⟩ := blk13 B5
  have f12 := blkF B5 12
  have ho2 : ∀ k, (Value.slice ao' n cap').ownBlock = some k → w.heap.size + 3 ≤ k ∧ k < w1.heap.size := fun k hk => ⟨by have := (ho1 k hk).1; simp at this; omega, (ho1 k hk).2⟩
  have H1 := Lib.hid (And.intro hI1 (And.intro BW (And.intro ho2 (And.intro B5 (And.intro B6 B7)))))
  clear hb1 hI1 BW ho1 ho2 B5 B6 B7
  go_wp2_with fail
  generalize hw2 : World.setCell _ _ _ = w2
  have K2 : Kept (fun k => k = w.heap.size) w1 w2 := by rw [← hw2]; exact (Kept.refl (fun k => k = w.heap.size) w1).setCell (p := ⟨w.heap.size, 12, none⟩) (fun _ => rfl) _
  have D5 : w2.heap[w.heap.size]? = some (.cells #[.int .i64 i0, .int .i64 13, .int .i64 i2, .int .i64 i3, .int .i64 i4, .int .i64 i5, .int .i64 i6, .int .i64 i7, .int .i64 i8, .int .i64 i9, .int .i64 i10, .int .i64 i11, .slice ao' n cap'] 30 (0, 0)) := by rw [← hw2]; rw [heap_setCell_self H1.out.2.2.2.1]; rfl
  have D6 := (K2.block (w.heap.size + 1) (by omega) (by omega)).trans H1.out.2.2.2.2.1
  have D7 := (K2.block (w.heap.size + 2) (by omega) (by omega)).trans H1.out.2.2.2.2.2
  have hz : W0.heap.size ≤ w.heap.size := HF.out.1.B.size
  have zw1 := H1.out.2.1.size
  have M2 : MS W0 w2 b g N xs st := (HF.out.1.below H1.out.2.1).kept K2 ((HF.out.1.B.trans (H1.out.2.1.mono HF.out.1.B.size)).trans (K2.below (by omega) (fun k hk e => by omega))) (fun e => by have := HF.out.1.mem.lt; omega) (fun k e e2 => HF.out.2.2.1 k (by omega) (.inr e.symm))
  have I2 : Its w2 (.slice ao' n cap') n F := H1.out.1.keptB K2 (fun k hk e => by have := H1.out.2.2.1 k hk; omega)
  have KW : Kept (Foot b g) w w2 := (keptF (F := Foot b g) H1.out.2.1).step K2 (fun i hi e => by omega)
  have z2 : w.heap.size + 2 < w2.heap.size := Nat.lt_of_lt_of_le z1 K2.size
  have o2 : ∀ k, (Value.slice ao' n cap').ownBlock = some k → w.heap.size + 3 ≤ k ∧ k < w2.heap.size := fun k hk => ⟨(H1.out.2.2.1 k hk).1, Nat.lt_of_lt_of_le (H1.out.2.2.1 k hk).2 K2.size⟩
  have H2 := Lib.hid (And.intro M2 (And.intro I2 (And.intro KW (And.intro o2 (And.intro D5 (And.intro D6 D7))))))
  clear hw2 K2 D5 D6 D7 M2 I2 KW o2 H1 c0 c1 c2 c3 c4 c5 c6 c7 c8 c9 c10 c11 c12 f12 z1 z0
  refine (oAsks_b w2 i0 13 i2 i3 i4 i5 i6 i7 i8 i9 i10 i11 ao' n cap' (by omega) (by omega)).mono ?_
  rintro e w3 ⟨rfl, hb3⟩
  have D5 := (hb3.block w.heap.size (by omega)).trans H2.out.2.2.2.2.1
  have z3 : w.heap.size + 2 < w3.heap.size := Nat.lt_of_lt_of_le z2 hb3.size
  obtain ⟨⟨c0, c1, c2, c3, c4, c5, c6, c7, c8, c9, c10, c11, c12⟩, -⟩ := blk13 D5
  have HB := Lib.hid (And.intro hb3 D5)
  clear hb3 D5
  go_upto_region 5 with fail
  generalize hx : w3.heap.size = x
  generalize hw4 : World.alloc _ _ = w4
  have B4 : Below w3.heap.size w3 w4 := by rw [← hw4]; go_grown
  have B24 : Below w2.heap.size w2 w4 := HB.out.1.trans (B4.mono HB.out.1.size)
  have hxw : w.heap.size + 2 < x := by omega
  have o4 : OT W0 w4 x g N st xs i0 13 i2 i3 i4 i5 i6 i7 i8 i9 i10 i11 (.slice ao' n cap') b 0 0 false := ⟨H2.out.1.below B24, by rw [← hw4, ← hx]; exact heap_alloc_new _ _, by omega, HF.out.2.2.1 x (by omega), s0⟩
  have p1 : w4.cell? ⟨w.heap.size, 1, none⟩ = some (.int .i64 13) := (B4.cell (p := ⟨w.heap.size, 1, none⟩) (show w.heap.size < w3.heap.size by omega)).trans c1
  have zx4 : x < w4.heap.size := o4.lt
  have z4 : w.heap.size + 2 < w4.heap.size := by omega
  have H4 := Lib.hid (And.intro o4 (And.intro B24 (fun (k : Nat) (hk : k < w2.heap.size) => Nat.lt_of_lt_of_le hk (hx ▸ HB.out.1.size))))
  clear hx hw4 B4 B24 o4 c0 c1 c2 c3 c4 c5 c6 c7 c8 c9 c10 c11 c12
  go_cut [26] from 21 to 26 (fun _ wx => ∃ g', OT W0 wx x g' N st' xs' y0 y1 y2 y3 y4 y5 y6 y7 y8 y9 y10 y11 (.slice ao' n cap') b rc rv td ∧ Kept (FX b g x) w4 wx ∧ (g' = g ∨ ∃ k, g' = some k ∧ w4.heap.size ≤ k))
  case first =>
    have hM := HF.out.2.2.2
    have HM := Lib.hid hM
    have cP := fun (u : World) (hu : Below w4.heap.size w4 u) => (hu.cell (p := ⟨w.heap.size, 1, none⟩) (show w.heap.size < w4.heap.size by omega)).trans p1
    have CP := Lib.hid cP
    clear hM cP
    have q3 := oIdx_13 x
    go_region_with (first | (go_at_call 37; refine Go.Calls.mono (oPlaces_any _ _) ?_; rintro e w5 ⟨rfl, hb5⟩; have B5 : Below w4.heap.size w4 w5 := (Below.refl _ _).drew.trans hb5; have p5 := CP.out w5 B5; have H5 := Lib.hid B5; clear hb5 B5) | (go_at_call 66; refine Go.Calls.mono (HM.out _ x _ (H4.out.1.below H5.out)) ?_; rintro e w6 ⟨rfl, g', o6, k6, hg6⟩; have H6 := Lib.hid (And.intro o6 (And.intro k6 hg6)); clear o6 k6 hg6))
    all_goals
      go_wp2_with fail
      go_meet
      case rel => exact ⟨g', H6.out.1, (keptF H5.out).trans H6.out.2.1, by
        rcases H6.out.2.2 with e | ⟨k, e, hk⟩
        · exact .inl e
        · exact .inr ⟨k, e, Nat.le_trans H5.out.size hk⟩⟩
  case rest =>
    obtain ⟨g', o6, k6, hg6⟩ := hcut
    have nF : ∀ j, w.heap.size ≤ j → j < w2.heap.size → ¬ FX b g x j := fun j h1 h2 e => by
      rcases e with e | e
      · exact HF.out.2.2.1 j h1 e
      · have := H4.out.2.2 j h2; omega
    have C6 := (k6.block (w.heap.size + 1) (by omega) (nF _ (by omega) (by omega))).trans ((H4.out.2.1.block (w.heap.size + 1) (by omega)).trans H2.out.2.2.2.2.2.1)
    have C7 := (k6.block (w.heap.size + 2) (by omega) (nF _ (by omega) (by omega))).trans ((H4.out.2.1.block (w.heap.size + 2) (by omega)).trans H2.out.2.2.2.2.2.2)
    have I6 : Its wc (.slice ao' n cap') n F := (H2.out.2.1.below H4.out.2.1).keptB k6 (fun k hk => nF k (by have := H2.out.2.2.2.1 k hk; omega) (H2.out.2.2.2.1 k hk).2)
    have K6 : Kept (Foot b g) w wc := (H2.out.2.2.1.trans (keptF H4.out.2.1)).step k6 (fun i hi e => by
      rcases e with e | e
      · exact e
      · omega)
    have zc : w.heap.size + 2 < wc.heap.size := (Array.getElem?_eq_some_iff.1 C7).1
    obtain ⟨⟨e0, e1, e2, e3, e4, e5, e6, e7, e8, e9, e10, e11, e12, e13, e14, e15, e16⟩, -, ex⟩ := o6.open
    obtain ⟨⟨c0, c1, c2, c3, c4, c5, c6, c7, c8, c9, c10, c11, c12⟩, -⟩ := blk13 C6
    have fc0 := blkF C6 0; have fc1 := blkF C6 1; have fc2 := blkF C6 2; have fc3 := blkF C6 3; have fc4 := blkF C6 4; have fc5 := blkF C6 5; have fc6 := blkF C6 6; have fc7 := blkF C6 7; have fc8 := blkF C6 8; have fc9 := blkF C6 9; have fc10 := blkF C6 10; have fc11 := blkF C6 11; have fc12 := blkF C6 12
    obtain ⟨⟨d0, d1⟩, -⟩ := blk2c C7
    have fd0 := blkF C7 0
    have fd1 := blkF C7 1
    have hg7 : g' = g ∨ ∃ k, g' = some k ∧ w.heap.size ≤ k := by
      rcases hg6 with e | ⟨k, e, hk⟩
      · exact .inl e
      · exact .inr ⟨k, e, by omega⟩
    have H6 := Lib.hid (And.intro o6 (And.intro C6 (And.intro C7 (And.intro I6 (And.intro K6 (And.intro hg7 hg6))))))
    clear o6 k6 hg6 C6 C7 I6 K6 hg7 nF p1
    go_wp2_with fail
    go_region
    all_goals
      go_wp2_with fail
      generalize hw7 : World.setCell _ _ _ = w7
      have E : (w7.heap[w.heap.size + 1]? = some (.cells #[.int .i64 y0, .int .i64 y1, .int .i64 y2, .int .i64 y3, .int .i64 y4, .int .i64 y5, .int .i64 y6, .int .i64 y7, .int .i64 y8, .int .i64 y9, .int .i64 y10, .int .i64 y11, .slice ao' n cap'] 30 (0, 0)) ∧ w7.heap[w.heap.size + 2]? = some (.cells #[.int .u8 rc, .int .i32 rv] 25 (0, 0))) ∧ Kept (fun k => k = w.heap.size + 1 ∨ k = w.heap.size + 2) wc w7 := by
        rw [← hw7]
        first
          | exact stor_a H6.out.2.1 rfl H6.out.2.2.1 rfl (by omega)
          | exact stor_b H6.out.2.1 rfl H6.out.2.2.1 rfl (by omega)
      obtain ⟨⟨E1, E2⟩, KE⟩ := E
      obtain ⟨⟨r0, r1, r2, r3, r4, r5, r6, r7, r8, r9, r10, r11, r12⟩, -⟩ := blk13 E1
      obtain ⟨⟨s0', s1'⟩, -⟩ := blk2c E2
      first | replace KE := KE.drew | skip
      have hb := HF.out.1.mem.lt
      have hW := HF.out.1.B.size
      have hg : ∀ k, g = some k → k < w.heap.size := fun k e => by have h := HF.out.1; subst e; exact h.mem.row_lt
      refine bodyPost_ret (v := .tuple #[.agg #[.int .i64 y0, .int .i64 y1, .int .i64 y2, .int .i64 y3, .int .i64 y4, .int .i64 y5, .int .i64 y6, .int .i64 y7, .int .i64 y8, .int .i64 y9, .int .i64 y10, .int .i64 y11, .slice ao' n cap'], .agg #[.int .u8 rc, .int .i32 rv], .bool td]) (by simp [results, Try.results12, go_sem, r0, r1, r2, r3, r4, r5, r6, r7, r8, r9, r10, r11, r12, s0', s1']) rfl ⟨_, g', rfl, ?_, ?_, ?_, H6.out.2.2.2.2.2.1⟩
      · refine H6.out.1.ms.kept KE (H6.out.1.ms.B.trans (KE.below H6.out.1.ms.B.size (fun k hk e => by omega))) (fun e => by omega) (fun k e e2 => ?_)
        rcases H6.out.2.2.2.2.2.2 with h | ⟨j, h, hj⟩
        · have := hg k (h ▸ e); omega
        · rw [h] at e; simp at e; omega
      · exact H6.out.2.2.2.1.keptB KE (fun k hk e => by have := H2.out.2.2.2.1 k hk; omega)
      · exact H6.out.2.2.2.2.1.step KE (fun i hi e => by omega)

set_option maxRecDepth 100000 in
set_option maxHeartbeats 8000000 in
theorem oStep_14 (W0 w : World) (b : Nat) (g : Option Nat) (N st st' : Int) (xs xs' : List Int) (i0 i2 i3 i4 i5 i6 i7 i8 i9 i10 i11 y0 y1 y2 y3 y4 y5 y6 y7 y8 y9 y10 y11 rc rv : Int) (td : Bool) (bt : Value) (n : Nat) (F : Nat → Int) (h : MS W0 w b g N xs st) (hI : Its w bt n F) (hn : n ≤ 1000000) (s0 : 0 ≤ st) (hM : ∀ (u : World) (x : Nat) (bt : Value), OT W0 u x g N st xs i0 14 i2 i3 i4 i5 i6 i7 i8 i9 i10 i11 bt b 0 0 false → Calls Try.prog 67 #[.pointer (some ⟨x, 0, none⟩)] u fun e u' => e = .returned (.tuple #[]) ∧ ∃ g', OT W0 u' x g' N st' xs' y0 y1 y2 y3 y4 y5 y6 y7 y8 y9 y10 y11 bt b rc rv td ∧ Kept (FX b g x) u u' ∧ (g' = g ∨ ∃ k, g' = some k ∧ u.heap.size ≤ k)) :
    Calls Try.prog 12 #[.pointer (some ⟨b, 0, none⟩), .agg #[.int .i64 i0, .int .i64 14, .int .i64 i2, .int .i64 i3, .int .i64 i4, .int .i64 i5, .int .i64 i6, .int .i64 i7, .int .i64 i8, .int .i64 i9, .int .i64 i10, .int .i64 i11, bt]] w fun e w' => ∃ bt' g', e = .returned (.tuple #[(.agg #[.int .i64 y0, .int .i64 y1, .int .i64 y2, .int .i64 y3, .int .i64 y4, .int .i64 y5, .int .i64 y6, .int .i64 y7, .int .i64 y8, .int .i64 y9, .int .i64 y10, .int .i64 y11, bt']), .agg #[.int .u8 rc, .int .i32 rv], .bool td]) ∧ MS W0 w' b g' N xs' st' ∧ Its w' bt' n F ∧ Kept (Foot b g) w w' ∧ (g' = g ∨ ∃ k, g' = some k ∧ w.heap.size ≤ k) := by
  have HF := Lib.hid (And.intro h (And.intro hI (And.intro h.past hM)))
  obtain ⟨ao, cap, hbt, -⟩ := id hI
  subst hbt
  clear h hI hM
  go_enter Try.func12, Try.ntmps12
  go_wp2_with fail
  refine (cloneItem_own (.slice ao n cap) n F _ (HF.out.2.1.below (by go_grown)) hn).mono ?_
  rintro e w1 ⟨bt', rfl, hI1, hb1, ho1⟩
  obtain ⟨ao', cap', hbt', -⟩ := id hI1
  subst hbt'
  have z1 : w.heap.size + 2 < w1.heap.size := by have := hb1.size; first | omega | (simp at this; omega)
  have B5 : w1.heap[w.heap.size]? = some (.cells #[.int .i64 i0, .int .i64 14, .int .i64 i2, .int .i64 i3, .int .i64 i4, .int .i64 i5, .int .i64 i6, .int .i64 i7, .int .i64 i8, .int .i64 i9, .int .i64 i10, .int .i64 i11, .slice ao n cap] 30 (0, 0)) := (hb1.block w.heap.size (by first | omega | (simp; omega) | (simp; done))).trans (alloc3_heap _ _ _ _).1
  have B6 : w1.heap[w.heap.size + 1]? = some (.cells #[.int .i64 0, .int .i64 0, .int .i64 0, .int .i64 0, .int .i64 0, .int .i64 0, .int .i64 0, .int .i64 0, .int .i64 0, .int .i64 0, .int .i64 0, .int .i64 0, .slice none 0 0] 30 (0, 0)) := (hb1.block (w.heap.size + 1) (by first | omega | (simp; omega) | (simp; done))).trans (alloc3_heap _ _ _ _).2.1
  have B7 : w1.heap[w.heap.size + 2]? = some (.cells #[.int .u8 0, .int .i32 0] 25 (0, 0)) := (hb1.block (w.heap.size + 2) (by first | omega | (simp; omega) | (simp; done))).trans (alloc3_heap _ _ _ _).2.2
  have BW : Below w.heap.size w w1 := Below.trans (by go_grown) (hb1.mono (by first | omega | (simp; omega) | (simp; done)))
  obtain ⟨⟨c0, c1, c2, c3, c4, c5, c6, c7, c8, c9, c10, c11, c12⟩, z0⟩ := blk13 B5
  have f12 := blkF B5 12
  have ho2 : ∀ k, (Value.slice ao' n cap').ownBlock = some k → w.heap.size + 3 ≤ k ∧ k < w1.heap.size := fun k hk => ⟨by have := (ho1 k hk).1; simp at this; omega, (ho1 k hk).2⟩
  have H1 := Lib.hid (And.intro hI1 (And.intro BW (And.intro ho2 (And.intro B5 (And.intro B6 B7)))))
  clear hb1 hI1 BW ho1 ho2 B5 B6 B7
  go_wp2_with fail
  generalize hw2 : World.setCell _ _ _ = w2
  have K2 : Kept (fun k => k = w.heap.size) w1 w2 := by rw [← hw2]; exact (Kept.refl (fun k => k = w.heap.size) w1).setCell (p := ⟨w.heap.size, 12, none⟩) (fun _ => rfl) _
  have D5 : w2.heap[w.heap.size]? = some (.cells #[.int .i64 i0, .int .i64 14, .int .i64 i2, .int .i64 i3, .int .i64 i4, .int .i64 i5, .int .i64 i6, .int .i64 i7, .int .i64 i8, .int .i64 i9, .int .i64 i10, .int .i64 i11, .slice ao' n cap'] 30 (0, 0)) := by rw [← hw2]; rw [heap_setCell_self H1.out.2.2.2.1]; rfl
  have D6 := (K2.block (w.heap.size + 1) (by omega) (by omega)).trans H1.out.2.2.2.2.1
  have D7 := (K2.block (w.heap.size + 2) (by omega) (by omega)).trans H1.out.2.2.2.2.2
  have hz : W0.heap.size ≤ w.heap.size := HF.out.1.B.size
  have zw1 := H1.out.2.1.size
  have M2 : MS W0 w2 b g N xs st := (HF.out.1.below H1.out.2.1).kept K2 ((HF.out.1.B.trans (H1.out.2.1.mono HF.out.1.B.size)).trans (K2.below (by omega) (fun k hk e => by omega))) (fun e => by have := HF.out.1.mem.lt; omega) (fun k e e2 => HF.out.2.2.1 k (by omega) (.inr e.symm))
  have I2 : Its w2 (.slice ao' n cap') n F := H1.out.1.keptB K2 (fun k hk e => by have := H1.out.2.2.1 k hk; omega)
  have KW : Kept (Foot b g) w w2 := (keptF (F := Foot b g) H1.out.2.1).step K2 (fun i hi e => by omega)
  have z2 : w.heap.size + 2 < w2.heap.size := Nat.lt_of_lt_of_le z1 K2.size
  have o2 : ∀ k, (Value.slice ao' n cap').ownBlock = some k → w.heap.size + 3 ≤ k ∧ k < w2.heap.size := fun k hk => ⟨(H1.out.2.2.1 k hk).1, Nat.lt_of_lt_of_le (H1.out.2.2.1 k hk).2 K2.size⟩
  have H2 := Lib.hid (And.intro M2 (And.intro I2 (And.intro KW (And.intro o2 (And.intro D5 (And.intro D6 D7))))))
  clear hw2 K2 D5 D6 D7 M2 I2 KW o2 H1 c0 c1 c2 c3 c4 c5 c6 c7 c8 c9 c10 c11 c12 f12 z1 z0
  refine (oAsks_b w2 i0 14 i2 i3 i4 i5 i6 i7 i8 i9 i10 i11 ao' n cap' (by omega) (by omega)).mono ?_
  rintro e w3 ⟨rfl, hb3⟩
  have D5 := (hb3.block w.heap.size (by omega)).trans H2.out.2.2.2.2.1
  have z3 : w.heap.size + 2 < w3.heap.size := Nat.lt_of_lt_of_le z2 hb3.size
  obtain ⟨⟨c0, c1, c2, c3, c4, c5, c6, c7, c8, c9, c10, c11, c12⟩, -⟩ := blk13 D5
  have HB := Lib.hid (And.intro hb3 D5)
  clear hb3 D5
  go_upto_region 5 with fail
  generalize hx : w3.heap.size = x
  generalize hw4 : World.alloc _ _ = w4
  have B4 : Below w3.heap.size w3 w4 := by rw [← hw4]; go_grown
  have B24 : Below w2.heap.size w2 w4 := HB.out.1.trans (B4.mono HB.out.1.size)
  have hxw : w.heap.size + 2 < x := by omega
  have o4 : OT W0 w4 x g N st xs i0 14 i2 i3 i4 i5 i6 i7 i8 i9 i10 i11 (.slice ao' n cap') b 0 0 false := ⟨H2.out.1.below B24, by rw [← hw4, ← hx]; exact heap_alloc_new _ _, by omega, HF.out.2.2.1 x (by omega), s0⟩
  have p1 : w4.cell? ⟨w.heap.size, 1, none⟩ = some (.int .i64 14) := (B4.cell (p := ⟨w.heap.size, 1, none⟩) (show w.heap.size < w3.heap.size by omega)).trans c1
  have zx4 : x < w4.heap.size := o4.lt
  have z4 : w.heap.size + 2 < w4.heap.size := by omega
  have H4 := Lib.hid (And.intro o4 (And.intro B24 (fun (k : Nat) (hk : k < w2.heap.size) => Nat.lt_of_lt_of_le hk (hx ▸ HB.out.1.size))))
  clear hx hw4 B4 B24 o4 c0 c1 c2 c3 c4 c5 c6 c7 c8 c9 c10 c11 c12
  go_cut [26] from 21 to 26 (fun _ wx => ∃ g', OT W0 wx x g' N st' xs' y0 y1 y2 y3 y4 y5 y6 y7 y8 y9 y10 y11 (.slice ao' n cap') b rc rv td ∧ Kept (FX b g x) w4 wx ∧ (g' = g ∨ ∃ k, g' = some k ∧ w4.heap.size ≤ k))
  case first =>
    have hM := HF.out.2.2.2
    have HM := Lib.hid hM
    have cP := fun (u : World) (hu : Below w4.heap.size w4 u) => (hu.cell (p := ⟨w.heap.size, 1, none⟩) (show w.heap.size < w4.heap.size by omega)).trans p1
    have CP := Lib.hid cP
    clear hM cP
    have q3 := oIdx_14 x
    go_region_with (first | (go_at_call 37; refine Go.Calls.mono (oPlaces_any _ _) ?_; rintro e w5 ⟨rfl, hb5⟩; have B5 : Below w4.heap.size w4 w5 := (Below.refl _ _).drew.trans hb5; have p5 := CP.out w5 B5; have H5 := Lib.hid B5; clear hb5 B5) | (go_at_call 67; refine Go.Calls.mono (HM.out _ x _ (H4.out.1.below H5.out)) ?_; rintro e w6 ⟨rfl, g', o6, k6, hg6⟩; have H6 := Lib.hid (And.intro o6 (And.intro k6 hg6)); clear o6 k6 hg6))
    all_goals
      go_wp2_with fail
      go_meet
      case rel => exact ⟨g', H6.out.1, (keptF H5.out).trans H6.out.2.1, by
        rcases H6.out.2.2 with e | ⟨k, e, hk⟩
        · exact .inl e
        · exact .inr ⟨k, e, Nat.le_trans H5.out.size hk⟩⟩
  case rest =>
    obtain ⟨g', o6, k6, hg6⟩ := hcut
    have nF : ∀ j, w.heap.size ≤ j → j < w2.heap.size → ¬ FX b g x j := fun j h1 h2 e => by
      rcases e with e | e
      · exact HF.out.2.2.1 j h1 e
      · have := H4.out.2.2 j h2; omega
    have C6 := (k6.block (w.heap.size + 1) (by omega) (nF _ (by omega) (by omega))).trans ((H4.out.2.1.block (w.heap.size + 1) (by omega)).trans H2.out.2.2.2.2.2.1)
    have C7 := (k6.block (w.heap.size + 2) (by omega) (nF _ (by omega) (by omega))).trans ((H4.out.2.1.block (w.heap.size + 2) (by omega)).trans H2.out.2.2.2.2.2.2)
    have I6 : Its wc (.slice ao' n cap') n F := (H2.out.2.1.below H4.out.2.1).keptB k6 (fun k hk => nF k (by have := H2.out.2.2.2.1 k hk; omega) (H2.out.2.2.2.1 k hk).2)
    have K6 : Kept (Foot b g) w wc := (H2.out.2.2.1.trans (keptF H4.out.2.1)).step k6 (fun i hi e => by
      rcases e with e | e
      · exact e
      · omega)
    have zc : w.heap.size + 2 < wc.heap.size := (Array.getElem?_eq_some_iff.1 C7).1
    obtain ⟨⟨e0, e1, e2, e3, e4, e5, e6, e7, e8, e9, e10, e11, e12, e13, e14, e15, e16⟩, -, ex⟩ := o6.open
    obtain ⟨⟨c0, c1, c2, c3, c4, c5, c6, c7, c8, c9, c10, c11, c12⟩, -⟩ := blk13 C6
    have fc0 := blkF C6 0; have fc1 := blkF C6 1; have fc2 := blkF C6 2; have fc3 := blkF C6 3; have fc4 := blkF C6 4; have fc5 := blkF C6 5; have fc6 := blkF C6 6; have fc7 := blkF C6 7; have fc8 := blkF C6 8; have fc9 := blkF C6 9; have fc10 := blkF C6 10; have fc11 := blkF C6 11; have fc12 := blkF C6 12
    obtain ⟨⟨d0, d1⟩, -⟩ := blk2c C7
    have fd0 := blkF C7 0
    have fd1 := blkF C7 1
    have hg7 : g' = g ∨ ∃ k, g' = some k ∧ w.heap.size ≤ k := by
      rcases hg6 with e | ⟨k, e, hk⟩
      · exact .inl e
      · exact .inr ⟨k, e, by omega⟩
    have H6 := Lib.hid (And.intro o6 (And.intro C6 (And.intro C7 (And.intro I6 (And.intro K6 (And.intro hg7 hg6))))))
    clear o6 k6 hg6 C6 C7 I6 K6 hg7 nF p1
    go_wp2_with fail
    go_region
    all_goals
      go_wp2_with fail
      generalize hw7 : World.setCell _ _ _ = w7
      have E : (w7.heap[w.heap.size + 1]? = some (.cells #[.int .i64 y0, .int .i64 y1, .int .i64 y2, .int .i64 y3, .int .i64 y4, .int .i64 y5, .int .i64 y6, .int .i64 y7, .int .i64 y8, .int .i64 y9, .int .i64 y10, .int .i64 y11, .slice ao' n cap'] 30 (0, 0)) ∧ w7.heap[w.heap.size + 2]? = some (.cells #[.int .u8 rc, .int .i32 rv] 25 (0, 0))) ∧ Kept (fun k => k = w.heap.size + 1 ∨ k = w.heap.size + 2) wc w7 := by
        rw [← hw7]
        first
          | exact stor_a H6.out.2.1 rfl H6.out.2.2.1 rfl (by omega)
          | exact stor_b H6.out.2.1 rfl H6.out.2.2.1 rfl (by omega)
      obtain ⟨⟨E1, E2⟩, KE⟩ := E
      obtain ⟨⟨r0, r1, r2, r3, r4, r5, r6, r7, r8, r9, r10, r11, r12⟩, -⟩ := blk13 E1
      obtain ⟨⟨s0', s1'⟩, -⟩ := blk2c E2
      first | replace KE := KE.drew | skip
      have hb := HF.out.1.mem.lt
      have hW := HF.out.1.B.size
      have hg : ∀ k, g = some k → k < w.heap.size := fun k e => by have h := HF.out.1; subst e; exact h.mem.row_lt
      refine bodyPost_ret (v := .tuple #[.agg #[.int .i64 y0, .int .i64 y1, .int .i64 y2, .int .i64 y3, .int .i64 y4, .int .i64 y5, .int .i64 y6, .int .i64 y7, .int .i64 y8, .int .i64 y9, .int .i64 y10, .int .i64 y11, .slice ao' n cap'], .agg #[.int .u8 rc, .int .i32 rv], .bool td]) (by simp [results, Try.results12, go_sem, r0, r1, r2, r3, r4, r5, r6, r7, r8, r9, r10, r11, r12, s0', s1']) rfl ⟨_, g', rfl, ?_, ?_, ?_, H6.out.2.2.2.2.2.1⟩
      · refine H6.out.1.ms.kept KE (H6.out.1.ms.B.trans (KE.below H6.out.1.ms.B.size (fun k hk e => by omega))) (fun e => by omega) (fun k e e2 => ?_)
        rcases H6.out.2.2.2.2.2.2 with h | ⟨j, h, hj⟩
        · have := hg k (h ▸ e); omega
        · rw [h] at e; simp at e; omega
      · exact H6.out.2.2.2.1.keptB KE (fun k hk e => by have := H2.out.2.2.2.1 k hk; omega)
      · exact H6.out.2.2.2.2.1.step KE (fun i hi e => by omega)

set_option maxRecDepth 100000 in
set_option maxHeartbeats 8000000 in
theorem oStep_15 (W0 w : World) (b : Nat) (g : Option Nat) (N st st' : Int) (xs xs' : List Int) (i0 i2 i3 i4 i5 i6 i7 i8 i9 i10 i11 y0 y1 y2 y3 y4 y5 y6 y7 y8 y9 y10 y11 rc rv : Int) (td : Bool) (bt : Value) (n : Nat) (F : Nat → Int) (h : MS W0 w b g N xs st) (hI : Its w bt n F) (hn : n ≤ 1000000) (s0 : 0 ≤ st) (hM : ∀ (u : World) (x : Nat) (bt : Value), OT W0 u x g N st xs i0 15 i2 i3 i4 i5 i6 i7 i8 i9 i10 i11 bt b 0 0 false → Calls Try.prog 68 #[.pointer (some ⟨x, 0, none⟩)] u fun e u' => e = .returned (.tuple #[]) ∧ ∃ g', OT W0 u' x g' N st' xs' y0 y1 y2 y3 y4 y5 y6 y7 y8 y9 y10 y11 bt b rc rv td ∧ Kept (FX b g x) u u' ∧ (g' = g ∨ ∃ k, g' = some k ∧ u.heap.size ≤ k)) :
    Calls Try.prog 12 #[.pointer (some ⟨b, 0, none⟩), .agg #[.int .i64 i0, .int .i64 15, .int .i64 i2, .int .i64 i3, .int .i64 i4, .int .i64 i5, .int .i64 i6, .int .i64 i7, .int .i64 i8, .int .i64 i9, .int .i64 i10, .int .i64 i11, bt]] w fun e w' => ∃ bt' g', e = .returned (.tuple #[(.agg #[.int .i64 y0, .int .i64 y1, .int .i64 y2, .int .i64 y3, .int .i64 y4, .int .i64 y5, .int .i64 y6, .int .i64 y7, .int .i64 y8, .int .i64 y9, .int .i64 y10, .int .i64 y11, bt']), .agg #[.int .u8 rc, .int .i32 rv], .bool td]) ∧ MS W0 w' b g' N xs' st' ∧ Its w' bt' n F ∧ Kept (Foot b g) w w' ∧ (g' = g ∨ ∃ k, g' = some k ∧ w.heap.size ≤ k) := by
  have HF := Lib.hid (And.intro h (And.intro hI (And.intro h.past hM)))
  obtain ⟨ao, cap, hbt, -⟩ := id hI
  subst hbt
  clear h hI hM
  go_enter Try.func12, Try.ntmps12
  go_wp2_with fail
  refine (cloneItem_own (.slice ao n cap) n F _ (HF.out.2.1.below (by go_grown)) hn).mono ?_
  rintro e w1 ⟨bt', rfl, hI1, hb1, ho1⟩
  obtain ⟨ao', cap', hbt', -⟩ := id hI1
  subst hbt'
  have z1 : w.heap.size + 2 < w1.heap.size := by have := hb1.size; first | omega | (simp at this; omega)
  have B5 : w1.heap[w.heap.size]? = some (.cells #[.int .i64 i0, .int .i64 15, .int .i64 i2, .int .i64 i3, .int .i64 i4, .int .i64 i5, .int .i64 i6, .int .i64 i7, .int .i64 i8, .int .i64 i9, .int .i64 i10, .int .i64 i11, .slice ao n cap] 30 (0, 0)) := (hb1.block w.heap.size (by first | omega | (simp; omega) | (simp; done))).trans (alloc3_heap _ _ _ _).1
  have B6 : w1.heap[w.heap.size + 1]? = some (.cells #[.int .i64 0, .int .i64 0, .int .i64 0, .int .i64 0, .int .i64 0, .int .i64 0, .int .i64 0, .int .i64 0, .int .i64 0, .int .i64 0, .int .i64 0, .int .i64 0, .slice none 0 0] 30 (0, 0)) := (hb1.block (w.heap.size + 1) (by first | omega | (simp; omega) | (simp; done))).trans (alloc3_heap _ _ _ _).2.1
  have B7 : w1.heap[w.heap.size + 2]? = some (.cells #[.int .u8 0, .int .i32 0] 25 (0, 0)) := (hb1.block (w.heap.size + 2) (by first | omega | (simp; omega) | (simp; done))).trans (alloc3_heap _ _ _ _).2.2
  have BW : Below w.heap.size w w1 := Below.trans (by go_grown) (hb1.mono (by first | omega | (simp; omega) | (simp; done)))
  obtain ⟨⟨c0, c1, c2, c3, c4, c5, c6, c7, c8, c9, c10, c11, c12⟩, z0⟩ := blk13 B5
  have f12 := blkF B5 12
  have ho2 : ∀ k, (Value.slice ao' n cap').ownBlock = some k → w.heap.size + 3 ≤ k ∧ k < w1.heap.size := fun k hk => ⟨by have := (ho1 k hk).1; simp at this; omega, (ho1 k hk).2⟩
  have H1 := Lib.hid (And.intro hI1 (And.intro BW (And.intro ho2 (And.intro B5 (And.intro B6 B7)))))
  clear hb1 hI1 BW ho1 ho2 B5 B6 B7
  go_wp2_with fail
  generalize hw2 : World.setCell _ _ _ = w2
  have K2 : Kept (fun k => k = w.heap.size) w1 w2 := by rw [← hw2]; exact (Kept.refl (fun k => k = w.heap.size) w1).setCell (p := ⟨w.heap.size, 12, none⟩) (fun _ => rfl) _
  have D5 : w2.heap[w.heap.size]? = some (.cells #[.int .i64 i0, .int .i64 15, .int .i64 i2, .int .i64 i3, .int .i64 i4, .int .i64 i5, .int .i64 i6, .int .i64 i7, .int .i64 i8, .int .i64 i9, .int .i64 i10, .int .i64 i11, .slice ao' n cap'] 30 (0, 0)) := by rw [← hw2]; rw [heap_setCell_self H1.out.2.2.2.1]; rfl
  have D6 := (K2.block (w.heap.size + 1) (by omega) (by omega)).trans H1.out.2.2.2.2.1
  have D7 := (K2.block (w.heap.size + 2) (by omega) (by omega)).trans H1.out.2.2.2.2.2
  have hz : W0.heap.size ≤ w.heap.size := HF.out.1.B.size
  have zw1 := H1.out.2.1.size
  have M2 : MS W0 w2 b g N xs st := (HF.out.1.below H1.out.2.1).kept K2 ((HF.out.1.B.trans (H1.out.2.1.mono HF.out.1.B.size)).trans (K2.below (by omega) (fun k hk e => by omega))) (fun e => by have := HF.out.1.mem.lt; omega) (fun k e e2 => HF.out.2.2.1 k (by omega) (.inr e.symm))
  have I2 : Its w2 (.slice ao' n cap') n F := H1.out.1.keptB K2 (fun k hk e => by have := H1.out.2.2.1 k hk; omega)
  have KW : Kept (Foot b g) w w2 := (keptF (F := Foot b g) H1.out.2.1).step K2 (fun i hi e => by omega)
  have z2 : w.heap.size + 2 < w2.heap.size := Nat.lt_of_lt_of_le z1 K2.size
  have o2 : ∀ k, (Value.slice ao' n cap').ownBlock = some k → w.heap.size + 3 ≤ k ∧ k < w2.heap.size := fun k hk => ⟨(H1.out.2.2.1 k hk).1, Nat.lt_of_lt_of_le (H1.out.2.2.1 k hk).2 K2.size⟩
  have H2 := Lib.hid (And.intro M2 (And.intro I2 (And.intro KW (And.intro o2 (And.intro D5 (And.intro D6 D7))))))
  clear hw2 K2 D5 D6 D7 M2 I2 KW o2 H1 c0 c1 c2 c3 c4 c5 c6 c7 c8 c9 c10 c11 c12 f12 z1 z0
  refine (oAsks_b w2 i0 15 i2 i3 i4 i5 i6 i7 i8 i9 i10 i11 ao' n cap' (by omega) (by omega)).mono ?_
  rintro e w3 ⟨rfl, hb3⟩
  have D5 := (hb3.block w.heap.size (by omega)).trans H2.out.2.2.2.2.1
  have z3 : w.heap.size + 2 < w3.heap.size := Nat.lt_of_lt_of_le z2 hb3.size
  obtain ⟨⟨c0, c1, c2, c3, c4, c5, c6, c7, c8, c9, c10, c11, c12⟩, -⟩ := blk13 D5
  have HB := Lib.hid (And.intro hb3 D5)
  clear hb3 D5
  go_upto_region 5 with fail
  generalize hx : w3.heap.size = x
  generalize hw4 : World.alloc _ _ = w4
  have B4 : Below w3.heap.size w3 w4 := by rw [← hw4]; go_grown
  have B24 : Below w2.heap.size w2 w4 := HB.out.1.trans (B4.mono HB.out.1.size)
  have hxw : w.heap.size + 2 < x := by omega
  have o4 : OT W0 w4 x g N st xs i0 15 i2 i3 i4 i5 i6 i7 i8 i9 i10 i11 (.slice ao' n cap') b 0 0 false := ⟨H2.out.1.below B24, by rw [← hw4, ← hx]; exact heap_alloc_new _ _, by omega, HF.out.2.2.1 x (by omega), s0⟩
  have p1 : w4.cell? ⟨w.heap.size, 1, none⟩ = some (.int .i64 15) := (B4.cell (p := ⟨w.heap.size, 1, none⟩) (show w.heap.size < w3.heap.size by omega)).trans c1
  have zx4 : x < w4.heap.size := o4.lt
  have z4 : w.heap.size + 2 < w4.heap.size := by omega
  have H4 := Lib.hid (And.intro o4 (And.intro B24 (fun (k : Nat) (hk : k < w2.heap.size) => Nat.lt_of_lt_of_le hk (hx ▸ HB.out.1.size))))
  clear hx hw4 B4 B24 o4 c0 c1 c2 c3 c4 c5 c6 c7 c8 c9 c10 c11 c12
  go_cut [26] from 21 to 26 (fun _ wx => ∃ g', OT W0 wx x g' N st' xs' y0 y1 y2 y3 y4 y5 y6 y7 y8 y9 y10 y11 (.slice ao' n cap') b rc rv td ∧ Kept (FX b g x) w4 wx ∧ (g' = g ∨ ∃ k, g' = some k ∧ w4.heap.size ≤ k))
  case first =>
    have hM := HF.out.2.2.2
    have HM := Lib.hid hM
    have cP := fun (u : World) (hu : Below w4.heap.size w4 u) => (hu.cell (p := ⟨w.heap.size, 1, none⟩) (show w.heap.size < w4.heap.size by omega)).trans p1
    have CP := Lib.hid cP
    clear hM cP
    have q3 := oIdx_15 x
    go_region_with (first | (go_at_call 37; refine Go.Calls.mono (oPlaces_any _ _) ?_; rintro e w5 ⟨rfl, hb5⟩; have B5 : Below w4.heap.size w4 w5 := (Below.refl _ _).drew.trans hb5; have p5 := CP.out w5 B5; have H5 := Lib.hid B5; clear hb5 B5) | (go_at_call 68; refine Go.Calls.mono (HM.out _ x _ (H4.out.1.below H5.out)) ?_; rintro e w6 ⟨rfl, g', o6, k6, hg6⟩; have H6 := Lib.hid (And.intro o6 (And.intro k6 hg6)); clear o6 k6 hg6))
    all_goals
      go_wp2_with fail
      go_meet
      case rel => exact ⟨g', H6.out.1, (keptF H5.out).trans H6.out.2.1, by
        rcases H6.out.2.2 with e | ⟨k, e, hk⟩
        · exact .inl e
        · exact .inr ⟨k, e, Nat.le_trans H5.out.size hk⟩⟩
  case rest =>
    obtain ⟨g', o6, k6, hg6⟩ := hcut
    have nF : ∀ j, w.heap.size ≤ j → j < w2.heap.size → ¬ FX b g x j := fun j h1 h2 e => by
      rcases e with e | e
      · exact HF.out.2.2.1 j h1 e
      · have := H4.out.2.2 j h2; omega
    have C6 := (k6.block (w.heap.size + 1) (by omega) (nF _ (by omega) (by omega))).trans ((H4.out.2.1.block (w.heap.size + 1) (by omega)).trans H2.out.2.2.2.2.2.1)
    have C7 := (k6.block (w.heap.size + 2) (by omega) (nF _ (by omega) (by omega))).trans ((H4.out.2.1.block (w.heap.size + 2) (by omega)).trans H2.out.2.2.2.2.2.2)
    have I6 : Its wc (.slice ao' n cap') n F := (H2.out.2.1.below H4.out.2.1).keptB k6 (fun k hk => nF k (by have := H2.out.2.2.2.1 k hk; omega) (H2.out.2.2.2.1 k hk).2)
    have K6 : Kept (Foot b g) w wc := (H2.out.2.2.1.trans (keptF H4.out.2.1)).step k6 (fun i hi e => by
      rcases e with e | e
      · exact e
      · omega)
    have zc : w.heap.size + 2 < wc.heap.size := (Array.getElem?_eq_some_iff.1 C7).1
    obtain ⟨⟨e0, e1, e2, e3, e4, e5, e6, e7, e8, e9, e10, e11, e12, e13, e14, e15, e16⟩, -, ex⟩ := o6.open
    obtain ⟨⟨c0, c1, c2, c3, c4, c5, c6, c7, c8, c9, c10, c11, c12⟩, -⟩ := blk13 C6
    have fc0 := blkF C6 0; have fc1 := blkF C6 1; have fc2 := blkF C6 2; have fc3 := blkF C6 3; have fc4 := blkF C6 4; have fc5 := blkF C6 5; have fc6 := blkF C6 6; have fc7 := blkF C6 7; have fc8 := blkF C6 8; have fc9 := blkF C6 9; have fc10 := blkF C6 10; have fc11 := blkF C6 11; have fc12 := blkF C6 12
    obtain ⟨⟨d0, d1⟩, -⟩ := blk2c C7
    have fd0 := blkF C7 0
    have fd1 := blkF C7 1
    have hg7 : g' = g ∨ ∃ k, g' = some k ∧ w.heap.size ≤ k := by
      rcases hg6 with e | ⟨k, e, hk⟩
      · exact .inl e
      · exact .inr ⟨k, e, by omega⟩
    have H6 := Lib.hid (And.intro o6 (And.intro C6 (And.intro C7 (And.intro I6 (And.intro K6 (And.intro hg7 hg6))))))
    clear o6 k6 hg6 C6 C7 I6 K6 hg7 nF p1
    go_wp2_with fail
    go_region
    all_goals
      go_wp2_with fail
      generalize hw7 : World.setCell _ _ _ = w7
      have E : (w7.heap[w.heap.size + 1]? = some (.cells #[.int .i64 y0, .int .i64 y1, .int .i64 y2, .int .i64 y3, .int .i64 y4, .int .i64 y5, .int .i64 y6, .int .i64 y7, .int .i64 y8, .int .i64 y9, .int .i64 y10, .int .i64 y11, .slice ao' n cap'] 30 (0, 0)) ∧ w7.heap[w.heap.size + 2]? = some (.cells #[.int .u8 rc, .int .i32 rv] 25 (0, 0))) ∧ Kept (fun k => k = w.heap.size + 1 ∨ k = w.heap.size + 2) wc w7 := by
        rw [← hw7]
        first
          | exact stor_a H6.out.2.1 rfl H6.out.2.2.1 rfl (by omega)
          | exact stor_b H6.out.2.1 rfl H6.out.2.2.1 rfl (by omega)
      obtain ⟨⟨E1, E2⟩, KE⟩ := E
      obtain ⟨⟨r0, r1, r2, r3, r4, r5, r6, r7, r8, r9, r10, r11, r12⟩, -⟩ := blk13 E1
      obtain ⟨⟨s0', s1'⟩, -⟩ := blk2c E2
      first | replace KE := KE.drew | skip
      have hb := HF.out.1.mem.lt
      have hW := HF.out.1.B.size
      have hg : ∀ k, g = some k → k < w.heap.size := fun k e => by have h := HF.out.1; subst e; exact h.mem.row_lt
      refine bodyPost_ret (v := .tuple #[.agg #[.int .i64 y0, .int .i64 y1, .int .i64 y2, .int .i64 y3, .int .i64 y4, .int .i64 y5, .int .i64 y6, .int .i64 y7, .int .i64 y8, .int .i64 y9, .int .i64 y10, .int .i64 y11, .slice ao' n cap'], .agg #[.int .u8 rc, .int .i32 rv], .bool td]) (by simp [results, Try.results12, go_sem, r0, r1, r2, r3, r4, r5, r6, r7, r8, r9, r10, r11, r12, s0', s1']) rfl ⟨_, g', rfl, ?_, ?_, ?_, H6.out.2.2.2.2.2.1⟩
      · refine H6.out.1.ms.kept KE (H6.out.1.ms.B.trans (KE.below H6.out.1.ms.B.size (fun k hk e => by omega))) (fun e => by omega) (fun k e e2 => ?_)
        rcases H6.out.2.2.2.2.2.2 with h | ⟨j, h, hj⟩
        · have := hg k (h ▸ e); omega
        · rw [h] at e; simp at e; omega
      · exact H6.out.2.2.2.1.keptB KE (fun k hk e => by have := H2.out.2.2.2.1 k hk; omega)
      · exact H6.out.2.2.2.2.1.step KE (fun i hi e => by omega)

set_option maxRecDepth 100000 in
set_option maxHeartbeats 8000000 in
theorem oStep_16 (W0 w : World) (b : Nat) (g : Option Nat) (N st st' : Int) (xs xs' : List Int) (i0 i2 i3 i4 i5 i6 i7 i8 i9 i10 i11 y0 y1 y2 y3 y4 y5 y6 y7 y8 y9 y10 y11 rc rv : Int) (td : Bool) (bt : Value) (n : Nat) (F : Nat → Int) (h : MS W0 w b g N xs st) (hI : Its w bt n F) (hn : n ≤ 1000000) (s0 : 0 ≤ st) (hM : ∀ (u : World) (x : Nat) (bt : Value), OT W0 u x g N st xs i0 16 i2 i3 i4 i5 i6 i7 i8 i9 i10 i11 bt b 0 0 false → Calls Try.prog 69 #[.pointer (some ⟨x, 0, none⟩)] u fun e u' => e = .returned (.tuple #[]) ∧ ∃ g', OT W0 u' x g' N st' xs' y0 y1 y2 y3 y4 y5 y6 y7 y8 y9 y10 y11 bt b rc rv td ∧ Kept (FX b g x) u u' ∧ (g' = g ∨ ∃ k, g' = some k ∧ u.heap.size ≤ k)) :
    Calls Try.prog 12 #[.pointer (some ⟨b, 0, none⟩), .agg #[.int .i64 i0, .int .i64 16, .int .i64 i2, .int .i64 i3, .int .i64 i4, .int .i64 i5, .int .i64 i6, .int .i64 i7, .int .i64 i8, .int .i64 i9, .int .i64 i10, .int .i64 i11, bt]] w fun e w' => ∃ bt' g', e = .returned (.tuple #[(.agg #[.int .i64 y0, .int .i64 y1, .int .i64 y2, .int .i64 y3, .int .i64 y4, .int .i64 y5, .int .i64 y6, .int .i64 y7, .int .i64 y8, .int .i64 y9, .int .i64 y10, .int .i64 y11, bt']), .agg #[.int .u8 rc, .int .i32 rv], .bool td]) ∧ MS W0 w' b g' N xs' st' ∧ Its w' bt' n F ∧ Kept (Foot b g) w w' ∧ (g' = g ∨ ∃ k, g' = some k ∧ w.heap.size ≤ k) := by
  have HF := Lib.hid (And.intro h (And.intro hI (And.intro h.past hM)))
  obtain ⟨ao, cap, hbt, -⟩ := id hI
  subst hbt
  clear h hI hM
  go_enter Try.func12, Try.ntmps12
  go_wp2_with fail
  refine (cloneItem_own (.slice ao n cap) n F _ (HF.out.2.1.below (by go_grown)) hn).mono ?_
  rintro e w1 ⟨bt', rfl, hI1, hb1, ho1⟩
  obtain ⟨ao', cap', hbt', -⟩ := id hI1
  subst hbt'
  have z1 : w.heap.size + 2 < w1.heap.size := by have := hb1.size; first | omega | (simp at this; omega)
  have B5 : w1.heap[w.heap.size]? = some (.cells #[.int .i64 i0, .int .i64 16, .int .i64 i2, .int .i64 i3, .int .i64 i4, .int .i64 i5, .int .i64 i6, .int .i64 i7, .int .i64 i8, .int .i64 i9, .int .i64 i10, .int .i64 i11, .slice ao n cap] 30 (0, 0)) := (hb1.block w.heap.size (by first | omega | (simp; omega) | (simp; done))).trans (alloc3_heap _ _ _ _).1
  have B6 : w1.heap[w.heap.size + 1]? = some (.cells #[.int .i64 0, .int .i64 0, .int .i64 0, .int .i64 0, .int .i64 0, .int .i64 0, .int .i64 0, .int .i64 0, .int .i64 0, .int .i64 0, .int .i64 0, .int .i64 0, .slice none 0 0] 30 (0, 0)) := (hb1.block (w.heap.size + 1) (by first | omega | (simp; omega) | (simp; done))).trans (alloc3_heap _ _ _ _).2.1
  have B7 : w1.heap[w.heap.size + 2]? = some (.cells #[.int .u8 0, .int .i32 0] 25 (0, 0)) := (hb1.block (w.heap.size + 2) (by first | omega | (simp; omega) | (simp; done))).trans (alloc3_heap _ _ _ _).2.2
  have BW : Below w.heap.size w w1 := Below.trans (by go_grown) (hb1.mono (by first | omega | (simp; omega) | (simp; done)))
  obtain ⟨⟨c0, c1, c2, c3, c4, c5, c6, c7, c8, c9, c10, c11, c12⟩, z0⟩ := blk13 B5
  have f12 := blkF B5 12
  have ho2 : ∀ k, (Value.slice ao' n cap').ownBlock = some k → w.heap.size + 3 ≤ k ∧ k < w1.heap.size := fun k hk => ⟨by have := (ho1 k hk).1; simp at this; omega, (ho1 k hk).2⟩
  have H1 := Lib.hid (And.intro hI1 (And.intro BW (And.intro ho2 (And.intro B5 (And.intro B6 B7)))))
  clear hb1 hI1 BW ho1 ho2 B5 B6 B7
  go_wp2_with fail
  generalize hw2 : World.setCell _ _ _ = w2
  have K2 : Kept (fun k => k = w.heap.size) w1 w2 := by rw [← hw2]; exact (Kept.refl (fun k => k = w.heap.size) w1).setCell (p := ⟨w.heap.size, 12, none⟩) (fun _ => rfl) _
  have D5 : w2.heap[w.heap.size]? = some (.cells #[.int .i64 i0, .int .i64 16, .int .i64 i2, .int .i64 i3, .int .i64 i4, .int .i64 i5, .int .i64 i6, .int .i64 i7, .int .i64 i8, .int .i64 i9, .int .i64 i10, .int .i64 i11, .slice ao' n cap'] 30 (0, 0)) := by rw [← hw2]; rw [heap_setCell_self H1.out.2.2.2.1]; rfl
  have D6 := (K2.block (w.heap.size + 1) (by omega) (by omega)).trans H1.out.2.2.2.2.1
  have D7 := (K2.block (w.heap.size + 2) (by omega) (by omega)).trans H1.out.2.2.2.2.2
  have hz : W0.heap.size ≤ w.heap.size := HF.out.1.B.size
  have zw1 := H1.out.2.1.size
  have M2 : MS W0 w2 b g N xs st := (HF.out.1.below H1.out.2.1).kept K2 ((HF.out.1.B.trans (H1.out.2.1.mono HF.out.1.B.size)).trans (K2.below (by omega) (fun k hk e => by omega))) (fun e => by have := HF.out.1.mem.lt; omega) (fun k e e2 => HF.out.2.2.1 k (by omega) (.inr e.symm))
  have I2 : Its w2 (.slice ao' n cap') n F := H1.out.1.keptB K2 (fun k hk e => by have := H1.out.2.2.1 k hk; omega)
  have KW : Kept (Foot b g) w w2 := (keptF (F := Foot b g) H1.out.2.1).step K2 (fun i hi e => by omega)
  have z2 : w.heap.size + 2 < w2.heap.size := Nat.lt_of_lt_of_le z1 K2.size
  have o2 : ∀ k, (Value.slice ao' n cap').ownBlock = some k → w.heap.size + 3 ≤ k ∧ k < w2.heap.size := fun k hk => ⟨(H1.out.2.2.1 k hk).1, Nat.lt_of_lt_of_le (H1.out.2.2.1 k hk).2 K2.size⟩
  have H2 := Lib.hid (And.intro M2 (And.intro I2 (And.intro KW (And.intro o2 (And.intro D5 (And.intro D6 D7))))))
  clear hw2 K2 D5 D6 D7 M2 I2 KW o2 H1 c0 c1 c2 c3 c4 c5 c6 c7 c8 c9 c10 c11 c12 f12 z1 z0
  refine (oAsks_b w2 i0 16 i2 i3 i4 i5 i6 i7 i8 i9 i10 i11 ao' n cap' (by omega) (by omega)).mono ?_
  rintro e w3 ⟨rfl, hb3⟩
  have D5 := (hb3.block w.heap.size (by omega)).trans H2.out.2.2.2.2.1
  have z3 : w.heap.size + 2 < w3.heap.size := Nat.lt_of_lt_of_le z2 hb3.size
  obtain ⟨⟨c0, c1, c2, c3, c4, c5, c6, c7, c8, c9, c10, c11, c12⟩, -⟩ := blk13 D5
  have HB := Lib.hid (And.intro hb3 D5)
  clear hb3 D5
  go_upto_region 5 with fail
  generalize hx : w3.heap.size = x
  generalize hw4 : World.alloc _ _ = w4
  have B4 : Below w3.heap.size w3 w4 := by rw [← hw4]; go_grown
  have B24 : Below w2.heap.size w2 w4 := HB.out.1.trans (B4.mono HB.out.1.size)
  have hxw : w.heap.size + 2 < x := by omega
  have o4 : OT W0 w4 x g N st xs i0 16 i2 i3 i4 i5 i6 i7 i8 i9 i10 i11 (.slice ao' n cap') b 0 0 false := ⟨H2.out.1.below B24, by rw [← hw4, ← hx]; exact heap_alloc_new _ _, by omega, HF.out.2.2.1 x (by omega), s0⟩
  have p1 : w4.cell? ⟨w.heap.size, 1, none⟩ = some (.int .i64 16) := (B4.cell (p := ⟨w.heap.size, 1, none⟩) (show w.heap.size < w3.heap.size by omega)).trans c1
  have zx4 : x < w4.heap.size := o4.lt
  have z4 : w.heap.size + 2 < w4.heap.size := by omega
  have H4 := Lib.hid (And.intro o4 (And.intro B24 (fun (k : Nat) (hk : k < w2.heap.size) => Nat.lt_of_lt_of_le hk (hx ▸ HB.out.1.size))))
  clear hx hw4 B4 B24 o4 c0 c1 c2 c3 c4 c5 c6 c7 c8 c9 c10 c11 c12
  go_cut [26] from 21 to 26 (fun _ wx => ∃ g', OT W0 wx x g' N st' xs' y0 y1 y2 y3 y4 y5 y6 y7 y8 y9 y10 y11 (.slice ao' n cap') b rc rv td ∧ Kept (FX b g x) w4 wx ∧ (g' = g ∨ ∃ k, g' = some k ∧ w4.heap.size ≤ k))
  case first =>
    have hM := HF.out.2.2.2
    have HM := Lib.hid hM
    have cP := fun (u : World) (hu : Below w4.heap.size w4 u) => (hu.cell (p := ⟨w.heap.size, 1, none⟩) (show w.heap.size < w4.heap.size by omega)).trans p1
    have CP := Lib.hid cP
    clear hM cP
    have q3 := oIdx_16 x
    go_region_with (first | (go_at_call 37; refine Go.Calls.mono (oPlaces_any _ _) ?_; rintro e w5 ⟨rfl, hb5⟩; have B5 : Below w4.heap.size w4 w5 := (Below.refl _ _).drew.trans hb5; have p5 := CP.out w5 B5; have H5 := Lib.hid B5; clear hb5 B5) | (go_at_call 69; refine Go.Calls.mono (HM.out _ x _ (H4.out.1.below H5.out)) ?_; rintro e w6 ⟨rfl, g', o6, k6, hg6⟩; have H6 := Lib.hid (And.intro o6 (And.intro k6 hg6)); clear o6 k6 hg6))
    all_goals
      go_wp2_with fail
      go_meet
      case rel => exact ⟨g', H6.out.1, (keptF H5.out).trans H6.out.2.1, by
        rcases H6.out.2.2 with e | ⟨k, e, hk⟩
        · exact .inl e
        · exact .inr ⟨k, e, Nat.le_trans H5.out.size hk⟩⟩
  case rest =>
    obtain ⟨g', o6, k6, hg6⟩ := hcut
    have nF : ∀ j, w.heap.size ≤ j → j < w2.heap.size → ¬ FX b g x j := fun j h1 h2 e => by
      rcases e with e | e
      · exact HF.out.2.2.1 j h1 e
      · have := H4.out.2.2 j h2; omega
    have C6 := (k6.block (w.heap.size + 1) (by omega) (nF _ (by omega) (by omega))).trans ((H4.out.2.1.block (w.heap.size + 1) (by omega)).trans H2.out.2.2.2.2.2.1)
    have C7 := (k6.block (w.heap.size + 2) (by omega) (nF _ (by omega) (by omega))).trans ((H4.out.2.1.block (w.heap.size + 2) (by omega)).trans H2.out.2.2.2.2.2.2)
    have I6 : Its wc (.slice ao' n cap') n F := (H2.out.2.1.below H4.out.2.1).keptB k6 (fun k hk => nF k (by have := H2.out.2.2.2.1 k hk; omega) (H2.out.2.2.2.1 k hk).2)
    have K6 : Kept (Foot b g) w wc := (H2.out.2.2.1.trans (keptF H4.out.2.1)).step k6 (fun i hi e => by
      rcases e with e | e
      · exact e
      · omega)
    have zc : w.heap.size + 2 < wc.heap.size := (Array.getElem?_eq_some_iff.1 C7).1
    obtain ⟨⟨e0, e1, e2, e3, e4, e5, e6, e7, e8, e9, e10, e11, e12, e13, e14, e15, e16⟩, -, ex⟩ := o6.open
    obtain ⟨⟨c0, c1, c2, c3, c4, c5, c6, c7, c8, c9, c10, c11, c12⟩, -⟩ := blk13 C6
    have fc0 := blkF C6 0; have fc1 := blkF C6 1; have fc2 := blkF C6 2; have fc3 := blkF C6 3; have fc4 := blkF C6 4; have fc5 := blkF C6 5; have fc6 := blkF C6 6; have fc7 := blkF C6 7; have fc8 := blkF C6 8; have fc9 := blkF C6 9; have fc10 := blkF C6 10; have fc11 := blkF C6 11; have fc12 := blkF C6 12
    obtain ⟨⟨d0, d1⟩, -⟩ := blk2c C7
    have fd0 := blkF C7 0
    have fd1 := blkF C7 1
    have hg7 : g' = g ∨ ∃ k, g' = some k ∧ w.heap.size ≤ k := by
      rcases hg6 with e | ⟨k, e, hk⟩
      · exact .inl e
      · exact .inr ⟨k, e, by omega⟩
    have H6 := Lib.hid (And.intro o6 (And.intro C6 (And.intro C7 (And.intro I6 (And.intro K6 (And.intro hg7 hg6))))))
    clear o6 k6 hg6 C6 C7 I6 K6 hg7 nF p1
    go_wp2_with fail
    go_region
    all_goals
      go_wp2_with fail
      generalize hw7 : World.setCell _ _ _ = w7
      have E : (w7.heap[w.heap.size + 1]? = some (.cells #[.int .i64 y0, .int .i64 y1, .int .i64 y2, .int .i64 y3, .int .i64 y4, .int .i64 y5, .int .i64 y6, .int .i64 y7, .int .i64 y8, .int .i64 y9, .int .i64 y10, .int .i64 y11, .slice ao' n cap'] 30 (0, 0)) ∧ w7.heap[w.heap.size + 2]? = some (.cells #[.int .u8 rc, .int .i32 rv] 25 (0, 0))) ∧ Kept (fun k => k = w.heap.size + 1 ∨ k = w.heap.size + 2) wc w7 := by
        rw [← hw7]
        first
          | exact stor_a H6.out.2.1 rfl H6.out.2.2.1 rfl (by omega)
          | exact stor_b H6.out.2.1 rfl H6.out.2.2.1 rfl (by omega)
      obtain ⟨⟨E1, E2⟩, KE⟩ := E
      obtain ⟨⟨r0, r1, r2, r3, r4, r5, r6, r7, r8, r9, r10, r11, r12⟩, -⟩ := blk13 E1
      obtain ⟨⟨s0', s1'⟩, -⟩ := blk2c E2
      first | replace KE := KE.drew | skip
      have hb := HF.out.1.mem.lt
      have hW := HF.out.1.B.size
      have hg : ∀ k, g = some k → k < w.heap.size := fun k e => by have h := HF.out.1; subst e; exact h.mem.row_lt
      refine bodyPost_ret (v := .tuple #[.agg #[.int .i64 y0, .int .i64 y1, .int .i64 y2, .int .i64 y3, .int .i64 y4, .int .i64 y5, .int .i64 y6, .int .i64 y7, .int .i64 y8, .int .i64 y9, .int .i64 y10, .int .i64 y11, .slice ao' n cap'], .agg #[.int .u8 rc, .int .i32 rv], .bool td]) (by simp [results, Try.results12, go_sem, r0, r1, r2, r3, r4, r5, r6, r7, r8, r9, r10, r11, r12, s0', s1']) rfl ⟨_, g', rfl, ?_, ?_, ?_, H6.out.2.2.2.2.2.1⟩
      · refine H6.out.1.ms.kept KE (H6.out.1.ms.B.trans (KE.below H6.out.1.ms.B.size (fun k hk e => by omega))) (fun e => by omega) (fun k e e2 => ?_)
        rcases H6.out.2.2.2.2.2.2 with h | ⟨j, h, hj⟩
        · have := hg k (h ▸ e); omega
        · rw [h] at e; simp at e; omega
      · exact H6.out.2.2.2.1.keptB KE (fun k hk e => by have := H2.out.2.2.2.1 k hk; omega)
      · exact H6.out.2.2.2.2.1.step KE (fun i hi e => by omega)

set_option maxRecDepth 100000 in
set_option maxHeartbeats 8000000 in
theorem oStep_noa (W0 w : World) (b : Nat) (g : Option Nat) (N st : Int) (xs : List Int) (i0 i1 i2 i3 i4 i5 i6 i7 i8 i9 i10 i11 : Int) (bt : Value) (n : Nat) (F : Nat → Int) (h : MS W0 w b g N xs st) (hI : Its w bt n F) (hn : n ≤ 1000000) (h1 : i1 < 1) :
    Calls Try.prog 12 #[.pointer (some ⟨b, 0, none⟩), .agg #[.int .i64 i0, .int .i64 i1, .int .i64 i2, .int .i64 i3, .int .i64 i4, .int .i64 i5, .int .i64 i6, .int .i64 i7, .int .i64 i8, .int .i64 i9, .int .i64 i10, .int .i64 i11, bt]] w fun e w' => ∃ bt', e = .returned (.tuple #[(.agg #[.int .i64 i0, .int .i64 i1, .int .i64 i2, .int .i64 i3, .int .i64 i4, .int .i64 i5, .int .i64 i6, .int .i64 i7, .int .i64 i8, .int .i64 i9, .int .i64 i10, .int .i64 i11, bt']), .agg #[.int .u8 0, .int .i32 0], .bool false]) ∧ MS W0 w' b g N xs st ∧ Its w' bt' n F ∧ Kept (Foot b g) w w' := by
  have HF := Lib.hid (And.intro h (And.intro hI h.past))
  obtain ⟨ao, cap, hbt, -⟩ := id hI
  subst hbt
  clear h hI
  go_enter Try.func12, Try.ntmps12
  go_wp2_with fail
  refine (cloneItem_own (.slice ao n cap) n F _ (HF.out.2.1.below (by go_grown)) hn).mono ?_
  rintro e w1 ⟨bt', rfl, hI1, hb1, ho1⟩
  obtain ⟨ao', cap', hbt', -⟩ := id hI1
  subst hbt'
  have z1 : w.heap.size + 2 < w1.heap.size := by have := hb1.size; first | omega | (simp at this; omega)
  have B5 : w1.heap[w.heap.size]? = some (.cells #[.int .i64 i0, .int .i64 i1, .int .i64 i2, .int .i64 i3, .int .i64 i4, .int .i64 i5, .int .i64 i6, .int .i64 i7, .int .i64 i8, .int .i64 i9, .int .i64 i10, .int .i64 i11, .slice ao n cap] 30 (0, 0)) := (hb1.block w.heap.size (by first | omega | (simp; omega) | (simp; done))).trans (alloc3_heap _ _ _ _).1
  have B6 : w1.heap[w.heap.size + 1]? = some (.cells #[.int .i64 0, .int .i64 0, .int .i64 0, .int .i64 0, .int .i64 0, .int .i64 0, .int .i64 0, .int .i64 0, .int .i64 0, .int .i64 0, .int .i64 0, .int .i64 0, .slice none 0 0] 30 (0, 0)) := (hb1.block (w.heap.size + 1) (by first | omega | (simp; omega) | (simp; done))).trans (alloc3_heap _ _ _ _).2.1
  have B7 : w1.heap[w.heap.size + 2]? = some (.cells #[.int .u8 0, .int .i32 0] 25 (0, 0)) := (hb1.block (w.heap.size + 2) (by first | omega | (simp; omega) | (simp; done))).trans (alloc3_heap _ _ _ _).2.2
  have BW : Below w.heap.size w w1 := Below.trans (by go_grown) (hb1.mono (by first | omega | (simp; omega) | (simp; done)))
  obtain ⟨⟨c0, c1, c2, c3, c4, c5, c6, c7, c8, c9, c10, c11, c12⟩, z0⟩ := blk13 B5
  have f12 := blkF B5 12
  have ho2 : ∀ k, (Value.slice ao' n cap').ownBlock = some k → w.heap.size + 3 ≤ k ∧ k < w1.heap.size := fun k hk => ⟨by have := (ho1 k hk).1; simp at this; omega, (ho1 k hk).2⟩
  have H1 := Lib.hid (And.intro hI1 (And.intro BW (And.intro ho2 (And.intro B5 (And.intro B6 B7)))))
  clear hb1 hI1 BW ho1 ho2 B5 B6 B7
  go_wp2_with fail
  generalize hw2 : World.setCell _ _ _ = w2
  have K2 : Kept (fun k => k = w.heap.size) w1 w2 := by rw [← hw2]; exact (Kept.refl (fun k => k = w.heap.size) w1).setCell (p := ⟨w.heap.size, 12, none⟩) (fun _ => rfl) _
  have D5 : w2.heap[w.heap.size]? = some (.cells #[.int .i64 i0, .int .i64 i1, .int .i64 i2, .int .i64 i3, .int .i64 i4, .int .i64 i5, .int .i64 i6, .int .i64 i7, .int .i64 i8, .int .i64 i9, .int .i64 i10, .int .i64 i11, .slice ao' n cap'] 30 (0, 0)) := by rw [← hw2]; rw [heap_setCell_self H1.out.2.2.2.1]; rfl
  have D6 := (K2.block (w.heap.size + 1) (by omega) (by omega)).trans H1.out.2.2.2.2.1
  have D7 := (K2.block (w.heap.size + 2) (by omega) (by omega)).trans H1.out.2.2.2.2.2
  have hz : W0.heap.size ≤ w.heap.size := HF.out.1.B.size
  have zw1 := H1.out.2.1.size
  have M2 : MS W0 w2 b g N xs st := (HF.out.1.below H1.out.2.1).kept K2 ((HF.out.1.B.trans (H1.out.2.1.mono HF.out.1.B.size)).trans (K2.below (by omega) (fun k hk e => by omega))) (fun e => by have := HF.out.1.mem.lt; omega) (fun k e e2 => HF.out.2.2 k (by omega) (.inr e.symm))
  have I2 : Its w2 (.slice ao' n cap') n F := H1.out.1.keptB K2 (fun k hk e => by have := H1.out.2.2.1 k hk; omega)
  have KW : Kept (Foot b g) w w2 := (keptF (F := Foot b g) H1.out.2.1).step K2 (fun i hi e => by omega)
  have z2 : w.heap.size + 2 < w2.heap.size := Nat.lt_of_lt_of_le z1 K2.size
  have o2 : ∀ k, (Value.slice ao' n cap').ownBlock = some k → w.heap.size + 3 ≤ k ∧ k < w2.heap.size := fun k hk => ⟨(H1.out.2.2.1 k hk).1, Nat.lt_of_lt_of_le (H1.out.2.2.1 k hk).2 K2.size⟩
  have H2 := Lib.hid (And.intro M2 (And.intro I2 (And.intro KW (And.intro o2 (And.intro D5 (And.intro D6 D7))))))
  clear hw2 K2 D5 D6 D7 M2 I2 KW o2 H1 c0 c1 c2 c3 c4 c5 c6 c7 c8 c9 c10 c11 c12 f12 z1 z0
  refine (oAsks_a w2 i0 i1 i2 i3 i4 i5 i6 i7 i8 i9 i10 i11 ao' n cap' h1).mono ?_
  rintro e wc ⟨rfl, hb3⟩
  have D5 := (hb3.block w.heap.size (by omega)).trans H2.out.2.2.2.2.1
  have C6 := (hb3.block (w.heap.size + 1) (by omega)).trans H2.out.2.2.2.2.2.1
  have C7 := (hb3.block (w.heap.size + 2) (by omega)).trans H2.out.2.2.2.2.2.2
  have z3 : w.heap.size + 2 < wc.heap.size := Nat.lt_of_lt_of_le z2 hb3.size
  obtain ⟨⟨g0, g1, g2, g3, g4, g5, g6, g7, g8, g9, g10, g11, g12⟩, -⟩ := blk13 D5
  obtain ⟨⟨c0, c1, c2, c3, c4, c5, c6, c7, c8, c9, c10, c11, c12⟩, -⟩ := blk13 C6
  have fc0 := blkF C6 0; have fc1 := blkF C6 1; have fc2 := blkF C6 2; have fc3 := blkF C6 3; have fc4 := blkF C6 4; have fc5 := blkF C6 5; have fc6 := blkF C6 6; have fc7 := blkF C6 7; have fc8 := blkF C6 8; have fc9 := blkF C6 9; have fc10 := blkF C6 10; have fc11 := blkF C6 11; have fc12 := blkF C6 12
  obtain ⟨⟨d0, d1⟩, -⟩ := blk2c C7
  have fd0 := blkF C7 0
  have fd1 := blkF C7 1
  have HB := Lib.hid (And.intro hb3 (And.intro C6 C7))
  clear hb3 D5 C6 C7
  go_wp2_with fail
  generalize hw7 : World.setCell _ _ _ = w7
  have E : (w7.heap[w.heap.size + 1]? = some (.cells #[.int .i64 i0, .int .i64 i1, .int .i64 i2, .int .i64 i3, .int .i64 i4, .int .i64 i5, .int .i64 i6, .int .i64 i7, .int .i64 i8, .int .i64 i9, .int .i64 i10, .int .i64 i11, .slice ao' n cap'] 30 (0, 0)) ∧ w7.heap[w.heap.size + 2]? = some (.cells #[.int .u8 0, .int .i32 0] 25 (0, 0))) ∧ Kept (fun k => k = w.heap.size + 1 ∨ k = w.heap.size + 2) wc w7 := by
    rw [← hw7]
    first
      | exact stor_a HB.out.2.1 rfl HB.out.2.2 rfl (by omega)
      | exact stor_b HB.out.2.1 rfl HB.out.2.2 rfl (by omega)
  obtain ⟨⟨E1, E2⟩, KE⟩ := E
  obtain ⟨⟨r0, r1, r2, r3, r4, r5, r6, r7, r8, r9, r10, r11, r12⟩, -⟩ := blk13 E1
  obtain ⟨⟨s0', s1'⟩, -⟩ := blk2c E2
  have hb := HF.out.1.mem.lt
  have hW := HF.out.1.B.size
  have hg : ∀ k, g = some k → k < w.heap.size := fun k e => by have h := HF.out.1; subst e; exact h.mem.row_lt
  have mc := H2.out.1.below HB.out.1
  refine bodyPost_ret (v := .tuple #[.agg #[.int .i64 i0, .int .i64 i1, .int .i64 i2, .int .i64 i3, .int .i64 i4, .int .i64 i5, .int .i64 i6, .int .i64 i7, .int .i64 i8, .int .i64 i9, .int .i64 i10, .int .i64 i11, .slice ao' n cap'], .agg #[.int .u8 0, .int .i32 0], .bool false]) (by simp [results, Try.results12, go_sem, r0, r1, r2, r3, r4, r5, r6, r7, r8, r9, r10, r11, r12, s0', s1']) rfl ⟨_, rfl, ?_, ?_, ?_⟩
  · exact mc.kept KE (mc.B.trans (KE.below mc.B.size (fun k hk e => by omega))) (fun e => by omega) (fun k e e2 => by have := hg k e; omega)
  · exact (H2.out.2.1.below HB.out.1).keptB KE (fun k hk e => by have := H2.out.2.2.2.1 k hk; omega)
  · exact (H2.out.2.2.1.trans (keptF HB.out.1)).step KE (fun i hi e => by omega)

set_option maxRecDepth 100000 in
set_option maxHeartbeats 8000000 in
theorem oStep_noc (W0 w : World) (b : Nat) (g : Option Nat) (N st : Int) (xs : List Int) (i0 i1 i2 i3 i4 i5 i6 i7 i8 i9 i10 i11 : Int) (bt : Value) (n : Nat) (F : Nat → Int) (h : MS W0 w b g N xs st) (hI : Its w bt n F) (hn : n ≤ 1000000) (h1 : 1 ≤ i1) (h2 : 16 < i1) :
    Calls Try.prog 12 #[.pointer (some ⟨b, 0, none⟩), .agg #[.int .i64 i0, .int .i64 i1, .int .i64 i2, .int .i64 i3, .int .i64 i4, .int .i64 i5, .int .i64 i6, .int .i64 i7, .int .i64 i8, .int .i64 i9, .int .i64 i10, .int .i64 i11, bt]] w fun e w' => ∃ bt', e = .returned (.tuple #[(.agg #[.int .i64 i0, .int .i64 i1, .int .i64 i2, .int .i64 i3, .int .i64 i4, .int .i64 i5, .int .i64 i6, .int .i64 i7, .int .i64 i8, .int .i64 i9, .int .i64 i10, .int .i64 i11, bt']), .agg #[.int .u8 0, .int .i32 0], .bool false]) ∧ MS W0 w' b g N xs st ∧ Its w' bt' n F ∧ Kept (Foot b g) w w' := by
  have HF := Lib.hid (And.intro h (And.intro hI h.past))
  obtain ⟨ao, cap, hbt, -⟩ := id hI
  subst hbt
  clear h hI
  go_enter Try.func12, Try.ntmps12
  go_wp2_with fail
  refine (cloneItem_own (.slice ao n cap) n F _ (HF.out.2.1.below (by go_grown)) hn).mono ?_
  rintro e w1 ⟨bt', rfl, hI1, hb1, ho1⟩
  obtain ⟨ao', cap', hbt', -⟩ := id hI1
  subst hbt'
  have z1 : w.heap.size + 2 < w1.heap.size := by have := hb1.size; first | omega | (simp at this; omega)
  have B5 : w1.heap[w.heap.size]? = some (.cells #[.int .i64 i0, .int .i64 i1, .int .i64 i2, .int .i64 i3, .int .i64 i4, .int .i64 i5, .int .i64 i6, .int .i64 i7, .int .i64 i8, .int .i64 i9, .int .i64 i10, .int .i64 i11, .slice ao n cap] 30 (0, 0)) := (hb1.block w.heap.size (by first | omega | (simp; omega) | (simp; done))).trans (alloc3_heap _ _ _ _).1
  have B6 : w1.heap[w.heap.size + 1]? = some (.cells #[.int .i64 0, .int .i64 0, .int .i64 0, .int .i64 0, .int .i64 0, .int .i64 0, .int .i64 0, .int .i64 0, .int .i64 0, .int .i64 0, .int .i64 0, .int .i64 0, .slice none 0 0] 30 (0, 0)) := (hb1.block (w.heap.size + 1) (by first | omega | (simp; omega) | (simp; done))).trans (alloc3_heap _ _ _ _).2.1
  have B7 : w1.heap[w.heap.size + 2]? = some (.cells #[.int .u8 0, .int .i32 0] 25 (0, 0)) := (hb1.block (w.heap.size + 2) (by first | omega | (simp; omega) | (simp; done))).trans (alloc3_heap _ _ _ _).2.2
  have BW : Below w.heap.size w w1 := Below.trans (by go_grown) (hb1.mono (by first | omega | (simp; omega) | (simp; done)))
  obtain ⟨⟨c0, c1, c2, c3, c4, c5, c6, c7, c8, c9, c10, c11, c12⟩, z0⟩ := blk13 B5
  have f12 := blkF B5 12
  have ho2 : ∀ k, (Value.slice ao' n cap').ownBlock = some k → w.heap.size + 3 ≤ k ∧ k < w1.heap.size := fun k hk => ⟨by have := (ho1 k hk).1; simp at this; omega, (ho1 k hk).2⟩
  have H1 := Lib.hid (And.intro hI1 (And.intro BW (And.intro ho2 (And.intro B5 (And.intro B6 B7)))))
  clear hb1 hI1 BW ho1 ho2 B5 B6 B7
  go_wp2_with fail
  generalize hw2 : World.setCell _ _ _ = w2
  have K2 : Kept (fun k => k = w.heap.size) w1 w2 := by rw [← hw2]; exact (Kept.refl (fun k => k = w.heap.size) w1).setCell (p := ⟨w.heap.size, 12, none⟩) (fun _ => rfl) _
  have D5 : w2.heap[w.heap.size]? = some (.cells #[.int .i64 i0, .int .i64 i1, .int .i64 i2, .int .i64 i3, .int .i64 i4, .int .i64 i5, .int .i64 i6, .int .i64 i7, .int .i64 i8, .int .i64 i9, .int .i64 i10, .int .i64 i11, .slice ao' n cap'] 30 (0, 0)) := by rw [← hw2]; rw [heap_setCell_self H1.out.2.2.2.1]; rfl
  have D6 := (K2.block (w.heap.size + 1) (by omega) (by omega)).trans H1.out.2.2.2.2.1
  have D7 := (K2.block (w.heap.size + 2) (by omega) (by omega)).trans H1.out.2.2.2.2.2
  have hz : W0.heap.size ≤ w.heap.size := HF.out.1.B.size
  have zw1 := H1.out.2.1.size
  have M2 : MS W0 w2 b g N xs st := (HF.out.1.below H1.out.2.1).kept K2 ((HF.out.1.B.trans (H1.out.2.1.mono HF.out.1.B.size)).trans (K2.below (by omega) (fun k hk e => by omega))) (fun e => by have := HF.out.1.mem.lt; omega) (fun k e e2 => HF.out.2.2 k (by omega) (.inr e.symm))
  have I2 : Its w2 (.slice ao' n cap') n F := H1.out.1.keptB K2 (fun k hk e => by have := H1.out.2.2.1 k hk; omega)
  have KW : Kept (Foot b g) w w2 := (keptF (F := Foot b g) H1.out.2.1).step K2 (fun i hi e => by omega)
  have z2 : w.heap.size + 2 < w2.heap.size := Nat.lt_of_lt_of_le z1 K2.size
  have o2 : ∀ k, (Value.slice ao' n cap').ownBlock = some k → w.heap.size + 3 ≤ k ∧ k < w2.heap.size := fun k hk => ⟨(H1.out.2.2.1 k hk).1, Nat.lt_of_lt_of_le (H1.out.2.2.1 k hk).2 K2.size⟩
  have H2 := Lib.hid (And.intro M2 (And.intro I2 (And.intro KW (And.intro o2 (And.intro D5 (And.intro D6 D7))))))
  clear hw2 K2 D5 D6 D7 M2 I2 KW o2 H1 c0 c1 c2 c3 c4 c5 c6 c7 c8 c9 c10 c11 c12 f12 z1 z0
  refine (oAsks_c w2 i0 i1 i2 i3 i4 i5 i6 i7 i8 i9 i10 i11 ao' n cap' h1 h2).mono ?_
  rintro e wc ⟨rfl, hb3⟩
  have D5 := (hb3.block w.heap.size (by omega)).trans H2.out.2.2.2.2.1
  have C6 := (hb3.block (w.heap.size + 1) (by omega)).trans H2.out.2.2.2.2.2.1
  have C7 := (hb3.block (w.heap.size + 2) (by omega)).trans H2.out.2.2.2.2.2.2
  have z3 : w.heap.size + 2 < wc.heap.size := Nat.lt_of_lt_of_le z2 hb3.size
  obtain ⟨⟨g0, g1, g2, g3, g4, g5, g6, g7, g8, g9, g10, g11, g12⟩, -⟩ := blk13 D5
  obtain ⟨⟨c0, c1, c2, c3, c4, c5, c6, c7, c8, c9, c10, c11, c12⟩, -⟩ := blk13 C6
  have fc0 := blkF C6 0; have fc1 := blkF C6 1; have fc2 := blkF C6 2; have fc3 := blkF C6 3; have fc4 := blkF C6 4; have fc5 := blkF C6 5; have fc6 := blkF C6 6; have fc7 := blkF C6 7; have fc8 := blkF C6 8; have fc9 := blkF C6 9; have fc10 := blkF C6 10; have fc11 := blkF C6 11; have fc12 := blkF C6 12
  obtain ⟨⟨d0, d1⟩, -⟩ := blk2c C7
  have fd0 := blkF C7 0
  have fd1 := blkF C7 1
  have HB := Lib.hid (And.intro hb3 (And.intro C6 C7))
  clear hb3 D5 C6 C7
  go_wp2_with fail
  generalize hw7 : World.setCell _ _ _ = w7
  have E : (w7.heap[w.heap.size + 1]? = some (.cells #[.int .i64 i0, .int .i64 i1, .int .i64 i2, .int .i64 i3, .int .i64 i4, .int .i64 i5, .int .i64 i6, .int .i64 i7, .int .i64 i8, .int .i64 i9, .int .i64 i10, .int .i64 i11, .slice ao' n cap'] 30 (0, 0)) ∧ w7.heap[w.heap.size + 2]? = some (.cells #[.int .u8 0, .int .i32 0] 25 (0, 0))) ∧ Kept (fun k => k = w.heap.size + 1 ∨ k = w.heap.size + 2) wc w7 := by
    rw [← hw7]
    first
      | exact stor_a HB.out.2.1 rfl HB.out.2.2 rfl (by omega)
      | exact stor_b HB.out.2.1 rfl HB.out.2.2 rfl (by omega)
  obtain ⟨⟨E1, E2⟩, KE⟩ := E
  obtain ⟨⟨r0, r1, r2, r3, r4, r5, r6, r7, r8, r9, r10, r11, r12⟩, -⟩ := blk13 E1
  obtain ⟨⟨s0', s1'⟩, -⟩ := blk2c E2
  have hb := HF.out.1.mem.lt
  have hW := HF.out.1.B.size
  have hg : ∀ k, g = some k → k < w.heap.size := fun k e => by have h := HF.out.1; subst e; exact h.mem.row_lt
  have mc := H2.out.1.below HB.out.1
  refine bodyPost_ret (v := .tuple #[.agg #[.int .i64 i0, .int .i64 i1, .int .i64 i2, .int .i64 i3, .int .i64 i4, .int .i64 i5, .int .i64 i6, .int .i64 i7, .int .i64 i8, .int .i64 i9, .int .i64 i10, .int .i64 i11, .slice ao' n cap'], .agg #[.int .u8 0, .int .i32 0], .bool false]) (by simp [results, Try.results12, go_sem, r0, r1, r2, r3, r4, r5, r6, r7, r8, r9, r10, r11, r12, s0', s1']) rfl ⟨_, rfl, ?_, ?_, ?_⟩
  · exact mc.kept KE (mc.B.trans (KE.below mc.B.size (fun k hk e => by omega))) (fun e => by omega) (fun k e e2 => by have := hg k e; omega)
  · exact (H2.out.2.1.below HB.out.1).keptB KE (fun k hk e => by have := H2.out.2.2.2.1 k hk; omega)
  · exact (H2.out.2.2.1.trans (keptF HB.out.1)).step KE (fun i hi e => by omega)

end Go.Proofs.Ytcellcjojfbajaa
