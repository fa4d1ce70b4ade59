/- A thread sweeps till it is done, or for so many steps. -/
import Derived.Test.YthdhilmmcabnlaaSwRg
namespace Go.Proofs.Ythdhilmmcabnlaa
set_option linter.unusedSimpArgs false
set_option linter.unusedVariables false
open Go.RowKit
open Go.ChangeShapes Go.WideShapes Go.ChangeAt

/-- The cells, the thread and the count behind at most f steps more. -/
def allK (age : Int) : Nat → List Int → Th → Nat → List Int × Th × Nat
  | 0, xs, t, n => (xs, t, n)
  | f + 1, xs, t, n => if 40 ≤ t.i1 ∧ t.i1 ≤ 48 then allK age f (swX xs t) (swT xs age t) (n + 1) else (xs, t, n)
theorem allK_go {age : Int} {f : Nat} {xs : List Int} {t : Th} {n : Nat} (h : 40 ≤ t.i1 ∧ t.i1 ≤ 48) : allK age (f + 1) xs t n = allK age f (swX xs t) (swT xs age t) (n + 1) := if_pos h
theorem allK_end {age : Int} {f : Nat} {xs : List Int} {t : Th} {n : Nat} (h : ¬ (40 ≤ t.i1 ∧ t.i1 ≤ 48)) : allK age f xs t n = (xs, t, n) := by
  cases f
  · rfl
  · exact if_neg h
theorem Sweeps_f (w : World) (t : Th) (bo : Option Addr) (bn bc : Nat) :
    Calls Try.prog 22 #[thV t (.slice bo bn bc)] w fun e w' => e = .returned (.bool (decide (40 ≤ t.i1 ∧ t.i1 ≤ 48))) ∧ Below w.heap.size w w' := by
  obtain ⟨i0, i1, i2, i3, i4, i5, i6, i7, i8, i9, i10, i11⟩ := t
  by_cases h1 : i1 < 40
  · exact (Sweeps_a w i0 i1 i2 i3 i4 i5 i6 i7 i8 i9 i10 i11 bo bn bc h1).mono fun e w' ⟨e1, e2⟩ => ⟨by rw [e1, decide_eq_false (show ¬ (40 ≤ i1 ∧ i1 ≤ 48) by omega)], e2⟩
  · by_cases h2 : i1 ≤ 48
    · exact (Sweeps_c w i0 i1 i2 i3 i4 i5 i6 i7 i8 i9 i10 i11 bo bn bc (by omega) h2).mono fun e w' ⟨e1, e2⟩ => ⟨by rw [e1, decide_eq_true (show 40 ≤ i1 ∧ i1 ≤ 48 by omega)], e2⟩
    · exact (Sweeps_b w i0 i1 i2 i3 i4 i5 i6 i7 i8 i9 i10 i11 bo bn bc (by omega) (by omega)).mono fun e w' ⟨e1, e2⟩ => ⟨by rw [e1, decide_eq_false (show ¬ (40 ≤ i1 ∧ i1 ≤ 48) by omega)], e2⟩
set_option maxRecDepth 100000 in
set_option maxHeartbeats 8000000 in
theorem all17_f (W0 w : World) (b : Nat) (g : Option Nat) (N st : Int) (xs : List Int) (age pass : Int) (XS : List Int) (T : Th) (K : Nat) (h : MS W0 w b g N xs st) (s0 : 0 ≤ st) (s1 : st ≤ 100000) (hx : RgX xs) (hR : allK age 200 xs ⟨0, 40, 0, 0, 0, 0, 0, 0, 0, 0, pass, 0⟩ 0 = (XS, T, K)) :
    Calls Try.prog 15 #[.pointer (some ⟨b, 0, none⟩), .int .i64 age, .int .i64 pass] w fun e w' => ∃ bo bc st', e = .returned (.tuple #[thV T (.slice bo 0 bc), .int .i64 K]) ∧ MS W0 w' b g N XS st' ∧ st ≤ st' ∧ st' ≤ st + 200 ∧ RgX XS ∧ Kept (Foot b g) w w' := by
  have hF : ∀ k, w.heap.size ≤ k → ¬ Foot b g k := fun k hk e => by
    rcases e with e | e
    · have := h.mem.lt; omega
    · subst e; have := h.mem.row_lt; omega
  have H := Lib.hid (And.intro h (And.intro hF (And.intro hx hR)))
  have zW0 : W0.heap.size ≤ w.heap.size := h.B.size
  clear h hF hx hR
  go_enter Try.func15, Try.ntmps15
  go_wp2
  generalize hW : World.alloc _ _ = W
  have A6 : W.heap[w.heap.size]? = some (.cells #[.int .i64 0, .int .i64 0, .int .i64 0, .int .i64 0, .int .i64 0, .int .i64 0, .int .i64 0, .int .i64 0, .int .i64 0, .int .i64 0, .int .i64 0, .int .i64 0, .slice none 0 0] 39 (0, 0)) := by rw [← hW]; exact alloc2_heap0 _ _ _
  have A8 : W.heap[w.heap.size + 1]? = some (.cells #[.int .i64 0, .int .i64 40, .int .i64 0, .int .i64 0, .int .i64 0, .int .i64 0, .int .i64 0, .int .i64 0, .int .i64 0, .int .i64 0, .int .i64 pass, .int .i64 0, .slice none 0 0] 39 (0, 0)) := by rw [← hW]; exact alloc2_heap1 _ _ _
  have BW : Below w.heap.size w W := by rw [← hW]; go_grown
  have HW := Lib.hid (And.intro A6 (And.intro A8 (And.intro BW (H.out.1.below BW))))
  clear hW A6 A8 BW
  go_loopw [9] (fun k wr => ∃ (i : Nat) (X : List Int) (su : Int) (t : Th) (bo : Option Addr) (bc : Nat), i ≤ 200 ∧ k = .int .i64 i ∧ MS W0 wr b g N X su ∧ wr.heap[w.heap.size]? = some (.cells #[.int .i64 0, .int .i64 0, .int .i64 0, .int .i64 0, .int .i64 0, .int .i64 0, .int .i64 0, .int .i64 0, .int .i64 0, .int .i64 0, .int .i64 0, .int .i64 0, .slice none 0 0] 39 (0, 0)) ∧ wr.heap[w.heap.size + 1]? = some (.cells #[.int .i64 t.i0, .int .i64 t.i1, .int .i64 t.i2, .int .i64 t.i3, .int .i64 t.i4, .int .i64 t.i5, .int .i64 t.i6, .int .i64 t.i7, .int .i64 t.i8, .int .i64 t.i9, .int .i64 t.i10, .int .i64 t.i11, .slice bo 0 bc] 39 (0, 0)) ∧ Kept (Foot b g) w wr ∧ st ≤ su ∧ su ≤ st + i ∧ RgX X ∧ Rg t.i5 ∧ Rg t.i6 ∧ allK age (200 - i) X t i = (XS, T, K)) (fun k _ => 200 - (intOf k).toNat)
  case atStart => exact ⟨0, xs, st, ⟨0, 40, 0, 0, 0, 0, 0, 0, 0, 0, pass, 0⟩, none, 0, by omega, rfl, HW.out.2.2.2, HW.out.1, HW.out.2.1, keptF HW.out.2.2.1, by omega, by omega, H.out.2.2.1, by show Rg 0; unfold Rg; omega, by show Rg 0; unfold Rg; omega, H.out.2.2.2⟩
  case round =>
    obtain ⟨i, X, su, t, bo, bc, hi, rfl, m, A6, A8, K0, su0, su1, hX, h5, h6, hA⟩ := hrel
    have zi : (0 : Int) ≤ (i : Int) := by omega
    have hi' : (i : Int) ≤ 200 := by omega
    have z6 : w.heap.size < wr.heap.size := (Array.getElem?_eq_some_iff.1 A6).1
    have z8 : w.heap.size + 1 < wr.heap.size := (Array.getElem?_eq_some_iff.1 A8).1
    have HR := Lib.hid (And.intro m (And.intro A6 (And.intro A8 (And.intro K0 (And.intro hX (And.intro h5 (And.intro h6 hA)))))))
    obtain ⟨⟨a0, a1, a2, a3, a4, a5, a6, a7, a8, a9, a10, a11, a12⟩, -⟩ := blk13 A8
    obtain ⟨⟨c0, c1, c2, c3, c4, c5, c6, c7, c8, c9, c10, c11, c12⟩, -⟩ := blk13 A6
    have cf0 := blkF A6 0; have cf1 := blkF A6 1; have cf2 := blkF A6 2; have cf3 := blkF A6 3; have cf4 := blkF A6 4; have cf5 := blkF A6 5; have cf6 := blkF A6 6; have cf7 := blkF A6 7; have cf8 := blkF A6 8; have cf9 := blkF A6 9; have cf10 := blkF A6 10; have cf11 := blkF A6 11; have cf12 := blkF A6 12
    clear m A6 A8 K0 hX h5 h6 hA HW
    by_cases hlt : i < 200
    · have hlt' : (i : Int) < 200 := by omega
      go_wp2_with fail
      refine (Sweeps_f _ t bo 0 bc).mono ?_
      rintro e w2 ⟨rfl, hb2⟩
      have A8 := (hb2.block (w.heap.size + 1) z8).trans HR.out.2.2.1
      have A6 := (hb2.block w.heap.size z6).trans HR.out.2.1
      have y6 : w.heap.size < w2.heap.size := (Array.getElem?_eq_some_iff.1 A6).1
      have y8 : w.heap.size + 1 < w2.heap.size := (Array.getElem?_eq_some_iff.1 A8).1
      have m2 := HR.out.1.below hb2
      have H2 := Lib.hid (And.intro m2 (And.intro A6 (And.intro A8 (HR.out.2.2.2.1.trans (keptF hb2)))))
      obtain ⟨⟨d0, d1, d2, d3, d4, d5, d6, d7, d8, d9, d10, d11, d12⟩, -⟩ := blk13 A8
      have df0 := blkF A8 0; have df1 := blkF A8 1; have df2 := blkF A8 2; have df3 := blkF A8 3; have df4 := blkF A8 4; have df5 := blkF A8 5; have df6 := blkF A8 6; have df7 := blkF A8 7; have df8 := blkF A8 8; have df9 := blkF A8 9; have df10 := blkF A8 10; have df11 := blkF A8 11; have df12 := blkF A8 12
      obtain ⟨⟨e0, e1, e2, e3, e4, e5, e6, e7, e8, e9, e10, e11, e12⟩, -⟩ := blk13 A6
      have ef0 := blkF A6 0; have ef1 := blkF A6 1; have ef2 := blkF A6 2; have ef3 := blkF A6 3; have ef4 := blkF A6 4; have ef5 := blkF A6 5; have ef6 := blkF A6 6; have ef7 := blkF A6 7; have ef8 := blkF A6 8; have ef9 := blkF A6 9; have ef10 := blkF A6 10; have ef11 := blkF A6 11; have ef12 := blkF A6 12
      clear hb2 A8 A6 m2 a0 a1 a2 a3 a4 a5 a6 a7 a8 a9 a10 a11 a12 c0 c1 c2 c3 c4 c5 c6 c7 c8 c9 c10 c11 c12 cf0 cf1 cf2 cf3 cf4 cf5 cf6 cf7 cf8 cf9 cf10 cf11 cf12
      by_cases hs : 40 ≤ t.i1 ∧ t.i1 ≤ 48
      · rw [decide_eq_true hs]
        have HS := Lib.hid hs
        clear hs
        go_wp2_with fail
        refine (sStep_f W0 _ b g N su X t (.slice bo 0 bc) 0 (fun _ => 0) age H2.out.1 (Its.zero _ _ _) (Nat.zero_le _) (by omega) (by omega) HR.out.2.2.2.2.2.2.1).mono ?_
        rintro e w3 ⟨bt3, he, m3, I3, k3⟩
        obtain ⟨bo3, bc3, rfl, -⟩ := id I3
        obtain ⟨t3, ht3⟩ : ∃ t3, swT X age t = t3 := ⟨_, rfl⟩
        have g56 : Rg t3.i5 ∧ Rg t3.i6 := by rw [← ht3]; exact swT_rg HR.out.2.2.2.2.1 age t HR.out.2.2.2.2.2.1 HR.out.2.2.2.2.2.2.1
        have gX : RgX (swX X t) := swX_rg HR.out.2.2.2.2.1 t HR.out.2.2.2.2.2.1
        have c3 := swC_rng X t
        have hA := HR.out.2.2.2.2.2.2.2
        rw [show 200 - i = (200 - (i + 1)) + 1 by omega, allK_go HS.out, ht3] at hA
        rw [ht3] at he
        have R8 := (k3.block (w.heap.size + 1) y8 (H.out.2.1 _ (by omega))).trans H2.out.2.2.1
        have R6 := (k3.block w.heap.size y6 (H.out.2.1 _ (by omega))).trans H2.out.2.1
        have x8 : w.heap.size + 1 < w3.heap.size := (Array.getElem?_eq_some_iff.1 R8).1
        have x6 : w.heap.size < w3.heap.size := (Array.getElem?_eq_some_iff.1 R6).1
        have H3 := Lib.hid (And.intro m3 (And.intro R6 (And.intro R8 (And.intro (H2.out.2.2.2.trans k3) (And.intro g56 (And.intro gX (And.intro hA c3)))))))
        clear m3 k3 g56 gX hA ht3 I3 c3 d0 d1 d2 d3 d4 d5 d6 d7 d8 d9 d10 d11 d12 df0 df1 df2 df3 df4 df5 df6 df7 df8 df9 df10 df11 df12 e0 e1 e2 e3 e4 e5 e6 e7 e8 e9 e10 e11 e12 ef0 ef1 ef2 ef3 ef4 ef5 ef6 ef7 ef8 ef9 ef10 ef11 ef12
        obtain ⟨⟨f0, f1, f2, f3, f4, f5, f6, f7, f8, f9, f10, f11, f12⟩, -⟩ := blk13 R8
        have ff0 := blkF R8 0; have ff1 := blkF R8 1; have ff2 := blkF R8 2; have ff3 := blkF R8 3; have ff4 := blkF R8 4; have ff5 := blkF R8 5; have ff6 := blkF R8 6; have ff7 := blkF R8 7; have ff8 := blkF R8 8; have ff9 := blkF R8 9; have ff10 := blkF R8 10; have ff11 := blkF R8 11; have ff12 := blkF R8 12
        clear R8 R6
        obtain ⟨y0, y1, y2, y3, y4, y5, y6, y7, y8, y9, y10, y11⟩ := t3
        simp only [thV] at he
        subst he
        go_wp2_with fail
        generalize hW4 : World.setCell _ _ _ = W4
        have U4 : W4.heap[w.heap.size + 1]? = some (.cells #[.int .i64 y0, .int .i64 y1, .int .i64 y2, .int .i64 y3, .int .i64 y4, .int .i64 y5, .int .i64 y6, .int .i64 y7, .int .i64 y8, .int .i64 y9, .int .i64 y10, .int .i64 y11, .slice bo3 0 bc3] 39 (0, 0)) := by rw [← hW4]; exact set13 H3.out.2.2.1 rfl
        have K4 : Kept (fun k => k = w.heap.size + 1) w3 W4 := by rw [← hW4]; exact kept_set13 _ _ _ _ _ _ _ _ _ _ _ _ _ _ _
        have U6 := (K4.block w.heap.size x6 (by omega)).trans H3.out.2.1
        have m4 := H3.out.1.far K4 (by omega) (H.out.2.1 _ (by omega))
        have H4 := Lib.hid (And.intro m4 (And.intro U6 (And.intro U4 (H3.out.2.2.2.1.step K4 (fun j hj e => by omega)))))
        clear hW4 U4 K4 U6 m4
        go_roundw
        case rel =>
          have c3 := H3.out.2.2.2.2.2.2.2
          exact ⟨i + 1, _, _, ⟨y0, y1, y2, y3, y4, y5, y6, y7, y8, y9, y10, y11⟩, bo3, bc3, by omega, by go_num, H4.out.1, H4.out.2.1, H4.out.2.2.1, H4.out.2.2.2, by omega, by omega, H3.out.2.2.2.2.2.1, H3.out.2.2.2.2.1.1, H3.out.2.2.2.2.1.2, H3.out.2.2.2.2.2.2.1⟩
        case measure => simp [intOf]; omega
      · rw [decide_eq_false hs]
        have hA := HR.out.2.2.2.2.2.2.2
        rw [allK_end hs] at hA
        have HA := Lib.hid hA
        clear hs hA
        go_wp2
        generalize hw5 : World.setCell _ _ _ = w5
        have C5 := set13 (w := w2) (x0 := .int .i64 t.i0) (x1 := .int .i64 t.i1) (x2 := .int .i64 t.i2) (x3 := .int .i64 t.i3) (x4 := .int .i64 t.i4) (x5 := .int .i64 t.i5) (x6 := .int .i64 t.i6) (x7 := .int .i64 t.i7) (x8 := .int .i64 t.i8) (x9 := .int .i64 t.i9) (x10 := .int .i64 t.i10) (x11 := .int .i64 t.i11) (x12 := .slice bo 0 bc) H2.out.2.1 rfl
        rw [hw5] at C5
        have K5 : Kept (fun k => k = w.heap.size) w2 w5 := by rw [← hw5]; exact kept_set13 _ _ _ _ _ _ _ _ _ _ _ _ _ _ _
        obtain ⟨⟨r0, r1, r2, r3, r4, r5, r6, r7, r8, r9, r10, r11, r12⟩, -⟩ := blk13 C5
        refine bodyPost_ret (v := .tuple #[thV t (.slice bo 0 bc), .int .i64 i]) (by simp [results, Try.results15, go_sem, thV, r0, r1, r2, r3, r4, r5, r6, r7, r8, r9, r10, r11, r12]) rfl ?_
        have e := HA.out
        simp only [Prod.mk.injEq] at e
        obtain ⟨rfl, rfl, rfl⟩ := e
        exact ⟨_, _, su, rfl, H2.out.1.far K5 (by omega) (H.out.2.1 _ (by omega)), su0, by omega, HR.out.2.2.2.2.1, H2.out.2.2.2.step K5 (fun j hj e => by omega)⟩
    · obtain rfl : i = 200 := by omega
      have hA : (X, t, 200) = (XS, T, K) := HR.out.2.2.2.2.2.2.2
      have HA := Lib.hid hA
      clear hA
      go_wp2
      generalize hw5 : World.setCell _ _ _ = w5
      have C5 := set13 (w := wr) (x0 := .int .i64 t.i0) (x1 := .int .i64 t.i1) (x2 := .int .i64 t.i2) (x3 := .int .i64 t.i3) (x4 := .int .i64 t.i4) (x5 := .int .i64 t.i5) (x6 := .int .i64 t.i6) (x7 := .int .i64 t.i7) (x8 := .int .i64 t.i8) (x9 := .int .i64 t.i9) (x10 := .int .i64 t.i10) (x11 := .int .i64 t.i11) (x12 := .slice bo 0 bc) HR.out.2.1 rfl
      rw [hw5] at C5
      have K5 : Kept (fun k => k = w.heap.size) wr w5 := by rw [← hw5]; exact kept_set13 _ _ _ _ _ _ _ _ _ _ _ _ _ _ _
      obtain ⟨⟨r0, r1, r2, r3, r4, r5, r6, r7, r8, r9, r10, r11, r12⟩, -⟩ := blk13 C5
      refine bodyPost_ret (v := .tuple #[thV t (.slice bo 0 bc), .int .i64 (200 : Nat)]) (by simp [results, Try.results15, go_sem, thV, r0, r1, r2, r3, r4, r5, r6, r7, r8, r9, r10, r11, r12]) rfl ?_
      have e := HA.out
      simp only [Prod.mk.injEq] at e
      obtain ⟨rfl, rfl, rfl⟩ := e
      exact ⟨_, _, su, rfl, HR.out.1.far K5 (by omega) (H.out.2.1 _ (by omega)), su0, by omega, HR.out.2.2.2.2.1, HR.out.2.2.2.1.step K5 (fun j hj e => by omega)⟩

end Go.Proofs.Ythdhilmmcabnlaa
