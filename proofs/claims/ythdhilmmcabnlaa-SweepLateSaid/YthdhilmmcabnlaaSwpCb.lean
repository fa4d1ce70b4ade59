/- Step of package sweep at one place or two. -/
import Derived.Test.YthdhilmmcabnlaaThr2
import Derived.Test.YthdhilmmcabnlaaSwpBa
import Derived.Test.YthdhilmmcabnlaaSwpBb
import Derived.Test.YthdhilmmcabnlaaSwpBc
import Derived.Test.YthdhilmmcabnlaaSwpBd
import Derived.Deep.Cut
namespace Go.Proofs.Ythdhilmmcabnlaa
set_option linter.unusedSimpArgs false
set_option linter.unusedVariables false
open Go.RowKit
open Go.ChangeShapes Go.WideShapes Go.ChangeAt

set_option maxRecDepth 100000 in
set_option maxHeartbeats 4000000 in
theorem sStep_42b (W0 w : World) (b : Nat) (g : Option Nat) (N st : Int) (xs : List Int) (i0 i2 i3 i4 i5 i6 i7 i8 i9 i10 i11 : Int) (bt : Value) (n : Nat) (F : Nat → Int) (age : Int) (h : MS W0 w b g N xs st) (hI : Its w bt n F) (hn : n ≤ 1000000) (s0 : 0 ≤ st) (s1 : st < 1000000) (v : Int) (hv : cellAt xs (wrap64 (i6 + 1)) = v) (h0 : (v == 1) = false) :
    Calls Try.prog 24 #[.pointer (some ⟨b, 0, none⟩), .int .i64 age, .agg #[.int .i64 i0, .int .i64 42, .int .i64 i2, .int .i64 i3, .int .i64 i4, .int .i64 i5, .int .i64 i6, .int .i64 i7, .int .i64 i8, .int .i64 i9, .int .i64 i10, .int .i64 i11, bt]] w fun e w' => ∃ bt', e = .returned (.agg #[.int .i64 i0, .int .i64 41, .int .i64 i2, .int .i64 i3, .int .i64 i4, .int .i64 v, .int .i64 i6, .int .i64 i6, .int .i64 i8, .int .i64 i9, .int .i64 i10, .int .i64 i11, bt']) ∧ MS W0 w' b g N (xs) (st + cntAt xs (wrap64 (i6 + 1))) ∧ Its w' bt' n F ∧ Kept (Foot b g) w w' := by
  have HF := Lib.hid (And.intro h (And.intro hI (fun k (hk : w.heap.size ≤ k) (e : Foot b g k) => (by
    rcases e with e | e
    · have := h.mem.lt; omega
    · subst e; have := h.mem.row_lt; omega : False))))
  obtain ⟨ao, cap, hbt, -⟩ := id hI
  subst hbt
  clear h hI
  have Hv := Lib.hid hv
  clear hv
  go_enter Try.func24, Try.ntmps24
  go_wp2_with fail
  refine (cloneItem_own (.slice ao n cap) n F _ (HF.out.2.1.below (by go_grown)) hn).mono ?_
  rintro e w1 ⟨bt', rfl, hI1, hb1, ho1⟩
  obtain ⟨ao', cap', hbt', -⟩ := id hI1
  subst hbt'
  have z1 : w.heap.size + 1 < w1.heap.size := by have := hb1.size; first | omega | (simp at this; omega)
  have B5 : w1.heap[w.heap.size]? = some (.cells #[.int .i64 i0, .int .i64 42, .int .i64 i2, .int .i64 i3, .int .i64 i4, .int .i64 i5, .int .i64 i6, .int .i64 i7, .int .i64 i8, .int .i64 i9, .int .i64 i10, .int .i64 i11, .slice ao n cap] 39 (0, 0)) := (hb1.block w.heap.size (by first | omega | (simp; omega) | (simp; done))).trans (alloc2_heap0 _ _ _)
  have B6 : w1.heap[w.heap.size + 1]? = some (.cells #[.int .i64 0, .int .i64 0, .int .i64 0, .int .i64 0, .int .i64 0, .int .i64 0, .int .i64 0, .int .i64 0, .int .i64 0, .int .i64 0, .int .i64 0, .int .i64 0, .slice none 0 0] 39 (0, 0)) := (hb1.block (w.heap.size + 1) (by first | omega | (simp; omega) | (simp; done))).trans (alloc2_heap1 _ _ _)
  have BW : Below w.heap.size w w1 := Below.trans (by go_grown) (hb1.mono (by first | omega | (simp; omega) | (simp; done)))
  obtain ⟨⟨c0, c1, c2, c3, c4, c5, c6, c7, c8, c9, c10, c11, c12⟩, z0⟩ := blk13 B5
  have f12 := blkF B5 12
  have ho2 : ∀ k, (Value.slice ao' n cap').ownBlock = some k → w.heap.size + 2 ≤ k ∧ k < w1.heap.size := fun k hk => ⟨by have := (ho1 k hk).1; simp at this; omega, (ho1 k hk).2⟩
  have H1 := Lib.hid (And.intro hI1 (And.intro BW (And.intro ho2 B6)))
  clear hb1 hI1 B5 BW ho1 ho2
  clear B6
  go_wp2_with fail
  generalize hx : w1.heap.size = x
  generalize hw2 : World.alloc _ _ = w2
  have K2 : Kept (fun k => k = w.heap.size) w1 w2 := by
    rw [← hw2]
    exact ((Kept.refl (fun k => k = w.heap.size) w1).setCell (p := ⟨w.heap.size, 12, none⟩) (fun _ => rfl) _).alloc _
  have U2 : Turn w2 x i0 42 i2 i3 i4 i5 i6 i7 i8 i9 i10 i11 (.slice ao' n cap') b age := by
    rw [← hw2, ← hx]
    exact alloc_at (by simp) _
  have zx : w.heap.size + 1 < x := by omega
  have M2 : MS W0 w2 b g N xs st := (HF.out.1.below H1.out.2.1).kept K2 ((HF.out.1.B.trans (H1.out.2.1.mono HF.out.1.B.size)).trans (K2.below (by have := HF.out.1.B.size; omega) (fun k hk e => by have := HF.out.1.B.size; omega))) (fun e => by have := HF.out.1.mem.lt; omega) (fun k e e2 => HF.out.2.2 k (by omega) (.inr e.symm))
  have T2 : TW W0 w2 w2 x g N st xs i0 42 i2 i3 i4 i5 i6 i7 i8 i9 i10 i11 (.slice ao' n cap') b age := ⟨M2, U2, Kept.refl _ _, by have := HF.out.1.B.size; omega, fun e => HF.out.2.2 x (by omega) e, s0⟩
  have I2 : Its w2 (.slice ao' n cap') n F := H1.out.1.keptB K2 (fun k hk e => by have := H1.out.2.2.1 k hk; omega)
  have C2 : w2.heap[w.heap.size + 1]? = _ := (K2.block (w.heap.size + 1) z1 (by omega)).trans H1.out.2.2.2
  have KW : Kept (Foot b g) w w2 := (keptF (F := Foot b g) H1.out.2.1).step K2 (fun i hi e => by omega)
  have z2 : w.heap.size + 1 < w2.heap.size := Nat.lt_of_lt_of_le z1 K2.size
  have zx2 : x < w2.heap.size := U2.lt
  have hox : ∀ k, (Value.slice ao' n cap').ownBlock = some k → k < x ∧ w.heap.size + 2 ≤ k := fun k hk => ⟨by have := (H1.out.2.2.1 k hk).2; omega, (H1.out.2.2.1 k hk).1⟩
  have T2 := Lib.hid T2
  have H2 := Lib.hid (And.intro I2 (And.intro C2 (And.intro KW hox)))
  clear hw2 hx K2 U2 M2 I2 C2 KW H1 hox c0 c1 c2 c3 c4 c5 c6 c7 c8 c9 c10 c11 c12 f12
  refine (sSeek_42b W0 w2 w2 x g N st xs i0 42 i2 i3 i4 i5 i6 i7 i8 i9 i10 i11 (.slice ao' n cap') b age v T2.out Hv.out s1 h0).mono ?_
  rintro e w3 ⟨rfl, h3⟩
  have T3 := Lib.hid h3
  clear h3
  have K3l := T3.out.K
  have C3l := (K3l.block (w.heap.size + 1) z2 (by rintro (e | e); exact HF.out.2.2 _ (by omega) e; omega)).trans H2.out.2.1
  have z3 : w.heap.size + 1 < w3.heap.size := Nat.lt_of_lt_of_le z2 K3l.size
  have H3l := Lib.hid (And.intro K3l C3l)
  obtain ⟨⟨d0, d1, d2, d3, d4, d5, d6, d7, d8, d9, d10, d11, d12, -, -⟩, hfx, z3x⟩ := T3.out.turn.open
  have f1 := hfx 1
  obtain ⟨⟨g0, g1, g2, g3, g4, g5, g6, g7, g8, g9, g10, g11, g12⟩, -⟩ := blk13 C3l
  have hff := blkF C3l
  have p0 := hff 0; have p1 := hff 1; have p2 := hff 2; have p3 := hff 3; have p4 := hff 4; have p5 := hff 5; have p6 := hff 6; have p7 := hff 7; have p8 := hff 8; have p9 := hff 9; have p10 := hff 10; have p11 := hff 11; have p12 := hff 12
  clear hff hfx K3l C3l
  go_wp2
  generalize hw5 : World.setCell _ _ _ = w5
  have T3 : TW W0 w2 w3 x g N (st + cntAt xs (wrap64 (i6 + 1))) (xs) i0 41 i2 i3 i4 v i6 i6 i8 i9 i10 i11 (.slice ao' n cap') b age := T3.out
  have C3 : w3.heap[w.heap.size + 1]? = some (.cells #[.int .i64 0, .int .i64 0, .int .i64 0, .int .i64 0, .int .i64 0, .int .i64 0, .int .i64 0, .int .i64 0, .int .i64 0, .int .i64 0, .int .i64 0, .int .i64 0, .slice none 0 0] 39 (0, 0)) := H3l.out.2
  have K5 : Kept (fun k => k = w.heap.size + 1) w3 w5 := by rw [← hw5]; exact kept_set13 _ _ _ _ _ _ _ _ _ _ _ _ _ _ _
  have C5 : w5.heap[w.heap.size + 1]? = some (.cells #[.int .i64 i0, .int .i64 41, .int .i64 i2, .int .i64 i3, .int .i64 i4, .int .i64 v, .int .i64 i6, .int .i64 i6, .int .i64 i8, .int .i64 i9, .int .i64 i10, .int .i64 i11, .slice ao' n cap'] 39 (0, 0)) := by rw [← hw5]; exact set13 C3 rfl
  obtain ⟨⟨r0, r1, r2, r3, r4, r5, r6, r7, r8, r9, r10, r11, r12⟩, z5⟩ := blk13 C5
  refine bodyPost_ret (v := .agg #[.int .i64 i0, .int .i64 41, .int .i64 i2, .int .i64 i3, .int .i64 i4, .int .i64 v, .int .i64 i6, .int .i64 i6, .int .i64 i8, .int .i64 i9, .int .i64 i10, .int .i64 i11, .slice ao' n cap']) (by simp [results, Try.results24, go_sem, r0, r1, r2, r3, r4, r5, r6, r7, r8, r9, r10, r11, r12]) rfl ⟨_, rfl, ?_, ?_, ?_⟩
  · exact T3.ms.far K5 (by have := HF.out.1.B.size; omega) (fun e => HF.out.2.2 _ (by omega) e)
  · exact (H2.out.1.keptB T3.K (fun k hk e => by
      have := H2.out.2.2.2 k hk
      rcases e with e | e
      · exact HF.out.2.2 _ (by omega) e
      · omega)).keptB K5 (fun k hk e => by have := H2.out.2.2.2 k hk; omega)
  · exact ((H2.out.2.2.1.step T3.K (fun i hi e => by rcases e with e | e; exact e; omega))).step K5 (fun i hi e => by omega)

set_option maxRecDepth 100000 in
set_option maxHeartbeats 4000000 in
theorem sStep_43a (W0 w : World) (b : Nat) (g : Option Nat) (N st : Int) (xs : List Int) (i0 i2 i3 i4 i5 i6 i7 i8 i9 i10 i11 : Int) (bt : Value) (n : Nat) (F : Nat → Int) (age : Int) (h : MS W0 w b g N xs st) (hI : Its w bt n F) (hn : n ≤ 1000000) (s0 : 0 ≤ st) (s1 : st < 1000000) (v : Int) (hv : cellAt xs (wrap64 (i6 + 2)) = v) (h0 : age < wrap64 (i10 - v)) :
    Calls Try.prog 24 #[.pointer (some ⟨b, 0, none⟩), .int .i64 age, .agg #[.int .i64 i0, .int .i64 43, .int .i64 i2, .int .i64 i3, .int .i64 i4, .int .i64 i5, .int .i64 i6, .int .i64 i7, .int .i64 i8, .int .i64 i9, .int .i64 i10, .int .i64 i11, bt]] w fun e w' => ∃ bt', e = .returned (.agg #[.int .i64 i0, .int .i64 44, .int .i64 i2, .int .i64 i3, .int .i64 i4, .int .i64 v, .int .i64 i6, .int .i64 i7, .int .i64 i8, .int .i64 i9, .int .i64 i10, .int .i64 i11, bt']) ∧ MS W0 w' b g N (xs) (st + cntAt xs (wrap64 (i6 + 2))) ∧ Its w' bt' n F ∧ Kept (Foot b g) w w' := by
  have HF := Lib.hid (And.intro h (And.intro hI (fun k (hk : w.heap.size ≤ k) (e : Foot b g k) => (by
    rcases e with e | e
    · have := h.mem.lt; omega
    · subst e; have := h.mem.row_lt; omega : False))))
  obtain ⟨ao, cap, hbt, -⟩ := id hI
  subst hbt
  clear h hI
  have Hv := Lib.hid hv
  clear hv
  go_enter Try.func24, Try.ntmps24
  go_wp2_with fail
  refine (cloneItem_own (.slice ao n cap) n F _ (HF.out.2.1.below (by go_grown)) hn).mono ?_
  rintro e w1 ⟨bt', rfl, hI1, hb1, ho1⟩
  obtain ⟨ao', cap', hbt', -⟩ := id hI1
  subst hbt'
  have z1 : w.heap.size + 1 < w1.heap.size := by have := hb1.size; first | omega | (simp at this; omega)
  have B5 : w1.heap[w.heap.size]? = some (.cells #[.int .i64 i0, .int .i64 43, .int .i64 i2, .int .i64 i3, .int .i64 i4, .int .i64 i5, .int .i64 i6, .int .i64 i7, .int .i64 i8, .int .i64 i9, .int .i64 i10, .int .i64 i11, .slice ao n cap] 39 (0, 0)) := (hb1.block w.heap.size (by first | omega | (simp; omega) | (simp; done))).trans (alloc2_heap0 _ _ _)
  have B6 : w1.heap[w.heap.size + 1]? = some (.cells #[.int .i64 0, .int .i64 0, .int .i64 0, .int .i64 0, .int .i64 0, .int .i64 0, .int .i64 0, .int .i64 0, .int .i64 0, .int .i64 0, .int .i64 0, .int .i64 0, .slice none 0 0] 39 (0, 0)) := (hb1.block (w.heap.size + 1) (by first | omega | (simp; omega) | (simp; done))).trans (alloc2_heap1 _ _ _)
  have BW : Below w.heap.size w w1 := Below.trans (by go_grown) (hb1.mono (by first | omega | (simp; omega) | (simp; done)))
  obtain ⟨⟨c0, c1, c2, c3, c4, c5, c6, c7, c8, c9, c10, c11, c12⟩, z0⟩ := blk13 B5
  have f12 := blkF B5 12
  have ho2 : ∀ k, (Value.slice ao' n cap').ownBlock = some k → w.heap.size + 2 ≤ k ∧ k < w1.heap.size := fun k hk => ⟨by have := (ho1 k hk).1; simp at this; omega, (ho1 k hk).2⟩
  have H1 := Lib.hid (And.intro hI1 (And.intro BW (And.intro ho2 B6)))
  clear hb1 hI1 B5 BW ho1 ho2
  clear B6
  go_wp2_with fail
  generalize hx : w1.heap.size = x
  generalize hw2 : World.alloc _ _ = w2
  have K2 : Kept (fun k => k = w.heap.size) w1 w2 := by
    rw [← hw2]
    exact ((Kept.refl (fun k => k = w.heap.size) w1).setCell (p := ⟨w.heap.size, 12, none⟩) (fun _ => rfl) _).alloc _
  have U2 : Turn w2 x i0 43 i2 i3 i4 i5 i6 i7 i8 i9 i10 i11 (.slice ao' n cap') b age := by
    rw [← hw2, ← hx]
    exact alloc_at (by simp) _
  have zx : w.heap.size + 1 < x := by omega
  have M2 : MS W0 w2 b g N xs st := (HF.out.1.below H1.out.2.1).kept K2 ((HF.out.1.B.trans (H1.out.2.1.mono HF.out.1.B.size)).trans (K2.below (by have := HF.out.1.B.size; omega) (fun k hk e => by have := HF.out.1.B.size; omega))) (fun e => by have := HF.out.1.mem.lt; omega) (fun k e e2 => HF.out.2.2 k (by omega) (.inr e.symm))
  have T2 : TW W0 w2 w2 x g N st xs i0 43 i2 i3 i4 i5 i6 i7 i8 i9 i10 i11 (.slice ao' n cap') b age := ⟨M2, U2, Kept.refl _ _, by have := HF.out.1.B.size; omega, fun e => HF.out.2.2 x (by omega) e, s0⟩
  have I2 : Its w2 (.slice ao' n cap') n F := H1.out.1.keptB K2 (fun k hk e => by have := H1.out.2.2.1 k hk; omega)
  have C2 : w2.heap[w.heap.size + 1]? = _ := (K2.block (w.heap.size + 1) z1 (by omega)).trans H1.out.2.2.2
  have KW : Kept (Foot b g) w w2 := (keptF (F := Foot b g) H1.out.2.1).step K2 (fun i hi e => by omega)
  have z2 : w.heap.size + 1 < w2.heap.size := Nat.lt_of_lt_of_le z1 K2.size
  have zx2 : x < w2.heap.size := U2.lt
  have hox : ∀ k, (Value.slice ao' n cap').ownBlock = some k → k < x ∧ w.heap.size + 2 ≤ k := fun k hk => ⟨by have := (H1.out.2.2.1 k hk).2; omega, (H1.out.2.2.1 k hk).1⟩
  have T2 := Lib.hid T2
  have H2 := Lib.hid (And.intro I2 (And.intro C2 (And.intro KW hox)))
  clear hw2 hx K2 U2 M2 I2 C2 KW H1 hox c0 c1 c2 c3 c4 c5 c6 c7 c8 c9 c10 c11 c12 f12
  refine (sSeek_43a W0 w2 w2 x g N st xs i0 43 i2 i3 i4 i5 i6 i7 i8 i9 i10 i11 (.slice ao' n cap') b age v T2.out Hv.out s1 h0).mono ?_
  rintro e w3 ⟨rfl, h3⟩
  have T3 := Lib.hid h3
  clear h3
  have K3l := T3.out.K
  have C3l := (K3l.block (w.heap.size + 1) z2 (by rintro (e | e); exact HF.out.2.2 _ (by omega) e; omega)).trans H2.out.2.1
  have z3 : w.heap.size + 1 < w3.heap.size := Nat.lt_of_lt_of_le z2 K3l.size
  have H3l := Lib.hid (And.intro K3l C3l)
  obtain ⟨⟨d0, d1, d2, d3, d4, d5, d6, d7, d8, d9, d10, d11, d12, -, -⟩, hfx, z3x⟩ := T3.out.turn.open
  have f1 := hfx 1
  obtain ⟨⟨g0, g1, g2, g3, g4, g5, g6, g7, g8, g9, g10, g11, g12⟩, -⟩ := blk13 C3l
  have hff := blkF C3l
  have p0 := hff 0; have p1 := hff 1; have p2 := hff 2; have p3 := hff 3; have p4 := hff 4; have p5 := hff 5; have p6 := hff 6; have p7 := hff 7; have p8 := hff 8; have p9 := hff 9; have p10 := hff 10; have p11 := hff 11; have p12 := hff 12
  clear hff hfx K3l C3l
  go_wp2
  generalize hw5 : World.setCell _ _ _ = w5
  have T3 : TW W0 w2 w3 x g N (st + cntAt xs (wrap64 (i6 + 2))) (xs) i0 44 i2 i3 i4 v i6 i7 i8 i9 i10 i11 (.slice ao' n cap') b age := T3.out
  have C3 : w3.heap[w.heap.size + 1]? = some (.cells #[.int .i64 0, .int .i64 0, .int .i64 0, .int .i64 0, .int .i64 0, .int .i64 0, .int .i64 0, .int .i64 0, .int .i64 0, .int .i64 0, .int .i64 0, .int .i64 0, .slice none 0 0] 39 (0, 0)) := H3l.out.2
  have K5 : Kept (fun k => k = w.heap.size + 1) w3 w5 := by rw [← hw5]; exact kept_set13 _ _ _ _ _ _ _ _ _ _ _ _ _ _ _
  have C5 : w5.heap[w.heap.size + 1]? = some (.cells #[.int .i64 i0, .int .i64 44, .int .i64 i2, .int .i64 i3, .int .i64 i4, .int .i64 v, .int .i64 i6, .int .i64 i7, .int .i64 i8, .int .i64 i9, .int .i64 i10, .int .i64 i11, .slice ao' n cap'] 39 (0, 0)) := by rw [← hw5]; exact set13 C3 rfl
  obtain ⟨⟨r0, r1, r2, r3, r4, r5, r6, r7, r8, r9, r10, r11, r12⟩, z5⟩ := blk13 C5
  refine bodyPost_ret (v := .agg #[.int .i64 i0, .int .i64 44, .int .i64 i2, .int .i64 i3, .int .i64 i4, .int .i64 v, .int .i64 i6, .int .i64 i7, .int .i64 i8, .int .i64 i9, .int .i64 i10, .int .i64 i11, .slice ao' n cap']) (by simp [results, Try.results24, go_sem, r0, r1, r2, r3, r4, r5, r6, r7, r8, r9, r10, r11, r12]) rfl ⟨_, rfl, ?_, ?_, ?_⟩
  · exact T3.ms.far K5 (by have := HF.out.1.B.size; omega) (fun e => HF.out.2.2 _ (by omega) e)
  · exact (H2.out.1.keptB T3.K (fun k hk e => by
      have := H2.out.2.2.2 k hk
      rcases e with e | e
      · exact HF.out.2.2 _ (by omega) e
      · omega)).keptB K5 (fun k hk e => by have := H2.out.2.2.2 k hk; omega)
  · exact ((H2.out.2.2.1.step T3.K (fun i hi e => by rcases e with e | e; exact e; omega))).step K5 (fun i hi e => by omega)

set_option maxRecDepth 100000 in
set_option maxHeartbeats 4000000 in
theorem sStep_43b (W0 w : World) (b : Nat) (g : Option Nat) (N st : Int) (xs : List Int) (i0 i2 i3 i4 i5 i6 i7 i8 i9 i10 i11 : Int) (bt : Value) (n : Nat) (F : Nat → Int) (age : Int) (h : MS W0 w b g N xs st) (hI : Its w bt n F) (hn : n ≤ 1000000) (s0 : 0 ≤ st) (s1 : st < 1000000) (v : Int) (hv : cellAt xs (wrap64 (i6 + 2)) = v) (h0 : wrap64 (i10 - v) ≤ age) :
    Calls Try.prog 24 #[.pointer (some ⟨b, 0, none⟩), .int .i64 age, .agg #[.int .i64 i0, .int .i64 43, .int .i64 i2, .int .i64 i3, .int .i64 i4, .int .i64 i5, .int .i64 i6, .int .i64 i7, .int .i64 i8, .int .i64 i9, .int .i64 i10, .int .i64 i11, bt]] w fun e w' => ∃ bt', e = .returned (.agg #[.int .i64 i0, .int .i64 41, .int .i64 i2, .int .i64 i3, .int .i64 i4, .int .i64 v, .int .i64 i6, .int .i64 i6, .int .i64 i8, .int .i64 i9, .int .i64 i10, .int .i64 i11, bt']) ∧ MS W0 w' b g N (xs) (st + cntAt xs (wrap64 (i6 + 2))) ∧ Its w' bt' n F ∧ Kept (Foot b g) w w' := by
  have HF := Lib.hid (And.intro h (And.intro hI (fun k (hk : w.heap.size ≤ k) (e : Foot b g k) => (by
    rcases e with e | e
    · have := h.mem.lt; omega
    · subst e; have := h.mem.row_lt; omega : False))))
  obtain ⟨ao, cap, hbt, -⟩ := id hI
  subst hbt
  clear h hI
  have Hv := Lib.hid hv
  clear hv
  go_enter Try.func24, Try.ntmps24
  go_wp2_with fail
  refine (cloneItem_own (.slice ao n cap) n F _ (HF.out.2.1.below (by go_grown)) hn).mono ?_
  rintro e w1 ⟨bt', rfl, hI1, hb1, ho1⟩
  obtain ⟨ao', cap', hbt', -⟩ := id hI1
  subst hbt'
  have z1 : w.heap.size + 1 < w1.heap.size := by have := hb1.size; first | omega | (simp at this; omega)
  have B5 : w1.heap[w.heap.size]? = some (.cells #[.int .i64 i0, .int .i64 43, .int .i64 i2, .int .i64 i3, .int .i64 i4, .int .i64 i5, .int .i64 i6, .int .i64 i7, .int .i64 i8, .int .i64 i9, .int .i64 i10, .int .i64 i11, .slice ao n cap] 39 (0, 0)) := (hb1.block w.heap.size (by first | omega | (simp; omega) | (simp; done))).trans (alloc2_heap0 _ _ _)
  have B6 : w1.heap[w.heap.size + 1]? = some (.cells #[.int .i64 0, .int .i64 0, .int .i64 0, .int .i64 0, .int .i64 0, .int .i64 0, .int .i64 0, .int .i64 0, .int .i64 0, .int .i64 0, .int .i64 0, .int .i64 0, .slice none 0 0] 39 (0, 0)) := (hb1.block (w.heap.size + 1) (by first | omega | (simp; omega) | (simp; done))).trans (alloc2_heap1 _ _ _)
  have BW : Below w.heap.size w w1 := Below.trans (by go_grown) (hb1.mono (by first | omega | (simp; omega) | (simp; done)))
  obtain ⟨⟨c0, c1, c2, c3, c4, c5, c6, c7, c8, c9, c10, c11, c12⟩, z0⟩ := blk13 B5
  have f12 := blkF B5 12
  have ho2 : ∀ k, (Value.slice ao' n cap').ownBlock = some k → w.heap.size + 2 ≤ k ∧ k < w1.heap.size := fun k hk => ⟨by have := (ho1 k hk).1; simp at this; omega, (ho1 k hk).2⟩
  have H1 := Lib.hid (And.intro hI1 (And.intro BW (And.intro ho2 B6)))
  clear hb1 hI1 B5 BW ho1 ho2
  clear B6
  go_wp2_with fail
  generalize hx : w1.heap.size = x
  generalize hw2 : World.alloc _ _ = w2
  have K2 : Kept (fun k => k = w.heap.size) w1 w2 := by
    rw [← hw2]
    exact ((Kept.refl (fun k => k = w.heap.size) w1).setCell (p := ⟨w.heap.size, 12, none⟩) (fun _ => rfl) _).alloc _
  have U2 : Turn w2 x i0 43 i2 i3 i4 i5 i6 i7 i8 i9 i10 i11 (.slice ao' n cap') b age := by
    rw [← hw2, ← hx]
    exact alloc_at (by simp) _
  have zx : w.heap.size + 1 < x := by omega
  have M2 : MS W0 w2 b g N xs st := (HF.out.1.below H1.out.2.1).kept K2 ((HF.out.1.B.trans (H1.out.2.1.mono HF.out.1.B.size)).trans (K2.below (by have := HF.out.1.B.size; omega) (fun k hk e => by have := HF.out.1.B.size; omega))) (fun e => by have := HF.out.1.mem.lt; omega) (fun k e e2 => HF.out.2.2 k (by omega) (.inr e.symm))
  have T2 : TW W0 w2 w2 x g N st xs i0 43 i2 i3 i4 i5 i6 i7 i8 i9 i10 i11 (.slice ao' n cap') b age := ⟨M2, U2, Kept.refl _ _, by have := HF.out.1.B.size; omega, fun e => HF.out.2.2 x (by omega) e, s0⟩
  have I2 : Its w2 (.slice ao' n cap') n F := H1.out.1.keptB K2 (fun k hk e => by have := H1.out.2.2.1 k hk; omega)
  have C2 : w2.heap[w.heap.size + 1]? = _ := (K2.block (w.heap.size + 1) z1 (by omega)).trans H1.out.2.2.2
  have KW : Kept (Foot b g) w w2 := (keptF (F := Foot b g) H1.out.2.1).step K2 (fun i hi e => by omega)
  have z2 : w.heap.size + 1 < w2.heap.size := Nat.lt_of_lt_of_le z1 K2.size
  have zx2 : x < w2.heap.size := U2.lt
  have hox : ∀ k, (Value.slice ao' n cap').ownBlock = some k → k < x ∧ w.heap.size + 2 ≤ k := fun k hk => ⟨by have := (H1.out.2.2.1 k hk).2; omega, (H1.out.2.2.1 k hk).1⟩
  have T2 := Lib.hid T2
  have H2 := Lib.hid (And.intro I2 (And.intro C2 (And.intro KW hox)))
  clear hw2 hx K2 U2 M2 I2 C2 KW H1 hox c0 c1 c2 c3 c4 c5 c6 c7 c8 c9 c10 c11 c12 f12
  refine (sSeek_43b W0 w2 w2 x g N st xs i0 43 i2 i3 i4 i5 i6 i7 i8 i9 i10 i11 (.slice ao' n cap') b age v T2.out Hv.out s1 h0).mono ?_
  rintro e w3 ⟨rfl, h3⟩
  have T3 := Lib.hid h3
  clear h3
  have K3l := T3.out.K
  have C3l := (K3l.block (w.heap.size + 1) z2 (by rintro (e | e); exact HF.out.2.2 _ (by omega) e; omega)).trans H2.out.2.1
  have z3 : w.heap.size + 1 < w3.heap.size := Nat.lt_of_lt_of_le z2 K3l.size
  have H3l := Lib.hid (And.intro K3l C3l)
  obtain ⟨⟨d0, d1, d2, d3, d4, d5, d6, d7, d8, d9, d10, d11, d12, -, -⟩, hfx, z3x⟩ := T3.out.turn.open
  have f1 := hfx 1
  obtain ⟨⟨g0, g1, g2, g3, g4, g5, g6, g7, g8, g9, g10, g11, g12⟩, -⟩ := blk13 C3l
  have hff := blkF C3l
  have p0 := hff 0; have p1 := hff 1; have p2 := hff 2; have p3 := hff 3; have p4 := hff 4; have p5 := hff 5; have p6 := hff 6; have p7 := hff 7; have p8 := hff 8; have p9 := hff 9; have p10 := hff 10; have p11 := hff 11; have p12 := hff 12
  clear hff hfx K3l C3l
  go_wp2
  generalize hw5 : World.setCell _ _ _ = w5
  have T3 : TW W0 w2 w3 x g N (st + cntAt xs (wrap64 (i6 + 2))) (xs) i0 41 i2 i3 i4 v i6 i6 i8 i9 i10 i11 (.slice ao' n cap') b age := T3.out
  have C3 : w3.heap[w.heap.size + 1]? = some (.cells #[.int .i64 0, .int .i64 0, .int .i64 0, .int .i64 0, .int .i64 0, .int .i64 0, .int .i64 0, .int .i64 0, .int .i64 0, .int .i64 0, .int .i64 0, .int .i64 0, .slice none 0 0] 39 (0, 0)) := H3l.out.2
  have K5 : Kept (fun k => k = w.heap.size + 1) w3 w5 := by rw [← hw5]; exact kept_set13 _ _ _ _ _ _ _ _ _ _ _ _ _ _ _
  have C5 : w5.heap[w.heap.size + 1]? = some (.cells #[.int .i64 i0, .int .i64 41, .int .i64 i2, .int .i64 i3, .int .i64 i4, .int .i64 v, .int .i64 i6, .int .i64 i6, .int .i64 i8, .int .i64 i9, .int .i64 i10, .int .i64 i11, .slice ao' n cap'] 39 (0, 0)) := by rw [← hw5]; exact set13 C3 rfl
  obtain ⟨⟨r0, r1, r2, r3, r4, r5, r6, r7, r8, r9, r10, r11, r12⟩, z5⟩ := blk13 C5
  refine bodyPost_ret (v := .agg #[.int .i64 i0, .int .i64 41, .int .i64 i2, .int .i64 i3, .int .i64 i4, .int .i64 v, .int .i64 i6, .int .i64 i6, .int .i64 i8, .int .i64 i9, .int .i64 i10, .int .i64 i11, .slice ao' n cap']) (by simp [results, Try.results24, go_sem, r0, r1, r2, r3, r4, r5, r6, r7, r8, r9, r10, r11, r12]) rfl ⟨_, rfl, ?_, ?_, ?_⟩
  · exact T3.ms.far K5 (by have := HF.out.1.B.size; omega) (fun e => HF.out.2.2 _ (by omega) e)
  · exact (H2.out.1.keptB T3.K (fun k hk e => by
      have := H2.out.2.2.2 k hk
      rcases e with e | e
      · exact HF.out.2.2 _ (by omega) e
      · omega)).keptB K5 (fun k hk e => by have := H2.out.2.2.2 k hk; omega)
  · exact ((H2.out.2.2.1.step T3.K (fun i hi e => by rcases e with e | e; exact e; omega))).step K5 (fun i hi e => by omega)

set_option maxRecDepth 100000 in
set_option maxHeartbeats 4000000 in
theorem sStep_44a (W0 w : World) (b : Nat) (g : Option Nat) (N st : Int) (xs : List Int) (i0 i2 i3 i4 i5 i6 i7 i8 i9 i10 i11 : Int) (bt : Value) (n : Nat) (F : Nat → Int) (age : Int) (h : MS W0 w b g N xs st) (hI : Its w bt n F) (hn : n ≤ 1000000) (s0 : 0 ≤ st) (s1 : st < 1000000) (r1 : -9223372036854775808 ≤ i6) (r2 : i6 ≤ 9223372036854775807) (hs : swapIs xs i6 0 = true) :
    Calls Try.prog 24 #[.pointer (some ⟨b, 0, none⟩), .int .i64 age, .agg #[.int .i64 i0, .int .i64 44, .int .i64 i2, .int .i64 i3, .int .i64 i4, .int .i64 i5, .int .i64 i6, .int .i64 i7, .int .i64 i8, .int .i64 i9, .int .i64 i10, .int .i64 i11, bt]] w fun e w' => ∃ bt', e = .returned (.agg #[.int .i64 i0, .int .i64 45, .int .i64 i2, .int .i64 i3, .int .i64 i4, .int .i64 i5, .int .i64 i6, .int .i64 i7, .int .i64 i8, .int .i64 i9, .int .i64 i10, .int .i64 i11, bt']) ∧ MS W0 w' b g N (cellSwap xs i6 0 (-1)) (st + cntAt xs i6) ∧ Its w' bt' n F ∧ Kept (Foot b g) w w' := by
  have HF := Lib.hid (And.intro h (And.intro hI (fun k (hk : w.heap.size ≤ k) (e : Foot b g k) => (by
    rcases e with e | e
    · have := h.mem.lt; omega
    · subst e; have := h.mem.row_lt; omega : False))))
  obtain ⟨ao, cap, hbt, -⟩ := id hI
  subst hbt
  clear h hI
  have hs := Lib.hid hs
  go_enter Try.func24, Try.ntmps24
  go_wp2_with fail
  refine (cloneItem_own (.slice ao n cap) n F _ (HF.out.2.1.below (by go_grown)) hn).mono ?_
  rintro e w1 ⟨bt', rfl, hI1, hb1, ho1⟩
  obtain ⟨ao', cap', hbt', -⟩ := id hI1
  subst hbt'
  have z1 : w.heap.size + 1 < w1.heap.size := by have := hb1.size; first | omega | (simp at this; omega)
  have B5 : w1.heap[w.heap.size]? = some (.cells #[.int .i64 i0, .int .i64 44, .int .i64 i2, .int .i64 i3, .int .i64 i4, .int .i64 i5, .int .i64 i6, .int .i64 i7, .int .i64 i8, .int .i64 i9, .int .i64 i10, .int .i64 i11, .slice ao n cap] 39 (0, 0)) := (hb1.block w.heap.size (by first | omega | (simp; omega) | (simp; done))).trans (alloc2_heap0 _ _ _)
  have B6 : w1.heap[w.heap.size + 1]? = some (.cells #[.int .i64 0, .int .i64 0, .int .i64 0, .int .i64 0, .int .i64 0, .int .i64 0, .int .i64 0, .int .i64 0, .int .i64 0, .int .i64 0, .int .i64 0, .int .i64 0, .slice none 0 0] 39 (0, 0)) := (hb1.block (w.heap.size + 1) (by first | omega | (simp; omega) | (simp; done))).trans (alloc2_heap1 _ _ _)
  have BW : Below w.heap.size w w1 := Below.trans (by go_grown) (hb1.mono (by first | omega | (simp; omega) | (simp; done)))
  obtain ⟨⟨c0, c1, c2, c3, c4, c5, c6, c7, c8, c9, c10, c11, c12⟩, z0⟩ := blk13 B5
  have f12 := blkF B5 12
  have ho2 : ∀ k, (Value.slice ao' n cap').ownBlock = some k → w.heap.size + 2 ≤ k ∧ k < w1.heap.size := fun k hk => ⟨by have := (ho1 k hk).1; simp at this; omega, (ho1 k hk).2⟩
  have H1 := Lib.hid (And.intro hI1 (And.intro BW (And.intro ho2 B6)))
  clear hb1 hI1 B5 BW ho1 ho2
  clear B6
  go_wp2_with fail
  generalize hx : w1.heap.size = x
  generalize hw2 : World.alloc _ _ = w2
  have K2 : Kept (fun k => k = w.heap.size) w1 w2 := by
    rw [← hw2]
    exact ((Kept.refl (fun k => k = w.heap.size) w1).setCell (p := ⟨w.heap.size, 12, none⟩) (fun _ => rfl) _).alloc _
  have U2 : Turn w2 x i0 45 i2 i3 i4 i5 i6 i7 i8 i9 i10 i11 (.slice ao' n cap') b age := by
    rw [← hw2, ← hx]
    exact alloc_at (by simp) _
  have zx : w.heap.size + 1 < x := by omega
  have M2 : MS W0 w2 b g N xs st := (HF.out.1.below H1.out.2.1).kept K2 ((HF.out.1.B.trans (H1.out.2.1.mono HF.out.1.B.size)).trans (K2.below (by have := HF.out.1.B.size; omega) (fun k hk e => by have := HF.out.1.B.size; omega))) (fun e => by have := HF.out.1.mem.lt; omega) (fun k e e2 => HF.out.2.2 k (by omega) (.inr e.symm))
  have T2 : TW W0 w2 w2 x g N st xs i0 45 i2 i3 i4 i5 i6 i7 i8 i9 i10 i11 (.slice ao' n cap') b age := ⟨M2, U2, Kept.refl _ _, by have := HF.out.1.B.size; omega, fun e => HF.out.2.2 x (by omega) e, s0⟩
  have I2 : Its w2 (.slice ao' n cap') n F := H1.out.1.keptB K2 (fun k hk e => by have := H1.out.2.2.1 k hk; omega)
  have C2 : w2.heap[w.heap.size + 1]? = _ := (K2.block (w.heap.size + 1) z1 (by omega)).trans H1.out.2.2.2
  have KW : Kept (Foot b g) w w2 := (keptF (F := Foot b g) H1.out.2.1).step K2 (fun i hi e => by omega)
  have z2 : w.heap.size + 1 < w2.heap.size := Nat.lt_of_lt_of_le z1 K2.size
  have zx2 : x < w2.heap.size := U2.lt
  have hox : ∀ k, (Value.slice ao' n cap').ownBlock = some k → k < x ∧ w.heap.size + 2 ≤ k := fun k hk => ⟨by have := (H1.out.2.2.1 k hk).2; omega, (H1.out.2.2.1 k hk).1⟩
  have T2 := Lib.hid T2
  have H2 := Lib.hid (And.intro I2 (And.intro C2 (And.intro KW hox)))
  clear hw2 hx K2 U2 M2 I2 C2 KW H1 hox c0 c1 c2 c3 c4 c5 c6 c7 c8 c9 c10 c11 c12 f12
  refine (Swap_f T2.out.ms i6 0 (-1) s1).mono ?_
  rintro e wa ⟨rfl, ma, ka⟩
  rw [hs.out]
  have Ta := Lib.hid (T2.out.mem ma ka (by have := cntAt_rng xs i6; omega))
  clear ma ka

  have K3l := Ta.out.K
  have C3l := (K3l.block (w.heap.size + 1) z2 (by rintro (e | e); exact HF.out.2.2 _ (by omega) e; omega)).trans H2.out.2.1
  have z3 : w.heap.size + 1 < wa.heap.size := Nat.lt_of_lt_of_le z2 K3l.size
  have H3l := Lib.hid (And.intro K3l C3l)
  obtain ⟨⟨d0, d1, d2, d3, d4, d5, d6, d7, d8, d9, d10, d11, d12, -, -⟩, hfx, z3x⟩ := Ta.out.turn.open
  have f1 := hfx 1
  obtain ⟨⟨g0, g1, g2, g3, g4, g5, g6, g7, g8, g9, g10, g11, g12⟩, -⟩ := blk13 C3l
  have hff := blkF C3l
  have p0 := hff 0; have p1 := hff 1; have p2 := hff 2; have p3 := hff 3; have p4 := hff 4; have p5 := hff 5; have p6 := hff 6; have p7 := hff 7; have p8 := hff 8; have p9 := hff 9; have p10 := hff 10; have p11 := hff 11; have p12 := hff 12
  clear hff hfx K3l C3l
  go_wp2
  generalize hw5 : World.setCell _ _ _ = w5
  have T3 : TW W0 w2 wa x g N (st + cntAt xs i6) (cellSwap xs i6 0 (-1)) i0 45 i2 i3 i4 i5 i6 i7 i8 i9 i10 i11 (.slice ao' n cap') b age := Ta.out
  have C3 : wa.heap[w.heap.size + 1]? = some (.cells #[.int .i64 0, .int .i64 0, .int .i64 0, .int .i64 0, .int .i64 0, .int .i64 0, .int .i64 0, .int .i64 0, .int .i64 0, .int .i64 0, .int .i64 0, .int .i64 0, .slice none 0 0] 39 (0, 0)) := H3l.out.2
  have K5 : Kept (fun k => k = w.heap.size + 1) wa w5 := by rw [← hw5]; exact kept_set13 _ _ _ _ _ _ _ _ _ _ _ _ _ _ _
  have C5 : w5.heap[w.heap.size + 1]? = some (.cells #[.int .i64 i0, .int .i64 45, .int .i64 i2, .int .i64 i3, .int .i64 i4, .int .i64 i5, .int .i64 i6, .int .i64 i7, .int .i64 i8, .int .i64 i9, .int .i64 i10, .int .i64 i11, .slice ao' n cap'] 39 (0, 0)) := by rw [← hw5]; exact set13 C3 rfl
  obtain ⟨⟨r0, r1, r2, r3, r4, r5, r6, r7, r8, r9, r10, r11, r12⟩, z5⟩ := blk13 C5
  refine bodyPost_ret (v := .agg #[.int .i64 i0, .int .i64 45, .int .i64 i2, .int .i64 i3, .int .i64 i4, .int .i64 i5, .int .i64 i6, .int .i64 i7, .int .i64 i8, .int .i64 i9, .int .i64 i10, .int .i64 i11, .slice ao' n cap']) (by simp [results, Try.results24, go_sem, r0, r1, r2, r3, r4, r5, r6, r7, r8, r9, r10, r11, r12]) rfl ⟨_, rfl, ?_, ?_, ?_⟩
  · exact T3.ms.far K5 (by have := HF.out.1.B.size; omega) (fun e => HF.out.2.2 _ (by omega) e)
  · exact (H2.out.1.keptB T3.K (fun k hk e => by
      have := H2.out.2.2.2 k hk
      rcases e with e | e
      · exact HF.out.2.2 _ (by omega) e
      · omega)).keptB K5 (fun k hk e => by have := H2.out.2.2.2 k hk; omega)
  · exact ((H2.out.2.2.1.step T3.K (fun i hi e => by rcases e with e | e; exact e; omega))).step K5 (fun i hi e => by omega)

set_option maxRecDepth 100000 in
set_option maxHeartbeats 4000000 in
theorem sStep_44b (W0 w : World) (b : Nat) (g : Option Nat) (N st : Int) (xs : List Int) (i0 i2 i3 i4 i5 i6 i7 i8 i9 i10 i11 : Int) (bt : Value) (n : Nat) (F : Nat → Int) (age : Int) (h : MS W0 w b g N xs st) (hI : Its w bt n F) (hn : n ≤ 1000000) (s0 : 0 ≤ st) (s1 : st < 1000000) (r1 : -9223372036854775808 ≤ i6) (r2 : i6 ≤ 9223372036854775807) (hs : swapIs xs i6 0 = false) :
    Calls Try.prog 24 #[.pointer (some ⟨b, 0, none⟩), .int .i64 age, .agg #[.int .i64 i0, .int .i64 44, .int .i64 i2, .int .i64 i3, .int .i64 i4, .int .i64 i5, .int .i64 i6, .int .i64 i7, .int .i64 i8, .int .i64 i9, .int .i64 i10, .int .i64 i11, bt]] w fun e w' => ∃ bt', e = .returned (.agg #[.int .i64 i0, .int .i64 41, .int .i64 i2, .int .i64 i3, .int .i64 i4, .int .i64 i5, .int .i64 i6, .int .i64 i6, .int .i64 i8, .int .i64 i9, .int .i64 i10, .int .i64 i11, bt']) ∧ MS W0 w' b g N (cellSwap xs i6 0 (-1)) (st + cntAt xs i6) ∧ Its w' bt' n F ∧ Kept (Foot b g) w w' := by
  have HF := Lib.hid (And.intro h (And.intro hI (fun k (hk : w.heap.size ≤ k) (e : Foot b g k) => (by
    rcases e with e | e
    · have := h.mem.lt; omega
    · subst e; have := h.mem.row_lt; omega : False))))
  obtain ⟨ao, cap, hbt, -⟩ := id hI
  subst hbt
  clear h hI
  have hs := Lib.hid hs
  go_enter Try.func24, Try.ntmps24
  go_wp2_with fail
  refine (cloneItem_own (.slice ao n cap) n F _ (HF.out.2.1.below (by go_grown)) hn).mono ?_
  rintro e w1 ⟨bt', rfl, hI1, hb1, ho1⟩
  obtain ⟨ao', cap', hbt', -⟩ := id hI1
  subst hbt'
  have z1 : w.heap.size + 1 < w1.heap.size := by have := hb1.size; first | omega | (simp at this; omega)
  have B5 : w1.heap[w.heap.size]? = some (.cells #[.int .i64 i0, .int .i64 44, .int .i64 i2, .int .i64 i3, .int .i64 i4, .int .i64 i5, .int .i64 i6, .int .i64 i7, .int .i64 i8, .int .i64 i9, .int .i64 i10, .int .i64 i11, .slice ao n cap] 39 (0, 0)) := (hb1.block w.heap.size (by first | omega | (simp; omega) | (simp; done))).trans (alloc2_heap0 _ _ _)
  have B6 : w1.heap[w.heap.size + 1]? = some (.cells #[.int .i64 0, .int .i64 0, .int .i64 0, .int .i64 0, .int .i64 0, .int .i64 0, .int .i64 0, .int .i64 0, .int .i64 0, .int .i64 0, .int .i64 0, .int .i64 0, .slice none 0 0] 39 (0, 0)) := (hb1.block (w.heap.size + 1) (by first | omega | (simp; omega) | (simp; done))).trans (alloc2_heap1 _ _ _)
  have BW : Below w.heap.size w w1 := Below.trans (by go_grown) (hb1.mono (by first | omega | (simp; omega) | (simp; done)))
  obtain ⟨⟨c0, c1, c2, c3, c4, c5, c6, c7, c8, c9, c10, c11, c12⟩, z0⟩ := blk13 B5
  have f12 := blkF B5 12
  have ho2 : ∀ k, (Value.slice ao' n cap').ownBlock = some k → w.heap.size + 2 ≤ k ∧ k < w1.heap.size := fun k hk => ⟨by have := (ho1 k hk).1; simp at this; omega, (ho1 k hk).2⟩
  have H1 := Lib.hid (And.intro hI1 (And.intro BW (And.intro ho2 B6)))
  clear hb1 hI1 B5 BW ho1 ho2
  clear B6
  go_wp2_with fail
  generalize hx : w1.heap.size = x
  generalize hw2 : World.alloc _ _ = w2
  have K2 : Kept (fun k => k = w.heap.size) w1 w2 := by
    rw [← hw2]
    exact ((Kept.refl (fun k => k = w.heap.size) w1).setCell (p := ⟨w.heap.size, 12, none⟩) (fun _ => rfl) _).alloc _
  have U2 : Turn w2 x i0 45 i2 i3 i4 i5 i6 i7 i8 i9 i10 i11 (.slice ao' n cap') b age := by
    rw [← hw2, ← hx]
    exact alloc_at (by simp) _
  have zx : w.heap.size + 1 < x := by omega
  have M2 : MS W0 w2 b g N xs st := (HF.out.1.below H1.out.2.1).kept K2 ((HF.out.1.B.trans (H1.out.2.1.mono HF.out.1.B.size)).trans (K2.below (by have := HF.out.1.B.size; omega) (fun k hk e => by have := HF.out.1.B.size; omega))) (fun e => by have := HF.out.1.mem.lt; omega) (fun k e e2 => HF.out.2.2 k (by omega) (.inr e.symm))
  have T2 : TW W0 w2 w2 x g N st xs i0 45 i2 i3 i4 i5 i6 i7 i8 i9 i10 i11 (.slice ao' n cap') b age := ⟨M2, U2, Kept.refl _ _, by have := HF.out.1.B.size; omega, fun e => HF.out.2.2 x (by omega) e, s0⟩
  have I2 : Its w2 (.slice ao' n cap') n F := H1.out.1.keptB K2 (fun k hk e => by have := H1.out.2.2.1 k hk; omega)
  have C2 : w2.heap[w.heap.size + 1]? = _ := (K2.block (w.heap.size + 1) z1 (by omega)).trans H1.out.2.2.2
  have KW : Kept (Foot b g) w w2 := (keptF (F := Foot b g) H1.out.2.1).step K2 (fun i hi e => by omega)
  have z2 : w.heap.size + 1 < w2.heap.size := Nat.lt_of_lt_of_le z1 K2.size
  have zx2 : x < w2.heap.size := U2.lt
  have hox : ∀ k, (Value.slice ao' n cap').ownBlock = some k → k < x ∧ w.heap.size + 2 ≤ k := fun k hk => ⟨by have := (H1.out.2.2.1 k hk).2; omega, (H1.out.2.2.1 k hk).1⟩
  have T2 := Lib.hid T2
  have H2 := Lib.hid (And.intro I2 (And.intro C2 (And.intro KW hox)))
  clear hw2 hx K2 U2 M2 I2 C2 KW H1 hox c0 c1 c2 c3 c4 c5 c6 c7 c8 c9 c10 c11 c12 f12
  refine (Swap_f T2.out.ms i6 0 (-1) s1).mono ?_
  rintro e wa ⟨rfl, ma, ka⟩
  rw [hs.out]
  have Ta := Lib.hid (T2.out.mem ma ka (by have := cntAt_rng xs i6; omega))
  clear ma ka
  go_wp2_with fail
  refine (sBy_any W0 w2 wa x g N _ _ i0 45 i2 i3 i4 i5 i6 i7 i8 i9 i10 i11 (.slice ao' n cap') b age Ta.out).mono ?_
  rintro e w3 ⟨rfl, h3⟩
  have T3 := Lib.hid h3
  clear h3
  have K3l := T3.out.K
  have C3l := (K3l.block (w.heap.size + 1) z2 (by rintro (e | e); exact HF.out.2.2 _ (by omega) e; omega)).trans H2.out.2.1
  have z3 : w.heap.size + 1 < w3.heap.size := Nat.lt_of_lt_of_le z2 K3l.size
  have H3l := Lib.hid (And.intro K3l C3l)
  obtain ⟨⟨d0, d1, d2, d3, d4, d5, d6, d7, d8, d9, d10, d11, d12, -, -⟩, hfx, z3x⟩ := T3.out.turn.open
  have f1 := hfx 1
  obtain ⟨⟨g0, g1, g2, g3, g4, g5, g6, g7, g8, g9, g10, g11, g12⟩, -⟩ := blk13 C3l
  have hff := blkF C3l
  have p0 := hff 0; have p1 := hff 1; have p2 := hff 2; have p3 := hff 3; have p4 := hff 4; have p5 := hff 5; have p6 := hff 6; have p7 := hff 7; have p8 := hff 8; have p9 := hff 9; have p10 := hff 10; have p11 := hff 11; have p12 := hff 12
  clear hff hfx K3l C3l
  go_wp2
  generalize hw5 : World.setCell _ _ _ = w5
  have T3 : TW W0 w2 w3 x g N (st + cntAt xs i6) (cellSwap xs i6 0 (-1)) i0 41 i2 i3 i4 i5 i6 i6 i8 i9 i10 i11 (.slice ao' n cap') b age := T3.out
  have C3 : w3.heap[w.heap.size + 1]? = some (.cells #[.int .i64 0, .int .i64 0, .int .i64 0, .int .i64 0, .int .i64 0, .int .i64 0, .int .i64 0, .int .i64 0, .int .i64 0, .int .i64 0, .int .i64 0, .int .i64 0, .slice none 0 0] 39 (0, 0)) := H3l.out.2
  have K5 : Kept (fun k => k = w.heap.size + 1) w3 w5 := by rw [← hw5]; exact kept_set13 _ _ _ _ _ _ _ _ _ _ _ _ _ _ _
  have C5 : w5.heap[w.heap.size + 1]? = some (.cells #[.int .i64 i0, .int .i64 41, .int .i64 i2, .int .i64 i3, .int .i64 i4, .int .i64 i5, .int .i64 i6, .int .i64 i6, .int .i64 i8, .int .i64 i9, .int .i64 i10, .int .i64 i11, .slice ao' n cap'] 39 (0, 0)) := by rw [← hw5]; exact set13 C3 rfl
  obtain ⟨⟨r0, r1, r2, r3, r4, r5, r6, r7, r8, r9, r10, r11, r12⟩, z5⟩ := blk13 C5
  refine bodyPost_ret (v := .agg #[.int .i64 i0, .int .i64 41, .int .i64 i2, .int .i64 i3, .int .i64 i4, .int .i64 i5, .int .i64 i6, .int .i64 i6, .int .i64 i8, .int .i64 i9, .int .i64 i10, .int .i64 i11, .slice ao' n cap']) (by simp [results, Try.results24, go_sem, r0, r1, r2, r3, r4, r5, r6, r7, r8, r9, r10, r11, r12]) rfl ⟨_, rfl, ?_, ?_, ?_⟩
  · exact T3.ms.far K5 (by have := HF.out.1.B.size; omega) (fun e => HF.out.2.2 _ (by omega) e)
  · exact (H2.out.1.keptB T3.K (fun k hk e => by
      have := H2.out.2.2.2 k hk
      rcases e with e | e
      · exact HF.out.2.2 _ (by omega) e
      · omega)).keptB K5 (fun k hk e => by have := H2.out.2.2.2 k hk; omega)
  · exact ((H2.out.2.2.1.step T3.K (fun i hi e => by rcases e with e | e; exact e; omega))).step K5 (fun i hi e => by omega)

end Go.Proofs.Ythdhilmmcabnlaa
