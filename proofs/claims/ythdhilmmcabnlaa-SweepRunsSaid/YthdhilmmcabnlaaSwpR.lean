/- Who sweeps, step by step: package sweep and the reference go the same way. -/
import Derived.Test.YthdhilmmcabnlaaSwpK
import Derived.Test.YthdhilmmcabnlaaThr4
namespace Go.Proofs.Ythdhilmmcabnlaa
set_option linter.unusedSimpArgs false
set_option linter.unusedVariables false
open Go.RowKit
open Go.ChangeShapes Go.WideShapes Go.ChangeAt

theorem bmore {W a b : World} (h1 : Below W.heap.size W a) (h2 : Below a.heap.size a b) : Below W.heap.size W b := h1.trans (h2.mono h1.size)
theorem Its.zero (w : World) (ao : Option Addr) (cap : Nat) : Its w (.slice ao 0 cap) 0 (fun _ => 0) := ⟨ao, cap, rfl, fun h => absurd h (Nat.lt_irrefl 0)⟩
def Rg (x : Int) : Prop := -9223372036854775808 ≤ x ∧ x ≤ 9223372036854775807
def RgX (xs : List Int) : Prop := ∀ x ∈ xs, Rg x
theorem Sm.rg {xs : List Int} (h : Sm xs) : RgX xs := fun x hx => by have := h x hx; unfold Rg; omega
theorem RgX.at {xs : List Int} (h : RgX xs) (a : Int) : Rg (cellAt xs a) := by
  unfold cellAt
  split
  · rename_i hh
    have hl : a.toNat < xs.length := by omega
    rw [List.getD_eq_getElem?_getD, List.getElem?_eq_getElem hl]
    exact h _ (List.getElem_mem hl)
  · unfold Rg; omega
theorem RgX.set {xs : List Int} (h : RgX xs) (a y : Int) (hy : Rg y) : RgX (cellSet xs a y) := by
  unfold cellSet
  split
  · intro x hx
    rcases List.mem_or_eq_of_mem_set hx with h1 | h1
    · exact h x h1
    · exact h1 ▸ hy
  · exact h
theorem swX_rg {xs : List Int} (h : RgX xs) (t : Th) (h5 : Rg t.i5) : RgX (swX xs t) := by
  unfold swX
  split
  · unfold cellSwap
    split
    · exact h.set _ _ (by unfold Rg; omega)
    · exact h
  split
  · exact h.set _ _ h5
  split
  · exact h.set _ _ (by unfold Rg; omega)
  split
  · exact h.set _ _ (by unfold Rg; omega)
  exact h
theorem swT_rg {xs : List Int} (h : RgX xs) (age : Int) (t : Th) (h5 : Rg t.i5) (h6 : Rg t.i6) : Rg (swT xs age t).i5 ∧ Rg (swT xs age t).i6 := by
  have hv := h.at (swA t)
  unfold swT
  simp only []
  repeat' split
  all_goals exact ⟨by first | exact hv | exact h5, by first | exact hv | exact h6⟩
theorem MS.far3 {W0 w w' : World} {b r8 r9 r10 : Nat} {g : Option Nat} {N st : Int} {xs : List Int} (h : MS W0 w b g N xs st) (hk : Kept (fun k => k = r8 ∨ k = r9 ∨ k = r10) w w') (z8 : W0.heap.size ≤ r8) (z9 : W0.heap.size ≤ r9) (z10 : W0.heap.size ≤ r10)
    (f8 : ¬ Foot b g r8) (f9 : ¬ Foot b g r9) (f10 : ¬ Foot b g r10) : MS W0 w' b g N xs st :=
  h.kept hk (h.B.trans (hk.below h.B.size (fun k hk e => by omega))) (fun e => by rcases e with e | e | e; exact f8 (.inl e.symm); exact f9 (.inl e.symm); exact f10 (.inl e.symm))
    (fun k e e2 => by rcases e2 with e2 | e2 | e2; exact f8 (.inr (by rw [e, e2])); exact f9 (.inr (by rw [e, e2])); exact f10 (.inr (by rw [e, e2])))

set_option maxRecDepth 100000 in
set_option maxHeartbeats 8000000 in
theorem runs17_any (w : World) (l : Value) (xs : List Int) (age pass : Int) (hl : Sl w l xs) (hn : xs.length ≤ 1000) (hx : RgX xs) :
    Calls Try.prog 10 #[l, .int .i64 age, .int .i64 pass] w fun e w' => e = .returned (.bool true) ∧ Below w.heap.size w w' := by
  obtain ⟨W0, hWW⟩ : ∃ W0, W0 = w := ⟨_, rfl⟩
  have HL := Lib.hid hl
  have HX := Lib.hid hx
  obtain ⟨lo, lc, rfl, -⟩ := hl
  go_enter Try.func10, Try.ntmps10
  go_wp2_with fail
  refine (Memory13_f _ xs _ (HL.out.below (by go_grown)) hn).mono ?_
  rintro e w1 ⟨v, b, g, q, rfl, h, -⟩
  obtain ⟨ao1, cap1, rfl, -, -⟩ := h.rv.open
  have hfar := h.far
  have hqlt := h.q_lt
  have H := Lib.hid (And.intro h (And.intro hfar hqlt))
  obtain ⟨N, hN⟩ : ∃ N : Int, (xs.length : Int) = N := ⟨_, rfl⟩
  clear h hfar hqlt
  go_wp2
  generalize hr8 : w1.heap.size = r8
  generalize hW2 : World.alloc _ _ = W2
  have R8 : W2.heap[r8]? = some (.cells #[.int .i64 N, .slice ao1 xs.length cap1, .int .i64 (1 + N)] 33 (0, 0)) ∧ W2.heap[r8 + 1]? = some (.cells #[.int .i64 0, .int .i64 40, .int .i64 0, .int .i64 0, .int .i64 0, .int .i64 0, .int .i64 0, .int .i64 0, .int .i64 0, .int .i64 0, .int .i64 pass, .int .i64 0, .slice none 0 0] 39 (0, 0)) ∧ W2.heap[r8 + 1 + 1]? = some (.cells #[.int .i64 0, .int .i64 40, .int .i64 0, .int .i64 0, .int .i64 0, .int .i64 0, .int .i64 0, .int .i64 0, .int .i64 0, .int .i64 0, .int .i64 pass, .int .i64 0, .slice none 0 0] 39 (0, 0)) := by
    rw [← hW2, ← hr8]
    refine ⟨(Below.heap_alloc _ _ _ (by simp; try omega)).trans (alloc2_heap0 _ _ _), (Below.heap_alloc _ _ _ (by simp; try omega)).trans (alloc2_heap1 _ _ _), alloc_at (by simp) _⟩
  have B2 : Below w1.heap.size w1 W2 := by rw [← hW2]; go_grown
  have f8 : ¬ Foot b g r8 := H.out.2.1 r8 (by omega)
  have f9 : ¬ Foot b g (r8 + 1) := H.out.2.1 (r8 + 1) (by omega)
  have f10 : ¬ Foot b g (r8 + 1 + 1) := H.out.2.1 (r8 + 1 + 1) (by omega)
  have zw : w.heap.size ≤ r8 := by rw [← hr8, ← hWW]; rw [hWW]; exact H.out.1.ms.B.size
  obtain ⟨r9, hr9⟩ : ∃ r, r8 + 1 = r := ⟨_, rfl⟩
  obtain ⟨r10, hr10⟩ : ∃ r, r8 + 1 + 1 = r := ⟨_, rfl⟩
  have z89 : r8 < r9 := by omega
  have z910 : r9 < r10 := by omega
  rw [hr10] at R8 f10 ⊢
  rw [hr9] at R8 f9 ⊢
  have q0 : ∀ k, q = some k → (k ≠ r8 ∧ k ≠ r9 ∧ k ≠ r10) ∧ ¬ Foot b g k := fun k e => ⟨by have := H.out.2.2 k e; omega, H.out.1.2.2.1 k e⟩
  have H2 := Lib.hid (And.intro (H.out.1.ms.below B2) (And.intro (H.out.1.rv.below B2) (And.intro q0 R8)))
  have HF := Lib.hid (And.intro f8 (And.intro f9 (And.intro f10 hN)))
  try rw [hN]
  clear hW2 B2 R8 f8 f9 f10 q0 hr8 hr9 hr10 hWW H
  obtain ⟨M, hM⟩ : ∃ M, xs.length = M := ⟨_, rfl⟩
  have HM := Lib.hid hM
  have hM2 : M ≤ 1000 := by omega
  clear hM hN
  go_loopw [11] (fun k wr => ∃ (i : Nat) (X : List Int) (st : Int) (q : Option Nat) (ao : Option Addr) (cap : Nat) (t : Th) (bo : Option Addr) (bc : Nat), i ≤ 80 ∧ k = .int .i64 i ∧ MS w wr b g N X st ∧ RVal wr (.agg #[.int .i64 N, .slice ao X.length cap, .int .i64 st]) q N X st ∧ (∀ k, q = some k → (k ≠ r8 ∧ k ≠ r9 ∧ k ≠ r10) ∧ ¬ Foot b g k) ∧
      wr.heap[r9]? = some (.cells #[.int .i64 t.i0, .int .i64 t.i1, .int .i64 t.i2, .int .i64 t.i3, .int .i64 t.i4, .int .i64 t.i5, .int .i64 t.i6, .int .i64 t.i7, .int .i64 t.i8, .int .i64 t.i9, .int .i64 t.i10, .int .i64 t.i11, .slice bo 0 bc] 39 (0, 0)) ∧ wr.heap[r10]? = some (.cells #[.int .i64 t.i0, .int .i64 t.i1, .int .i64 t.i2, .int .i64 t.i3, .int .i64 t.i4, .int .i64 t.i5, .int .i64 t.i6, .int .i64 t.i7, .int .i64 t.i8, .int .i64 t.i9, .int .i64 t.i10, .int .i64 t.i11, .slice none 0 0] 39 (0, 0)) ∧ wr.heap[r8]? = some (.cells #[.int .i64 N, .slice ao X.length cap, .int .i64 st] 33 (0, 0)) ∧ st ≤ 1001 + i ∧ 0 ≤ st ∧ X.length = M ∧ RgX X ∧ Rg t.i5 ∧ Rg t.i6) (fun k _ => 80 - (intOf k).toNat)
  case atStart =>
    have hN := HF.out.2.2.2
    have m0 := H2.out.1
    have v0 := H2.out.2.1
    have rr := H2.out.2.2.2
    subst hN
    exact ⟨0, xs, 1 + xs.length, q, ao1, cap1, ⟨0, 40, 0, 0, 0, 0, 0, 0, 0, 0, pass, 0⟩, none, 0, by omega, rfl, m0, v0, H2.out.2.2.1, rr.2.1, rr.2.2, rr.1, by omega, by omega, HM.out, HX.out, by show Rg 0; unfold Rg; omega, by show Rg 0; unfold Rg; omega⟩
  case round =>
    obtain ⟨i, X, st, q, ao, cap, t, bo, bc, hi, rfl, m, V, hq, A9, A10, A8, hst, s0, hXl, hX, h5, h6⟩ := hrel
    have zi : (0 : Int) ≤ (i : Int) := by omega
    have hi' : (i : Int) ≤ 80 := by omega
    have HR := Lib.hid (And.intro m (And.intro V (And.intro hq (And.intro A9 (And.intro A10 (And.intro A8 (And.intro hXl (And.intro hX (And.intro h5 h6)))))))))
    by_cases hlt : i < 80
    · have hlt' : (i : Int) < 80 := by omega
      have zr8 : r8 < wr.heap.size := (Array.getElem?_eq_some_iff.1 A8).1
      have zr9 : r9 < wr.heap.size := (Array.getElem?_eq_some_iff.1 A9).1
      have zr10 : r10 < wr.heap.size := (Array.getElem?_eq_some_iff.1 A10).1
      obtain ⟨⟨a0, a1, a2, a3, a4, a5, a6, a7, a8, a9, a10, a11, a12⟩, -⟩ := blk13 A9
      clear m V hq A9 A10 A8 hXl hX h5 h6 H2
      go_wp2_with fail
      refine (sStep_f w wr b g N st X t (.slice bo 0 bc) 0 (fun _ => 0) age HR.out.1 ⟨_, _, rfl, fun h => absurd h (Nat.lt_irrefl 0)⟩ (Nat.zero_le _) s0 (by omega) HR.out.2.2.2.2.2.2.2.2.2).mono ?_
      rintro e w3 ⟨bt3, he, m3, I3, k3⟩
      obtain ⟨bo3, bc3, rfl, -⟩ := id I3
      obtain ⟨t3, ht3⟩ : ∃ t3, swT X age t = t3 := ⟨_, rfl⟩
      rw [ht3] at he
      have c3 := swC_rng X t
      obtain ⟨X3, hX3⟩ : ∃ X3, swX X t = X3 := ⟨_, rfl⟩
      obtain ⟨C3, hC3⟩ : ∃ C, swC X t = C := ⟨_, rfl⟩
      have l3 : X3.length = M := by rw [← hX3, swX_len]; exact HR.out.2.2.2.2.2.2.1
      have g3 : RgX X3 := by rw [← hX3]; exact swX_rg HR.out.2.2.2.2.2.2.2.1 t HR.out.2.2.2.2.2.2.2.2.1
      have g56 : Rg t3.i5 ∧ Rg t3.i6 := by rw [← ht3]; exact swT_rg HR.out.2.2.2.2.2.2.2.1 age t HR.out.2.2.2.2.2.2.2.2.1 HR.out.2.2.2.2.2.2.2.2.2
      rw [hX3, hC3] at m3
      rw [hC3] at c3
      have HT := Lib.hid (And.intro ht3 (And.intro hX3 hC3))
      have HG := Lib.hid (And.intro l3 (And.intro g3 g56))
      have hlenW : X3.length ≤ 1000000 := by omega
      clear ht3 hX3 hC3 l3 g3 g56
      obtain ⟨y0, y1, y2, y3, y4, y5, y6, y7, y8, y9, y10, y11⟩ := t3
      simp only [thV] at he
      subst he
      have R8 := (k3.block r8 zr8 HF.out.1).trans HR.out.2.2.2.2.2.1
      have R9 := (k3.block r9 zr9 HF.out.2.1).trans HR.out.2.2.2.1
      have R10 := (k3.block r10 zr10 HF.out.2.2.1).trans HR.out.2.2.2.2.1
      have z38 : r8 < w3.heap.size := (Array.getElem?_eq_some_iff.1 R8).1
      have z39 : r9 < w3.heap.size := (Array.getElem?_eq_some_iff.1 R9).1
      have z310 : r10 < w3.heap.size := (Array.getElem?_eq_some_iff.1 R10).1
      have V3 := HR.out.2.1.kept k3 (fun k e => (HR.out.2.2.1 k e).2)
      have H3 := Lib.hid (And.intro m3 (And.intro V3 (And.intro R8 (And.intro R9 R10))))
      obtain ⟨⟨a0, a1, a2, a3, a4, a5, a6, a7, a8, a9, a10, a11, a12⟩, -⟩ := blk13 R9
      have af0 := blkF R9 0; have af1 := blkF R9 1; have af2 := blkF R9 2; have af3 := blkF R9 3; have af4 := blkF R9 4; have af5 := blkF R9 5; have af6 := blkF R9 6; have af7 := blkF R9 7; have af8 := blkF R9 8; have af9 := blkF R9 9; have af10 := blkF R9 10; have af11 := blkF R9 11; have af12 := blkF R9 12
      obtain ⟨d0, d1, d2, df0, df1, df2, -⟩ := blk3 R8
      obtain ⟨⟨c0, c1, c2, c3, c4, c5, c6, c7, c8, c9, c10, c11, c12⟩, -⟩ := blk13 R10
      clear m3 I3 k3 R8 R9 R10 V3
      go_wp2_with fail
      generalize hW4 : World.setCell _ _ _ = W4
      have U4 : W4.heap[r9]? = some (.cells #[.int .i64 y0, .int .i64 y1, .int .i64 y2, .int .i64 y3, .int .i64 y4, .int .i64 y5, .int .i64 y6, .int .i64 y7, .int .i64 y8, .int .i64 y9, .int .i64 y10, .int .i64 y11, .slice bo3 0 bc3] 39 (0, 0)) := by rw [← hW4]; exact set13 H3.out.2.2.2.1 rfl
      have K4 : Kept (fun k => k = r9) w3 W4 := by rw [← hW4]; exact kept_set13 _ _ _ _ _ _ _ _ _ _ _ _ _ _ _
      have R84 := (K4.block r8 z38 (by omega)).trans H3.out.2.2.1
      have R104 := (K4.block r10 z310 (by omega)).trans H3.out.2.2.2.2
      have zz4 : w3.heap.size ≤ W4.heap.size := K4.size
      have V4 := H3.out.2.1.kept K4 (fun k e => (HR.out.2.2.1 k e).1.2.1)
      have H4 := Lib.hid (And.intro K4 (And.intro U4 (And.intro R84 R104)))
      have hbw : b < w3.heap.size := H3.out.1.mem.lt
      have hgw : ∀ k, g = some k → k < w3.heap.size := fun k e => by subst e; exact H3.out.1.mem.row_lt
      have HBG := Lib.hid (And.intro hbw hgw)
      clear hW4 K4 U4 R84 R104 hbw hgw a0 a1 a2 a3 a4 a5 a6 a7 a8 a9 a10 a11 a12 af0 af1 af2 af3 af4 af5 af6 af7 af8 af9 af10 af11 af12 d0 d1 d2 df0 df1 df2 c0 c1 c2 c3 c4 c5 c6 c7 c8 c9 c10 c11 c12
      refine (rStep17_f W4 _ q N st X t none 0 0 age V4 (by have := HR.out.2.2.2.2.2.2.1; omega) s0 (by omega)).mono ?_
      rintro e w5 ⟨v5, q5, he, V5, hq5, hb5⟩
      obtain ⟨ao5, cap5, rfl, hob, row5⟩ := V5.open
      rw [HT.out.1] at he
      simp only [thV] at he
      subst he
      have U5 := (hb5.block r9 (by omega)).trans H4.out.2.1
      have R85 := (hb5.block r8 (by omega)).trans H4.out.2.2.1
      have R105 := (hb5.block r10 (by omega)).trans H4.out.2.2.2
      have z58 : r8 < w5.heap.size := (Array.getElem?_eq_some_iff.1 R85).1
      have z59 : r9 < w5.heap.size := (Array.getElem?_eq_some_iff.1 U5).1
      have z510 : r10 < w5.heap.size := (Array.getElem?_eq_some_iff.1 R105).1
      have hq6 : ∀ k, q5 = some k → (k ≠ r8 ∧ k ≠ r9 ∧ k ≠ r10) ∧ ¬ Foot b g k := fun k e => by
        rcases hq5 with rfl | hq5
        · exact HR.out.2.2.1 k e
        · have h1 := hq5 k e
          refine ⟨by omega, fun hf => ?_⟩
          rcases hf with hf | hf
          · have := HBG.out.1; omega
          · have := HBG.out.2 k hf.symm; omega
      rw [HT.out.2.1, HT.out.2.2] at V5
      rw [HT.out.2.1] at row5 hob ⊢
      rw [HT.out.2.2]
      have H5 := Lib.hid (And.intro hb5 (And.intro U5 (And.intro R85 (And.intro R105 (And.intro V5 (And.intro row5 (And.intro hq6 hob)))))))
      obtain ⟨d0, d1, d2, df0, df1, df2, -⟩ := blk3 R85
      obtain ⟨⟨c0, c1, c2, c3, c4, c5, c6, c7, c8, c9, c10, c11, c12⟩, -⟩ := blk13 R105
      have cf0 := blkF R105 0; have cf1 := blkF R105 1; have cf2 := blkF R105 2; have cf3 := blkF R105 3; have cf4 := blkF R105 4; have cf5 := blkF R105 5; have cf6 := blkF R105 6; have cf7 := blkF R105 7; have cf8 := blkF R105 8; have cf9 := blkF R105 9; have cf10 := blkF R105 10; have cf11 := blkF R105 11; have cf12 := blkF R105 12
      clear V4 hb5 U5 R85 R105 V5 row5 hq5 hq6 hob
      go_wp2_with fail
      generalize hW : World.alloc _ _ = W
      have E := res2b (W := w5) (r2 := r8) (r3 := r10) (y0 := .int .i64 N) (y1 := .slice ao5 X3.length cap5) (y2 := .int .i64 (st + C3)) (x0 := .int .i64 y0) (x1 := .int .i64 y1) (x2 := .int .i64 y2) (x3 := .int .i64 y3) (x4 := .int .i64 y4) (x5 := .int .i64 y5) (x6 := .int .i64 y6) (x7 := .int .i64 y7) (x8 := .int .i64 y8) (x9 := .int .i64 y9) (x10 := .int .i64 y10) (x11 := .int .i64 y11) (x12 := .slice none 0 0) H5.out.2.2.1 H5.out.2.2.2.1 (by omega) _ rfl
      have G8 : W.heap[r8]? = some (.cells #[.int .i64 N, .slice ao5 X3.length cap5, .int .i64 (st + C3)] 33 (0, 0)) := by
        rw [← hW, Below.heap_alloc _ _ _ (by simp; omega), Below.heap_alloc _ _ _ (by simp; omega)]; exact E.1
      have G10 : W.heap[r10]? = some (.cells #[.int .i64 y0, .int .i64 y1, .int .i64 y2, .int .i64 y3, .int .i64 y4, .int .i64 y5, .int .i64 y6, .int .i64 y7, .int .i64 y8, .int .i64 y9, .int .i64 y10, .int .i64 y11, .slice none 0 0] 39 (0, 0)) := by
        rw [← hW, Below.heap_alloc _ _ _ (by simp; omega), Below.heap_alloc _ _ _ (by simp; omega)]; exact E.2.1
      have KW : Kept (fun k => k = r8 ∨ k = r9 ∨ k = r10) w5 W := by
        rw [← hW]; exact ((E.2.2.mono (fun _ _ e => by omega)).alloc _).alloc _
      have G9 : W.heap[r9]? = some (.cells #[.int .i64 y0, .int .i64 y1, .int .i64 y2, .int .i64 y3, .int .i64 y4, .int .i64 y5, .int .i64 y6, .int .i64 y7, .int .i64 y8, .int .i64 y9, .int .i64 y10, .int .i64 y11, .slice bo3 0 bc3] 39 (0, 0)) := by
        rw [← hW, Below.heap_alloc _ _ _ (by simp; omega), Below.heap_alloc _ _ _ (by simp; omega)]
        exact (E.2.2.block r9 z59 (by omega)).trans H5.out.2.1
      have K3W : Kept (fun k => k = r8 ∨ k = r9 ∨ k = r10) w3 W := ((H4.out.1.mono (fun _ _ e => by omega)).trans (keptF H5.out.1)).trans KW
      have mW := H3.out.1.far3 K3W (by omega) (by omega) (by omega) HF.out.1 HF.out.2.1 HF.out.2.2.1
      have VW := H5.out.2.2.2.2.1.kept KW (fun k e hf => by have := (H5.out.2.2.2.2.2.2.1 k e).1; omega)
      have rowW : Row W (.slice ao5 X3.length cap5) X3 := H5.out.2.2.2.2.2.1.kept KW (fun k e hf => by have := (H5.out.2.2.2.2.2.2.1 k (H5.out.2.2.2.2.2.2.2 ▸ e)).1; omega)
      have z8 : r8 < W.heap.size := (Array.getElem?_eq_some_iff.1 G8).1
      have z9 : r9 < W.heap.size := (Array.getElem?_eq_some_iff.1 G9).1
      have z10 : r10 < W.heap.size := (Array.getElem?_eq_some_iff.1 G10).1
      have HW := Lib.hid (And.intro mW (And.intro rowW (And.intro VW (And.intro G8 (And.intro G9 G10)))))
      obtain ⟨⟨a0, a1, a2, a3, a4, a5, a6, a7, a8, a9, a10, a11, a12⟩, -⟩ := blk13 G9
      obtain ⟨⟨e0, e1, e2, e3, e4, e5, e6, e7, e8, e9, e10, e11, e12⟩, -⟩ := blk13 G10
      obtain ⟨g0, g1, g2, -⟩ := blk3 G8
      have au0 := fun (u : World) (hu : Below W.heap.size W u) => (hu.cell (p := ⟨r9, 0, none⟩) z9).trans a0
      have au1 := fun (u : World) (hu : Below W.heap.size W u) => (hu.cell (p := ⟨r9, 1, none⟩) z9).trans a1
      have au2 := fun (u : World) (hu : Below W.heap.size W u) => (hu.cell (p := ⟨r9, 2, none⟩) z9).trans a2
      have au3 := fun (u : World) (hu : Below W.heap.size W u) => (hu.cell (p := ⟨r9, 3, none⟩) z9).trans a3
      have au4 := fun (u : World) (hu : Below W.heap.size W u) => (hu.cell (p := ⟨r9, 4, none⟩) z9).trans a4
      have au5 := fun (u : World) (hu : Below W.heap.size W u) => (hu.cell (p := ⟨r9, 5, none⟩) z9).trans a5
      have au6 := fun (u : World) (hu : Below W.heap.size W u) => (hu.cell (p := ⟨r9, 6, none⟩) z9).trans a6
      have au7 := fun (u : World) (hu : Below W.heap.size W u) => (hu.cell (p := ⟨r9, 7, none⟩) z9).trans a7
      have au8 := fun (u : World) (hu : Below W.heap.size W u) => (hu.cell (p := ⟨r9, 8, none⟩) z9).trans a8
      have au9 := fun (u : World) (hu : Below W.heap.size W u) => (hu.cell (p := ⟨r9, 9, none⟩) z9).trans a9
      have au10 := fun (u : World) (hu : Below W.heap.size W u) => (hu.cell (p := ⟨r9, 10, none⟩) z9).trans a10
      have au11 := fun (u : World) (hu : Below W.heap.size W u) => (hu.cell (p := ⟨r9, 11, none⟩) z9).trans a11
      have au12 := fun (u : World) (hu : Below W.heap.size W u) => (hu.cell (p := ⟨r9, 12, none⟩) z9).trans a12
      have eu0 := fun (u : World) (hu : Below W.heap.size W u) => (hu.cell (p := ⟨r10, 0, none⟩) z10).trans e0
      have eu1 := fun (u : World) (hu : Below W.heap.size W u) => (hu.cell (p := ⟨r10, 1, none⟩) z10).trans e1
      have eu2 := fun (u : World) (hu : Below W.heap.size W u) => (hu.cell (p := ⟨r10, 2, none⟩) z10).trans e2
      have eu3 := fun (u : World) (hu : Below W.heap.size W u) => (hu.cell (p := ⟨r10, 3, none⟩) z10).trans e3
      have eu4 := fun (u : World) (hu : Below W.heap.size W u) => (hu.cell (p := ⟨r10, 4, none⟩) z10).trans e4
      have eu5 := fun (u : World) (hu : Below W.heap.size W u) => (hu.cell (p := ⟨r10, 5, none⟩) z10).trans e5
      have eu6 := fun (u : World) (hu : Below W.heap.size W u) => (hu.cell (p := ⟨r10, 6, none⟩) z10).trans e6
      have eu7 := fun (u : World) (hu : Below W.heap.size W u) => (hu.cell (p := ⟨r10, 7, none⟩) z10).trans e7
      have eu8 := fun (u : World) (hu : Below W.heap.size W u) => (hu.cell (p := ⟨r10, 8, none⟩) z10).trans e8
      have eu9 := fun (u : World) (hu : Below W.heap.size W u) => (hu.cell (p := ⟨r10, 9, none⟩) z10).trans e9
      have eu10 := fun (u : World) (hu : Below W.heap.size W u) => (hu.cell (p := ⟨r10, 10, none⟩) z10).trans e10
      have eu11 := fun (u : World) (hu : Below W.heap.size W u) => (hu.cell (p := ⟨r10, 11, none⟩) z10).trans e11
      have eu12 := fun (u : World) (hu : Below W.heap.size W u) => (hu.cell (p := ⟨r10, 12, none⟩) z10).trans e12
      have gu0 := fun (u : World) (hu : Below W.heap.size W u) => (hu.cell (p := ⟨r8, 0, none⟩) z8).trans g0
      have gu1 := fun (u : World) (hu : Below W.heap.size W u) => (hu.cell (p := ⟨r8, 1, none⟩) z8).trans g1
      have gu2 := fun (u : World) (hu : Below W.heap.size W u) => (hu.cell (p := ⟨r8, 2, none⟩) z8).trans g2
      clear hW E G8 G9 G10 KW K3W mW VW rowW a0 a1 a2 a3 a4 a5 a6 a7 a8 a9 a10 a11 a12 e0 e1 e2 e3 e4 e5 e6 e7 e8 e9 e10 e11 e12 g0 g1 g2 d0 d1 d2 df0 df1 df2 c0 c1 c2 c3 c4 c5 c6 c7 c8 c9 c10 c11 c12 cf0 cf1 cf2 cf3 cf4 cf5 cf6 cf7 cf8 cf9 cf10 cf11 cf12
      go_region_held3 (fun wz => Below W.heap.size W wz ∧ W.heap.size ≤ wz.heap.size)
        (first | (exact ⟨(Below.refl _ _).drew, Nat.le_refl _⟩) | (go_split_ands; refine ⟨?_, ?_⟩ <;> first | (with_reducible assumption) | (have := hb.size; omega) | exact Below.trans (by with_reducible assumption) (hb.mono (by omega))))
        (first | (go_at_call 29; go_split_ands; with_reducible refine (Same15_self _ y0 y1 y2 y3 y4 y5 y6 y7 y8 y9 y10 y11 _ _ 0 (fun _ => 0) (Its.zero _ _ _) (Its.zero _ _ _) (Nat.zero_le _)).mono ?_; rintro e w6 ⟨rfl, hb⟩) | (go_at_call 16; go_split_ands; with_reducible refine (Cells_ms (HW.out.1.below (by with_reducible assumption))).mono ?_; rintro e w7 ⟨ao7, cap7, rfl, -, r7, hb, -⟩) | (go_at_call 21; go_split_ands; with_reducible refine (Same64_self _ _ X3 _ r7 (HW.out.2.1.below (by with_reducible assumption)) hlenW).mono ?_; rintro e w8 ⟨rfl, hb⟩))
      all_goals
        go_split_ands
        have BZ : Below W.heap.size W w8 := by with_reducible assumption
        go_wp2_with fail
        go_roundw
        case rel =>
          have kb := keptF (F := fun _ => False) BZ
          have hcc := HT.out.2.2
          have c3b := swC_rng X t
          exact ⟨i + 1, X3, st + C3, q5, ao5, cap5, ⟨y0, y1, y2, y3, y4, y5, y6, y7, y8, y9, y10, y11⟩, bo3, bc3, by omega, by go_num, HW.out.1.below BZ, HW.out.2.2.1.below BZ, H5.out.2.2.2.2.2.2.1, (BZ.block r9 z9).trans HW.out.2.2.2.2.1, (BZ.block r10 z10).trans HW.out.2.2.2.2.2, (BZ.block r8 z8).trans HW.out.2.2.2.1, by omega, by omega, HG.out.1, HG.out.2.1, HG.out.2.2.1, HG.out.2.2.2⟩
        case measure => simp [intOf]; omega
    · obtain rfl : i = 80 := by omega
      clear A8 A9 A10 H2
      go_wp2
      go_ret
      exact ⟨rfl, HR.out.1.B⟩

end Go.Proofs.Ythdhilmmcabnlaa
