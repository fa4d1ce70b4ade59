/- The example of layer 14. -/
import Derived.Test.YtnpkhkfhlpopbaaListJ
import Derived.Test.YtnpkhkfhlpopbaaRecMem
import Derived.Test.YtnpkhkfhlpopbaaRecCells
import Derived.Test.YtnpkhkfhlpopbaaRef14C
namespace Go.Proofs.Ytnpkhkfhlpopbaa
set_option linter.unusedSimpArgs false
set_option linter.unusedVariables false
open Go.RowKit
open Go.ChangeShapes Go.WideShapes Go.ChangeAt

theorem kA : reachL [0, 3, 0, 5, 1, 0, 0, 0] = ([3], true) := by decide
theorem kB : reachL [0, 3, 0, 5, 1, 0, 3, 0] = ([], false) := by decide
theorem kC : soundF [0, 3, 0, 5, 1, 0, 0, 0] = 0 := by decide
theorem kD : soundF [0, 3, 0, 5, 1, 0, 3, 0] = 30 := by decide
set_option maxRecDepth 100000 in
set_option maxHeartbeats 4000000 in
theorem known14_any (w : World) : Calls Try.prog 11 #[] w fun e w' => e = .returned (.bool true) ∧ Below w.heap.size w w' := by
  go_enter Try.func11, Try.ntmps11
  go_wp2_with fail
  generalize hW0 : World.alloc _ _ = W0
  have R0 : Row W0 (.slice (some ⟨w.heap.size, 0, none⟩) 8 8) [0, 3, 0, 5, 1, 0, 0, 0] := by rw [← hW0]; exact row_lit (vs := [0, 3, 0, 5, 1, 0, 0, 0]) (heap_alloc_new _ _) rfl (by omega)
  have B0 : Below w.heap.size w W0 := by rw [← hW0]; go_grown
  have HB := Lib.hid B0
  clear hW0 B0
  refine (Memory13_f _ [0, 3, 0, 5, 1, 0, 0, 0] _ R0.sl (by simp)).mono ?_
  rintro e w1 ⟨v, b, g, q, rfl, h, -⟩
  obtain ⟨ao1, cap1, rfl, -, -⟩ := h.rv.open
  have H := Lib.hid h
  clear h R0
  go_wp2_with fail
  generalize hW1 : World.alloc (World.alloc _ _) _ = W1
  have R1 : Row W1 (.slice (some ⟨w1.heap.size + 1, 0, none⟩) 8 8) [0, 3, 0, 5, 1, 0, 3, 0] := by rw [← hW1]; exact row_lit (vs := [0, 3, 0, 5, 1, 0, 3, 0]) (alloc_at (by simp) _) rfl (by omega)
  have B1 : Below w1.heap.size w1 W1 := by rw [← hW1]; go_grown
  have H1 := Lib.hid (And.intro (H.out.ms.below B1) B1)
  clear hW1 B1
  refine (Memory13_f _ [0, 3, 0, 5, 1, 0, 3, 0] _ R1.sl (by simp)).mono ?_
  rintro e w2 ⟨v2, b2, g2, q2, rfl, h2, -⟩
  obtain ⟨ao2, cap2, rfl, -, -⟩ := h2.rv.open
  have H2 := Lib.hid h2
  clear h2 R1
  go_wp2_with fail
  generalize hW3 : World.alloc _ _ = W3
  have B3 : Below w2.heap.size w2 W3 := by rw [← hW3]; go_grown
  have mA3 := H1.out.1.below ((H2.out.ms.B.trans (B3.mono H2.out.ms.B.size)))
  have mB3 := H2.out.ms.below B3
  have C3 : Below w.heap.size w W3 := HB.out.trans (mA3.B.mono HB.out.size)
  have H3 := Lib.hid (And.intro mA3 (And.intro mB3 C3))
  clear hW3 B3 mA3 mB3 C3 H1 H2
  refine (Reach_f _ W3 _ _ _ _ _ H3.out.1).mono ?_
  rintro e w4 ⟨u4, rfl, i4, -, b4⟩
  rw [kA] at i4 ⊢
  dsimp only at i4 ⊢
  obtain ⟨lo, lcap, rfl⟩ := i4.shape
  have H4 := Lib.hid (And.intro (H3.out.1.below b4) (And.intro (H3.out.2.1.below b4) (And.intro i4 (H3.out.2.2.trans (b4.mono H3.out.2.2.size)))))
  clear i4 b4 H3
  go_wp2_with fail
  refine (Reach_f _ w4 _ _ _ _ _ H4.out.2.1).mono ?_
  rintro e w5 ⟨u5, rfl, i5, -, b5⟩
  rw [kB] at i5 ⊢
  dsimp only at i5 ⊢
  obtain ⟨lo5, lcap5, rfl⟩ := i5.shape
  have H5 := Lib.hid (And.intro (H4.out.1.below b5) (And.intro (H4.out.2.1.below b5) (And.intro (H4.out.2.2.1.slx.below b5) (H4.out.2.2.2.trans (b5.mono H4.out.2.2.2.size)))))
  clear i5 b5 H4
  go_wp2_with fail
  generalize hW6 : World.alloc _ _ = W6
  have A6 : W6.heap[w5.heap.size]? = some (.cells #[.int .i64 3] 3 (0, 0)) := by rw [← hW6]; exact alloc_at rfl _
  have B6 : Below w5.heap.size w5 W6 := by rw [← hW6]; go_grown
  have S6 : Sl W6 (.slice (some ⟨w5.heap.size, 0, none⟩) 1 1) [3] := ⟨some ⟨w5.heap.size, 0, none⟩, 1, rfl, fun _ => ⟨w5.heap.size, 0, rfl, (Array.getElem?_eq_some_iff.1 A6).1, fun j hj => (by have h0 : j = 0 := (by simpa using hj); subst h0; simp [World.cell?, A6])⟩⟩
  have H6 := Lib.hid (And.intro (H5.out.1.below B6) (And.intro (H5.out.2.1.below B6) (And.intro (H5.out.2.2.1.below B6) (And.intro (H5.out.2.2.2.trans (B6.mono H5.out.2.2.2.size)) S6))))
  clear hW6 A6 B6 S6 H5
  refine (Ints_any _ _ [3] [3] W6 H6.out.2.2.1 H6.out.2.2.2.2 (by simp)).mono ?_
  rintro e w7 ⟨rfl, n, h7⟩
  have b7 : Below W6.heap.size W6 w7 := h7 ▸ below_drewN (Below.refl _ _) n
  rw [decide_eq_true rfl]
  have H7 := Lib.hid (And.intro (H6.out.1.below b7) (And.intro (H6.out.2.1.below b7) (H6.out.2.2.2.1.trans (b7.mono H6.out.2.2.2.1.size))))
  clear b7 h7 H6
  go_wp2_with fail
  refine (Sound_f _ w7 _ _ _ _ _ H7.out.1).mono ?_
  rintro e w8 ⟨rfl, b8⟩
  rw [kC]
  have H8 := Lib.hid (And.intro (H7.out.2.1.below b8) (H7.out.2.2.trans (b8.mono H7.out.2.2.size)))
  clear b8 H7
  go_wp2_with fail
  refine (Sound_f _ w8 _ _ _ _ _ H8.out.1).mono ?_
  rintro e w9 ⟨rfl, b9⟩
  rw [kD]
  go_wp2
  go_ret
  exact ⟨by first | rfl | (simp; done), H8.out.2.trans (b9.mono H8.out.2.size)⟩

end Go.Proofs.Ytnpkhkfhlpopbaa
