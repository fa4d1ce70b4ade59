/- To look changes nothing. -/
import Derived.Test.YtnpkhkfhlpopbaaListK
namespace Go.Proofs.Ytnpkhkfhlpopbaa
set_option linter.unusedSimpArgs false
set_option linter.unusedVariables false
open Go.RowKit
open Go.ChangeShapes Go.WideShapes Go.ChangeAt

set_option maxRecDepth 100000 in
set_option maxHeartbeats 4000000 in
theorem looks_f (w : World) (l : Value) (X : List Int) (age : Int) (h : Sl w l X) (hn : X.length ≤ 1000) : Calls Try.prog 26 #[l, .int .i64 age] w fun e w' => e = .returned (.bool true) ∧ Below w.heap.size w w' := by
  have H0 := Lib.hid h
  obtain ⟨ao0, cap0, rfl, -⟩ := h
  go_enter Try.func26, Try.ntmps26
  go_wp2_with fail
  refine (Memory13_f _ X _ H0.out hn).mono ?_
  rintro e w1 ⟨v, b, g, q, rfl, h, -⟩
  obtain ⟨ao1, cap1, rfl, -, -⟩ := h.rv.open
  have H := Lib.hid h
  clear h
  go_wp2_with fail
  generalize hW1 : World.alloc _ _ = W1
  have B1 : Below w1.heap.size w1 W1 := by rw [← hW1]; go_grown
  have m1 := H.out.ms.below B1
  have H1 := Lib.hid (And.intro m1 (And.intro (H0.out.below m1.B) m1.B))
  clear B1 m1 hW1 H
  refine (Steps_ms H1.out.1).mono ?_
  rintro e w' ⟨rfl, rfl⟩
  go_wp2_with fail
  refine (Reach_f _ W1 _ _ _ _ _ H1.out.1).mono ?_
  rintro e w2 ⟨u2, rfl, i2, -, b2⟩
  obtain ⟨lo, lcap, rfl⟩ := i2.shape
  have H2 := Lib.hid (And.intro (H1.out.1.below b2) (And.intro (H1.out.2.2.trans (b2.mono H1.out.2.2.size)) i2.slx))
  clear i2 b2
  go_wp2_with fail
  refine (Records_f _ w2 _ _ _ _ _ H2.out.1).mono ?_
  rintro e w3 ⟨ro, rcap, rfl, -, -, b3⟩
  have H3 := Lib.hid (And.intro (H2.out.1.below b3) (And.intro (H2.out.2.1.trans (b3.mono H2.out.2.1.size)) (H2.out.2.2.below b3)))
  clear b3
  go_wp2_with fail
  refine (Waiting_f _ w3 _ _ _ _ _ H3.out.1).mono ?_
  rintro e w4 ⟨u4, rfl, -, b4⟩
  have H4 := Lib.hid (And.intro (H3.out.1.below b4) (And.intro (H3.out.2.1.trans (b4.mono H3.out.2.1.size)) (H3.out.2.2.below b4)))
  clear b4
  go_wp2_with fail
  refine (Stale_f _ w4 _ _ _ _ _ age H4.out.1).mono ?_
  rintro e w5 ⟨u5, rfl, -, b5⟩
  have H5 := Lib.hid (And.intro (H4.out.1.below b5) (And.intro (H4.out.2.1.trans (b5.mono H4.out.2.1.size)) (H4.out.2.2.below b5)))
  clear b5
  go_wp2_with fail
  refine (Sound_f _ w5 _ _ _ _ _ H5.out.1).mono ?_
  rintro e w6 ⟨rfl, b6⟩
  have H6 := Lib.hid (And.intro (H5.out.1.below b6) (And.intro (H5.out.2.1.trans (b6.mono H5.out.2.1.size)) (H5.out.2.2.below b6)))
  clear b6
  go_wp2_with fail
  refine (Reach_f _ w6 _ _ _ _ _ H6.out.1).mono ?_
  rintro e w7 ⟨u7, rfl, i7, -, b7⟩
  obtain ⟨lo7, lcap7, rfl⟩ := i7.shape
  have H7 := Lib.hid (And.intro (H6.out.1.below b7) (And.intro (H6.out.2.1.trans (b7.mono H6.out.2.1.size)) (And.intro (H6.out.2.2.below b7) i7.slx)))
  clear i7 b7
  go_wp2_with fail
  refine (Cells_ms H7.out.1).mono ?_
  rintro e w8 ⟨ao8, cap8, rfl, m8, row8, b8, -⟩
  have H8 := Lib.hid (And.intro m8 (And.intro (H7.out.2.1.trans (b8.mono H7.out.2.1.size)) (And.intro (H7.out.2.2.1.below b8) (And.intro (H7.out.2.2.2.below b8) row8.sl))))
  clear m8 row8 b8
  go_wp2_with fail
  have zl : (X.length : Int) ≤ 1000 := by omega
  go_loopw [14] (fun k wr => ∃ i : Nat, i ≤ X.length ∧ k = .int .i64 i ∧ Below w8.heap.size w8 wr) (fun k _ => X.length - (intOf k).toNat)
  case atStart => exact ⟨0, Nat.zero_le _, rfl, Below.refl _ _⟩
  case round =>
    obtain ⟨i, hi, rfl, hB⟩ := hrel
    have zi : (0 : Int) ≤ (i : Int) := by omega
    have HB := Lib.hid hB
    by_cases hlt : i < X.length
    · have hlt' : (i : Int) < (X.length : Int) := by omega
      obtain ⟨a1, c1, e1, hc1⟩ := (H0.out.below H8.out.2.1).below hB
      obtain ⟨a2, c2, e2, hc2⟩ := H8.out.2.2.2.2.below hB
      simp only [Value.slice.injEq] at e1 e2
      obtain ⟨b1, o1, f1, z1, k1⟩ := hc1 (by omega)
      obtain ⟨b2, o2, f2, z2, k2⟩ := hc2 (by omega)
      obtain rfl : ao0 = some ⟨b1, o1, none⟩ := e1.1.trans f1
      obtain rfl : ao8 = some ⟨b2, o2, none⟩ := e2.1.trans f2
      have q1 := k1 i hlt
      have q2 := k2 i hlt
      obtain ⟨x, hx⟩ : ∃ x, X.getD i 0 = x := ⟨_, rfl⟩
      rw [hx] at q1 q2
      have hxx : (x != x) = false := by simp
      clear e1 e2 hc1 hc2 k1 k2 hx hB f1 f2
      go_wp2_with fail
      go_quiet (fail)
      all_goals
        go_wp2
        go_roundw
        case rel => exact ⟨i + 1, by omega, by go_num, by first | exact HB.out | exact HB.out.trans (Below.refl _ _).drew | exact HB.out.trans (below_drewN (Below.refl _ _) _)⟩
        case measure => simp [intOf]; omega
    · obtain rfl : i = X.length := by omega
      clear hB
      go_wp2_with fail
      have m9 := H8.out.1.below HB.out
      refine (Steps_ms m9).mono ?_
      rintro e w9 ⟨rfl, rfl⟩
      have Hm := Lib.hid m9
      clear m9
      go_wp2_with fail
      refine (Ints_any _ _ _ _ wr (H8.out.2.2.1.below HB.out ) (H8.out.2.2.2.1.below HB.out) (by have := reachL_len X hn; omega)).mono ?_
      rintro e w10 ⟨rfl, nq, h10⟩
      have b10 : Below wr.heap.size wr w10 := h10 ▸ below_drewN (Below.refl _ _) nq
      have BF := H8.out.2.1.trans (HB.out.mono H8.out.2.1.size)
      have BF2 := Lib.hid (BF.trans (b10.mono BF.size))
      clear h10 b10 BF
      rw [decide_eq_true rfl]
      cases hok : (reachL X).2
      · have hs : soundF X = 30 := by unfold soundF; rw [hok, if_pos rfl]
        rw [hs]
        clear hs hok
        go_wp2
        go_ret
        exact ⟨by first | rfl | (simp; done), BF2.out⟩
      · clear hok
        go_wp2
        go_ret
        exact ⟨by first | rfl | (simp; done), BF2.out⟩

end Go.Proofs.Ytnpkhkfhlpopbaa
