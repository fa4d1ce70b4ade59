/- All calls of the list at one memory are what the chapter says. -/
import Derived.Test.YtnpkhkfhlpopbaaListM
import Derived.Test.YtnpkhkfhlpopbaaListL
namespace Go.Proofs.Ytnpkhkfhlpopbaa
set_option linter.unusedSimpArgs false
set_option linter.unusedVariables false
open Go.RowKit
open Go.ChangeShapes Go.WideShapes Go.ChangeAt

/-- Those that wait. -/
def waitL (X : List Int) : List Int := (recsL X.length).filter fun a => decide (0 < recAt X a 0)
theorem soundF_rng (X : List Int) : 0 ≤ soundF X ∧ soundF X ≤ 33 := by
  unfold soundF
  split
  · omega
  · split
    · omega
    · split <;> omega
theorem Ints_same (u v : Value) (xs : List Int) (w : World) (hu : Sl w u xs) (hv : Sl w v xs) (n1 : xs.length ≤ 1000000) : Calls Try.prog 16 #[u, v] w fun e w' => e = .returned (.bool true) ∧ Below w.heap.size w w' :=
  (Ints_any u v xs xs w hu hv n1).mono fun e w' ⟨h1, n, h2⟩ => ⟨by rw [h1, decide_eq_true rfl], h2 ▸ below_drewN (Below.refl _ _) n⟩
theorem Reach_s (W0 w : World) (b : Nat) (g : Option Nat) (N st : Int) (X : List Int) (LS : List Int) (OK : Bool) (hR : reachL X = (LS, OK)) (h : MS W0 w b g N X st) : Calls Try.prog 15 #[.pointer (some ⟨b, 0, none⟩)] w fun e w' => ∃ u, e = .returned (.tuple #[u, .bool OK]) ∧ IRow w' u LS ∧ Below w.heap.size w w' :=
  (Reach_f W0 w b g N st X h).mono fun e w' ⟨u, h1, h2, _, h4⟩ => ⟨u, by rw [h1, hR], by rw [hR] at h2; exact h2, h4⟩
theorem Records_s (W0 w : World) (b : Nat) (g : Option Nat) (N st : Int) (X : List Int) (h : MS W0 w b g N X st) : Calls Try.prog 19 #[.pointer (some ⟨b, 0, none⟩)] w fun e w' => ∃ ao cap, e = .returned (.slice ao (recsL X.length).length cap) ∧ Sl w' (.slice ao (recsL X.length).length cap) (recsL X.length) ∧ Below w.heap.size w w' :=
  (Records_f W0 w b g N st X h).mono fun e w' ⟨ao, cap, h1, h2, _, h4⟩ => ⟨ao, cap, h1, h2.slx, h4⟩
theorem rRecords_s (w : World) (v : Value) (q : Option Nat) (N st : Int) (X : List Int) (h : RVal w v q N X st) (hl : X.length ≤ 1000) : Calls Try.prog 46 #[v] w fun e w' => ∃ ao cap, e = .returned (.slice ao (recsL X.length).length cap) ∧ Sl w' (.slice ao (recsL X.length).length cap) (recsL X.length) ∧ Below w.heap.size w w' :=
  (rRecords_f w v q N st X h hl).mono fun e w' ⟨u, h1, h2, h4⟩ => by obtain ⟨ao, cap, rfl⟩ := h2.shape; exact ⟨ao, cap, h1, h2.slx, h4⟩
theorem Waiting_s (W0 w : World) (b : Nat) (g : Option Nat) (N st : Int) (X : List Int) (h : MS W0 w b g N X st) : Calls Try.prog 21 #[.pointer (some ⟨b, 0, none⟩)] w fun e w' => ∃ ao cap, e = .returned (.slice ao (waitL X).length cap) ∧ Sl w' (.slice ao (waitL X).length cap) (waitL X) ∧ Below w.heap.size w w' :=
  (Waiting_f W0 w b g N st X h).mono fun e w' ⟨u, h1, h2, h4⟩ => by obtain ⟨ao, cap, rfl, h3⟩ := h2; exact ⟨ao, cap, h1, ⟨ao, cap, rfl, h3⟩, h4⟩
theorem rWaiting_s (w : World) (v : Value) (q : Option Nat) (N st : Int) (X : List Int) (h : RVal w v q N X st) (hl : X.length ≤ 1000) : Calls Try.prog 47 #[v] w fun e w' => ∃ ao cap, e = .returned (.slice ao (waitL X).length cap) ∧ Sl w' (.slice ao (waitL X).length cap) (waitL X) ∧ Below w.heap.size w w' :=
  (rWaiting_f w v q N st X h hl).mono fun e w' ⟨u, h1, h2, h4⟩ => by obtain ⟨ao, cap, rfl⟩ := h2.shape; exact ⟨ao, cap, h1, h2.slx, h4⟩
theorem Stale_s (W0 w : World) (b : Nat) (g : Option Nat) (N st : Int) (X : List Int) (age : Int) (h : MS W0 w b g N X st) : Calls Try.prog 22 #[.pointer (some ⟨b, 0, none⟩), .int .i64 age] w fun e w' => ∃ ao cap, e = .returned (.slice ao (staleL X age).length cap) ∧ Sl w' (.slice ao (staleL X age).length cap) (staleL X age) ∧ Below w.heap.size w w' :=
  (Stale_f W0 w b g N st X age h).mono fun e w' ⟨u, h1, h2, h4⟩ => by obtain ⟨ao, cap, rfl, h3⟩ := h2; exact ⟨ao, cap, h1, ⟨ao, cap, rfl, h3⟩, h4⟩
theorem rStale_s (w : World) (v : Value) (q : Option Nat) (N st : Int) (X : List Int) (age : Int) (LS : List Int) (OK : Bool) (h : RVal w v q N X st) (hl : X.length ≤ 1000) (hR : reachL X = (LS, OK)) (hLS : LS.length ≤ 2000) : Calls Try.prog 48 #[v, .int .i64 age] w fun e w' => ∃ ao cap, e = .returned (.slice ao (staleL X age).length cap) ∧ Sl w' (.slice ao (staleL X age).length cap) (staleL X age) ∧ Below w.heap.size w w' :=
  (rStale_f w v q N st X age LS OK h hl hR hLS).mono fun e w' ⟨u, h1, h2, h4⟩ => by obtain ⟨ao, cap, rfl⟩ := h2.shape; exact ⟨ao, cap, h1, h2.slx, h4⟩
theorem Sound_s (W0 w : World) (b : Nat) (g : Option Nat) (N st : Int) (X : List Int) (sv : Int) (hsv : soundF X = sv) (h : MS W0 w b g N X st) : Calls Try.prog 17 #[.pointer (some ⟨b, 0, none⟩)] w fun e w' => e = .returned (.int .u16 sv) ∧ Below w.heap.size w w' := by
  rw [← hsv]; exact Sound_f W0 w b g N st X h
theorem rSound_s (w : World) (v : Value) (q : Option Nat) (N st : Int) (X : List Int) (LS : List Int) (OK : Bool) (sv : Int) (hsv : soundF X = sv) (h : RVal w v q N X st) (hl : X.length ≤ 1000) (hR : reachL X = (LS, OK)) (hLS : LS.length ≤ 2000) : Calls Try.prog 49 #[v] w fun e w' => e = .returned (.int .i64 sv) ∧ Below w.heap.size w w' := by
  rw [← hsv]; exact rSound_f w v q N st X LS OK h hl hR hLS
set_option maxRecDepth 100000 in
set_option maxHeartbeats 8000000 in
theorem asks14_f (w : World) (l : Value) (X : List Int) (age : Int) (h : Sl w l X) (hn : X.length ≤ 1000) : Calls Try.prog 24 #[l, .int .i64 age] w fun e w' => e = .returned (.bool true) ∧ Below w.heap.size w w' := by
  have H0 := Lib.hid h
  have hL1 := reachL_len X hn
  have hRl : (recsL X.length).length ≤ 1000000 := by unfold recsL; rw [List.length_map, List.length_range]; have := manyOf_rng hn; omega
  obtain ⟨sv, hsv⟩ : ∃ sv, soundF X = sv := ⟨_, rfl⟩
  have hsr := soundF_rng X
  have hRl0 := Lib.hid (show (recsL X.length).length ≤ 1000000 from hRl)
  have hWl0 := Lib.hid (show (waitL X).length ≤ 1000000 from Nat.le_trans (List.length_filter_le _ _) hRl)
  have hSt : (staleL X age).length ≤ 1000000 := by
    rw [staleL_drop]
    refine Nat.le_trans (List.length_filter_le _ _) ?_
    rw [List.length_drop]; omega
  have HRES : ∃ LS OK, reachL X = (LS, OK) := ⟨_, _, rfl⟩
  obtain ⟨LS, OK, hLS⟩ := HRES
  have HLS := Lib.hid hLS
  have hL : LS.length ≤ 2000 := by rw [hLS] at hL1; simp only at hL1; omega
  have hL2 : LS.length ≤ 1000000 := by omega
  have hL3 : (reachL X).1 = LS := by rw [hLS]
  have hO3 : (reachL X).2 = OK := by rw [hLS]
  rw [hsv] at hsr
  obtain ⟨ao0, cap0, rfl, -⟩ := h
  go_enter Try.func24, Try.ntmps24
  go_wp2_with fail
  refine (Memory13_f _ X _ H0.out hn).mono ?_
  rintro e w1 ⟨v, b, g, q, rfl, h, -⟩
  obtain ⟨ao1, cap1, rfl, -, -⟩ := h.rv.open
  have H := Lib.hid h
  clear h hLS
  go_wp2_with fail
  generalize hB : w1.heap.size = B
  generalize hW1 : World.alloc _ _ = W1
  have A1 : W1.heap[B]? = some (.cells #[.int .i64 (X.length : Int), .slice ao1 X.length cap1, .int .i64 (1 + (X.length : Int))] 35 (0, 0)) := by rw [← hW1]; exact alloc_at hB _
  have B1 : Below w1.heap.size w1 W1 := by rw [← hW1]; go_grown
  have m1 := H.out.ms.below B1
  have HR := Lib.hid (H.out.rv.below B1)
  have H1 := Lib.hid (And.intro m1 (And.intro (Below.refl W1.heap.size W1) (And.intro A1 trivial)))
  have HB := Lib.hid m1.B
  clear B1 m1 hW1 H A1 hB
  go_wp2_with fail
  refine (Reach_s _ W1 _ _ _ _ _ LS OK HLS.out H1.out.1).mono ?_
  rintro e w2 ⟨u2, rfl, i2, b2⟩
  obtain ⟨lo, lcap, rfl⟩ := i2.shape
  have A2 := (b2.block B (Array.getElem?_eq_some_iff.1 H1.out.2.2.1).1).trans H1.out.2.2.1
  have H2 := Lib.hid (And.intro (H1.out.1.below b2) (And.intro (H1.out.2.1.trans (b2.mono H1.out.2.1.size)) (And.intro A2 (And.intro i2.slx (trivial)))))
  clear A2 b2
  clear i2
  try clear c0 c1 c2
  obtain ⟨c0, c1, c2, -⟩ := blk3 H2.out.2.2.1
  go_wp2_with fail
  refine (rReach_f w2 _ q _ _ X LS OK (HR.out.below H2.out.2.1) hn HLS.out).mono ?_
  rintro e w3 ⟨u3, rfl, i3, b3⟩
  obtain ⟨lo3, lcap3, rfl⟩ := i3.shape
  have A3 := (b3.block B (Array.getElem?_eq_some_iff.1 H2.out.2.2.1).1).trans H2.out.2.2.1
  have H3 := Lib.hid (And.intro (H2.out.1.below b3) (And.intro (H2.out.2.1.trans (b3.mono H2.out.2.1.size)) (And.intro A3 (And.intro (H2.out.2.2.2.1.below b3) (And.intro i3.slx (trivial))))))
  clear A3 b3
  clear i3 c0 c1 c2
  go_wp2_with fail
  refine (Steps_ms H3.out.1).mono ?_
  rintro e w' ⟨rfl, rfl⟩
  clear hRl
  have zB : B < w3.heap.size := (Array.getElem?_eq_some_iff.1 H3.out.2.2.1).1
  have c0 := fun (u : World) (hu : Below w3.heap.size w3 u) => (hu.cell (p := ⟨B, 0, none⟩) zB).trans (blk3 H3.out.2.2.1).1
  have c1 := fun (u : World) (hu : Below w3.heap.size w3 u) => (hu.cell (p := ⟨B, 1, none⟩) zB).trans (blk3 H3.out.2.2.1).2.1
  have c2 := fun (u : World) (hu : Below w3.heap.size w3 u) => (hu.cell (p := ⟨B, 2, none⟩) zB).trans (blk3 H3.out.2.2.1).2.2.1
  have sa := Lib.hid (H3.out.2.2.2.1.below (Below.refl _ _).drew)
  have sb := Lib.hid (H3.out.2.2.2.2.1.below (Below.refl _ _).drew)
  have m3 := H3.out.1
  have r3 := HR.out.below H3.out.2.1
  have HM := Lib.hid m3
  have HV := Lib.hid r3
  have hsw : IntKind.i64.wrap sv = sv := IntWalk.i64_in _ (by omega)
  clear m3 r3
  go_wp2_with fail
  go_region_held3 (fun wz => Below w3.heap.size w3 wz)
    (first | (exact (Below.refl _ _).drew) | (go_split_ands; with_reducible first | assumption | exact bmr (by assumption) hb2))
    (first | (go_at_call 16; go_split_ands; with_reducible refine (Ints_same _ _ _ _ sa.out sb.out (by first | exact hL2 | exact hRl0.out | exact hWl0.out | exact hSt)).mono ?_; rintro e w20 ⟨rfl, hb2⟩; skip) | (go_at_call 19; go_split_ands; with_reducible refine (Records_s _ _ _ _ _ _ _ (HM.out.below (by with_reducible assumption))).mono ?_; rintro e w20 ⟨ro, rcap, rfl, ia, hb2⟩; (try replace sb := Lib.hid (sb.out.below hb2)); replace sa := Lib.hid ia; clear ia) | (go_at_call 46; go_split_ands; with_reducible refine (rRecords_s _ _ q _ _ X (HV.out.below (by with_reducible assumption)) hn).mono ?_; rintro e w20 ⟨ro, rcap, rfl, ib, hb2⟩; (try replace sa := Lib.hid (sa.out.below hb2)); replace sb := Lib.hid ib; clear ib) | (go_at_call 21; go_split_ands; with_reducible refine (Waiting_s _ _ _ _ _ _ _ (HM.out.below (by with_reducible assumption))).mono ?_; rintro e w20 ⟨ro, rcap, rfl, ia, hb2⟩; (try replace sb := Lib.hid (sb.out.below hb2)); replace sa := Lib.hid ia; clear ia) | (go_at_call 47; go_split_ands; with_reducible refine (rWaiting_s _ _ q _ _ X (HV.out.below (by with_reducible assumption)) hn).mono ?_; rintro e w20 ⟨ro, rcap, rfl, ib, hb2⟩; (try replace sa := Lib.hid (sa.out.below hb2)); replace sb := Lib.hid ib; clear ib) | (go_at_call 22; go_split_ands; with_reducible refine (Stale_s _ _ _ _ _ _ _ age (HM.out.below (by with_reducible assumption))).mono ?_; rintro e w20 ⟨ro, rcap, rfl, ia, hb2⟩; (try replace sb := Lib.hid (sb.out.below hb2)); replace sa := Lib.hid ia; clear ia) | (go_at_call 48; go_split_ands; with_reducible refine (rStale_s _ _ q _ _ X age LS OK (HV.out.below (by with_reducible assumption)) hn HLS.out hL).mono ?_; rintro e w20 ⟨ro, rcap, rfl, ib, hb2⟩; (try replace sa := Lib.hid (sa.out.below hb2)); replace sb := Lib.hid ib; clear ib) | (go_at_call 17; go_split_ands; with_reducible refine (Sound_s _ _ _ _ _ _ _ sv hsv (HM.out.below (by with_reducible assumption))).mono ?_; rintro e w20 ⟨rfl, hb2⟩; (try replace sa := Lib.hid (sa.out.below hb2)); (try replace sb := Lib.hid (sb.out.below hb2))) | (go_at_call 49; go_split_ands; with_reducible refine (rSound_s _ _ q _ _ X LS OK sv hsv (HV.out.below (by with_reducible assumption)) hn HLS.out hL).mono ?_; rintro e w20 ⟨rfl, hb2⟩; (try replace sa := Lib.hid (sa.out.below hb2)); (try replace sb := Lib.hid (sb.out.below hb2))))
  all_goals
    go_split_ands
    have BZ := HB.out.trans ((H3.out.2.1.trans (Below.mono (by with_reducible assumption) H3.out.2.1.size)).mono HB.out.size)
    go_wp2
    go_ret
    exact ⟨by first | rfl | (simp; done), BZ⟩

end Go.Proofs.Ytnpkhkfhlpopbaa
