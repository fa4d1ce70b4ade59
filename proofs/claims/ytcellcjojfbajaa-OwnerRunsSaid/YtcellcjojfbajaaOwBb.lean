/- What is done at each place of package owner. -/
import Derived.Test.YtcellcjojfbajaaOwA
namespace Go.Proofs.Ytcellcjojfbajaa
set_option linter.unusedSimpArgs false
set_option linter.unusedVariables false
open Go.RowKit
open Go.ChangeShapes Go.WideShapes Go.ChangeAt

set_option maxRecDepth 100000 in
set_option maxHeartbeats 2000000 in
theorem oClaim_any (W0 w : World) (x : Nat) (g : Option Nat) (N st : Int) (xs : List Int) (i0 i1 i2 i3 i4 i5 i6 i7 i8 i9 i10 i11 : Int) (bt : Value) (b : Nat) (rc rv : Int) (td : Bool) (r1 : -9223372036854775808 ≤ i2) (r2 : i2 ≤ 9223372036854775807) (p : Int) (hp : (if swapIs xs (wrap64 (i2 + 1)) 0 = true then 15 else 11) = p) (h : OT W0 w x g N st xs i0 i1 i2 i3 i4 i5 i6 i7 i8 i9 i10 i11 bt b rc rv td) (s1 : st < 1000000) :
    Calls Try.prog 59 #[.pointer (some ⟨x, 0, none⟩)] w fun e w' => e = .returned (.tuple #[]) ∧ OT W0 w' x g N (st + cntAt xs (wrap64 (i2 + 1))) (cellSwap xs (wrap64 (i2 + 1)) 0 2) i0 p i2 i3 i4 i5 i6 i7 i8 i9 i10 i11 bt b rc rv td ∧ Kept (FX b g x) w w' := by
  obtain ⟨⟨c0, c1, c2, c3, c4, c5, c6, c7, c8, c9, c10, c11, c12, c13, c14, c15, c16⟩, hf, hx⟩ := h.open
  have hz : 0 ≤ st + cntAt xs (wrap64 (i2 + 1)) := by have := h.2.2.2.2; have := cntAt_rng xs (wrap64 (i2 + 1)); omega
  have H := Lib.hid h
  have HP := Lib.hid hp
  clear hp
  have hw : IntKind.i64.wrap (i2 + 1) = wrap64 (i2 + 1) := by rw [IntKind.wrap_i64]; unfold wrap64; omega
  clear hf h
  go_enter Try.func59, Try.ntmps59
  go_wp2_with fail
  have HD := Lib.hid (And.intro H.out.drew (show Kept (FX b g x) w w.drew from keptF (Below.refl _ _).drew))
  go_region_held3 (fun wz => wz.cell? ⟨x, 13, none⟩ = some (.pointer (some ⟨b, 0, none⟩)) ∧ wz.cell? ⟨x, 2, none⟩ = some (.int .i64 i2))
    (first | (exact ⟨c13, c2⟩) | (exact ⟨k13, k2⟩) | (exact ⟨d13, d2⟩) | (exact ⟨e13, e2⟩) | (exact ⟨f13, f2⟩) )
    (first | (go_at_call 74; go_split_ands; with_reducible refine Go.Calls.mono (Swap_f HD.out.1.ms (wrap64 (i2 + 1)) (0) (2) s1) ?_; rintro e w3 ⟨rfl, m3, k3⟩; have h3 := HD.out.1.mem m3 k3 (.inl rfl) hz; obtain ⟨⟨d0, d1, d2, d3, d4, d5, d6, d7, d8, d9, d10, d11, d12, d13, d14, d15, d16⟩, -, dx⟩ := h3.open; have H3 := Lib.hid (And.intro h3 k3); clear h3 k3 m3) | (go_at_call 73; go_split_ands; with_reducible refine Go.Calls.mono (oPutB_any _ _ _) ?_; rintro e w' ⟨rfl, rfl⟩) | (go_at_call 72; go_split_ands; with_reducible refine Go.Calls.mono (oEither_any W0 _ x g N _ _ i0 i1 i2 i3 i4 i5 i6 i7 i8 i9 i10 i11 bt b rc rv td _ 15 11 H3.out.1) ?_; rintro e w4 ⟨rfl, h4, k4⟩; obtain ⟨⟨e0, e1, e2, e3, e4, e5, e6, e7, e8, e9, e10, e11, e12, e13, e14, e15, e16⟩, -, ex⟩ := h4.open; have H4 := Lib.hid (And.intro h4 k4); clear h4 k4))
  all_goals
    go_wp2_with fail
    go_end0
    exact ⟨rfl, by have := H4.out.1; rwa [HP.out] at this, (HD.out.2.trans (kxF H3.out.2)).trans H4.out.2⟩

set_option maxRecDepth 100000 in
set_option maxHeartbeats 2000000 in
theorem oNext_any (W0 w : World) (x : Nat) (g : Option Nat) (N st : Int) (xs : List Int) (i0 i1 i2 i3 i4 i5 i6 i7 i8 i9 i10 i11 : Int) (bt : Value) (b : Nat) (rc rv : Int) (td : Bool) (r1 : -9223372036854775808 ≤ i2) (r2 : i2 ≤ 9223372036854775807)  (h : OT W0 w x g N st xs i0 i1 i2 i3 i4 i5 i6 i7 i8 i9 i10 i11 bt b rc rv td) (s1 : st < 1000000) :
    Calls Try.prog 61 #[.pointer (some ⟨x, 0, none⟩)] w fun e w' => e = .returned (.tuple #[]) ∧ OT W0 w' x g N (st + cntAt xs (wrap64 (i2 + 3))) (cellSet xs (wrap64 (i2 + 3)) i5) i0 9 i2 i3 i4 i5 i6 i7 i8 i9 i10 i11 bt b rc rv td ∧ Kept (FX b g x) w w' := by
  obtain ⟨⟨c0, c1, c2, c3, c4, c5, c6, c7, c8, c9, c10, c11, c12, c13, c14, c15, c16⟩, hf, hx⟩ := h.open
  have hz : 0 ≤ st + cntAt xs (wrap64 (i2 + 3)) := by have := h.2.2.2.2; have := cntAt_rng xs (wrap64 (i2 + 3)); omega
  have H := Lib.hid h
  have hw : IntKind.i64.wrap (i2 + 3) = wrap64 (i2 + 3) := by rw [IntKind.wrap_i64]; unfold wrap64; omega
  clear hf h
  go_enter Try.func61, Try.ntmps61
  go_wp2_with fail
  have HD := Lib.hid (And.intro H.out.drew (show Kept (FX b g x) w w.drew from keptF (Below.refl _ _).drew))
  go_region_held3 (fun wz => wz.cell? ⟨x, 13, none⟩ = some (.pointer (some ⟨b, 0, none⟩)) ∧ wz.cell? ⟨x, 2, none⟩ = some (.int .i64 i2) ∧ wz.cell? ⟨x, 5, none⟩ = some (.int .i64 i5))
    (first | (exact ⟨c13, c2, c5⟩) | (exact ⟨k13, k2, k5⟩) | (exact ⟨d13, d2, d5⟩) | (exact ⟨e13, e2, e5⟩) | (exact ⟨f13, f2, f5⟩) )
    (first | (go_at_call 13; go_split_ands; with_reducible refine Go.Calls.mono (Store_f HD.out.1.ms (wrap64 (i2 + 3)) (i5) s1) ?_; rintro e w3 ⟨rfl, m3, k3⟩; have h3 := HD.out.1.mem m3 k3 (.inl rfl) hz; obtain ⟨⟨d0, d1, d2, d3, d4, d5, d6, d7, d8, d9, d10, d11, d12, d13, d14, d15, d16⟩, -, dx⟩ := h3.open; have fd1 := blkF h3.blk 1; have H3 := Lib.hid (And.intro h3 k3); clear h3 k3 m3))
  all_goals
    go_wp2_with fail
    go_end0
    exact ⟨rfl, H3.out.1.set1 9, (HD.out.2.trans (kxF H3.out.2)).trans (kx _ _ _ _ _ _)⟩

set_option maxRecDepth 100000 in
set_option maxHeartbeats 2000000 in
theorem oCheck_any (W0 w : World) (x : Nat) (g : Option Nat) (N st : Int) (xs : List Int) (i0 i1 i2 i3 i4 i5 i6 i7 i8 i9 i10 i11 : Int) (bt : Value) (b : Nat) (rc rv : Int) (td : Bool) (r1 : -9223372036854775808 ≤ i2) (r2 : i2 ≤ 9223372036854775807) (v p : Int) (hv : cellAt xs (wrap64 (i2 + 1)) = v) (hp : (if v = 0 then 6 else 11) = p) (h : OT W0 w x g N st xs i0 i1 i2 i3 i4 i5 i6 i7 i8 i9 i10 i11 bt b rc rv td) (s1 : st < 1000000) :
    Calls Try.prog 58 #[.pointer (some ⟨x, 0, none⟩)] w fun e w' => e = .returned (.tuple #[]) ∧ OT W0 w' x g N (st + cntAt xs (wrap64 (i2 + 1))) xs i0 p i2 i3 i4 v i6 i7 i8 i9 i10 i11 bt b rc rv td ∧ Kept (FX b g x) w w' := by
  obtain ⟨⟨c0, c1, c2, c3, c4, c5, c6, c7, c8, c9, c10, c11, c12, c13, c14, c15, c16⟩, hf, hx⟩ := h.open
  have hz : 0 ≤ st + cntAt xs (wrap64 (i2 + 1)) := by have := h.2.2.2.2; have := cntAt_rng xs (wrap64 (i2 + 1)); omega
  have H := Lib.hid h
  have HP := Lib.hid hp
  clear hp
  have HV := Lib.hid hv
  clear hv
  have hw : IntKind.i64.wrap (i2 + 1) = wrap64 (i2 + 1) := by rw [IntKind.wrap_i64]; unfold wrap64; omega
  clear hf h
  go_enter Try.func58, Try.ntmps58
  go_wp2_with fail
  refine (oLoad_any W0 w x g N st xs i0 i1 i2 i3 i4 i5 i6 i7 i8 i9 i10 i11 bt b rc rv td (wrap64 (i2 + 1)) v H.out HV.out s1).mono ?_
  rintro e w2 ⟨rfl, h2, k2⟩
  have f1 := blkF h2.blk 1
  obtain ⟨⟨d0, d1, d2, d3, d4, d5, d6, d7, d8, d9, d10, d11, d12, d13, d14, d15, d16⟩, -, dx⟩ := h2.open
  have H2 := Lib.hid (And.intro h2 k2)
  clear h2 k2 c0 c1 c2 c3 c4 c5 c6 c7 c8 c9 c10 c11 c12 c13 c14 c15 c16
  go_wp2_with fail
  refine (oEither_any W0 _ x g N _ _ i0 i1 i2 i3 i4 v i6 i7 i8 i9 i10 i11 bt b rc rv td _ 6 11 H2.out.1).mono ?_
  rintro e w4 ⟨rfl, h4, k4⟩
  have H4 := Lib.hid (And.intro h4 k4)
  clear h4 k4
  go_wp2
  go_end0
  exact ⟨rfl, by have := H4.out.1; simp only [beq_iff_eq] at this; rwa [HP.out] at this, H2.out.2.trans H4.out.2⟩

set_option maxRecDepth 100000 in
set_option maxHeartbeats 2000000 in
theorem oSure_any (W0 w : World) (x : Nat) (g : Option Nat) (N st : Int) (xs : List Int) (i0 i1 i2 i3 i4 i5 i6 i7 i8 i9 i10 i11 : Int) (bt : Value) (b : Nat) (rc rv : Int) (td : Bool) (r1 : -9223372036854775808 ≤ i2) (r2 : i2 ≤ 9223372036854775807) (v p : Int) (hv : cellAt xs (i2) = v) (hp : (if v = i4 then 7 else 16) = p) (h : OT W0 w x g N st xs i0 i1 i2 i3 i4 i5 i6 i7 i8 i9 i10 i11 bt b rc rv td) (s1 : st < 1000000) :
    Calls Try.prog 68 #[.pointer (some ⟨x, 0, none⟩)] w fun e w' => e = .returned (.tuple #[]) ∧ OT W0 w' x g N (st + cntAt xs (i2)) xs i0 p i2 i3 i4 v i6 i7 i8 i9 i10 i11 bt b rc rv td ∧ Kept (FX b g x) w w' := by
  obtain ⟨⟨c0, c1, c2, c3, c4, c5, c6, c7, c8, c9, c10, c11, c12, c13, c14, c15, c16⟩, hf, hx⟩ := h.open
  have hz : 0 ≤ st + cntAt xs (i2) := by have := h.2.2.2.2; have := cntAt_rng xs (i2); omega
  have H := Lib.hid h
  have HP := Lib.hid hp
  clear hp
  have HV := Lib.hid hv
  clear hv
  have hw : IntKind.i64.wrap i2 = i2 := by rw [IntKind.wrap_i64]; omega
  clear hf h
  go_enter Try.func68, Try.ntmps68
  go_wp2_with fail
  refine (oLoad_any W0 w x g N st xs i0 i1 i2 i3 i4 i5 i6 i7 i8 i9 i10 i11 bt b rc rv td (i2) v H.out HV.out s1).mono ?_
  rintro e w2 ⟨rfl, h2, k2⟩
  have f1 := blkF h2.blk 1
  obtain ⟨⟨d0, d1, d2, d3, d4, d5, d6, d7, d8, d9, d10, d11, d12, d13, d14, d15, d16⟩, -, dx⟩ := h2.open
  have H2 := Lib.hid (And.intro h2 k2)
  clear h2 k2 c0 c1 c2 c3 c4 c5 c6 c7 c8 c9 c10 c11 c12 c13 c14 c15 c16
  go_wp2_with fail
  go_region_held3 (fun wz => wz.cell? ⟨x, 5, none⟩ = some (.int .i64 v) ∧ wz.cell? ⟨x, 4, none⟩ = some (.int .i64 i4))
    (first | (exact ⟨d5, d4⟩) | (exact ⟨e5, e4⟩))
    (first | (go_at_call 72; go_split_ands; with_reducible refine Go.Calls.mono (oEither_any W0 _ x g N _ _ i0 i1 i2 i3 i4 v i6 i7 i8 i9 i10 i11 bt b rc rv td _ 7 16 H2.out.1.drew) ?_; rintro e w4 ⟨rfl, h4, k4⟩; obtain ⟨⟨e0, e1, e2, e3, e4, e5, e6, e7, e8, e9, e10, e11, e12, e13, e14, e15, e16⟩, -, ex⟩ := h4.open; have H4 := Lib.hid (And.intro h4 k4); clear h4 k4))
  all_goals
    go_wp2_with fail
    go_end0
    exact ⟨rfl, by have := H4.out.1; simp only [beq_iff_eq] at this; rwa [HP.out] at this, (H2.out.2.trans (keptF (Below.refl _ _).drew)).trans H4.out.2⟩

set_option maxRecDepth 100000 in
set_option maxHeartbeats 2000000 in
theorem oLink_any (W0 w : World) (x : Nat) (g : Option Nat) (N st : Int) (xs : List Int) (i0 i1 i2 i3 i4 i5 i6 i7 i8 i9 i10 i11 : Int) (bt : Value) (b : Nat) (rc rv : Int) (td : Bool) (r1 : -9223372036854775808 ≤ i2) (r2 : i2 ≤ 9223372036854775807) (q : Int) (hq : (if swapIs xs 1 i5 = true then 1 else 0) = q) (h : OT W0 w x g N st xs i0 i1 i2 i3 i4 i5 i6 i7 i8 i9 i10 i11 bt b rc rv td) (s1 : st < 1000000) :
    Calls Try.prog 62 #[.pointer (some ⟨x, 0, none⟩)] w fun e w' => e = .returned (.tuple #[]) ∧ OT W0 w' x g N (st + cntAt xs 1) (cellSwap xs 1 i5 i2) i0 10 i2 i3 i4 q i6 i7 i8 i9 i10 i11 bt b rc rv td ∧ Kept (FX b g x) w w' := by
  obtain ⟨⟨c0, c1, c2, c3, c4, c5, c6, c7, c8, c9, c10, c11, c12, c13, c14, c15, c16⟩, hf, hx⟩ := h.open
  have hz : 0 ≤ st + cntAt xs (1) := by have := h.2.2.2.2; have := cntAt_rng xs (1); omega
  have H := Lib.hid h
  have HP := Lib.hid hq
  clear hq
  clear hf h
  go_enter Try.func62, Try.ntmps62
  go_wp2_with fail
  have HD := Lib.hid (And.intro H.out.drew (show Kept (FX b g x) w w.drew from keptF (Below.refl _ _).drew))
  go_region_held3 (fun wz => wz.cell? ⟨x, 13, none⟩ = some (.pointer (some ⟨b, 0, none⟩)) ∧ wz.cell? ⟨x, 5, none⟩ = some (.int .i64 i5) ∧ wz.cell? ⟨x, 2, none⟩ = some (.int .i64 i2))
    (first | (exact ⟨c13, c5, c2⟩) | (exact ⟨k13, k5, k2⟩) | (exact ⟨d13, d5, d2⟩) | (exact ⟨e13, e5, e2⟩) | (exact ⟨f13, f5, f2⟩) )
    (first | (go_at_call 74; go_split_ands; with_reducible refine Go.Calls.mono (Swap_f HD.out.1.ms (1) (i5) (i2) s1) ?_; rintro e w3 ⟨rfl, m3, k3⟩; have h3 := HD.out.1.mem m3 k3 (.inl rfl) hz; obtain ⟨⟨d0, d1, d2, d3, d4, d5, d6, d7, d8, d9, d10, d11, d12, d13, d14, d15, d16⟩, -, dx⟩ := h3.open; have H3 := Lib.hid (And.intro h3 k3); clear h3 k3 m3) | (go_at_call 73; go_split_ands; with_reducible refine Go.Calls.mono (oPutB_any _ _ _) ?_; rintro e w' ⟨rfl, rfl⟩))
  all_goals
    have f5 := blkF H3.out.1.blk 5
    have f1 := blkF H3.out.1.blk 1
    have KK := Lib.hid (HD.out.2.trans (kxF H3.out.2))
    clear c0 c1 c2 c3 c4 c5 c6 c7 c8 c9 c10 c11 c12 c13 c14 c15 c16
    cases hsw : swapIs xs 1 i5
    · have eq := HP.out
      rw [hsw] at eq
      have H5 := Lib.hid eq
      clear eq hsw
      go_wp2
      go_end0
      exact ⟨rfl, by rw [← H5.out]; exact (H3.out.1.set5 0).set1 10, (KK.out.trans (kx _ _ _ _ _ _)).trans (kx _ _ _ _ _ _)⟩
    · have eq := HP.out
      rw [hsw] at eq
      have H5 := Lib.hid eq
      clear eq hsw
      go_wp2
      go_end0
      exact ⟨rfl, by rw [← H5.out]; exact ((H3.out.1.set5 0).set5 1).set1 10, ((KK.out.trans (kx _ _ _ _ _ _)).trans (kx _ _ _ _ _ _)).trans (kx _ _ _ _ _ _)⟩

end Go.Proofs.Ytcellcjojfbajaa
