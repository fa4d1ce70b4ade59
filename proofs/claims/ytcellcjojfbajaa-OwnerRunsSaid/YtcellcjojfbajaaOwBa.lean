/- What is done at each place of package owner. -/
import Derived.Test.YtcellcjojfbajaaOwA
namespace Go.Proofs.Ytcellcjojfbajaa
set_option linter.unusedSimpArgs false
set_option linter.unusedVariables false
open Go.RowKit
open Go.ChangeShapes Go.WideShapes Go.ChangeAt

set_option maxRecDepth 100000 in
set_option maxHeartbeats 2000000 in
theorem oPublish_any (W0 w : World) (x : Nat) (g : Option Nat) (N st : Int) (xs : List Int) (i0 i1 i2 i3 i4 i5 i6 i7 i8 i9 i10 i11 : Int) (bt : Value) (b : Nat) (rc rv : Int) (td : Bool) (r1 : -9223372036854775808 ≤ i2) (r2 : i2 ≤ 9223372036854775807) (p : Int) (hp : (if swapIs xs (i2) 0 = true then 5 else 3) = p) (h : OT W0 w x g N st xs i0 i1 i2 i3 i4 i5 i6 i7 i8 i9 i10 i11 bt b rc rv td) (s1 : st < 1000000) :
    Calls Try.prog 55 #[.pointer (some ⟨x, 0, none⟩)] w fun e w' => e = .returned (.tuple #[]) ∧ OT W0 w' x g N (st + cntAt xs (i2)) (cellSwap xs (i2) 0 i4) i0 p i2 i3 i4 i5 i6 i7 i8 i9 i10 i11 bt b rc rv td ∧ Kept (FX b g x) w w' := by
  obtain ⟨⟨c0, c1, c2, c3, c4, c5, c6, c7, c8, c9, c10, c11, c12, c13, c14, c15, c16⟩, hf, hx⟩ := h.open
  have hz : 0 ≤ st + cntAt xs (i2) := by have := h.2.2.2.2; have := cntAt_rng xs (i2); omega
  have H := Lib.hid h
  have HP := Lib.hid hp
  clear hp
  have hw : IntKind.i64.wrap i2 = i2 := by rw [IntKind.wrap_i64]; omega
  clear hf h
  go_enter Try.func55, Try.ntmps55
  go_wp2_with fail
  have HD := Lib.hid (And.intro H.out.drew (show Kept (FX b g x) w w.drew from keptF (Below.refl _ _).drew))
  go_region_held3 (fun wz => wz.cell? ⟨x, 13, none⟩ = some (.pointer (some ⟨b, 0, none⟩)) ∧ wz.cell? ⟨x, 2, none⟩ = some (.int .i64 i2) ∧ wz.cell? ⟨x, 4, none⟩ = some (.int .i64 i4))
    (first | (exact ⟨c13, c2, c4⟩) | (exact ⟨k13, k2, k4⟩) | (exact ⟨d13, d2, d4⟩) | (exact ⟨e13, e2, e4⟩) | (exact ⟨f13, f2, f4⟩) )
    (first | (go_at_call 74; go_split_ands; with_reducible refine Go.Calls.mono (Swap_f HD.out.1.ms (i2) (0) (i4) s1) ?_; rintro e w3 ⟨rfl, m3, k3⟩; have h3 := HD.out.1.mem m3 k3 (.inl rfl) hz; obtain ⟨⟨d0, d1, d2, d3, d4, d5, d6, d7, d8, d9, d10, d11, d12, d13, d14, d15, d16⟩, -, dx⟩ := h3.open; have H3 := Lib.hid (And.intro h3 k3); clear h3 k3 m3) | (go_at_call 73; go_split_ands; with_reducible refine Go.Calls.mono (oPutB_any _ _ _) ?_; rintro e w' ⟨rfl, rfl⟩) | (go_at_call 72; go_split_ands; with_reducible refine Go.Calls.mono (oEither_any W0 _ x g N _ _ i0 i1 i2 i3 i4 i5 i6 i7 i8 i9 i10 i11 bt b rc rv td _ 5 3 H3.out.1) ?_; rintro e w4 ⟨rfl, h4, k4⟩; obtain ⟨⟨e0, e1, e2, e3, e4, e5, e6, e7, e8, e9, e10, e11, e12, e13, e14, e15, e16⟩, -, ex⟩ := h4.open; have H4 := Lib.hid (And.intro h4 k4); clear h4 k4))
  all_goals
    go_wp2_with fail
    go_end0
    exact ⟨rfl, by have := H4.out.1; rwa [HP.out] at this, (HD.out.2.trans (kxF H3.out.2)).trans H4.out.2⟩

set_option maxRecDepth 100000 in
set_option maxHeartbeats 2000000 in
theorem oDrop_any (W0 w : World) (x : Nat) (g : Option Nat) (N st : Int) (xs : List Int) (i0 i1 i2 i3 i4 i5 i6 i7 i8 i9 i10 i11 : Int) (bt : Value) (b : Nat) (rc rv : Int) (td : Bool) (r1 : -9223372036854775808 ≤ i2) (r2 : i2 ≤ 9223372036854775807)  (h : OT W0 w x g N st xs i0 i1 i2 i3 i4 i5 i6 i7 i8 i9 i10 i11 bt b rc rv td) (s1 : st < 1000000) :
    Calls Try.prog 69 #[.pointer (some ⟨x, 0, none⟩)] w fun e w' => e = .returned (.tuple #[]) ∧ OT W0 w' x g N (st + cntAt xs (wrap64 (i2 + 1))) (cellSet xs (wrap64 (i2 + 1)) 0) i0 11 i2 i3 i4 i5 i6 i7 i8 i9 i10 i11 bt b rc rv td ∧ Kept (FX b g x) w w' := by
  obtain ⟨⟨c0, c1, c2, c3, c4, c5, c6, c7, c8, c9, c10, c11, c12, c13, c14, c15, c16⟩, hf, hx⟩ := h.open
  have hz : 0 ≤ st + cntAt xs (wrap64 (i2 + 1)) := by have := h.2.2.2.2; have := cntAt_rng xs (wrap64 (i2 + 1)); omega
  have H := Lib.hid h
  have hw : IntKind.i64.wrap (i2 + 1) = wrap64 (i2 + 1) := by rw [IntKind.wrap_i64]; unfold wrap64; omega
  clear hf h
  go_enter Try.func69, Try.ntmps69
  go_wp2_with fail
  have HD := Lib.hid (And.intro H.out.drew (show Kept (FX b g x) w w.drew from keptF (Below.refl _ _).drew))
  go_region_held3 (fun wz => wz.cell? ⟨x, 13, none⟩ = some (.pointer (some ⟨b, 0, none⟩)) ∧ wz.cell? ⟨x, 2, none⟩ = some (.int .i64 i2))
    (first | (exact ⟨c13, c2⟩) | (exact ⟨k13, k2⟩) | (exact ⟨d13, d2⟩) | (exact ⟨e13, e2⟩) | (exact ⟨f13, f2⟩) )
    (first | (go_at_call 13; go_split_ands; with_reducible refine Go.Calls.mono (Store_f HD.out.1.ms (wrap64 (i2 + 1)) (0) s1) ?_; rintro e w3 ⟨rfl, m3, k3⟩; have h3 := HD.out.1.mem m3 k3 (.inl rfl) hz; obtain ⟨⟨d0, d1, d2, d3, d4, d5, d6, d7, d8, d9, d10, d11, d12, d13, d14, d15, d16⟩, -, dx⟩ := h3.open; have fd1 := blkF h3.blk 1; have H3 := Lib.hid (And.intro h3 k3); clear h3 k3 m3))
  all_goals
    go_wp2_with fail
    go_end0
    exact ⟨rfl, H3.out.1.set1 11, (HD.out.2.trans (kxF H3.out.2)).trans (kx _ _ _ _ _ _)⟩

set_option maxRecDepth 100000 in
set_option maxHeartbeats 2000000 in
theorem oClosed_any (W0 w : World) (x : Nat) (g : Option Nat) (N st : Int) (xs : List Int) (i0 i1 i2 i3 i4 i5 i6 i7 i8 i9 i10 i11 : Int) (bt : Value) (b : Nat) (rc rv : Int) (td : Bool) (r1 : -9223372036854775808 ≤ i2) (r2 : i2 ≤ 9223372036854775807) (v p : Int) (hv : cellAt xs (wrap64 (i2 + 1)) = v) (hp : (if v = 0 then 4 else 3) = p) (h : OT W0 w x g N st xs i0 i1 i2 i3 i4 i5 i6 i7 i8 i9 i10 i11 bt b rc rv td) (s1 : st < 1000000) :
    Calls Try.prog 56 #[.pointer (some ⟨x, 0, none⟩)] w fun e w' => e = .returned (.tuple #[]) ∧ OT W0 w' x g N (st + cntAt xs (wrap64 (i2 + 1))) xs i0 p i2 i3 i4 v i6 i7 i8 i9 i10 i11 bt b rc rv td ∧ Kept (FX b g x) w w' := by
  obtain ⟨⟨c0, c1, c2, c3, c4, c5, c6, c7, c8, c9, c10, c11, c12, c13, c14, c15, c16⟩, hf, hx⟩ := h.open
  have hz : 0 ≤ st + cntAt xs (wrap64 (i2 + 1)) := by have := h.2.2.2.2; have := cntAt_rng xs (wrap64 (i2 + 1)); omega
  have H := Lib.hid h
  have HP := Lib.hid hp
  clear hp
  have HV := Lib.hid hv
  clear hv
  have hw : IntKind.i64.wrap (i2 + 1) = wrap64 (i2 + 1) := by rw [IntKind.wrap_i64]; unfold wrap64; omega
  clear hf h
  go_enter Try.func56, Try.ntmps56
  go_wp2_with fail
  refine (oLoad_any W0 w x g N st xs i0 i1 i2 i3 i4 i5 i6 i7 i8 i9 i10 i11 bt b rc rv td (wrap64 (i2 + 1)) v H.out HV.out s1).mono ?_
  rintro e w2 ⟨rfl, h2, k2⟩
  have f1 := blkF h2.blk 1
  obtain ⟨⟨d0, d1, d2, d3, d4, d5, d6, d7, d8, d9, d10, d11, d12, d13, d14, d15, d16⟩, -, dx⟩ := h2.open
  have H2 := Lib.hid (And.intro h2 k2)
  clear h2 k2 c0 c1 c2 c3 c4 c5 c6 c7 c8 c9 c10 c11 c12 c13 c14 c15 c16
  go_wp2_with fail
  refine (oEither_any W0 _ x g N _ _ i0 i1 i2 i3 i4 v i6 i7 i8 i9 i10 i11 bt b rc rv td _ 4 3 H2.out.1).mono ?_
  rintro e w4 ⟨rfl, h4, k4⟩
  have H4 := Lib.hid (And.intro h4 k4)
  clear h4 k4
  go_wp2
  go_end0
  exact ⟨rfl, by have := H4.out.1; simp only [beq_iff_eq] at this; rwa [HP.out] at this, H2.out.2.trans H4.out.2⟩

set_option maxRecDepth 100000 in
set_option maxHeartbeats 2000000 in
theorem oWait_any (W0 w : World) (x : Nat) (g : Option Nat) (N st : Int) (xs : List Int) (i0 i1 i2 i3 i4 i5 i6 i7 i8 i9 i10 i11 : Int) (bt : Value) (b : Nat) (rc rv : Int) (td : Bool) (r1 : -9223372036854775808 ≤ i2) (r2 : i2 ≤ 9223372036854775807) (v p : Int) (hv : cellAt xs (i2) = v) (hp : (if v = i4 then 12 else 14) = p) (h : OT W0 w x g N st xs i0 i1 i2 i3 i4 i5 i6 i7 i8 i9 i10 i11 bt b rc rv td) (s1 : st < 1000000) :
    Calls Try.prog 64 #[.pointer (some ⟨x, 0, none⟩)] w fun e w' => e = .returned (.tuple #[]) ∧ OT W0 w' x g N (st + cntAt xs (i2)) xs i0 p i2 i3 i4 v i6 i7 i8 i9 i10 i11 bt b rc rv td ∧ Kept (FX b g x) w w' := by
  obtain ⟨⟨c0, c1, c2, c3, c4, c5, c6, c7, c8, c9, c10, c11, c12, c13, c14, c15, c16⟩, hf, hx⟩ := h.open
  have hz : 0 ≤ st + cntAt xs (i2) := by have := h.2.2.2.2; have := cntAt_rng xs (i2); omega
  have H := Lib.hid h
  have HP := Lib.hid hp
  clear hp
  have HV := Lib.hid hv
  clear hv
  have hw : IntKind.i64.wrap i2 = i2 := by rw [IntKind.wrap_i64]; omega
  clear hf h
  go_enter Try.func64, Try.ntmps64
  go_wp2_with fail
  refine (oLoad_any W0 w x g N st xs i0 i1 i2 i3 i4 i5 i6 i7 i8 i9 i10 i11 bt b rc rv td (i2) v H.out HV.out s1).mono ?_
  rintro e w2 ⟨rfl, h2, k2⟩
  have f1 := blkF h2.blk 1
  obtain ⟨⟨d0, d1, d2, d3, d4, d5, d6, d7, d8, d9, d10, d11, d12, d13, d14, d15, d16⟩, -, dx⟩ := h2.open
  have H2 := Lib.hid (And.intro h2 k2)
  clear h2 k2 c0 c1 c2 c3 c4 c5 c6 c7 c8 c9 c10 c11 c12 c13 c14 c15 c16
  go_wp2_with fail
  go_region_held3 (fun wz => wz.cell? ⟨x, 5, none⟩ = some (.int .i64 v) ∧ wz.cell? ⟨x, 4, none⟩ = some (.int .i64 i4))
    (first | (exact ⟨d5, d4⟩) | (exact ⟨e5, e4⟩))
    (first | (go_at_call 72; go_split_ands; with_reducible refine Go.Calls.mono (oEither_any W0 _ x g N _ _ i0 i1 i2 i3 i4 v i6 i7 i8 i9 i10 i11 bt b rc rv td _ 12 14 H2.out.1.drew) ?_; rintro e w4 ⟨rfl, h4, k4⟩; obtain ⟨⟨e0, e1, e2, e3, e4, e5, e6, e7, e8, e9, e10, e11, e12, e13, e14, e15, e16⟩, -, ex⟩ := h4.open; have H4 := Lib.hid (And.intro h4 k4); clear h4 k4))
  all_goals
    go_wp2_with fail
    go_end0
    exact ⟨rfl, by have := H4.out.1; simp only [beq_iff_eq] at this; rwa [HP.out] at this, (H2.out.2.trans (keptF (Below.refl _ _).drew)).trans H4.out.2⟩

set_option maxRecDepth 100000 in
set_option maxHeartbeats 2000000 in
theorem oTake_any (W0 w : World) (x : Nat) (g : Option Nat) (N st : Int) (xs : List Int) (i0 i1 i2 i3 i4 i5 i6 i7 i8 i9 i10 i11 : Int) (bt : Value) (b : Nat) (rc rv : Int) (td : Bool) (r1 : -9223372036854775808 ≤ i2) (r2 : i2 ≤ 9223372036854775807) (p q : Int) (hp : (if swapIs xs 0 0 = true then 20 else 11) = p) (hq : (if swapIs xs 0 0 = true then 0 else i11) = q) (h : OT W0 w x g N st xs i0 i1 i2 i3 i4 i5 i6 i7 i8 i9 i10 i11 bt b rc rv td) (s1 : st < 1000000) :
    Calls Try.prog 66 #[.pointer (some ⟨x, 0, none⟩)] w fun e w' => e = .returned (.tuple #[]) ∧ OT W0 w' x g N (st + cntAt xs 0) (cellSwap xs 0 0 (wrap64 (i0 + 1))) i0 p i2 i3 i4 i5 i6 i7 i8 i9 i10 q bt b rc rv td ∧ Kept (FX b g x) w w' := by
  obtain ⟨⟨c0, c1, c2, c3, c4, c5, c6, c7, c8, c9, c10, c11, c12, c13, c14, c15, c16⟩, hf, hx⟩ := h.open
  have hz : 0 ≤ st + cntAt xs (0) := by have := h.2.2.2.2; have := cntAt_rng xs (0); omega
  have H := Lib.hid h
  have HP := Lib.hid (And.intro hp hq)
  clear hp hq
  have hw : IntKind.i64.wrap (i0 + 1) = wrap64 (i0 + 1) := by rw [IntKind.wrap_i64]; unfold wrap64; omega
  clear hf h
  go_enter Try.func66, Try.ntmps66
  go_wp2_with fail
  have HD := Lib.hid (And.intro H.out.drew (show Kept (FX b g x) w w.drew from keptF (Below.refl _ _).drew))
  go_region_held3 (fun wz => wz.cell? ⟨x, 13, none⟩ = some (.pointer (some ⟨b, 0, none⟩)) ∧ wz.cell? ⟨x, 0, none⟩ = some (.int .i64 i0))
    (first | (exact ⟨c13, c0⟩) | (exact ⟨k13, k0⟩) | (exact ⟨d13, d0⟩) | (exact ⟨e13, e0⟩) | (exact ⟨f13, f0⟩) )
    (first | (go_at_call 74; go_split_ands; with_reducible refine Go.Calls.mono (Swap_f HD.out.1.ms (0) (0) (wrap64 (i0 + 1)) s1) ?_; rintro e w3 ⟨rfl, m3, k3⟩; have h3 := HD.out.1.mem m3 k3 (.inl rfl) hz; obtain ⟨⟨d0, d1, d2, d3, d4, d5, d6, d7, d8, d9, d10, d11, d12, d13, d14, d15, d16⟩, -, dx⟩ := h3.open; have H3 := Lib.hid (And.intro h3 k3); clear h3 k3 m3) | (go_at_call 73; go_split_ands; with_reducible refine Go.Calls.mono (oPutB_any _ _ _) ?_; rintro e w' ⟨rfl, rfl⟩))
  all_goals
    clear d0 d1 d2 d3 d4 d5 d6 d7 d8 d9 d10 d11 d12 d13 d14 d15 d16 c0 c1 c2 c3 c4 c5 c6 c7 c8 c9 c10 c11 c12 c13 c14 c15 c16
    go_wp2_with fail
    refine (oEither_any W0 _ x g N _ _ i0 i1 i2 i3 i4 i5 i6 i7 i8 i9 i10 i11 bt b rc rv td _ 20 11 H3.out.1).mono ?_
    rintro e w4 ⟨rfl, h4, k4⟩
    have f11 := blkF h4.blk 11
    obtain ⟨⟨e0, e1, e2, e3, e4, e5, e6, e7, e8, e9, e10, e11, e12, e13, e14, e15, e16⟩, -, ex⟩ := h4.open
    have H4 := Lib.hid (And.intro h4 k4)
    clear h4 k4
    have KK := Lib.hid ((HD.out.2.trans (kxF H3.out.2)).trans H4.out.2)
    cases hsw : swapIs xs 0 0
    · have h5 := H4.out.1
      have ep := HP.out.1
      have eq := HP.out.2
      rw [hsw] at h5 ep eq
      have H5 := Lib.hid (And.intro h5 (And.intro ep eq))
      clear h5 ep eq hsw
      go_wp2
      go_end0
      exact ⟨rfl, by rw [← H5.out.2.1, ← H5.out.2.2]; exact H5.out.1, KK.out⟩
    · have h5 := H4.out.1
      have ep := HP.out.1
      have eq := HP.out.2
      rw [hsw] at h5 ep eq
      have H5 := Lib.hid (And.intro h5 (And.intro ep eq))
      clear h5 ep eq hsw
      go_wp2
      go_end0
      exact ⟨rfl, by rw [← H5.out.2.1, ← H5.out.2.2]; exact H5.out.1.set11 0, KK.out.trans (kx _ _ _ _ _ _)⟩

set_option maxRecDepth 100000 in
set_option maxHeartbeats 2000000 in
theorem oAlloc_any (W0 w : World) (x : Nat) (g : Option Nat) (N st : Int) (xs : List Int) (i0 i1 i2 i3 i4 i5 i6 i7 i8 i9 i10 i11 : Int) (bt : Value) (b : Nat) (rc rv : Int) (td : Bool) (r1 : -9223372036854775808 ≤ i2) (r2 : i2 ≤ 9223372036854775807) (p q : Int) (hp : (if allocOk xs N 5 = true then 2 else i1) = p) (hq : (if allocOk xs N 5 = true then (xs.length : Int) else i2) = q) (h : OT W0 w x g N st xs i0 i1 i2 i3 i4 i5 i6 i7 i8 i9 i10 i11 bt b rc rv td) (s1 : st < 1000000) :
    Calls Try.prog 54 #[.pointer (some ⟨x, 0, none⟩)] w fun e w' => e = .returned (.tuple #[]) ∧ ∃ g', OT W0 w' x g' N (st + allocCnt xs N 5) (allocXs xs N 5) i0 p q i3 i4 i5 i6 i7 i8 i9 i10 i11 bt b rc rv td ∧ Kept (FX b g x) w w' ∧ (g' = g ∨ ∃ k, g' = some k ∧ w.heap.size ≤ k) := by
  obtain ⟨⟨c0, c1, c2, c3, c4, c5, c6, c7, c8, c9, c10, c11, c12, c13, c14, c15, c16⟩, hf, hx⟩ := h.open
  have hz : 0 ≤ st + cntAt xs (0) := by have := h.2.2.2.2; have := cntAt_rng xs (0); omega
  have H := Lib.hid h
  have HP := Lib.hid (And.intro hp hq)
  clear hp hq
  have hza : 0 ≤ st + allocCnt xs N 5 := by have := H.out.2.2.2.2; unfold allocCnt; split <;> omega
  have HZ := Lib.hid hza
  clear hza
  clear hf h
  go_enter Try.func54, Try.ntmps54
  go_wp2_with fail
  refine (Alloc_f H.out.ms 5 s1).mono ?_
  rintro e w2 ⟨g', rfl, m2, hg, k2⟩
  have h2 := H.out.mem m2 k2 hg HZ.out
  have f1 := blkF h2.blk 1
  have f2 := blkF h2.blk 2
  clear c0 c1 c2 c3 c4 c5 c6 c7 c8 c9 c10 c11 c12 c13 c14 c15 c16
  obtain ⟨⟨d0, d1, d2, d3, d4, d5, d6, d7, d8, d9, d10, d11, d12, d13, d14, d15, d16⟩, -, dx⟩ := h2.open
  have H2 := Lib.hid (And.intro h2 (And.intro k2 hg))
  clear h2 k2 m2 hg
  cases hok : allocOk xs N 5
  · have e1 : allocErr xs N 5 = 11 := by unfold allocErr; rw [hok]; rfl
    have ep := HP.out.1
    have eq := HP.out.2
    rw [hok] at ep eq
    rw [e1]
    have H5 := Lib.hid (And.intro ep eq)
    clear ep eq hok e1
    go_wp2
    go_end0
    exact ⟨rfl, g', by rw [← H5.out.1, ← H5.out.2]; exact H2.out.1, kxF H2.out.2.1, H2.out.2.2⟩
  · have e1 : allocErr xs N 5 = 0 := by unfold allocErr; rw [hok]; rfl
    have e2 : allocAt xs N 5 = xs.length := by unfold allocAt; rw [hok]; rfl
    have ep := HP.out.1
    have eq := HP.out.2
    rw [hok] at ep eq
    rw [e1, e2]
    have H5 := Lib.hid (And.intro ep eq)
    clear ep eq hok e1 e2
    go_wp2
    go_end0
    exact ⟨rfl, g', by rw [← H5.out.1, ← H5.out.2]; exact (H2.out.1.set2 _).set1 2, ((kxF H2.out.2.1).trans (kx _ _ _ _ _ _)).trans (kx _ _ _ _ _ _), H2.out.2.2⟩

end Go.Proofs.Ytcellcjojfbajaa
