/- What is done at each place of package owner. -/
import Derived.Test.YtcellcjojfbajaaOwA
namespace Go.Proofs.Ytcellcjojfbajaa
set_option linter.unusedSimpArgs false
set_option linter.unusedVariables false
open Go.RowKit
open Go.ChangeShapes Go.WideShapes Go.ChangeAt

set_option maxRecDepth 100000 in
set_option maxHeartbeats 2000000 in
theorem oOpen_any (W0 w : World) (x : Nat) (g : Option Nat) (N st : Int) (xs : List Int) (i0 i1 i2 i3 i4 i5 i6 i7 i8 i9 i10 i11 : Int) (bt : Value) (b : Nat) (rc rv : Int) (td : Bool) (r1 : -9223372036854775808 ≤ i2) (r2 : i2 ≤ 9223372036854775807)  (h : OT W0 w x g N st xs i0 i1 i2 i3 i4 i5 i6 i7 i8 i9 i10 i11 bt b rc rv td) (s1 : st < 1000000) :
    Calls Try.prog 57 #[.pointer (some ⟨x, 0, none⟩)] w fun e w' => e = .returned (.tuple #[]) ∧ OT W0 w' x g N (st + cntAt xs (i2)) (cellSet xs (i2) i4) i0 5 i2 i3 i4 i5 i6 i7 i8 i9 i10 i11 bt b rc rv td ∧ Kept (FX b g x) w w' := by
  obtain ⟨⟨c0, c1, c2, c3, c4, c5, c6, c7, c8, c9, c10, c11, c12, c13, c14, c15, c16⟩, hf, hx⟩ := h.open
  have hz : 0 ≤ st + cntAt xs (i2) := by have := h.2.2.2.2; have := cntAt_rng xs (i2); omega
  have H := Lib.hid h
  have hw : IntKind.i64.wrap i2 = i2 := by rw [IntKind.wrap_i64]; omega
  clear hf h
  go_enter Try.func57, Try.ntmps57
  go_wp2_with fail
  have HD := Lib.hid (And.intro H.out.drew (show Kept (FX b g x) w w.drew from keptF (Below.refl _ _).drew))
  go_region_held3 (fun wz => wz.cell? ⟨x, 13, none⟩ = some (.pointer (some ⟨b, 0, none⟩)) ∧ wz.cell? ⟨x, 2, none⟩ = some (.int .i64 i2) ∧ wz.cell? ⟨x, 4, none⟩ = some (.int .i64 i4))
    (first | (exact ⟨c13, c2, c4⟩) | (exact ⟨k13, k2, k4⟩) | (exact ⟨d13, d2, d4⟩) | (exact ⟨e13, e2, e4⟩) | (exact ⟨f13, f2, f4⟩) )
    (first | (go_at_call 13; go_split_ands; with_reducible refine Go.Calls.mono (Store_f HD.out.1.ms (i2) (i4) s1) ?_; rintro e w3 ⟨rfl, m3, k3⟩; have h3 := HD.out.1.mem m3 k3 (.inl rfl) hz; obtain ⟨⟨d0, d1, d2, d3, d4, d5, d6, d7, d8, d9, d10, d11, d12, d13, d14, d15, d16⟩, -, dx⟩ := h3.open; have fd1 := blkF h3.blk 1; have H3 := Lib.hid (And.intro h3 k3); clear h3 k3 m3))
  all_goals
    go_wp2_with fail
    go_end0
    exact ⟨rfl, H3.out.1.set1 5, (HD.out.2.trans (kxF H3.out.2)).trans (kx _ _ _ _ _ _)⟩

set_option maxRecDepth 100000 in
set_option maxHeartbeats 2000000 in
theorem oMark_any (W0 w : World) (x : Nat) (g : Option Nat) (N st : Int) (xs : List Int) (i0 i1 i2 i3 i4 i5 i6 i7 i8 i9 i10 i11 : Int) (bt : Value) (b : Nat) (rc rv : Int) (td : Bool) (r1 : -9223372036854775808 ≤ i2) (r2 : i2 ≤ 9223372036854775807)  (h : OT W0 w x g N st xs i0 i1 i2 i3 i4 i5 i6 i7 i8 i9 i10 i11 bt b rc rv td) (s1 : st < 1000000) :
    Calls Try.prog 63 #[.pointer (some ⟨x, 0, none⟩)] w fun e w' => e = .returned (.tuple #[]) ∧ OT W0 w' x g N (st + cntAt xs (wrap64 (i2 + 1))) (cellSet xs (wrap64 (i2 + 1)) i5) i0 11 i2 i3 i4 i5 i6 i7 i8 i9 i10 i11 bt b rc rv td ∧ Kept (FX b g x) w w' := by
  obtain ⟨⟨c0, c1, c2, c3, c4, c5, c6, c7, c8, c9, c10, c11, c12, c13, c14, c15, c16⟩, hf, hx⟩ := h.open
  have hz : 0 ≤ st + cntAt xs (wrap64 (i2 + 1)) := by have := h.2.2.2.2; have := cntAt_rng xs (wrap64 (i2 + 1)); omega
  have H := Lib.hid h
  have hw : IntKind.i64.wrap (i2 + 1) = wrap64 (i2 + 1) := by rw [IntKind.wrap_i64]; unfold wrap64; omega
  clear hf h
  go_enter Try.func63, Try.ntmps63
  go_wp2_with fail
  have HD := Lib.hid (And.intro H.out.drew (show Kept (FX b g x) w w.drew from keptF (Below.refl _ _).drew))
  go_region_held3 (fun wz => wz.cell? ⟨x, 13, none⟩ = some (.pointer (some ⟨b, 0, none⟩)) ∧ wz.cell? ⟨x, 2, none⟩ = some (.int .i64 i2) ∧ wz.cell? ⟨x, 5, none⟩ = some (.int .i64 i5))
    (first | (exact ⟨c13, c2, c5⟩) | (exact ⟨k13, k2, k5⟩) | (exact ⟨d13, d2, d5⟩) | (exact ⟨e13, e2, e5⟩) | (exact ⟨f13, f2, f5⟩) )
    (first | (go_at_call 13; go_split_ands; with_reducible refine Go.Calls.mono (Store_f HD.out.1.ms (wrap64 (i2 + 1)) (i5) s1) ?_; rintro e w3 ⟨rfl, m3, k3⟩; have h3 := HD.out.1.mem m3 k3 (.inl rfl) hz; obtain ⟨⟨d0, d1, d2, d3, d4, d5, d6, d7, d8, d9, d10, d11, d12, d13, d14, d15, d16⟩, -, dx⟩ := h3.open; have fd1 := blkF h3.blk 1; have H3 := Lib.hid (And.intro h3 k3); clear h3 k3 m3))
  all_goals
    go_wp2_with fail
    go_end0
    exact ⟨rfl, H3.out.1.set1 11, (HD.out.2.trans (kxF H3.out.2)).trans (kx _ _ _ _ _ _)⟩

set_option maxRecDepth 100000 in
set_option maxHeartbeats 2000000 in
theorem oLock_any (W0 w : World) (x : Nat) (g : Option Nat) (N st : Int) (xs : List Int) (i0 i1 i2 i3 i4 i5 i6 i7 i8 i9 i10 i11 : Int) (bt : Value) (b : Nat) (rc rv : Int) (td : Bool) (r1 : -9223372036854775808 ≤ i2) (r2 : i2 ≤ 9223372036854775807) (v p : Int) (hv : cellAt xs (0) = v) (hp : (if v = 0 then 13 else 11) = p) (h : OT W0 w x g N st xs i0 i1 i2 i3 i4 i5 i6 i7 i8 i9 i10 i11 bt b rc rv td) (s1 : st < 1000000) :
    Calls Try.prog 65 #[.pointer (some ⟨x, 0, none⟩)] w fun e w' => e = .returned (.tuple #[]) ∧ OT W0 w' x g N (st + cntAt xs (0)) xs i0 p i2 i3 i4 v i6 i7 i8 i9 i10 i11 bt b rc rv td ∧ Kept (FX b g x) w w' := by
  obtain ⟨⟨c0, c1, c2, c3, c4, c5, c6, c7, c8, c9, c10, c11, c12, c13, c14, c15, c16⟩, hf, hx⟩ := h.open
  have hz : 0 ≤ st + cntAt xs (0) := by have := h.2.2.2.2; have := cntAt_rng xs (0); omega
  have H := Lib.hid h
  have HP := Lib.hid hp
  clear hp
  have HV := Lib.hid hv
  clear hv
  clear hf h
  go_enter Try.func65, Try.ntmps65
  go_wp2_with fail
  refine (oLoad_any W0 w x g N st xs i0 i1 i2 i3 i4 i5 i6 i7 i8 i9 i10 i11 bt b rc rv td (0) v H.out HV.out s1).mono ?_
  rintro e w2 ⟨rfl, h2, k2⟩
  have f1 := blkF h2.blk 1
  obtain ⟨⟨d0, d1, d2, d3, d4, d5, d6, d7, d8, d9, d10, d11, d12, d13, d14, d15, d16⟩, -, dx⟩ := h2.open
  have H2 := Lib.hid (And.intro h2 k2)
  clear h2 k2 c0 c1 c2 c3 c4 c5 c6 c7 c8 c9 c10 c11 c12 c13 c14 c15 c16
  go_wp2_with fail
  refine (oEither_any W0 _ x g N _ _ i0 i1 i2 i3 i4 v i6 i7 i8 i9 i10 i11 bt b rc rv td _ 13 11 H2.out.1).mono ?_
  rintro e w4 ⟨rfl, h4, k4⟩
  have H4 := Lib.hid (And.intro h4 k4)
  clear h4 k4
  go_wp2
  go_end0
  exact ⟨rfl, by have := H4.out.1; simp only [beq_iff_eq] at this; rwa [HP.out] at this, H2.out.2.trans H4.out.2⟩

set_option maxRecDepth 100000 in
set_option maxHeartbeats 2000000 in
theorem oFront_any (W0 w : World) (x : Nat) (g : Option Nat) (N st : Int) (xs : List Int) (i0 i1 i2 i3 i4 i5 i6 i7 i8 i9 i10 i11 : Int) (bt : Value) (b : Nat) (rc rv : Int) (td : Bool) (r1 : -9223372036854775808 ≤ i2) (r2 : i2 ≤ 9223372036854775807) (v : Int) (hv : cellAt xs 1 = v) (h : OT W0 w x g N st xs i0 i1 i2 i3 i4 i5 i6 i7 i8 i9 i10 i11 bt b rc rv td) (s1 : st < 1000000) :
    Calls Try.prog 60 #[.pointer (some ⟨x, 0, none⟩)] w fun e w' => e = .returned (.tuple #[]) ∧ OT W0 w' x g N (st + cntAt xs 1) xs i0 8 i2 i3 i4 v i6 i7 i8 i9 i10 i11 bt b rc rv td ∧ Kept (FX b g x) w w' := by
  obtain ⟨⟨c0, c1, c2, c3, c4, c5, c6, c7, c8, c9, c10, c11, c12, c13, c14, c15, c16⟩, hf, hx⟩ := h.open
  have hz : 0 ≤ st + cntAt xs (1) := by have := h.2.2.2.2; have := cntAt_rng xs (1); omega
  have H := Lib.hid h
  have HV := Lib.hid hv
  clear hv
  clear hf h
  go_enter Try.func60, Try.ntmps60
  go_wp2_with fail
  refine (oLoad_any W0 w x g N st xs i0 i1 i2 i3 i4 i5 i6 i7 i8 i9 i10 i11 bt b rc rv td (1) v H.out HV.out s1).mono ?_
  rintro e w2 ⟨rfl, h2, k2⟩
  have f1 := blkF h2.blk 1
  obtain ⟨⟨d0, d1, d2, d3, d4, d5, d6, d7, d8, d9, d10, d11, d12, d13, d14, d15, d16⟩, -, dx⟩ := h2.open
  have H2 := Lib.hid (And.intro h2 k2)
  clear h2 k2 c0 c1 c2 c3 c4 c5 c6 c7 c8 c9 c10 c11 c12 c13 c14 c15 c16
  go_wp2
  go_end0
  exact ⟨rfl, H2.out.1.set1 8, H2.out.2.trans (kx _ _ _ _ _ _)⟩

set_option maxRecDepth 100000 in
set_option maxHeartbeats 2000000 in
theorem oRead_any (W0 w : World) (x : Nat) (g : Option Nat) (N st : Int) (xs : List Int) (i0 i1 i2 i3 i4 i5 i6 i7 i8 i9 i10 i11 : Int) (bt : Value) (b : Nat) (rc rv : Int) (td : Bool) (r1 : -9223372036854775808 ≤ i2) (r2 : i2 ≤ 9223372036854775807) (v : Int) (hv : cellAt xs (wrap64 (i2 + 4)) = v) (h : OT W0 w x g N st xs i0 i1 i2 i3 i4 i5 i6 i7 i8 i9 i10 i11 bt b rc rv td) (s1 : st < 1000000) :
    Calls Try.prog 67 #[.pointer (some ⟨x, 0, none⟩)] w fun e w' => e = .returned (.tuple #[]) ∧ OT W0 w' x g N (st + cntAt xs (wrap64 (i2 + 4))) xs i0 0 i2 i3 0 v i6 i7 i8 i9 i10 i11 bt b (wk v) (wv v) true ∧ Kept (FX b g x) w w' := by
  obtain ⟨⟨c0, c1, c2, c3, c4, c5, c6, c7, c8, c9, c10, c11, c12, c13, c14, c15, c16⟩, hf, hx⟩ := h.open
  have hz : 0 ≤ st + cntAt xs (wrap64 (i2 + 4)) := by have := h.2.2.2.2; have := cntAt_rng xs (wrap64 (i2 + 4)); omega
  have H := Lib.hid h
  have HV := Lib.hid hv
  clear hv
  have hw : IntKind.i64.wrap (i2 + 4) = wrap64 (i2 + 4) := by rw [IntKind.wrap_i64]; unfold wrap64; omega
  clear hf h
  go_enter Try.func67, Try.ntmps67
  go_wp2_with fail
  refine (oLoad_any W0 w x g N st xs i0 i1 i2 i3 i4 i5 i6 i7 i8 i9 i10 i11 bt b rc rv td (wrap64 (i2 + 4)) v H.out HV.out s1).mono ?_
  rintro e w2 ⟨rfl, h2, k2⟩
  have f1 := blkF h2.blk 1
  obtain ⟨⟨d0, d1, d2, d3, d4, d5, d6, d7, d8, d9, d10, d11, d12, d13, d14, d15, d16⟩, -, dx⟩ := h2.open
  have H2 := Lib.hid (And.intro h2 k2)
  clear h2 k2 c0 c1 c2 c3 c4 c5 c6 c7 c8 c9 c10 c11 c12 c13 c14 c15 c16
  go_wp2_with fail
  refine (wOfRes_any v _).mono ?_
  rintro e w3 ⟨rfl, hb3⟩
  have h3 := H2.out.1.below hb3
  have f14 := blkF h3.blk 14
  have f15 := blkF h3.blk 15
  have f16 := blkF h3.blk 16
  have f4 := blkF h3.blk 4
  replace f1 := blkF h3.blk 1
  clear d0 d1 d2 d3 d4 d5 d6 d7 d8 d9 d10 d11 d12 d13 d14 d15 d16
  obtain ⟨⟨d0, d1, d2, d3, d4, d5, d6, d7, d8, d9, d10, d11, d12, d13, d14, d15, d16⟩, -, dx⟩ := h3.open
  have H3 := Lib.hid (And.intro h3 (keptF (F := FX b g x) hb3))
  clear h3 hb3
  go_wp2
  go_end0
  exact ⟨rfl, (((H3.out.1.setR _ _).setT true).set4 0).set1 0, (((((H2.out.2.trans H3.out.2).trans (kx _ _ _ _ _ _)).trans (kx _ _ _ _ _ _)).trans (kx _ _ _ _ _ _)).trans (kx _ _ _ _ _ _)).trans (kx _ _ _ _ _ _)⟩

end Go.Proofs.Ytcellcjojfbajaa
