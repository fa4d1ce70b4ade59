/- The closure of Stale: who is not stale. -/
import Derived.Test.YtnpkhkfhlpopbaaListC
import Derived.Test.YtnpkhkfhlpopbaaRef14B
import Derived.BigQuiet
import Derived.Deep.QuietTactic
namespace Go.Proofs.Ytnpkhkfhlpopbaa
set_option linter.unusedSimpArgs false
set_option linter.unusedVariables false
open Go.RowKit
open Go.ChangeShapes Go.WideShapes Go.ChangeAt

set_option maxRecDepth 100000 in
set_option maxHeartbeats 2000000 in
theorem Stale1_a (w : World) (B M A cap : Nat) (ao : Option Addr) (X : List Int) (a age v0 v1 v2 c2 : Int) (h : VAt w B ao cap M X) (hA : w.heap[A]? = some (.cells #[.int .i64 age] 3 (0, 0))) (hl : X.length ≤ 1000) (e0 : recAt X a 0 = v0) (e1 : recAt X a 1 = v1) (e2 : recAt X a 2 = v2) (ec : cellAt X 2 = c2) (g1 : (v1 != 1) = true) :
    Calls Try.prog 42 #[.int .i64 a, .pointer (some ⟨B, 0, none⟩), .pointer (some ⟨A, 0, none⟩)] w fun e w' => e = .returned (.bool true) ∧ Below w.heap.size w w' := by
  have H := Lib.hid (And.intro h (And.intro hA (And.intro hl ec)))
  have er : recV X a = .agg #[.int .i64 v0, .int .i64 v1, .int .i64 v2, .int .i64 (recAt X a 3), .int .i64 (recAt X a 4)] := by unfold recV; rw [e0, e1, e2]
  have qa : ∀ u : World, MapAt u M (recAll X) → (Instr.lookup 67 (.map (some M)) (.int .i64 a) false).run Try.prog u = .ok (.agg #[.int .i64 v0, .int .i64 v1, .int .i64 v2, .int .i64 (recAt X a 3), .int .i64 (recAt X a 4)]) u := fun u hu => by rw [run_lookup_V Try.underlying67 Try.underlying3 rec_zero u M (recAll X) a hu, getV_recD, er]
  obtain ⟨⟨c0, c1⟩, zB⟩ := blk2v h.bl
  have hm := h.mp
  have zA : A < w.heap.size := (Array.getElem?_eq_some_iff.1 hA).1
  clear h hA hl e0 e1 e2 ec er
  obtain ⟨v3, hv3⟩ : ∃ x, recAt X a 3 = x := ⟨_, rfl⟩
  obtain ⟨v4, hv4⟩ : ∃ x, recAt X a 4 = x := ⟨_, rfl⟩
  rw [hv3, hv4] at qa
  clear hv3 hv4
  go_enter Try.func42, Try.ntmps42
  go_upto_region 2 with fail
  generalize hR : w.heap.size = R
  generalize hW : World.alloc _ _ = W
  have AR : W.heap[R]? = some (.cells #[.int .i64 v0, .int .i64 v1, .int .i64 v2, .int .i64 v3, .int .i64 v4] 73 (0, 0)) := by rw [← hW]; exact alloc_at hR _
  have BW : Below w.heap.size w W := by rw [← hW]; go_grown
  have VW := H.out.1.below BW
  have AW := (BW.block A zA).trans H.out.2.1
  have zR : R < W.heap.size := (Array.getElem?_eq_some_iff.1 AR).1
  have zA2 : A < W.heap.size := (Array.getElem?_eq_some_iff.1 AW).1
  have hA0 : W.cell? ⟨A, 0, none⟩ = some (.int .i64 age) := by simp [World.cell?, AW]
  obtain ⟨⟨r0, r1, r2, r3, r4⟩, -⟩ := blk5 AR
  obtain ⟨⟨b0, b1⟩, zB2⟩ := blk2v VW.bl
  have HW := Lib.hid (And.intro BW VW)
  have cA : ∀ u, Below W.heap.size W u → Calls Try.prog 43 #[.agg #[.slice ao X.length cap, .map (some M)], .int .i64 2] u fun e u' => e = .returned (.int .i64 c2) ∧ Below W.heap.size W u' := fun u hu => (at_f _ X _ 2 u (HW.out.2.below hu).sl H.out.2.2.1 (by omega) (by omega)).mono fun e u' ⟨h1, h2⟩ => ⟨by rw [h1, H.out.2.2.2], hu.trans (h2.mono hu.size)⟩
  have cA := Lib.hid cA
  have x0 := Bel.cell zR r0
  have x1 := Bel.cell zR r1
  have x2 := Bel.cell zR r2
  have x3 := Bel.cell zB2 b0
  have x4 := Bel.cell zB2 b1
  have x5 := Bel.cell zA2 hA0
  clear hW hR AR BW VW AW r0 r1 r2 r3 r4 b0 b1 hA0 c0 c1 hm qa zB zA
  refine wp_region_bel (by kernel_rfl) (by kernel_rfl) W (Below.refl _ _).drew ?_
  repeat (go_big_quiet_step ((with_reducible refine (cA.out _ (Bel.h _)).mono ?_; rintro e w9 ⟨rfl, hb⟩; exact ⟨rfl, ⟨w9, hb⟩, rfl⟩)))
  refine wpQuiet_nil ?_
  rintro _ ⟨⟨u, hu⟩, rfl⟩
  have BZ := HW.out.1.trans (hu.mono HW.out.1.size)
  go_wp2
  go_ret
  exact ⟨by first | rfl | (simp; done) | (simp; omega), BZ⟩

set_option maxRecDepth 100000 in
set_option maxHeartbeats 2000000 in
theorem Stale1_b (w : World) (B M A cap : Nat) (ao : Option Addr) (X : List Int) (a age v0 v1 v2 c2 : Int) (h : VAt w B ao cap M X) (hA : w.heap[A]? = some (.cells #[.int .i64 age] 3 (0, 0))) (hl : X.length ≤ 1000) (e0 : recAt X a 0 = v0) (e1 : recAt X a 1 = v1) (e2 : recAt X a 2 = v2) (ec : cellAt X 2 = c2) (g1 : (v1 != 1) = false) (g0 : (v0 != 0) = true) :
    Calls Try.prog 42 #[.int .i64 a, .pointer (some ⟨B, 0, none⟩), .pointer (some ⟨A, 0, none⟩)] w fun e w' => e = .returned (.bool true) ∧ Below w.heap.size w w' := by
  have H := Lib.hid (And.intro h (And.intro hA (And.intro hl ec)))
  have er : recV X a = .agg #[.int .i64 v0, .int .i64 v1, .int .i64 v2, .int .i64 (recAt X a 3), .int .i64 (recAt X a 4)] := by unfold recV; rw [e0, e1, e2]
  have qa : ∀ u : World, MapAt u M (recAll X) → (Instr.lookup 67 (.map (some M)) (.int .i64 a) false).run Try.prog u = .ok (.agg #[.int .i64 v0, .int .i64 v1, .int .i64 v2, .int .i64 (recAt X a 3), .int .i64 (recAt X a 4)]) u := fun u hu => by rw [run_lookup_V Try.underlying67 Try.underlying3 rec_zero u M (recAll X) a hu, getV_recD, er]
  obtain ⟨⟨c0, c1⟩, zB⟩ := blk2v h.bl
  have hm := h.mp
  have zA : A < w.heap.size := (Array.getElem?_eq_some_iff.1 hA).1
  clear h hA hl e0 e1 e2 ec er
  obtain ⟨v3, hv3⟩ : ∃ x, recAt X a 3 = x := ⟨_, rfl⟩
  obtain ⟨v4, hv4⟩ : ∃ x, recAt X a 4 = x := ⟨_, rfl⟩
  rw [hv3, hv4] at qa
  clear hv3 hv4
  go_enter Try.func42, Try.ntmps42
  go_upto_region 2 with fail
  generalize hR : w.heap.size = R
  generalize hW : World.alloc _ _ = W
  have AR : W.heap[R]? = some (.cells #[.int .i64 v0, .int .i64 v1, .int .i64 v2, .int .i64 v3, .int .i64 v4] 73 (0, 0)) := by rw [← hW]; exact alloc_at hR _
  have BW : Below w.heap.size w W := by rw [← hW]; go_grown
  have VW := H.out.1.below BW
  have AW := (BW.block A zA).trans H.out.2.1
  have zR : R < W.heap.size := (Array.getElem?_eq_some_iff.1 AR).1
  have zA2 : A < W.heap.size := (Array.getElem?_eq_some_iff.1 AW).1
  have hA0 : W.cell? ⟨A, 0, none⟩ = some (.int .i64 age) := by simp [World.cell?, AW]
  obtain ⟨⟨r0, r1, r2, r3, r4⟩, -⟩ := blk5 AR
  obtain ⟨⟨b0, b1⟩, zB2⟩ := blk2v VW.bl
  have HW := Lib.hid (And.intro BW VW)
  have cA : ∀ u, Below W.heap.size W u → Calls Try.prog 43 #[.agg #[.slice ao X.length cap, .map (some M)], .int .i64 2] u fun e u' => e = .returned (.int .i64 c2) ∧ Below W.heap.size W u' := fun u hu => (at_f _ X _ 2 u (HW.out.2.below hu).sl H.out.2.2.1 (by omega) (by omega)).mono fun e u' ⟨h1, h2⟩ => ⟨by rw [h1, H.out.2.2.2], hu.trans (h2.mono hu.size)⟩
  have cA := Lib.hid cA
  have x0 := Bel.cell zR r0
  have x1 := Bel.cell zR r1
  have x2 := Bel.cell zR r2
  have x3 := Bel.cell zB2 b0
  have x4 := Bel.cell zB2 b1
  have x5 := Bel.cell zA2 hA0
  clear hW hR AR BW VW AW r0 r1 r2 r3 r4 b0 b1 hA0 c0 c1 hm qa zB zA
  refine wp_region_bel (by kernel_rfl) (by kernel_rfl) W (Below.refl _ _).drew ?_
  repeat (go_big_quiet_step ((with_reducible refine (cA.out _ (Bel.h _)).mono ?_; rintro e w9 ⟨rfl, hb⟩; exact ⟨rfl, ⟨w9, hb⟩, rfl⟩)))
  refine wpQuiet_nil ?_
  rintro _ ⟨⟨u, hu⟩, rfl⟩
  have BZ := HW.out.1.trans (hu.mono HW.out.1.size)
  go_wp2
  go_ret
  exact ⟨by first | rfl | (simp; done) | (simp; omega), BZ⟩

set_option maxRecDepth 100000 in
set_option maxHeartbeats 2000000 in
theorem Stale1_c (w : World) (B M A cap : Nat) (ao : Option Addr) (X : List Int) (a age v0 v1 v2 c2 : Int) (h : VAt w B ao cap M X) (hA : w.heap[A]? = some (.cells #[.int .i64 age] 3 (0, 0))) (hl : X.length ≤ 1000) (e0 : recAt X a 0 = v0) (e1 : recAt X a 1 = v1) (e2 : recAt X a 2 = v2) (ec : cellAt X 2 = c2) (g1 : (v1 != 1) = false) (g0 : (v0 != 0) = false) :
    Calls Try.prog 42 #[.int .i64 a, .pointer (some ⟨B, 0, none⟩), .pointer (some ⟨A, 0, none⟩)] w fun e w' => e = .returned (.bool (decide (wrap64 (c2 - v2) ≤ age))) ∧ Below w.heap.size w w' := by
  have H := Lib.hid (And.intro h (And.intro hA (And.intro hl ec)))
  have er : recV X a = .agg #[.int .i64 v0, .int .i64 v1, .int .i64 v2, .int .i64 (recAt X a 3), .int .i64 (recAt X a 4)] := by unfold recV; rw [e0, e1, e2]
  have qa : ∀ u : World, MapAt u M (recAll X) → (Instr.lookup 67 (.map (some M)) (.int .i64 a) false).run Try.prog u = .ok (.agg #[.int .i64 v0, .int .i64 v1, .int .i64 v2, .int .i64 (recAt X a 3), .int .i64 (recAt X a 4)]) u := fun u hu => by rw [run_lookup_V Try.underlying67 Try.underlying3 rec_zero u M (recAll X) a hu, getV_recD, er]
  obtain ⟨⟨c0, c1⟩, zB⟩ := blk2v h.bl
  have hm := h.mp
  have zA : A < w.heap.size := (Array.getElem?_eq_some_iff.1 hA).1
  clear h hA hl e0 e1 e2 ec er
  obtain ⟨v3, hv3⟩ : ∃ x, recAt X a 3 = x := ⟨_, rfl⟩
  obtain ⟨v4, hv4⟩ : ∃ x, recAt X a 4 = x := ⟨_, rfl⟩
  rw [hv3, hv4] at qa
  clear hv3 hv4
  go_enter Try.func42, Try.ntmps42
  go_upto_region 2 with fail
  generalize hR : w.heap.size = R
  generalize hW : World.alloc _ _ = W
  have AR : W.heap[R]? = some (.cells #[.int .i64 v0, .int .i64 v1, .int .i64 v2, .int .i64 v3, .int .i64 v4] 73 (0, 0)) := by rw [← hW]; exact alloc_at hR _
  have BW : Below w.heap.size w W := by rw [← hW]; go_grown
  have VW := H.out.1.below BW
  have AW := (BW.block A zA).trans H.out.2.1
  have zR : R < W.heap.size := (Array.getElem?_eq_some_iff.1 AR).1
  have zA2 : A < W.heap.size := (Array.getElem?_eq_some_iff.1 AW).1
  have hA0 : W.cell? ⟨A, 0, none⟩ = some (.int .i64 age) := by simp [World.cell?, AW]
  obtain ⟨⟨r0, r1, r2, r3, r4⟩, -⟩ := blk5 AR
  obtain ⟨⟨b0, b1⟩, zB2⟩ := blk2v VW.bl
  have HW := Lib.hid (And.intro BW VW)
  have cA : ∀ u, Below W.heap.size W u → Calls Try.prog 43 #[.agg #[.slice ao X.length cap, .map (some M)], .int .i64 2] u fun e u' => e = .returned (.int .i64 c2) ∧ Below W.heap.size W u' := fun u hu => (at_f _ X _ 2 u (HW.out.2.below hu).sl H.out.2.2.1 (by omega) (by omega)).mono fun e u' ⟨h1, h2⟩ => ⟨by rw [h1, H.out.2.2.2], hu.trans (h2.mono hu.size)⟩
  have cA := Lib.hid cA
  have x0 := Bel.cell zR r0
  have x1 := Bel.cell zR r1
  have x2 := Bel.cell zR r2
  have x3 := Bel.cell zB2 b0
  have x4 := Bel.cell zB2 b1
  have x5 := Bel.cell zA2 hA0
  clear hW hR AR BW VW AW r0 r1 r2 r3 r4 b0 b1 hA0 c0 c1 hm qa zB zA
  refine wp_region_bel (by kernel_rfl) (by kernel_rfl) W (Below.refl _ _).drew ?_
  repeat (go_big_quiet_step ((with_reducible refine (cA.out _ (Bel.h _)).mono ?_; rintro e w9 ⟨rfl, hb⟩; exact ⟨rfl, ⟨w9, hb⟩, rfl⟩)))
  refine wpQuiet_nil ?_
  rintro _ ⟨⟨u, hu⟩, rfl⟩
  have BZ := HW.out.1.trans (hu.mono HW.out.1.size)
  go_wp2
  go_ret
  exact ⟨by first | rfl | (simp; done) | (simp; omega), BZ⟩

theorem Stale1_f (w : World) (B M A cap : Nat) (ao : Option Addr) (X : List Int) (a age : Int) (h : VAt w B ao cap M X) (hA : w.heap[A]? = some (.cells #[.int .i64 age] 3 (0, 0))) (hl : X.length ≤ 1000) :
    Calls Try.prog 42 #[.int .i64 a, .pointer (some ⟨B, 0, none⟩), .pointer (some ⟨A, 0, none⟩)] w fun e w' => e = .returned (.bool (!staleB X age a)) ∧ Below w.heap.size w w' := by
  by_cases h1 : recAt X a 1 = 1
  · by_cases h0 : recAt X a 0 = 0
    · refine (Stale1_c w B M A cap ao X a age _ _ _ _ h hA hl rfl rfl rfl rfl (by rw [h1]; rfl) (by rw [h0]; rfl)).mono fun e w' ⟨e1, e2⟩ => ⟨by rw [e1]; congr 2; unfold staleB; rw [Bool.eq_iff_iff]; simp [h1, h0], e2⟩
    · refine (Stale1_b w B M A cap ao X a age _ _ _ _ h hA hl rfl rfl rfl rfl (by rw [h1]; rfl) (by simpa using h0)).mono fun e w' ⟨e1, e2⟩ => ⟨by rw [e1]; congr 2; unfold staleB; simp [h0], e2⟩
  · refine (Stale1_a w B M A cap ao X a age _ _ _ _ h hA hl rfl rfl rfl rfl (by simpa using h1)).mono fun e w' ⟨e1, e2⟩ => ⟨by rw [e1]; congr 2; unfold staleB; simp [h1], e2⟩

end Go.Proofs.Ytnpkhkfhlpopbaa
