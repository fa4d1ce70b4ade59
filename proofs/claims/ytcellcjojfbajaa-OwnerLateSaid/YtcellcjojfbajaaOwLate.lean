/- OwnerLate: the walk. -/
import Derived.Test.YtcellcjojfbajaaOwPl
import Derived.Test.YtcellcjojfbajaaOwK
import Derived.Test.YtcellcjojfbajaaOwClaim
namespace Go.Proofs.Ytcellcjojfbajaa
set_option linter.unusedSimpArgs false
set_option linter.unusedVariables false
open Go.RowKit
open Go.ChangeShapes Go.WideShapes Go.ChangeAt

set_option maxHeartbeats 2000000 in
theorem lateN_no (o w : Int)  (i : Nat) (hi : i < 7) : (owIt 13 noE [0, o, 0, w, 0, 0, 0, 0] ⟨0, 6, 3, 1, w, 0, 0, 0, 0, 0, 0, 0⟩ i).2.i1 ≠ 14 := by
  have e0 : owIt 13 noE [0, o, 0, w, 0, 0, 0, 0] ⟨0, 6, 3, 1, w, 0, 0, 0, 0, 0, 0, 0⟩ 0 = ([0, o, 0, w, 0, 0, 0, 0], ⟨0, 6, 3, 1, w, 0, 0, 0, 0, 0, 0, 0⟩) := rfl
  have e1 : owIt 13 noE [0, o, 0, w, 0, 0, 0, 0] ⟨0, 6, 3, 1, w, 0, 0, 0, 0, 0, 0, 0⟩ 1 = ([0, o, 0, w, 2, 0, 0, 0], ⟨0, 15, 3, 1, w, 0, 0, 0, 0, 0, 0, 0⟩) := (owIt_succ e0).trans (by simp [owX, owT, owA, cellAt, cellSet, cellSwap, swapIs, allocOk, allocXs, noE, wr64])
  have e2 : owIt 13 noE [0, o, 0, w, 0, 0, 0, 0] ⟨0, 6, 3, 1, w, 0, 0, 0, 0, 0, 0, 0⟩ 2 = ([0, o, 0, w, 2, 0, 0, 0], ⟨0, 7, 3, 1, w, w, 0, 0, 0, 0, 0, 0⟩) := (owIt_succ e1).trans (by simp [owX, owT, owA, cellAt, cellSet, cellSwap, swapIs, allocOk, allocXs, noE, wr64])
  have e3 : owIt 13 noE [0, o, 0, w, 0, 0, 0, 0] ⟨0, 6, 3, 1, w, 0, 0, 0, 0, 0, 0, 0⟩ 3 = ([0, o, 0, w, 2, 0, 0, 0], ⟨0, 8, 3, 1, w, o, 0, 0, 0, 0, 0, 0⟩) := (owIt_succ e2).trans (by simp [owX, owT, owA, cellAt, cellSet, cellSwap, swapIs, allocOk, allocXs, noE, wr64])
  have e4 : owIt 13 noE [0, o, 0, w, 0, 0, 0, 0] ⟨0, 6, 3, 1, w, 0, 0, 0, 0, 0, 0, 0⟩ 4 = ([0, o, 0, w, 2, 0, o, 0], ⟨0, 9, 3, 1, w, o, 0, 0, 0, 0, 0, 0⟩) := (owIt_succ e3).trans (by simp [owX, owT, owA, cellAt, cellSet, cellSwap, swapIs, allocOk, allocXs, noE, wr64])
  have e5 : owIt 13 noE [0, o, 0, w, 0, 0, 0, 0] ⟨0, 6, 3, 1, w, 0, 0, 0, 0, 0, 0, 0⟩ 5 = ([0, 3, 0, w, 2, 0, o, 0], ⟨0, 10, 3, 1, w, 1, 0, 0, 0, 0, 0, 0⟩) := (owIt_succ e4).trans (by simp [owX, owT, owA, cellAt, cellSet, cellSwap, swapIs, allocOk, allocXs, noE, wr64])
  have e6 : owIt 13 noE [0, o, 0, w, 0, 0, 0, 0] ⟨0, 6, 3, 1, w, 0, 0, 0, 0, 0, 0, 0⟩ 6 = ([0, 3, 0, w, 1, 0, o, 0], ⟨0, 11, 3, 1, w, 1, 0, 0, 0, 0, 0, 0⟩) := (owIt_succ e5).trans (by simp [owX, owT, owA, cellAt, cellSet, cellSwap, swapIs, allocOk, allocXs, noE, wr64])
  have hc : i = 0 ∨ i = 1 ∨ i = 2 ∨ i = 3 ∨ i = 4 ∨ i = 5 ∨ i = 6 := by omega
  rcases hc with rfl | rfl | rfl | rfl | rfl | rfl | rfl
  · rw [e0]; simp
  · rw [e1]; simp
  · rw [e2]; simp
  · rw [e3]; simp
  · rw [e4]; simp
  · rw [e5]; simp
  · rw [e6]; simp
set_option maxHeartbeats 2000000 in
theorem lateS_no (o w r : Int) (hw : 1 ≤ w) (i : Nat) (hi : i < 4) : (owIt 13 noE [0, o, 0, -1, 0, 0, 0, r] ⟨0, 6, 3, 1, w, 0, 0, 0, 0, 0, 0, 0⟩ i).2.i1 ≠ 14 := by
  have e0 : owIt 13 noE [0, o, 0, -1, 0, 0, 0, r] ⟨0, 6, 3, 1, w, 0, 0, 0, 0, 0, 0, 0⟩ 0 = ([0, o, 0, -1, 0, 0, 0, r], ⟨0, 6, 3, 1, w, 0, 0, 0, 0, 0, 0, 0⟩) := rfl
  have e1 : owIt 13 noE [0, o, 0, -1, 0, 0, 0, r] ⟨0, 6, 3, 1, w, 0, 0, 0, 0, 0, 0, 0⟩ 1 = ([0, o, 0, -1, 2, 0, 0, r], ⟨0, 15, 3, 1, w, 0, 0, 0, 0, 0, 0, 0⟩) := (owIt_succ e0).trans (by simp [owX, owT, owA, cellAt, cellSet, cellSwap, swapIs, allocOk, allocXs, noE, wr64, show ¬ (-1 : Int) = w by omega])
  have e2 : owIt 13 noE [0, o, 0, -1, 0, 0, 0, r] ⟨0, 6, 3, 1, w, 0, 0, 0, 0, 0, 0, 0⟩ 2 = ([0, o, 0, -1, 2, 0, 0, r], ⟨0, 16, 3, 1, w, -1, 0, 0, 0, 0, 0, 0⟩) := (owIt_succ e1).trans (by simp [owX, owT, owA, cellAt, cellSet, cellSwap, swapIs, allocOk, allocXs, noE, wr64, show ¬ (-1 : Int) = w by omega])
  have e3 : owIt 13 noE [0, o, 0, -1, 0, 0, 0, r] ⟨0, 6, 3, 1, w, 0, 0, 0, 0, 0, 0, 0⟩ 3 = ([0, o, 0, -1, 0, 0, 0, r], ⟨0, 11, 3, 1, w, -1, 0, 0, 0, 0, 0, 0⟩) := (owIt_succ e2).trans (by simp [owX, owT, owA, cellAt, cellSet, cellSwap, swapIs, allocOk, allocXs, noE, wr64, show ¬ (-1 : Int) = w by omega])
  have hc : i = 0 ∨ i = 1 ∨ i = 2 ∨ i = 3 := by omega
  rcases hc with rfl | rfl | rfl | rfl
  · rw [e0]; simp
  · rw [e1]; simp
  · rw [e2]; simp
  · rw [e3]; simp

theorem late_k (o w r : Int) : owK [0, o, 0, -1, 0, 0, 0, r] ⟨0, 14, 3, 1, w, -1, 0, 0, 0, 0, 0, 0⟩ = wk r := by simp [owK, cellAt, wr64]
theorem late_v (o w r : Int) : owV [0, o, 0, -1, 0, 0, 0, r] ⟨0, 14, 3, 1, w, -1, 0, 0, 0, 0, 0, 0⟩ = wv r := by simp [owV, cellAt, wr64]
theorem lateS5 (o w r : Int) (hw : 1 ≤ w) : owIt 13 noE [0, o, 0, -1, 0, 0, 0, r] ⟨0, 6, 3, 1, w, 0, 0, 0, 0, 0, 0, 0⟩ 5 = ([0, o, 0, -1, 0, 0, 0, r], ⟨0, 0, 3, 1, 0, r, 0, 0, 0, 0, 0, 0⟩) := by
  rw [owIt_succ (lateS o w r hw)]
  unfold noE
  rw [(lateZ o w r hw).1, (lateZ o w r hw).2]
theorem LS.put2 {W0 w w' : World} {b : Nat} {g : Option Nat} {N : Int} {X : List Int} {st : Int} {r q : Nat} {T T' : Th} {bt bt' : Value} {L : List (Nat × Obj)} {o o' : Obj} (h : LS W0 w b g N X st r T bt ((q, o) :: L)) (hk : Kept (fun k => k = r ∨ k = q) w w') (ha : w'.heap[r]? = some (.cells #[.int .i64 T'.i0, .int .i64 T'.i1, .int .i64 T'.i2, .int .i64 T'.i3, .int .i64 T'.i4, .int .i64 T'.i5, .int .i64 T'.i6, .int .i64 T'.i7, .int .i64 T'.i8, .int .i64 T'.i9, .int .i64 T'.i10, .int .i64 T'.i11, bt'] 30 (0, 0))) (hq : w'.heap[q]? = some o') (rg : Rg64 T'.i2) (hW : W0.heap.size ≤ q) (hL : ∀ p ∈ L, p.1 ≠ q) : LS W0 w' b g N X st r T' bt' ((q, o') :: L) := by
  have hF : ¬ Foot b g q := (h.side _ (.head _)).2.1
  have hqr : q ≠ r := (h.side _ (.head _)).2.2
  have hr := h.hi
  refine ⟨h.ms.kept hk (h.ms.B.trans (hk.below h.ms.B.size (fun k hk e => by omega))) (fun e => ?_) (fun k e e2 => ?_), ha, h.far, h.hi, fun p hp => ?_, h.s0, rg⟩
  · rcases e with e | e
    · exact h.far (.inl e.symm)
    · exact hF (.inl e.symm)
  · rcases e2 with e2 | e2
    · exact h.far (.inr (by rw [e, e2]))
    · exact hF (.inr (by rw [e, e2]))
  · rcases List.mem_cons.1 hp with rfl | hp
    · exact ⟨hq, hF, hqr⟩
    · have hs := h.side p (.tail _ hp)
      refine ⟨(hk.block p.1 (Array.getElem?_eq_some_iff.1 hs.1).1 (fun e => ?_)).trans hs.1, hs.2⟩
      rcases e with e | e
      · exact hs.2.2 e
      · exact hL p hp e
set_option maxRecDepth 100000 in
set_option maxHeartbeats 8000000 in
theorem ownerLate_any (ok ov sk sv o : Int) (se : Bool) (w : World) (o1 : 0 ≤ ok) (o2 : ok ≤ 255) (o3 : -2147483648 ≤ ov) (o4 : ov ≤ 2147483647) (q1 : 0 ≤ sk) (q2 : sk ≤ 255) (q3 : -2147483648 ≤ sv) (q4 : sv ≤ 2147483647) :
    Calls Try.prog 9 #[.agg #[.int .u8 ok, .int .i32 ov], .agg #[.int .u8 sk, .int .i32 sv], .bool se, .int .i64 o] w fun e w' => e = .returned (.bool true) ∧ Below w.heap.size w w' := by
  have hwo := word_rng o1 o2 o3 o4
  have hwr := word_rng q1 q2 q3 q4
  obtain ⟨wo, hw0⟩ : ∃ x, wordOf ok ov = x := ⟨_, rfl⟩
  obtain ⟨wx, hw1⟩ : ∃ x, wordOf sk sv = x := ⟨_, rfl⟩
  rw [hw0] at hwo
  rw [hw1] at hwr
  go_enter Try.func9, Try.ntmps9
  go_wp2_with fail
  generalize hq : w.heap.size = q
  generalize hW0 : World.alloc _ _ = W0
  have QQ : W0.heap[q]? = some (.cells #[.int .u8 ok, .int .i32 ov] 23 (0, 0)) ∧ W0.heap[q + 1]? = some (.cells #[.int .u8 sk, .int .i32 sv] 25 (0, 0)) := by rw [← hW0]; exact alloc2_at hq _ _
  have HZ := Lib.hid (show Below w.heap.size w W0 by rw [← hW0]; go_grown)
  have zq : q + 1 < W0.heap.size := (Array.getElem?_eq_some_iff.1 QQ.2).1
  refine (Open_ms 2 W0 W0 (Below.refl _ _) (by omega) (by omega)).mono ?_
  rintro e w1 ⟨g0, rfl, m1, hb1⟩
  generalize hb : W0.heap.size = b at m1 hb1 ⊢
  have P1 := (hb1.block q (by omega)).trans QQ.1
  have P2 := (hb1.block (q + 1) (by omega)).trans QQ.2
  have f2 : ¬ Foot b g0 (q + 1) := fun e => by
    rcases e with e | e
    · omega
    · have := m1.2.2.1 _ e.symm; omega
  obtain ⟨⟨p0, p1⟩, zp⟩ := blk2c P1
  have H1 := Lib.hid (And.intro m1 (And.intro P2 f2))
  clear m1 hb1 P1 P2 f2 hW0 QQ
  go_wp2_with fail
  refine (oBegin_b w1 0 0 0 0 0 0 0 0 0 0 0 0 ok ov (.slice none 0 0) 0 (fun _ => 0) (Its.zero _ _ _) (by omega) o1 o2 o3 o4 (by decide) (by decide)).mono ?_
  rintro e w2 ⟨bt2, rfl, I2, hb2⟩
  obtain ⟨bo2, bc2, rfl, -⟩ := I2
  rw [show wrap64 (0 + 1) = 1 from by unfold wrap64; omega, hw0]
  have zr0 : w1.heap.size ≤ w2.heap.size := hb2.size
  have zr1 : b ≤ w1.heap.size := by have := H1.out.1.2.2.2.1.size; omega
  have zq1 : q + 1 < w1.heap.size := (Array.getElem?_eq_some_iff.1 H1.out.2.1).1
  clear p0 p1 zp
  go_wp2
  generalize hr : w2.heap.size = r
  generalize hW : World.alloc _ _ = W
  have A2 : W.heap[r]? = some (.cells #[.int .i64 0, .int .i64 1, .int .i64 0, .int .i64 1, .int .i64 wo, .int .i64 0, .int .i64 0, .int .i64 0, .int .i64 0, .int .i64 0, .int .i64 0, .int .i64 0, .slice bo2 0 bc2] 30 (0, 0)) := by rw [← hW]; exact alloc_at hr _
  have BW : Below w1.heap.size w1 W := hb2.trans ((show Below w2.heap.size w2 W by rw [← hW]; go_grown).mono hb2.size)
  have HS := Lib.hid (show LS W0 W b g0 13 [0, 0, 0] 1 r ⟨0, 1, 0, 1, wo, 0, 0, 0, 0, 0, 0, 0⟩ (.slice bo2 0 bc2) [(q + 1, .cells #[.int .u8 sk, .int .i32 sv] 25 (0, 0))] from ⟨H1.out.1.below BW, A2, H1.out.1.past r (by omega), by omega, (fun p hp => by
    rcases List.mem_singleton.1 hp with rfl
    exact ⟨(BW.block (q + 1) zq1).trans H1.out.2.1, H1.out.2.2, by show q + 1 ≠ r; omega⟩), by omega, Rg64.zero⟩)
  have zrW : W0.heap.size ≤ r := by omega
  clear hr hW A2 BW zr0 zr1 hb2 H1 hb hq zq zq1
  go_loopw [12] (fun k wr => ∃ (i : Nat) (X : List Int) (T : Th) (st : Int) (g : Option Nat) (bo : Option Addr) (bc : Nat), i ≤ 3 ∧ k = .int .i64 i ∧ LS W0 wr b g 13 X st r T (.slice bo 0 bc) [(q + 1, .cells #[.int .u8 sk, .int .i32 sv] 25 (0, 0))] ∧ st ≤ 100 + 2 * i ∧ owIt 13 noE [0, 0, 0] ⟨0, 1, 0, 1, wo, 0, 0, 0, 0, 0, 0, 0⟩ i = (X, T)) (fun k _ => 3 - (intOf k).toNat)
  case atStart => exact ⟨0, _, _, _, _, _, _, Nat.zero_le _, rfl, HS.out, by omega, rfl⟩
  case round =>
    obtain ⟨i, X, T, st, g, bo, bc, hi, rfl, h, s1, hit⟩ := hrel
    have zi : (0 : Int) ≤ (i : Int) := by omega
    have hi' : (i : Int) ≤ 3 := by omega
    have HR := Lib.hid h
    have HT := Lib.hid hit
    have zr1 := h.lt
    clear h hit
    by_cases hlt : i < 3
    · have hlt' : (i : Int) < 3 := by omega
      obtain ⟨⟨a0, a1, a2, a3, a4, a5, a6, a7, a8, a9, a10, a11, a12⟩, -⟩ := blk13 HR.out.at_
      go_wp2_with fail
      refine (oStep_f W0 _ b _ 13 st X T (.slice bo 0 bc) 0 (fun _ => 0) HR.out.ms (Its.zero _ _ _) (Nat.zero_le _) HR.out.s0 (by omega) HR.out.rg).mono ?_
      rintro e ws3 ⟨bt3, g3, he3, m3, I3, k3, hg3⟩
      obtain ⟨bo3, bc3, rfl, -⟩ := I3
      have H3 := Lib.hid (HR.out.mem m3 k3 hg3 (owC_pos HR.out.s0))
      have rg3 := Lib.hid (owT_rg (N := 13) HR.out.rg HR.out.ms.lenk)
      have c3 := owC_rng 13 X T
      obtain ⟨t3, ht3⟩ : ∃ t, owT 13 X T = t := ⟨_, rfl⟩
      rw [ht3] at he3 rg3
      have z3 := H3.out.lt
      have hit3 := owIt_succ HT.out
      unfold noE at hit3
      rw [ht3] at hit3
      have HI3 := Lib.hid hit3
      obtain ⟨⟨c0, c1, c2, c3, c4, c5, c6, c7, c8, c9, c10, c11, c12⟩, -⟩ := blk13 H3.out.at_
      have fc0 := blkF H3.out.at_ 0; have fc1 := blkF H3.out.at_ 1; have fc2 := blkF H3.out.at_ 2; have fc3 := blkF H3.out.at_ 3; have fc4 := blkF H3.out.at_ 4; have fc5 := blkF H3.out.at_ 5; have fc6 := blkF H3.out.at_ 6; have fc7 := blkF H3.out.at_ 7; have fc8 := blkF H3.out.at_ 8; have fc9 := blkF H3.out.at_ 9; have fc10 := blkF H3.out.at_ 10; have fc11 := blkF H3.out.at_ 11; have fc12 := blkF H3.out.at_ 12
      clear ht3 hit3 m3 k3 hg3 zr1 a0 a1 a2 a3 a4 a5 a6 a7 a8 a9 a10 a11 a12
      simp only [thV] at he3
      subst he3
      go_wp2_with fail
      generalize hWs4 : World.setCell _ _ _ = Ws4
      have U4 : Ws4.heap[r]? = some (.cells #[.int .i64 t3.i0, .int .i64 t3.i1, .int .i64 t3.i2, .int .i64 t3.i3, .int .i64 t3.i4, .int .i64 t3.i5, .int .i64 t3.i6, .int .i64 t3.i7, .int .i64 t3.i8, .int .i64 t3.i9, .int .i64 t3.i10, .int .i64 t3.i11, .slice bo3 0 bc3] 30 (0, 0)) := by rw [← hWs4]; exact set13 H3.out.at_ rfl
      have K4 : Kept (fun k => k = r) ws3 Ws4 := by rw [← hWs4]; exact kept_set13 _ _ _ _ _ _ _ _ _ _ _ _ _ _ _
      have Hs4 := H3.out.put K4 U4 rg3.out
      generalize hW4 : World.alloc _ _ = W4
      have H4 := Lib.hid (Hs4.below (w' := W4) (by rw [← hW4]; go_grown))
      clear hWs4 Hs4 hW4 U4 K4
      clear c0 c1 c2 c3 c4 c5 c6 c7 c8 c9 c10 c11 c12 fc0 fc1 fc2 fc3 fc4 fc5 fc6 fc7 fc8 fc9 fc10 fc11 fc12
      go_roundw
      case rel => exact ⟨i + 1, _, t3, _, _, bo3, bc3, by omega, by go_num, H4.out, by omega, HI3.out⟩
      case measure => simp [intOf]; omega
    · have ei : (i : Int) = 3 := by omega
      rw [ei]
      obtain rfl : i = 3 := by omega
      clear zr1 hlt
      have hX := HT.out.symm.trans (late3 wo)
      rw [Prod.mk.injEq] at hX
      have HSa := Lib.hid (HR.out.eqs hX.1 hX.2)
      have s10 : st ≤ 106 := by omega
      clear HR HT hX HS s1 hi hi' zi
      go_wp2_with fail
      refine (Store_f HSa.out.ms (1) (o) (by omega)).mono ?_
      rintro e wsS ⟨rfl, mS, kS⟩
      have HS := Lib.hid (HSa.out.mem mS kS (.inl rfl) (cnt_pos HSa.out.s0))
      have ccS := cntAt_rng [0, 0, 0, wo, 0, 0, 0, 0] (1)
      have zS := HS.out.lt
      clear mS kS
      have HS2 := Lib.hid (HS.out.eqs (X' := [0, o, 0, wo, 0, 0, 0, 0]) rfl rfl)
      have ze2 : q + 1 < wsS.heap.size := (Array.getElem?_eq_some_iff.1 (HS2.out.get (.head _))).1
      clear HS HSa
      cases se
      · go_wp2_with fail
        generalize hrr : wsS.heap.size = rr
        generalize hW6 : World.alloc _ _ = W6
        have AA6 : W6.heap[rr]? = some (.cells #[.int .u8 0, .int .i32 0] 25 (0, 0)) := by rw [← hW6]; exact alloc_at hrr _
        have B6 : Below wsS.heap.size wsS W6 := by rw [← hW6]; go_grown
        have zl6 := HS2.out.lt
        have H6 := Lib.hid ((HS2.out.below B6).more AA6 (HS2.out.ms.past rr (by omega)) (by omega))
        have zW2 : W0.heap.size ≤ rr := by omega
        have znr : r < rr := by omega
        have zqr : q + 1 < rr := by omega
        clear hrr hW6 AA6 B6 zl6
        have HL := Lib.hid (show ∀ p ∈ ([(q + 1, .cells #[.int .u8 sk, .int .i32 sv] 25 (0, 0))] : List (Nat × Obj)), p.1 ≠ rr from fun p hp => by
          rcases List.mem_singleton.1 hp with rfl
          show q + 1 ≠ rr
          omega)
        have HI := Lib.hid (fun i hi => lateN_no o wo i hi)
        clear HS2
        go_loopw [17, 18] (fun is k wr => ∃ (i : Nat) (X : List Int) (T : Th) (st : Int) (g : Option Nat) (bo : Option Addr) (bc : Nat) (rk rv : Int), i ≤ 7 ∧ k = .int .i64 i ∧ LS W0 wr b g 13 X st r T (.slice bo 0 bc) ((rr, .cells #[.int .u8 rk, .int .i32 rv] 25 (0, 0)) :: [(q + 1, .cells #[.int .u8 sk, .int .i32 sv] 25 (0, 0))]) ∧ st ≤ 200 + 2 * i ∧ owIt 13 noE [0, o, 0, wo, 0, 0, 0, 0] ⟨0, 6, 3, 1, wo, 0, 0, 0, 0, 0, 0, 0⟩ i = (X, T) ∧ is = .bool false) (fun _ k _ => 7 - (intOf k).toNat)
        case atStart => exact ⟨0, _, _, _, _, _, _, _, _, Nat.zero_le _, rfl, H6.out, by omega, rfl, rfl⟩
        case round =>
          obtain ⟨i, X, T, st, g, bo, bc, rk, rv, hi, rfl, hh, s1, hit, rfl⟩ := hrel
          have zi : (0 : Int) ≤ (i : Int) := by omega
          have HR := Lib.hid hh
          have HT := Lib.hid hit
          have zr1 := hh.lt
          clear hh hit
          have hi' : (i : Int) ≤ 7 := by omega
          by_cases hlt : i < 7
          · have hlt' : (i : Int) < 7 := by omega
            obtain ⟨⟨d0, d1, d2, d3, d4, d5, d6, d7, d8, d9, d10, d11, d12⟩, -⟩ := blk13 HR.out.at_
            go_wp2_with fail
            refine (oStep_f W0 _ b _ 13 st X T (.slice bo 0 bc) 0 (fun _ => 0) HR.out.ms (Its.zero _ _ _) (Nat.zero_le _) HR.out.s0 (by omega) HR.out.rg).mono ?_
            rintro e ws3 ⟨bt3, g3, he3, m3, I3, k3, hg3⟩
            obtain ⟨bo3, bc3, rfl, -⟩ := I3
            have H3 := Lib.hid (HR.out.mem m3 k3 hg3 (owC_pos HR.out.s0))
            have rg3 := Lib.hid (owT_rg (N := 13) HR.out.rg HR.out.ms.lenk)
            have c3 := owC_rng 13 X T
            obtain ⟨t3, ht3⟩ : ∃ t, owT 13 X T = t := ⟨_, rfl⟩
            rw [ht3] at he3 rg3
            have z3 := H3.out.lt
            have hit3 := owIt_succ HT.out
            unfold noE at hit3
            rw [ht3] at hit3
            have HI3 := Lib.hid hit3
            obtain ⟨⟨c0, c1, c2, c3, c4, c5, c6, c7, c8, c9, c10, c11, c12⟩, -⟩ := blk13 H3.out.at_
            have fc0 := blkF H3.out.at_ 0; have fc1 := blkF H3.out.at_ 1; have fc2 := blkF H3.out.at_ 2; have fc3 := blkF H3.out.at_ 3; have fc4 := blkF H3.out.at_ 4; have fc5 := blkF H3.out.at_ 5; have fc6 := blkF H3.out.at_ 6; have fc7 := blkF H3.out.at_ 7; have fc8 := blkF H3.out.at_ 8; have fc9 := blkF H3.out.at_ 9; have fc10 := blkF H3.out.at_ 10; have fc11 := blkF H3.out.at_ 11; have fc12 := blkF H3.out.at_ 12
            obtain ⟨⟨e0, e1⟩, ze⟩ := blk2c (H3.out.get (.head _))
            have fe0 := blkF (H3.out.get (.head _)) 0
            have fe1 := blkF (H3.out.get (.head _)) 1
            have htd := HI.out i hlt
            rw [HT.out] at htd
            have htf : decide (T.i1 = 14) = false := decide_eq_false htd
            rw [htf] at he3
            clear htd htf
            obtain ⟨rk3, hrk⟩ : ∃ x, owK X T = x := ⟨_, rfl⟩
            obtain ⟨rv3, hrv⟩ : ∃ x, owV X T = x := ⟨_, rfl⟩
            rw [hrk, hrv] at he3
            clear hrk hrv
            have zne : r ≠ rr := by omega
            clear ht3 hit3 m3 k3 hg3 zr1 d0 d1 d2 d3 d4 d5 d6 d7 d8 d9 d10 d11 d12
            simp only [thV] at he3
            subst he3
            go_wp2_with fail
            generalize hWs4 : World.setCell _ _ _ = Ws4
            have E : (Ws4.heap[r]? = some (.cells #[.int .i64 t3.i0, .int .i64 t3.i1, .int .i64 t3.i2, .int .i64 t3.i3, .int .i64 t3.i4, .int .i64 t3.i5, .int .i64 t3.i6, .int .i64 t3.i7, .int .i64 t3.i8, .int .i64 t3.i9, .int .i64 t3.i10, .int .i64 t3.i11, .slice bo3 0 bc3] 30 (0, 0)) ∧ Ws4.heap[rr]? = some (.cells #[.int .u8 rk3, .int .i32 rv3] 25 (0, 0))) ∧ Kept (fun k => k = r ∨ k = rr) ws3 Ws4 := by
              rw [← hWs4]
              first
                | exact stor_a H3.out.at_ rfl (H3.out.get (.head _)) rfl zne
                | exact stor_b H3.out.at_ rfl (H3.out.get (.head _)) rfl zne
            have Hs4 := H3.out.put2 E.2 E.1.1 E.1.2 rg3.out zW2 (HL.out)
            generalize hW4 : World.alloc _ _ = W4
            have H4 := Lib.hid (Hs4.below (w' := W4) (by rw [← hW4]; go_grown))
            clear hWs4 Hs4 hW4 E
            clear c0 c1 c2 c3 c4 c5 c6 c7 c8 c9 c10 c11 c12 fc0 fc1 fc2 fc3 fc4 fc5 fc6 fc7 fc8 fc9 fc10 fc11 fc12 e0 e1 ze fe0 fe1
            go_roundw
            case rel => exact ⟨i + 1, _, t3, _, _, bo3, bc3, _, _, by omega, by go_num, H4.out, by omega, HI3.out, rfl⟩
            case measure => simp [intOf]; omega
          · have ei : (i : Int) = 7 := by omega
            rw [ei]
            obtain rfl : i = 7 := by omega
            clear zr1 hlt hi hi' zi
            have hX := HT.out.symm.trans (lateN o wo)
            rw [Prod.mk.injEq] at hX
            have HS3 := Lib.hid (HR.out.eqs hX.1 hX.2)
            clear HR HT hX H6 HI
            go_wp2_with fail
            refine (Load_f HS3.out.ms 1 (by omega)).mono ?_
            rintro e wsL ⟨rfl, mL, kL⟩
            have HLd := Lib.hid (HS3.out.mem mL kL (.inl rfl) (cnt_pos HS3.out.s0))
            have zL := HLd.out.lt
            rw [show cellAt [0, 3, 0, wo, 1, 0, o, 0] 1 = 3 from by simp [cellAt]]
            clear mL kL HS3
            go_wp2_with fail
            refine (See_f HLd.out.ms 3 (by omega)).mono ?_
            rintro e wsM ⟨rfl, -, hbM⟩
            have HM := Lib.hid (HLd.out.below hbM)
            rw [rec3]
            clear hbM HLd
            generalize hnth : nthIs _ 3 = nb
            clear hnth
            go_wp2_with fail
            generalize hWF : World.alloc _ _ = WF
            generalize hs5 : wsM.heap.size = r5
            have AF : WF.heap[r5]? = some (.cells #[.int .i64 (wo), .int .i64 (1), .int .i64 (0), .int .i64 (o), .int .i64 (0)] 68 (0, 0)) := by rw [← hWF]; exact alloc_at hs5 _
            have zM := HM.out.lt
            have HF := Lib.hid ((HM.out.below (w' := WF) (by rw [← hWF]; go_grown)).more AF (HM.out.ms.past r5 (by omega)) (by omega))
            clear hWF hs5 AF HM
            refine (known15_any _).mono ?_
            rintro e wG ⟨rfl, hbG⟩
            have HG := Lib.hid (HF.out.below hbG)
            clear HF hbG
            obtain ⟨⟨a0, a1, a2, a3, a4, a5, a6, a7, a8, a9, a10, a11, a12⟩, -⟩ := blk13 HG.out.at_
            obtain ⟨⟨v0, v1, v2, v3, v4⟩, zv⟩ := blk5 (HG.out.get (.head _))
            skip
            have BG := HZ.out.trans (HG.out.ms.B.mono HZ.out.size)
            go_wp2
            go_ret
            exact ⟨by first | rfl | (simp; done) | (simp; omega), BG⟩
      · have HS3 := HS2
        clear HS2
        obtain ⟨⟨p0, p1⟩, zp⟩ := blk2c (HS3.out.get (.head _))
        go_wp2_with fail
        refine (rRes_any sk sv _ q1 q2 q3 q4).mono ?_
        rintro e wB ⟨rfl, hbB⟩
        rw [hw1]
        have HB2 := Lib.hid (HS3.out.below hbB)
        clear hbB p0 p1 zp HS3
        go_wp2_with fail
        refine (Store_f HB2.out.ms (7) (wx) (by omega)).mono ?_
        rintro e wsC ⟨rfl, mC, kC⟩
        have HC := Lib.hid (HB2.out.mem mC kC (.inl rfl) (cnt_pos HB2.out.s0))
        have ccC := cntAt_rng [0, o, 0, wo, 0, 0, 0, 0] (7)
        have zC := HC.out.lt
        clear mC kC
        have HC2 := Lib.hid (HC.out.eqs (X' := [0, o, 0, wo, 0, 0, 0, wx]) rfl rfl)
        clear HC HB2
        go_wp2_with fail
        refine (Store_f HC2.out.ms (3) ((-1)) (by omega)).mono ?_
        rintro e wsD ⟨rfl, mD, kD⟩
        have HD := Lib.hid (HC2.out.mem mD kD (.inl rfl) (cnt_pos HC2.out.s0))
        have ccD := cntAt_rng [0, o, 0, wo, 0, 0, 0, wx] (3)
        have zD := HD.out.lt
        clear mD kD
        have HD2 := Lib.hid (HD.out.eqs (X' := [0, o, 0, -1, 0, 0, 0, wx]) rfl rfl)
        clear HD HC2
        go_wp2_with fail
        generalize hrr : wsD.heap.size = rr
        generalize hW6 : World.alloc _ _ = W6
        have AA6 : W6.heap[rr]? = some (.cells #[.int .u8 0, .int .i32 0] 25 (0, 0)) := by rw [← hW6]; exact alloc_at hrr _
        have B6 : Below wsD.heap.size wsD W6 := by rw [← hW6]; go_grown
        have zl6 := HD2.out.lt
        have H6 := Lib.hid ((HD2.out.below B6).more AA6 (HD2.out.ms.past rr (by omega)) (by omega))
        have ze3 : q + 1 < wsD.heap.size := (Array.getElem?_eq_some_iff.1 (HD2.out.get (.head _))).1
        have zW2 : W0.heap.size ≤ rr := by omega
        have znr : r < rr := by omega
        have zqr : q + 1 < rr := by omega
        clear hrr hW6 AA6 B6 zl6
        have HL := Lib.hid (show ∀ p ∈ ([(q + 1, .cells #[.int .u8 sk, .int .i32 sv] 25 (0, 0))] : List (Nat × Obj)), p.1 ≠ rr from fun p hp => by
          rcases List.mem_singleton.1 hp with rfl
          show q + 1 ≠ rr
          omega)
        have HI := Lib.hid (fun i hi => lateS_no o wo wx hwo.1 i hi)
        clear HD2
        go_loopw [17, 18] (fun is k wr => ∃ (i : Nat) (X : List Int) (T : Th) (st : Int) (g : Option Nat) (bo : Option Addr) (bc : Nat) (rk rv : Int), i ≤ 5 ∧ k = .int .i64 i ∧ LS W0 wr b g 13 X st r T (.slice bo 0 bc) ((rr, .cells #[.int .u8 rk, .int .i32 rv] 25 (0, 0)) :: [(q + 1, .cells #[.int .u8 sk, .int .i32 sv] 25 (0, 0))]) ∧ st ≤ 200 + 2 * i ∧ owIt 13 noE [0, o, 0, -1, 0, 0, 0, wx] ⟨0, 6, 3, 1, wo, 0, 0, 0, 0, 0, 0, 0⟩ i = (X, T) ∧ is = .bool (decide (i = 5)) ∧ (i = 5 → rk = sk ∧ rv = sv)) (fun _ k _ => 7 - (intOf k).toNat)
        case atStart => exact ⟨0, _, _, _, _, _, _, _, _, Nat.zero_le _, rfl, H6.out, by omega, rfl, rfl, fun e => by omega⟩
        case round =>
          obtain ⟨i, X, T, st, g, bo, bc, rk, rv, hi, rfl, hh, s1, hit, rfl, hrs⟩ := hrel
          have zi : (0 : Int) ≤ (i : Int) := by omega
          have HR := Lib.hid hh
          have HT := Lib.hid hit
          have zr1 := hh.lt
          clear hh hit
          have hi' : (i : Int) < 7 := by omega
          by_cases hlt : i < 4
          · have hd5 : decide (i = 5) = false := decide_eq_false (by omega)
            rw [hd5]
            clear hd5 hrs
            obtain ⟨⟨d0, d1, d2, d3, d4, d5, d6, d7, d8, d9, d10, d11, d12⟩, -⟩ := blk13 HR.out.at_
            go_wp2_with fail
            refine (oStep_f W0 _ b _ 13 st X T (.slice bo 0 bc) 0 (fun _ => 0) HR.out.ms (Its.zero _ _ _) (Nat.zero_le _) HR.out.s0 (by omega) HR.out.rg).mono ?_
            rintro e ws3 ⟨bt3, g3, he3, m3, I3, k3, hg3⟩
            obtain ⟨bo3, bc3, rfl, -⟩ := I3
            have H3 := Lib.hid (HR.out.mem m3 k3 hg3 (owC_pos HR.out.s0))
            have rg3 := Lib.hid (owT_rg (N := 13) HR.out.rg HR.out.ms.lenk)
            have c3 := owC_rng 13 X T
            obtain ⟨t3, ht3⟩ : ∃ t, owT 13 X T = t := ⟨_, rfl⟩
            rw [ht3] at he3 rg3
            have z3 := H3.out.lt
            have hit3 := owIt_succ HT.out
            unfold noE at hit3
            rw [ht3] at hit3
            have HI3 := Lib.hid hit3
            obtain ⟨⟨c0, c1, c2, c3, c4, c5, c6, c7, c8, c9, c10, c11, c12⟩, -⟩ := blk13 H3.out.at_
            have fc0 := blkF H3.out.at_ 0; have fc1 := blkF H3.out.at_ 1; have fc2 := blkF H3.out.at_ 2; have fc3 := blkF H3.out.at_ 3; have fc4 := blkF H3.out.at_ 4; have fc5 := blkF H3.out.at_ 5; have fc6 := blkF H3.out.at_ 6; have fc7 := blkF H3.out.at_ 7; have fc8 := blkF H3.out.at_ 8; have fc9 := blkF H3.out.at_ 9; have fc10 := blkF H3.out.at_ 10; have fc11 := blkF H3.out.at_ 11; have fc12 := blkF H3.out.at_ 12
            obtain ⟨⟨e0, e1⟩, ze⟩ := blk2c (H3.out.get (.head _))
            have fe0 := blkF (H3.out.get (.head _)) 0
            have fe1 := blkF (H3.out.get (.head _)) 1
            have htd := HI.out i hlt
            rw [HT.out] at htd
            have htf : decide (T.i1 = 14) = false := decide_eq_false htd
            rw [htf] at he3
            clear htd htf
            obtain ⟨rk3, hrk⟩ : ∃ x, owK X T = x := ⟨_, rfl⟩
            obtain ⟨rv3, hrv⟩ : ∃ x, owV X T = x := ⟨_, rfl⟩
            rw [hrk, hrv] at he3
            clear hrk hrv
            have zne : r ≠ rr := by omega
            clear ht3 hit3 m3 k3 hg3 zr1 d0 d1 d2 d3 d4 d5 d6 d7 d8 d9 d10 d11 d12
            simp only [thV] at he3
            subst he3
            go_wp2_with fail
            generalize hWs4 : World.setCell _ _ _ = Ws4
            have E : (Ws4.heap[r]? = some (.cells #[.int .i64 t3.i0, .int .i64 t3.i1, .int .i64 t3.i2, .int .i64 t3.i3, .int .i64 t3.i4, .int .i64 t3.i5, .int .i64 t3.i6, .int .i64 t3.i7, .int .i64 t3.i8, .int .i64 t3.i9, .int .i64 t3.i10, .int .i64 t3.i11, .slice bo3 0 bc3] 30 (0, 0)) ∧ Ws4.heap[rr]? = some (.cells #[.int .u8 rk3, .int .i32 rv3] 25 (0, 0))) ∧ Kept (fun k => k = r ∨ k = rr) ws3 Ws4 := by
              rw [← hWs4]
              first
                | exact stor_a H3.out.at_ rfl (H3.out.get (.head _)) rfl zne
                | exact stor_b H3.out.at_ rfl (H3.out.get (.head _)) rfl zne
            have Hs4 := H3.out.put2 E.2 E.1.1 E.1.2 rg3.out zW2 (HL.out)
            generalize hW4 : World.alloc _ _ = W4
            have H4 := Lib.hid (Hs4.below (w' := W4) (by rw [← hW4]; go_grown))
            clear hWs4 Hs4 hW4 E
            clear c0 c1 c2 c3 c4 c5 c6 c7 c8 c9 c10 c11 c12 fc0 fc1 fc2 fc3 fc4 fc5 fc6 fc7 fc8 fc9 fc10 fc11 fc12 e0 e1 ze fe0 fe1
            go_roundw
            case rel => exact ⟨i + 1, _, t3, _, _, bo3, bc3, _, _, by omega, by go_num, H4.out, by omega, HI3.out, by rw [decide_eq_false (show ¬ (i + 1 = 5) by omega)], fun e => by omega⟩
            case measure => simp [intOf]; omega
          · by_cases hl4 : i = 4
            · have hd5 : decide (i = 5) = false := decide_eq_false (by omega)
              rw [hd5]
              clear hd5 hrs hlt
              have hX := HT.out.symm
              rw [hl4] at hX
              have hX := hX.trans (lateS o wo wx hwo.1)
              rw [Prod.mk.injEq] at hX
              have HX := Lib.hid hX
              have H4i := Lib.hid hl4
              have hi4 : i ≤ 4 := by omega
              clear hX hl4
              obtain ⟨⟨d0, d1, d2, d3, d4, d5, d6, d7, d8, d9, d10, d11, d12⟩, -⟩ := blk13 HR.out.at_
              go_wp2_with fail
              refine (oStep_f W0 _ b _ 13 st X T (.slice bo 0 bc) 0 (fun _ => 0) HR.out.ms (Its.zero _ _ _) (Nat.zero_le _) HR.out.s0 (by omega) HR.out.rg).mono ?_
              rintro e ws3 ⟨bt3, g3, he3, m3, I3, k3, hg3⟩
              obtain ⟨bo3, bc3, rfl, -⟩ := I3
              have H3 := Lib.hid (HR.out.mem m3 k3 hg3 (owC_pos HR.out.s0))
              have rg3 := Lib.hid (owT_rg (N := 13) HR.out.rg HR.out.ms.lenk)
              have c3 := owC_rng 13 X T
              obtain ⟨t3, ht3⟩ : ∃ t, owT 13 X T = t := ⟨_, rfl⟩
              rw [ht3] at he3 rg3
              have z3 := H3.out.lt
              have hit3 := owIt_succ HT.out
              unfold noE at hit3
              rw [ht3] at hit3
              have HI3 := Lib.hid hit3
              obtain ⟨⟨c0, c1, c2, c3, c4, c5, c6, c7, c8, c9, c10, c11, c12⟩, -⟩ := blk13 H3.out.at_
              have fc0 := blkF H3.out.at_ 0; have fc1 := blkF H3.out.at_ 1; have fc2 := blkF H3.out.at_ 2; have fc3 := blkF H3.out.at_ 3; have fc4 := blkF H3.out.at_ 4; have fc5 := blkF H3.out.at_ 5; have fc6 := blkF H3.out.at_ 6; have fc7 := blkF H3.out.at_ 7; have fc8 := blkF H3.out.at_ 8; have fc9 := blkF H3.out.at_ 9; have fc10 := blkF H3.out.at_ 10; have fc11 := blkF H3.out.at_ 11; have fc12 := blkF H3.out.at_ 12
              obtain ⟨⟨e0, e1⟩, ze⟩ := blk2c (H3.out.get (.head _))
              have fe0 := blkF (H3.out.get (.head _)) 0
              have fe1 := blkF (H3.out.get (.head _)) 1
              rw [show decide (T.i1 = 14) = true from by rw [HX.out.2]; rfl] at he3
              obtain ⟨rk3, hrk⟩ : ∃ x, sk = x := ⟨_, rfl⟩
              obtain ⟨rv3, hrv⟩ : ∃ x, sv = x := ⟨_, rfl⟩
              rw [show owK X T = rk3 from by rw [HX.out.1, HX.out.2, late_k, ← hw1, wk_word q1 q2 q3 q4]; exact hrk, show owV X T = rv3 from by rw [HX.out.1, HX.out.2, late_v, ← hw1, wv_word q1 q2 q3 q4]; exact hrv] at he3
              have HRK := Lib.hid (And.intro hrk hrv)
              clear hrk hrv
              have zne : r ≠ rr := by omega
              clear ht3 hit3 m3 k3 hg3 zr1 d0 d1 d2 d3 d4 d5 d6 d7 d8 d9 d10 d11 d12
              simp only [thV] at he3
              subst he3
              go_wp2_with fail
              generalize hWs4 : World.setCell _ _ _ = Ws4
              have E : (Ws4.heap[r]? = some (.cells #[.int .i64 t3.i0, .int .i64 t3.i1, .int .i64 t3.i2, .int .i64 t3.i3, .int .i64 t3.i4, .int .i64 t3.i5, .int .i64 t3.i6, .int .i64 t3.i7, .int .i64 t3.i8, .int .i64 t3.i9, .int .i64 t3.i10, .int .i64 t3.i11, .slice bo3 0 bc3] 30 (0, 0)) ∧ Ws4.heap[rr]? = some (.cells #[.int .u8 rk3, .int .i32 rv3] 25 (0, 0))) ∧ Kept (fun k => k = r ∨ k = rr) ws3 Ws4 := by
                rw [← hWs4]
                first
                  | exact stor_a H3.out.at_ rfl (H3.out.get (.head _)) rfl zne
                  | exact stor_b H3.out.at_ rfl (H3.out.get (.head _)) rfl zne
              have Hs4 := H3.out.put2 E.2 E.1.1 E.1.2 rg3.out zW2 (HL.out)
              generalize hW4 : World.alloc _ _ = W4
              have H4 := Lib.hid (Hs4.below (w' := W4) (by rw [← hW4]; go_grown))
              clear hWs4 Hs4 hW4 E
              clear c0 c1 c2 c3 c4 c5 c6 c7 c8 c9 c10 c11 c12 fc0 fc1 fc2 fc3 fc4 fc5 fc6 fc7 fc8 fc9 fc10 fc11 fc12 e0 e1 ze fe0 fe1
              go_roundw
              case rel => exact ⟨i + 1, _, t3, _, _, bo3, bc3, _, _, by omega, by go_num, H4.out, by omega, HI3.out, by rw [H4i.out]; rfl, fun _ => ⟨HRK.out.1.symm, HRK.out.2.symm⟩⟩
              case measure => simp [intOf]; omega
            · obtain rfl : i = 5 := by omega
              obtain ⟨rfl, rfl⟩ := hrs rfl
              have hX := HT.out
              have hX := hX.symm.trans (lateS5 o wo wx hwo.1)
              rw [Prod.mk.injEq] at hX
              have HS4 := Lib.hid (HR.out.eqs hX.1 hX.2)
              rw [show decide (5 = 5) = true from rfl]
              clear HR HT hX H6 HI hlt hl4 hrs zr1 zi hi hi'
              go_wp2_with fail
              refine (Load_f HS4.out.ms 1 (by omega)).mono ?_
              rintro e wsL ⟨rfl, mL, kL⟩
              have HLd := Lib.hid (HS4.out.mem mL kL (.inl rfl) (cnt_pos HS4.out.s0))
              have zL := HLd.out.lt
              rw [show cellAt [0, o, 0, -1, 0, 0, 0, wx] 1 = o from by simp [cellAt]]
              clear mL kL HS4
              go_wp2_with fail
              refine (See_f HLd.out.ms 3 (by omega)).mono ?_
              rintro e wsM ⟨rfl, -, hbM⟩
              have HM := Lib.hid (HLd.out.below hbM)
              rw [rec3]
              clear hbM HLd
              generalize hnth : nthIs _ 3 = nb
              clear hnth
              go_wp2_with fail
              generalize hWF : World.alloc _ _ = WF
              generalize hs5 : wsM.heap.size = r5
              have AF : WF.heap[r5]? = some (.cells #[.int .i64 (-1), .int .i64 (0), .int .i64 (0), .int .i64 (0), .int .i64 (wx)] 68 (0, 0)) := by rw [← hWF]; exact alloc_at hs5 _
              have zM := HM.out.lt
              have HF := Lib.hid ((HM.out.below (w' := WF) (by rw [← hWF]; go_grown)).more AF (HM.out.ms.past r5 (by omega)) (by omega))
              clear hWF hs5 AF HM
              refine (known15_any _).mono ?_
              rintro e wG ⟨rfl, hbG⟩
              have HG := Lib.hid (HF.out.below hbG)
              clear HF hbG
              obtain ⟨⟨a0, a1, a2, a3, a4, a5, a6, a7, a8, a9, a10, a11, a12⟩, -⟩ := blk13 HG.out.at_
              obtain ⟨⟨v0, v1, v2, v3, v4⟩, zv⟩ := blk5 (HG.out.get (.head _))
              obtain ⟨⟨p0, p1⟩, zp⟩ := blk2c (HG.out.get (.tail _ (.head _)))
              obtain ⟨⟨n0, n1⟩, zn⟩ := blk2c (HG.out.get (.tail _ (.tail _ (.head _))))
              have BG := HZ.out.trans (HG.out.ms.B.mono HZ.out.size)
              go_wp2
              go_ret
              exact ⟨by first | rfl | (simp; done) | (simp; omega), BG⟩

end Go.Proofs.Ytcellcjojfbajaa
