/- OwnerTold: the walk. -/
import Derived.Test.YtcellcjojfbajaaOwPl
import Derived.Test.YtcellcjojfbajaaOwK
namespace Go.Proofs.Ytcellcjojfbajaa
set_option linter.unusedSimpArgs false
set_option linter.unusedVariables false
open Go.RowKit
open Go.ChangeShapes Go.WideShapes Go.ChangeAt

theorem told_k (w r : Int) : owK [9, 3, 0, 0, 1, 0, 0, r] ⟨0, 14, 3, 1, w, 0, 0, 0, 0, 0, 0, 0⟩ = wk r := by simp [owK, cellAt, wr64]
theorem told_v (w r : Int) : owV [9, 3, 0, 0, 1, 0, 0, r] ⟨0, 14, 3, 1, w, 0, 0, 0, 0, 0, 0, 0⟩ = wv r := by simp [owV, cellAt, wr64]
theorem rg64_3 : (-9223372036854775808 : Int) ≤ 3 ∧ (3 : Int) ≤ 9223372036854775807 := by decide
theorem cnt_pos {xs : List Int} {a st : Int} (h : 0 ≤ st) : 0 ≤ st + cntAt xs a := by have := cntAt_rng xs a; omega
set_option maxRecDepth 100000 in
set_option maxHeartbeats 8000000 in
theorem ownerTold_any (ok ov sk sv k : Int) (w : World) (o1 : 0 ≤ ok) (o2 : ok ≤ 255) (o3 : -2147483648 ≤ ov) (o4 : ov ≤ 2147483647) (q1 : 0 ≤ sk) (q2 : sk ≤ 255) (q3 : -2147483648 ≤ sv) (q4 : sv ≤ 2147483647) (k0 : 0 ≤ k) (k1 : k ≤ 255) :
    Calls Try.prog 3 #[.agg #[.int .u8 ok, .int .i32 ov], .agg #[.int .u8 sk, .int .i32 sv], .int .u8 k] w fun e w' => e = .returned (.bool true) ∧ Below w.heap.size w w' := by
  have hwo := word_rng o1 o2 o3 o4
  have hwr := word_rng q1 q2 q3 q4
  obtain ⟨wo, hw0⟩ : ∃ x, wordOf ok ov = x := ⟨_, rfl⟩
  obtain ⟨wx, hw1⟩ : ∃ x, wordOf sk sv = x := ⟨_, rfl⟩
  rw [hw0] at hwo
  rw [hw1] at hwr
  go_enter Try.func3, Try.ntmps3
  go_wp2_with fail
  generalize hq : w.heap.size = q
  generalize hW0 : World.alloc _ _ = W0
  have QQ : W0.heap[q]? = some (.cells #[.int .u8 ok, .int .i32 ov] 23 (0, 0)) ∧ W0.heap[q + 1]? = some (.cells #[.int .u8 sk, .int .i32 sv] 25 (0, 0)) := by rw [← hW0]; exact alloc2_at hq _ _
  have B0 : Below w.heap.size w W0 := by rw [← hW0]; go_grown
  have zq : q + 1 < W0.heap.size := (Array.getElem?_eq_some_iff.1 QQ.2).1
  refine (Open_ms 1 W0 W0 (Below.refl _ _) (by omega) (by omega)).mono ?_
  rintro e w1 ⟨g0, rfl, m1, hb1⟩
  generalize hb : W0.heap.size = b at m1 hb1 ⊢
  have P1 := (hb1.block q (by omega)).trans QQ.1
  have P2 := (hb1.block (q + 1) (by omega)).trans QQ.2
  have f1 : ¬ Foot b g0 q := fun e => by
    rcases e with e | e
    · omega
    · have := m1.2.2.1 _ e.symm; omega
  have f2 : ¬ Foot b g0 (q + 1) := fun e => by
    rcases e with e | e
    · omega
    · have := m1.2.2.1 _ e.symm; omega
  obtain ⟨⟨p0, p1⟩, zp⟩ := blk2c P1
  have H1 := Lib.hid (And.intro m1 (And.intro P1 (And.intro P2 (And.intro f1 (And.intro f2 B0)))))
  clear m1 hb1 P1 P2 f1 f2 hW0 QQ B0
  go_wp2_with fail
  refine (oBegin_b w1 0 0 0 0 0 0 0 0 0 0 0 0 ok ov (.slice none 0 0) 0 (fun _ => 0) (Its.zero _ _ _) (by omega) o1 o2 o3 o4 (by decide) (by decide)).mono ?_
  rintro e w2 ⟨bt2, rfl, I2, hb2⟩
  obtain ⟨bo2, bc2, rfl, -⟩ := I2
  rw [show wrap64 (0 + 1) = 1 from by unfold wrap64; omega, hw0]
  clear p0 p1
  go_wp2
  generalize hr : w2.heap.size = r
  generalize hW : World.alloc _ _ = W
  have A2 : W.heap[r]? = some (.cells #[.int .i64 0, .int .i64 1, .int .i64 0, .int .i64 1, .int .i64 wo, .int .i64 0, .int .i64 0, .int .i64 0, .int .i64 0, .int .i64 0, .int .i64 0, .int .i64 0, .slice bo2 0 bc2] 30 (0, 0)) := by rw [← hW]; exact alloc_at hr _
  have BW : Below w1.heap.size w1 W := hb2.trans ((show Below w2.heap.size w2 W by rw [← hW]; go_grown).mono hb2.size)
  have zr : w1.heap.size ≤ r := by have := hb2.size; omega
  have zq1 : q + 1 < w1.heap.size := (Array.getElem?_eq_some_iff.1 H1.out.2.2.1).1
  have HS := Lib.hid (show LS W0 W b g0 8 [0, 0, 0] 1 r ⟨0, 1, 0, 1, wo, 0, 0, 0, 0, 0, 0, 0⟩ (.slice bo2 0 bc2) [(q, .cells #[.int .u8 ok, .int .i32 ov] 23 (0, 0)), (q + 1, .cells #[.int .u8 sk, .int .i32 sv] 25 (0, 0))] from ⟨H1.out.1.below BW, A2, H1.out.1.past r zr, by have := H1.out.1.2.2.2.1.size; omega, fun p hp => by
    rcases List.mem_cons.1 hp with rfl | hp
    · exact ⟨(BW.block q (by omega)).trans H1.out.2.1, H1.out.2.2.2.1, by show q ≠ r; omega⟩
    · rcases List.mem_singleton.1 hp with rfl
      exact ⟨(BW.block (q + 1) zq1).trans H1.out.2.2.1, H1.out.2.2.2.2.1, by show q + 1 ≠ r; omega⟩, by omega, Rg64.zero⟩)
  have HB := Lib.hid H1.out.2.2.2.2.2
  clear hr hW A2 BW zr zq1 hb2 H1 zp
  go_loopw [10] (fun k wr => ∃ (i : Nat) (X : List Int) (T : Th) (st : Int) (g : Option Nat) (bo : Option Addr) (bc : Nat), i ≤ 9 ∧ k = .int .i64 i ∧ LS W0 wr b g 8 X st r T (.slice bo 0 bc) [(q, .cells #[.int .u8 ok, .int .i32 ov] 23 (0, 0)), (q + 1, .cells #[.int .u8 sk, .int .i32 sv] 25 (0, 0))] ∧ st ≤ 100 + 2 * i ∧ owIt 8 noE [0, 0, 0] ⟨0, 1, 0, 1, wo, 0, 0, 0, 0, 0, 0, 0⟩ i = (X, T)) (fun k _ => 9 - (intOf k).toNat)
  case atStart => exact ⟨0, _, _, _, _, _, _, Nat.zero_le _, rfl, HS.out, by omega, rfl⟩
  case round =>
    obtain ⟨i, X, T, st, g, bo, bc, hi, rfl, h, s1, hit⟩ := hrel
    have zi : (0 : Int) ≤ (i : Int) := by omega
    have hi' : (i : Int) ≤ 9 := by omega
    have HR := Lib.hid h
    have HT := Lib.hid hit
    have zr1 := h.lt
    clear h hit
    by_cases hlt : i < 9
    · have hlt' : (i : Int) < 9 := by omega
      obtain ⟨⟨a0, a1, a2, a3, a4, a5, a6, a7, a8, a9, a10, a11, a12⟩, -⟩ := blk13 HR.out.at_
      go_wp2_with fail
      refine (oStep_f W0 _ b _ 8 st X T (.slice bo 0 bc) 0 (fun _ => 0) HR.out.ms (Its.zero _ _ _) (Nat.zero_le _) HR.out.s0 (by omega) HR.out.rg).mono ?_
      rintro e ws3 ⟨bt3, g3, he3, m3, I3, k3, hg3⟩
      obtain ⟨bo3, bc3, rfl, -⟩ := I3
      have H3 := Lib.hid (HR.out.mem m3 k3 hg3 (owC_pos HR.out.s0))
      have rg3 := Lib.hid (owT_rg (N := 8) HR.out.rg HR.out.ms.lenk)
      have c3 := owC_rng 8 X T
      obtain ⟨t3, ht3⟩ : ∃ t, owT 8 X T = t := ⟨_, rfl⟩
      rw [ht3] at he3 rg3
      have z3 := H3.out.lt
      have hit3 := owIt_succ HT.out
      unfold noE at hit3
      rw [ht3] at hit3
      have HI3 := Lib.hid hit3
      obtain ⟨⟨c0, c1, c2, c3, c4, c5, c6, c7, c8, c9, c10, c11, c12⟩, -⟩ := blk13 H3.out.at_
      have fc0 := blkF H3.out.at_ 0; have fc1 := blkF H3.out.at_ 1; have fc2 := blkF H3.out.at_ 2; have fc3 := blkF H3.out.at_ 3; have fc4 := blkF H3.out.at_ 4; have fc5 := blkF H3.out.at_ 5; have fc6 := blkF H3.out.at_ 6; have fc7 := blkF H3.out.at_ 7; have fc8 := blkF H3.out.at_ 8; have fc9 := blkF H3.out.at_ 9; have fc10 := blkF H3.out.at_ 10; have fc11 := blkF H3.out.at_ 11; have fc12 := blkF H3.out.at_ 12
      clear ht3 hit3 m3 k3 hg3 zr1 a0 a1 a2 a3 a4 a5 a6 a7 a8 a9 a10 a11 a12
      simp only [thV] at he3
      subst he3
      go_wp2_with fail
      generalize hWs4 : World.setCell _ _ _ = Ws4
      have U4 : Ws4.heap[r]? = some (.cells #[.int .i64 t3.i0, .int .i64 t3.i1, .int .i64 t3.i2, .int .i64 t3.i3, .int .i64 t3.i4, .int .i64 t3.i5, .int .i64 t3.i6, .int .i64 t3.i7, .int .i64 t3.i8, .int .i64 t3.i9, .int .i64 t3.i10, .int .i64 t3.i11, .slice bo3 0 bc3] 30 (0, 0)) := by rw [← hWs4]; exact set13 H3.out.at_ rfl
      have K4 : Kept (fun k => k = r) ws3 Ws4 := by rw [← hWs4]; exact kept_set13 _ _ _ _ _ _ _ _ _ _ _ _ _ _ _
      have Hs4 := H3.out.put K4 U4 rg3.out
      generalize hW4 : World.alloc _ _ = W4
      have H4 := Lib.hid (Hs4.below (w' := W4) (by rw [← hW4]; go_grown))
      clear hWs4 Hs4 hW4 U4 K4
      clear c0 c1 c2 c3 c4 c5 c6 c7 c8 c9 c10 c11 c12 fc0 fc1 fc2 fc3 fc4 fc5 fc6 fc7 fc8 fc9 fc10 fc11 fc12
      go_roundw
      case rel => exact ⟨i + 1, _, t3, _, _, bo3, bc3, by omega, by go_num, H4.out, by omega, HI3.out⟩
      case measure => simp [intOf]; omega
    · have ei : (i : Int) = 9 := by omega
      rw [ei]
      obtain rfl : i = 9 := by omega
      clear zr1 hlt
      have hX := HT.out.symm.trans (told9 wo)
      rw [Prod.mk.injEq] at hX
      have HS2 := Lib.hid (HR.out.eqs hX.1 hX.2)
      clear HR HT hX HS
      obtain ⟨n2, hn2⟩ : ∃ n, ((k % 3) * 2).toNat = n := ⟨_, rfl⟩
      have hn3 : (n2 : Int) = (k % 3) * 2 := by omega
      have hn4 : n2 ≤ 4 := by omega
      go_wp2_with fail
      go_loopw [14] (fun k wr => ∃ (i : Nat) (X : List Int) (T : Th) (st : Int) (g : Option Nat) (bo : Option Addr) (bc : Nat), i ≤ n2 ∧ k = .int .i64 i ∧ LS W0 wr b g 8 X st r T (.slice bo 0 bc) [(q, .cells #[.int .u8 ok, .int .i32 ov] 23 (0, 0)), (q + 1, .cells #[.int .u8 sk, .int .i32 sv] 25 (0, 0))] ∧ st ≤ 118 + 2 * i ∧ owIt 8 E9 [0, 3, 0, wo, 1, 0, 0, 0] ⟨0, 11, 3, 1, wo, 1, 0, 0, 0, 0, 0, 0⟩ i = (X, T)) (fun k _ => n2 - (intOf k).toNat)
      case atStart => exact ⟨0, _, _, _, _, _, _, Nat.zero_le _, rfl, HS2.out, by omega, rfl⟩
      case round =>
        obtain ⟨i, X, T, st, g, bo, bc, hi, rfl, h, s1, hit⟩ := hrel
        have zi : (0 : Int) ≤ (i : Int) := by omega
        have hi' : (i : Int) ≤ 4 := by omega
        have HR := Lib.hid h
        have HT := Lib.hid hit
        have zr1 := h.lt
        clear h hit
        by_cases hlt : i < n2
        · have hlt' : (i : Int) < (k % 3) * 2 := by omega
          obtain ⟨⟨a0, a1, a2, a3, a4, a5, a6, a7, a8, a9, a10, a11, a12⟩, -⟩ := blk13 HR.out.at_
          go_wp2_with fail
          refine (Store_f HR.out.ms (0) (9) (by omega)).mono ?_
          rintro e wsS ⟨rfl, mS, kS⟩
          have HS := Lib.hid (HR.out.mem mS kS (.inl rfl) (cnt_pos HR.out.s0))
          have ccS := cntAt_rng X (0)
          have zS := HS.out.lt
          clear mS kS
          obtain ⟨⟨d0, d1, d2, d3, d4, d5, d6, d7, d8, d9, d10, d11, d12⟩, -⟩ := blk13 HS.out.at_
          clear a0 a1 a2 a3 a4 a5 a6 a7 a8 a9 a10 a11 a12
          go_wp2_with fail
          refine (oStep_f W0 _ b _ 8 (st + cntAt X 0) (cellSet X 0 9) T (.slice bo 0 bc) 0 (fun _ => 0) HS.out.ms (Its.zero _ _ _) (Nat.zero_le _) HS.out.s0 (by omega) HS.out.rg).mono ?_
          rintro e ws3 ⟨bt3, g3, he3, m3, I3, k3, hg3⟩
          obtain ⟨bo3, bc3, rfl, -⟩ := I3
          have H3 := Lib.hid (HS.out.mem m3 k3 hg3 (owC_pos HS.out.s0))
          have rg3 := Lib.hid (owT_rg (N := 8) HS.out.rg HS.out.ms.lenk)
          have c3 := owC_rng 8 (cellSet X 0 9) T
          obtain ⟨t3, ht3⟩ : ∃ t, owT 8 (cellSet X 0 9) T = t := ⟨_, rfl⟩
          rw [ht3] at he3 rg3
          have z3 := H3.out.lt
          have hit3 := owIt_succ HT.out
          simp only [E9] at hit3
          rw [ht3] at hit3
          have HI3 := Lib.hid hit3
          obtain ⟨⟨c0, c1, c2, c3, c4, c5, c6, c7, c8, c9, c10, c11, c12⟩, -⟩ := blk13 H3.out.at_
          have fc0 := blkF H3.out.at_ 0; have fc1 := blkF H3.out.at_ 1; have fc2 := blkF H3.out.at_ 2; have fc3 := blkF H3.out.at_ 3; have fc4 := blkF H3.out.at_ 4; have fc5 := blkF H3.out.at_ 5; have fc6 := blkF H3.out.at_ 6; have fc7 := blkF H3.out.at_ 7; have fc8 := blkF H3.out.at_ 8; have fc9 := blkF H3.out.at_ 9; have fc10 := blkF H3.out.at_ 10; have fc11 := blkF H3.out.at_ 11; have fc12 := blkF H3.out.at_ 12
          clear ht3 hit3 m3 k3 hg3 zr1 d0 d1 d2 d3 d4 d5 d6 d7 d8 d9 d10 d11 d12
          simp only [thV] at he3
          subst he3
          go_wp2_with fail
          generalize hWs4 : World.setCell _ _ _ = Ws4
          have U4 : Ws4.heap[r]? = some (.cells #[.int .i64 t3.i0, .int .i64 t3.i1, .int .i64 t3.i2, .int .i64 t3.i3, .int .i64 t3.i4, .int .i64 t3.i5, .int .i64 t3.i6, .int .i64 t3.i7, .int .i64 t3.i8, .int .i64 t3.i9, .int .i64 t3.i10, .int .i64 t3.i11, .slice bo3 0 bc3] 30 (0, 0)) := by rw [← hWs4]; exact set13 H3.out.at_ rfl
          have K4 : Kept (fun k => k = r) ws3 Ws4 := by rw [← hWs4]; exact kept_set13 _ _ _ _ _ _ _ _ _ _ _ _ _ _ _
          have Hs4 := H3.out.put K4 U4 rg3.out
          generalize hW4 : World.alloc _ _ = W4
          have H4 := Lib.hid (Hs4.below (w' := W4) (by rw [← hW4]; go_grown))
          clear hWs4 Hs4 hW4 U4 K4
          clear c0 c1 c2 c3 c4 c5 c6 c7 c8 c9 c10 c11 c12 fc0 fc1 fc2 fc3 fc4 fc5 fc6 fc7 fc8 fc9 fc10 fc11 fc12
          go_roundw
          case rel => exact ⟨i + 1, _, t3, _, _, bo3, bc3, by omega, by go_num, H4.out, by omega, HI3.out⟩
          case measure => simp [intOf]; omega
        · skip
          skip
          obtain rfl : i = n2 := by omega
          clear zr1 hlt
      
          have hX := HT.out
          rw [← hn2] at hX
          obtain ⟨a, c, hE⟩ := toldE wo k k0 k1
          have hX := hX.symm.trans hE
          rw [Prod.mk.injEq] at hX
          have HS3 := Lib.hid (HR.out.eqs hX.1 hX.2)
          clear HR HT hX hE HS2 hn2 hn4 hi
          go_wp2_with fail
          refine (Store_f HS3.out.ms (0) (9) (by omega)).mono ?_
          rintro e wsA ⟨rfl, mA, kA⟩
          have HA := Lib.hid (HS3.out.mem mA kA (.inl rfl) (cnt_pos HS3.out.s0))
          have ccA := cntAt_rng [a, 3, 0, wo, 1, 0, 0, 0] (0)
          have zA := HA.out.lt
          clear mA kA
          have HA2 := Lib.hid (HA.out.eqs (X' := [9, 3, 0, wo, 1, 0, 0, 0]) rfl rfl)
          obtain ⟨⟨p0, p1⟩, zp⟩ := blk2c (HA.out.get (.tail _ (.head _)))
          clear HA
          go_wp2_with fail
          refine (rRes_any sk sv _ q1 q2 q3 q4).mono ?_
          rintro e wB ⟨rfl, hbB⟩
          rw [hw1]
          have HB2 := Lib.hid (HA2.out.below hbB)
          clear hbB p0 p1 zp
          go_wp2_with fail
          refine (Store_f HB2.out.ms (7) (wx) (by omega)).mono ?_
          rintro e wsC ⟨rfl, mC, kC⟩
          have HC := Lib.hid (HB2.out.mem mC kC (.inl rfl) (cnt_pos HB2.out.s0))
          have ccC := cntAt_rng [9, 3, 0, wo, 1, 0, 0, 0] (7)
          have zC := HC.out.lt
          clear mC kC
          have HC2 := Lib.hid (HC.out.eqs (X' := [9, 3, 0, wo, 1, 0, 0, wx]) rfl rfl)
          clear HC
          go_wp2_with fail
          refine (Store_f HC2.out.ms (3) (0) (by omega)).mono ?_
          rintro e wsD ⟨rfl, mD, kD⟩
          have HD := Lib.hid (HC2.out.mem mD kD (.inl rfl) (cnt_pos HC2.out.s0))
          have ccD := cntAt_rng [9, 3, 0, wo, 1, 0, 0, wx] (3)
          have zD := HD.out.lt
          clear mD kD
          have HD2 := Lib.hid (HD.out.eqs (X' := [9, 3, 0, 0, 1, 0, 0, wx]) rfl rfl)
          clear HD
          obtain ⟨⟨a0, a1, a2, a3, a4, a5, a6, a7, a8, a9, a10, a11, a12⟩, -⟩ := blk13 HD2.out.at_
          go_wp2_with fail
          refine (oStep_f W0 _ b _ 8 _ [9, 3, 0, 0, 1, 0, 0, wx] ⟨0, 11, 3, 1, wo, c, 0, 0, 0, 0, 0, 0⟩ (.slice _ 0 _) 0 (fun _ => 0) HD2.out.ms (Its.zero _ _ _) (Nat.zero_le _) HD2.out.s0 (by omega) HD2.out.rg).mono ?_
          rintro e ws5 ⟨bt5, g5, he5, m5, I5, k5, hg5⟩
          obtain ⟨bo5, bc5, rfl, -⟩ := I5
          have H5 := Lib.hid (HD2.out.mem m5 k5 hg5 (owC_pos HD2.out.s0))
          have rg5 := Lib.hid (owT_rg (N := 8) HD2.out.rg HD2.out.ms.lenk)
          have c5 := owC_rng 8 [9, 3, 0, 0, 1, 0, 0, wx] ⟨0, 11, 3, 1, wo, c, 0, 0, 0, 0, 0, 0⟩
          obtain ⟨t5, ht5⟩ : ∃ t, owT 8 [9, 3, 0, 0, 1, 0, 0, wx] ⟨0, 11, 3, 1, wo, c, 0, 0, 0, 0, 0, 0⟩ = t := ⟨_, rfl⟩
          rw [ht5] at he5 rg5
          have z5 := H5.out.lt
          rw [(told_x wo c wx hwo.1).2] at ht5
          subst ht5
          have H5b := Lib.hid (H5.out.eqs (told_x wo c wx hwo.1).1 rfl)
          clear m5 k5 hg5 H5 a0 a1 a2 a3 a4 a5 a6 a7 a8 a9 a10 a11 a12
          simp only [thV, show ¬ ((11 : Int) = 14) by decide, decide_false] at he5
          subst he5
          go_wp2_with fail
          generalize hr18 : ws5.heap.size = r18
          generalize hW6 : World.alloc _ _ = W6
          have AA6 : W6.heap[r18]? = some (.cells #[.int .i64 0, .int .i64 14, .int .i64 3, .int .i64 1, .int .i64 wo, .int .i64 0, .int .i64 0, .int .i64 0, .int .i64 0, .int .i64 0, .int .i64 0, .int .i64 0, .slice bo5 0 bc5] 30 (0, 0)) ∧ W6.heap[r18 + 1]? = some (.cells #[.int .u8 (owK [9, 3, 0, 0, 1, 0, 0, wx] ⟨0, 11, 3, 1, wo, c, 0, 0, 0, 0, 0, 0⟩), .int .i32 (owV [9, 3, 0, 0, 1, 0, 0, wx] ⟨0, 11, 3, 1, wo, c, 0, 0, 0, 0, 0, 0⟩)] 25 (0, 0)) := by rw [← hW6]; exact alloc2_at hr18 _ _
          have B6 : Below ws5.heap.size ws5 W6 := by rw [← hW6]; go_grown
          have zl6 := H5b.out.lt
          have H6 := Lib.hid (((H5b.out.below B6).more AA6.1 (H5b.out.ms.past r18 (by omega)) (by omega)).more AA6.2 (H5b.out.ms.past (r18 + 1) (by omega)) (by omega))
          clear hr18 hW6 AA6 B6 zl6
          refine (oStep_f W0 _ b _ 8 _ [9, 3, 0, 0, 1, 0, 0, wx] ⟨0, 14, 3, 1, wo, 0, 0, 0, 0, 0, 0, 0⟩ (.slice bo5 0 bc5) 0 (fun _ => 0) H6.out.ms (Its.zero _ _ _) (Nat.zero_le _) H6.out.s0 (by omega) rg64_3).mono ?_
          rintro e ws7 ⟨bt7, g7, he7, m7, I7, k7, hg7⟩
          obtain ⟨bo7, bc7, rfl, -⟩ := I7
          have H7 := Lib.hid ((H6.out.mem m7 k7 hg7 (owC_pos H6.out.s0)).eqs (told_y wo wx).1 rfl)
          rw [(told_y wo wx).2, told_k wo wx, told_v wo wx, ← hw1, wk_word q1 q2 q3 q4, wv_word q1 q2 q3 q4, hw1] at he7
          clear m7 k7 hg7 H6 H5b HD2 HC2 HB2 HA2 HS3 ccA ccC ccD zA zC zD c5 z5 rg5 s1 hX
          simp only [thV, decide_true] at he7
          subst he7
          obtain ⟨⟨p0, p1⟩, zp⟩ := blk2c (H7.out.get (.tail _ (.tail _ (.head _))))
          go_wp2_with fail
          clear p0 p1 zp
          generalize hr21 : ws7.heap.size = r21
          generalize hW8 : World.alloc _ _ = W8
          have AA8 : W8.heap[r21]? = some (.cells #[.int .i64 0, .int .i64 0, .int .i64 3, .int .i64 1, .int .i64 0, .int .i64 wx, .int .i64 0, .int .i64 0, .int .i64 0, .int .i64 0, .int .i64 0, .int .i64 0, .slice bo7 0 bc7] 30 (0, 0)) ∧ W8.heap[r21 + 1]? = some (.cells #[.int .u8 sk, .int .i32 sv] 25 (0, 0)) := by rw [← hW8]; exact alloc2_at hr21 _ _
          have B8 : Below ws7.heap.size ws7 W8 := by rw [← hW8]; go_grown
          have zl8 := H7.out.lt
          have H8 := Lib.hid (((H7.out.below B8).more AA8.1 (H7.out.ms.past r21 (by omega)) (by omega)).more AA8.2 (H7.out.ms.past (r21 + 1) (by omega)) (by omega))
          clear hr21 hW8 AA8 B8 zl8
          refine (oBegin_c _ 0 0 3 1 0 wx 0 0 0 0 0 0 ok ov (.slice bo7 0 bc7) 0 (fun _ => 0) (Its.zero _ _ _) (by omega) o1 o2 o3 o4 (by decide) (by decide)).mono ?_
          rintro e ws9 ⟨bt9, rfl, I9, hb9⟩
          obtain ⟨bo9, bc9, rfl, -⟩ := I9
          rw [show wrap64 (1 + 1) = 2 from by unfold wrap64; omega, hw0]
          have H9 := Lib.hid (H8.out.below hb9)
          clear H8 H7 hb9
          obtain ⟨⟨p0, p1⟩, zp⟩ := blk2c (H9.out.get (.tail _ (.tail _ (.tail _ (.tail _ (.head _))))))
          obtain ⟨⟨a0, a1, a2, a3, a4, a5, a6, a7, a8, a9, a10, a11, a12⟩, za⟩ := blk13 (H9.out.get (.tail _ (.tail _ (.tail _ (.head _)))))
          go_wp2_with fail
          clear p0 p1 zp a0 a1 a2 a3 a4 a5 a6 a7 a8 a9 a10 a11 a12 za
          generalize hr24 : ws9.heap.size = r24
          generalize hWX : World.alloc _ _ = WX
          have AAX : WX.heap[r24]? = some (.cells #[.int .i64 0, .int .i64 2, .int .i64 3, .int .i64 2, .int .i64 wo, .int .i64 wx, .int .i64 0, .int .i64 0, .int .i64 0, .int .i64 0, .int .i64 0, .int .i64 0, .slice bo9 0 bc9] 30 (0, 0)) := by rw [← hWX]; exact alloc_at hr24 _
          have BX : Below ws9.heap.size ws9 WX := by rw [← hWX]; go_grown
          have zlX := H9.out.lt
          have HX := Lib.hid ((H9.out.below BX).more AAX (H9.out.ms.past r24 (by omega)) (by omega))
          clear hr24 hWX AAX BX zlX
          refine (oBegin_a _ 0 14 3 1 wo 0 0 0 0 0 0 0 ok ov (.slice bo5 0 bc5) 0 (fun _ => 0) (Its.zero _ _ _) (by omega) o1 o2 o3 o4 (by decide)).mono ?_
          rintro e wsE ⟨btE, rfl, IE, hbE⟩
          obtain ⟨boE, bcE, rfl, -⟩ := IE
          have HE := Lib.hid (HX.out.below hbE)
          clear HX H9
          clear hbE
          go_wp2_with fail
          generalize hWF : World.alloc _ _ = WF
          have HF := Lib.hid (HE.out.below (w' := WF) (by rw [← hWF]; go_grown))
          clear hWF
          refine (known15_any _).mono ?_
          rintro e wG ⟨rfl, hbG⟩
          have HG := Lib.hid (HF.out.below hbG)
          clear HF HE
          clear hbG
          obtain ⟨⟨p0, p1⟩, zp⟩ := blk2c (HG.out.get (.tail _ (.tail _ (.tail _ (.tail _ (.tail _ (.tail _ (.head _))))))))
          obtain ⟨⟨v0, v1⟩, zv⟩ := blk2c (HG.out.get (.tail _ (.head _)))
          obtain ⟨⟨a0, a1, a2, a3, a4, a5, a6, a7, a8, a9, a10, a11, a12⟩, za⟩ := blk13 (HG.out.get (.head _))
          obtain ⟨⟨d0, d1, d2, d3, d4, d5, d6, d7, d8, d9, d10, d11, d12⟩, zd⟩ := blk13 (HG.out.get (.tail _ (.tail _ (.head _))))
          obtain ⟨⟨f0, f1, f2, f3, f4, f5, f6, f7, f8, f9, f10, f11, f12⟩, zf⟩ := blk13 (HG.out.get (.tail _ (.tail _ (.tail _ (.tail _ (.head _))))))
          have BG := HB.out.trans (HG.out.ms.B.mono HB.out.size)
          go_wp2
          go_ret
          exact ⟨by first | rfl | (simp; done) | (simp; omega), BG⟩

end Go.Proofs.Ytcellcjojfbajaa
