/- OwnerClaims: the walk. -/
import Derived.Test.YtcellcjojfbajaaOwPl
import Derived.Test.YtcellcjojfbajaaOwK
import Derived.Test.YtcellcjojfbajaaRecFun
namespace Go.Proofs.Ytcellcjojfbajaa
set_option linter.unusedSimpArgs false
set_option linter.unusedVariables false
open Go.RowKit
open Go.ChangeShapes Go.WideShapes Go.ChangeAt

theorem blk5 {w : World} {b : Nat} {x0 x1 x2 x3 x4 : Value} {t : TypeId} (h : w.heap[b]? = some (.cells #[x0, x1, x2, x3, x4] t (0, 0))) : (w.cell? ⟨b, 0, none⟩ = some x0 ∧ w.cell? ⟨b, 1, none⟩ = some x1 ∧ w.cell? ⟨b, 2, none⟩ = some x2 ∧ w.cell? ⟨b, 3, none⟩ = some x3 ∧ w.cell? ⟨b, 4, none⟩ = some x4) ∧ b < w.heap.size := by
  refine ⟨⟨?_, ?_, ?_, ?_, ?_⟩, (Array.getElem?_eq_some_iff.1 h).1⟩ <;> simp [World.cell?, h]
theorem cnt_pos {xs : List Int} {a st : Int} (h : 0 ≤ st) : 0 ≤ st + cntAt xs a := by have := cntAt_rng xs a; omega
theorem rec3 (x0 x1 x2 x3 x4 x5 x6 x7 : Int) : recV [x0, x1, x2, x3, x4, x5, x6, x7] 3 = .agg #[.int .i64 x3, .int .i64 x4, .int .i64 x5, .int .i64 x6, .int .i64 x7] := by
  have h : nthIs [x0, x1, x2, x3, x4, x5, x6, x7].length 3 = true := nth_yes (by omega) (by omega) (by show (3 - 3 : Int) / 5 < manyOf 8; unfold manyOf; omega)
  simp only [recV, recAt, h, if_true]; rfl
set_option maxRecDepth 100000 in
set_option maxHeartbeats 8000000 in
theorem ownerClaims_any (ok ov h o u : Int) (w : World) (o1 : 0 ≤ ok) (o2 : ok ≤ 255) (o3 : -2147483648 ≤ ov) (o4 : ov ≤ 2147483647) (u0 : 0 ≤ u) (u1 : u ≤ 255) :
    Calls Try.prog 8 #[.agg #[.int .u8 ok, .int .i32 ov], .int .i64 h, .int .i64 o, .int .u8 u] w fun e w' => e = .returned (.bool true) ∧ Below w.heap.size w w' := by
  have hwo := word_rng o1 o2 o3 o4
  obtain ⟨wo, hw0⟩ : ∃ x, wordOf ok ov = x := ⟨_, rfl⟩
  rw [hw0] at hwo
  go_enter Try.func8, Try.ntmps8
  go_wp2_with fail
  generalize hq : w.heap.size = q
  generalize hW0 : World.alloc _ _ = W0
  have QQ : W0.heap[q]? = some (.cells #[.int .u8 ok, .int .i32 ov] 23 (0, 0)) := by rw [← hW0]; exact alloc_at hq _
  have HZ := Lib.hid (show Below w.heap.size w W0 by rw [← hW0]; go_grown)
  have zq : q < W0.heap.size := (Array.getElem?_eq_some_iff.1 QQ).1
  refine (Open_ms 2 W0 W0 (Below.refl _ _) (by omega) (by omega)).mono ?_
  rintro e w1 ⟨g0, rfl, m1, hb1⟩
  generalize hb : W0.heap.size = b at m1 hb1 ⊢
  have P1 := (hb1.block q (by omega)).trans QQ
  obtain ⟨⟨p0, p1⟩, zp⟩ := blk2c P1
  have H1 := Lib.hid m1
  clear m1 hb1 P1 hW0 QQ
  go_wp2_with fail
  refine (oBegin_b w1 0 0 0 0 0 0 0 0 0 0 0 0 ok ov (.slice none 0 0) 0 (fun _ => 0) (Its.zero _ _ _) (by omega) o1 o2 o3 o4 (by decide) (by decide)).mono ?_
  rintro e w2 ⟨bt2, rfl, I2, hb2⟩
  obtain ⟨bo2, bc2, rfl, -⟩ := I2
  rw [show wrap64 (0 + 1) = 1 from by unfold wrap64; omega, hw0]
  have zr0 : w1.heap.size ≤ w2.heap.size := hb2.size
  have zr1 : b ≤ w1.heap.size := by have := H1.out.2.2.2.1.size; omega
  clear p0 p1 zp
  go_wp2_with fail
  generalize hr : w2.heap.size = r
  generalize hW : World.alloc _ _ = W
  have A2 : W.heap[r]? = some (.cells #[.int .i64 0, .int .i64 1, .int .i64 0, .int .i64 1, .int .i64 wo, .int .i64 0, .int .i64 0, .int .i64 0, .int .i64 0, .int .i64 0, .int .i64 0, .int .i64 0, .slice bo2 0 bc2] 30 (0, 0)) := by rw [← hW]; exact alloc_at hr _
  have BW : Below w1.heap.size w1 W := hb2.trans ((show Below w2.heap.size w2 W by rw [← hW]; go_grown).mono hb2.size)
  have HA := Lib.hid (show LS W0 W b g0 13 [0, 0, 0] 1 r ⟨0, 1, 0, 1, wo, 0, 0, 0, 0, 0, 0, 0⟩ (.slice bo2 0 bc2) [] from ⟨H1.out.below BW, A2, H1.out.past r (by omega), by omega, (fun p hp => by cases hp), by omega, Rg64.zero⟩)
  clear hr hW A2 BW zr0 zr1 hb2 H1 hb hq zq
  refine (Store_f HA.out.ms (1) (h) (by omega)).mono ?_
  rintro e ws0 ⟨rfl, m0, k0⟩
  have H0 := Lib.hid (HA.out.mem m0 k0 (.inl rfl) (cnt_pos HA.out.s0))
  have cc0 := cntAt_rng [0, 0, 0] (1)
  have z0 := H0.out.lt
  clear m0 k0
  have HS := Lib.hid (H0.out.eqs (X' := [0, h, 0]) rfl rfl)
  clear H0 HA
  go_wp2_with fail
  go_loopw [13] (fun k wr => ∃ (i : Nat) (X : List Int) (T : Th) (st : Int) (g : Option Nat) (bo : Option Addr) (bc : Nat), i ≤ 9 ∧ k = .int .i64 i ∧ LS W0 wr b g 13 X st r T (.slice bo 0 bc) [] ∧ st ≤ 100 + 2 * i ∧ owIt 13 (EC (2 + u % 7) o) [0, h, 0] ⟨0, 1, 0, 1, wo, 0, 0, 0, 0, 0, 0, 0⟩ i = (X, T)) (fun k _ => 9 - (intOf k).toNat)
  case atStart => exact ⟨0, _, _, _, _, _, _, Nat.zero_le _, rfl, HS.out, by omega, rfl⟩
  case round =>
    obtain ⟨i, X, T, st, g, bo, bc, hi, rfl, hh, s1, hit⟩ := hrel
    have zi : (0 : Int) ≤ (i : Int) := by omega
    have hi' : (i : Int) ≤ 9 := by omega
    have HR := Lib.hid hh
    have HT := Lib.hid hit
    have zr1 := hh.lt
    clear hh hit
    by_cases hlt : i < 9
    · have hlt' : (i : Int) < 9 := by omega
      by_cases hk : (i : Int) = 2 + u % 7
      · have hk1 : ((i : Int) == 2 + u % 7) = true := by simp [hk]
        have hk2 : decide ((i : Int) = 2 + u % 7) = true := by simp [hk]
        have HK := Lib.hid hk
        clear hk
        obtain ⟨⟨a0, a1, a2, a3, a4, a5, a6, a7, a8, a9, a10, a11, a12⟩, -⟩ := blk13 HR.out.at_
        go_wp2_with fail
        refine (Store_f HR.out.ms (1) (o) (by omega)).mono ?_
        rintro e wsS ⟨rfl, mS, kS⟩
        have HS := Lib.hid (HR.out.mem mS kS (.inl rfl) (cnt_pos HR.out.s0))
        have ccS := cntAt_rng X (1)
        have zS := HS.out.lt
        clear mS kS
        obtain ⟨⟨d0, d1, d2, d3, d4, d5, d6, d7, d8, d9, d10, d11, d12⟩, -⟩ := blk13 HS.out.at_
        clear a0 a1 a2 a3 a4 a5 a6 a7 a8 a9 a10 a11 a12
        go_wp2_with fail
        refine (oStep_f W0 _ b _ 13 _ (cellSet X 1 o) T (.slice _ 0 _) 0 (fun _ => 0) HS.out.ms (Its.zero _ _ _) (Nat.zero_le _) HS.out.s0 (by omega) HS.out.rg).mono ?_
        rintro e ws3 ⟨bt3, g3, he3, m3, I3, k3, hg3⟩
        obtain ⟨bo3, bc3, rfl, -⟩ := I3
        have H3 := Lib.hid (HS.out.mem m3 k3 hg3 (owC_pos HS.out.s0))
        have rg3 := Lib.hid (owT_rg (N := 13) HS.out.rg HS.out.ms.lenk)
        have c3 := owC_rng 13 (cellSet X 1 o) T
        obtain ⟨t3, ht3⟩ : ∃ t, owT 13 (cellSet X 1 o) T = t := ⟨_, rfl⟩
        rw [ht3] at he3 rg3
        have z3 := H3.out.lt
        have hit3 := owIt_succ HT.out
        simp only [EC, if_pos HK.out] at hit3
        rw [ht3] at hit3
        have HI3 := Lib.hid hit3
        obtain ⟨⟨c0, c1, c2, c3, c4, c5, c6, c7, c8, c9, c10, c11, c12⟩, -⟩ := blk13 H3.out.at_
        have fc0 := blkF H3.out.at_ 0; have fc1 := blkF H3.out.at_ 1; have fc2 := blkF H3.out.at_ 2; have fc3 := blkF H3.out.at_ 3; have fc4 := blkF H3.out.at_ 4; have fc5 := blkF H3.out.at_ 5; have fc6 := blkF H3.out.at_ 6; have fc7 := blkF H3.out.at_ 7; have fc8 := blkF H3.out.at_ 8; have fc9 := blkF H3.out.at_ 9; have fc10 := blkF H3.out.at_ 10; have fc11 := blkF H3.out.at_ 11; have fc12 := blkF H3.out.at_ 12
        clear ht3 hit3 m3 k3 hg3 zr1 d0 d1 d2 d3 d4 d5 d6 d7 d8 d9 d10 d11 d12
        simp only [thV] at he3
        subst he3
        go_wp2_with fail
        generalize hWs4 : World.setCell _ _ _ = Ws4
        have U4 : Ws4.heap[r]? = some (.cells #[.int .i64 t3.i0, .int .i64 t3.i1, .int .i64 t3.i2, .int .i64 t3.i3, .int .i64 t3.i4, .int .i64 t3.i5, .int .i64 t3.i6, .int .i64 t3.i7, .int .i64 t3.i8, .int .i64 t3.i9, .int .i64 t3.i10, .int .i64 t3.i11, .slice bo3 0 bc3] 30 (0, 0)) := by rw [← hWs4]; exact set13 H3.out.at_ rfl
        have K4 : Kept (fun k => k = r) ws3 Ws4 := by rw [← hWs4]; exact kept_set13 _ _ _ _ _ _ _ _ _ _ _ _ _ _ _
        have Hs4 := H3.out.put K4 U4 rg3.out
        generalize hW4 : World.alloc _ _ = W4
        have H4 := Lib.hid (Hs4.below (w' := W4) (by rw [← hW4]; go_grown))
        clear hWs4 Hs4 hW4 U4 K4
        clear c0 c1 c2 c3 c4 c5 c6 c7 c8 c9 c10 c11 c12 fc0 fc1 fc2 fc3 fc4 fc5 fc6 fc7 fc8 fc9 fc10 fc11 fc12
        go_roundw
        case rel => exact ⟨i + 1, _, t3, _, _, bo3, bc3, by omega, by go_num, H4.out, by omega, HI3.out⟩
        case measure => simp [intOf]; omega
      · have hk1 : ((i : Int) == 2 + u % 7) = false := by simp [hk]
        have hk2 : decide ((i : Int) = 2 + u % 7) = false := by simp [hk]
        have HK := Lib.hid hk
        clear hk
        obtain ⟨⟨d0, d1, d2, d3, d4, d5, d6, d7, d8, d9, d10, d11, d12⟩, -⟩ := blk13 HR.out.at_
        go_wp2_with fail
        refine (oStep_f W0 _ b _ 13 st X T (.slice bo 0 bc) 0 (fun _ => 0) HR.out.ms (Its.zero _ _ _) (Nat.zero_le _) HR.out.s0 (by omega) HR.out.rg).mono ?_
        rintro e ws3 ⟨bt3, g3, he3, m3, I3, k3, hg3⟩
        obtain ⟨bo3, bc3, rfl, -⟩ := I3
        have H3 := Lib.hid (HR.out.mem m3 k3 hg3 (owC_pos HR.out.s0))
        have rg3 := Lib.hid (owT_rg (N := 13) HR.out.rg HR.out.ms.lenk)
        have c3 := owC_rng 13 X T
        obtain ⟨t3, ht3⟩ : ∃ t, owT 13 X T = t := ⟨_, rfl⟩
        rw [ht3] at he3 rg3
        have z3 := H3.out.lt
        have hit3 := owIt_succ HT.out
        simp only [EC, if_neg HK.out] at hit3
        rw [ht3] at hit3
        have HI3 := Lib.hid hit3
        obtain ⟨⟨c0, c1, c2, c3, c4, c5, c6, c7, c8, c9, c10, c11, c12⟩, -⟩ := blk13 H3.out.at_
        have fc0 := blkF H3.out.at_ 0; have fc1 := blkF H3.out.at_ 1; have fc2 := blkF H3.out.at_ 2; have fc3 := blkF H3.out.at_ 3; have fc4 := blkF H3.out.at_ 4; have fc5 := blkF H3.out.at_ 5; have fc6 := blkF H3.out.at_ 6; have fc7 := blkF H3.out.at_ 7; have fc8 := blkF H3.out.at_ 8; have fc9 := blkF H3.out.at_ 9; have fc10 := blkF H3.out.at_ 10; have fc11 := blkF H3.out.at_ 11; have fc12 := blkF H3.out.at_ 12
        clear ht3 hit3 m3 k3 hg3 zr1 d0 d1 d2 d3 d4 d5 d6 d7 d8 d9 d10 d11 d12
        simp only [thV] at he3
        subst he3
        go_wp2_with fail
        generalize hWs4 : World.setCell _ _ _ = Ws4
        have U4 : Ws4.heap[r]? = some (.cells #[.int .i64 t3.i0, .int .i64 t3.i1, .int .i64 t3.i2, .int .i64 t3.i3, .int .i64 t3.i4, .int .i64 t3.i5, .int .i64 t3.i6, .int .i64 t3.i7, .int .i64 t3.i8, .int .i64 t3.i9, .int .i64 t3.i10, .int .i64 t3.i11, .slice bo3 0 bc3] 30 (0, 0)) := by rw [← hWs4]; exact set13 H3.out.at_ rfl
        have K4 : Kept (fun k => k = r) ws3 Ws4 := by rw [← hWs4]; exact kept_set13 _ _ _ _ _ _ _ _ _ _ _ _ _ _ _
        have Hs4 := H3.out.put K4 U4 rg3.out
        generalize hW4 : World.alloc _ _ = W4
        have H4 := Lib.hid (Hs4.below (w' := W4) (by rw [← hW4]; go_grown))
        clear hWs4 Hs4 hW4 U4 K4
        clear c0 c1 c2 c3 c4 c5 c6 c7 c8 c9 c10 c11 c12 fc0 fc1 fc2 fc3 fc4 fc5 fc6 fc7 fc8 fc9 fc10 fc11 fc12
        go_roundw
        case rel => exact ⟨i + 1, _, t3, _, _, bo3, bc3, by omega, by go_num, H4.out, by omega, HI3.out⟩
        case measure => simp [intOf]; omega
    · have ei : (i : Int) = 9 := by omega
      rw [ei]
      obtain rfl : i = 9 := by omega
      clear zr1 hlt hi hi' zi HS
      have u7 : u % 7 = 0 ∨ u % 7 = 1 ∨ u % 7 = 2 ∨ u % 7 = 3 ∨ u % 7 = 4 ∨ u % 7 = 5 ∨ u % 7 = 6 := by omega
      clear u0 u1
      rcases u7 with u7 | u7 | u7 | u7 | u7 | u7 | u7
      · have HU := Lib.hid u7
        clear u7
        have hX := HT.out
        rw [HU.out, show (2 : Int) + 0 = 2 from rfl] at hX
        have hX := hX.symm.trans (claims2 h o wo)
        rw [Prod.mk.injEq] at hX
        have HS2 := Lib.hid (HR.out.eqs hX.1 hX.2)
        rw [HU.out]
        clear HR HT hX HU
        go_wp2_with fail
        refine (Load_f HS2.out.ms 1 (by omega)).mono ?_
        rintro e wsL ⟨rfl, mL, kL⟩
        have HL := Lib.hid (HS2.out.mem mL kL (.inl rfl) (cnt_pos HS2.out.s0))
        have zL := HL.out.lt
        rw [show cellAt [0, 3, 0, wo, 1, 0, o, 0] 1 = 3 from by simp [cellAt]]
        clear mL kL HS2
        go_wp2_with fail
        refine (See_f HL.out.ms 3 (by omega)).mono ?_
        rintro e wsM ⟨rfl, -, hbM⟩
        have HM := Lib.hid (HL.out.below hbM)
        rw [rec3]
        clear hbM HL
        generalize hnth : nthIs _ 3 = nb
        clear hnth
        obtain ⟨⟨a0, a1, a2, a3, a4, a5, a6, a7, a8, a9, a10, a11, a12⟩, -⟩ := blk13 HM.out.at_
        go_wp2_with fail
        generalize hWF : World.alloc _ _ = WF
        generalize hrr : wsM.heap.size = rr
        have AF : WF.heap[rr]? = some (.cells #[.int .i64 wo, .int .i64 1, .int .i64 0, .int .i64 o, .int .i64 0] 68 (0, 0)) := by rw [← hWF]; exact alloc_at hrr _
        have HF := Lib.hid ((HM.out.below (w' := WF) (by rw [← hWF]; go_grown)).more AF (HM.out.ms.past rr (by omega)) (by have := HM.out.lt; omega))
        clear hWF hrr AF HM a0 a1 a2 a3 a4 a5 a6 a7 a8 a9 a10 a11 a12
        refine (known15_any _).mono ?_
        rintro e wG ⟨rfl, hbG⟩
        have HG := Lib.hid (HF.out.below hbG)
        clear HF hbG
        obtain ⟨⟨a0, a1, a2, a3, a4, a5, a6, a7, a8, a9, a10, a11, a12⟩, -⟩ := blk13 HG.out.at_
        obtain ⟨⟨v0, v1, v2, v3, v4⟩, zv⟩ := blk5 (HG.out.get (.head _))
        have BG := HZ.out.trans (HG.out.ms.B.mono HZ.out.size)
        go_wp2
        go_ret
        exact ⟨by first | rfl | (simp; done) | (simp; omega), BG⟩
      · have HU := Lib.hid u7
        clear u7
        have hX := HT.out
        rw [HU.out, show (2 : Int) + 1 = 3 from rfl] at hX
        have hX := hX.symm.trans (claims3 h o wo)
        rw [Prod.mk.injEq] at hX
        have HS2 := Lib.hid (HR.out.eqs hX.1 hX.2)
        rw [HU.out]
        clear HR HT hX HU
        go_wp2_with fail
        refine (Load_f HS2.out.ms 1 (by omega)).mono ?_
        rintro e wsL ⟨rfl, mL, kL⟩
        have HL := Lib.hid (HS2.out.mem mL kL (.inl rfl) (cnt_pos HS2.out.s0))
        have zL := HL.out.lt
        rw [show cellAt [0, 3, 0, wo, 1, 0, o, 0] 1 = 3 from by simp [cellAt]]
        clear mL kL HS2
        go_wp2_with fail
        refine (See_f HL.out.ms 3 (by omega)).mono ?_
        rintro e wsM ⟨rfl, -, hbM⟩
        have HM := Lib.hid (HL.out.below hbM)
        rw [rec3]
        clear hbM HL
        generalize hnth : nthIs _ 3 = nb
        clear hnth
        obtain ⟨⟨a0, a1, a2, a3, a4, a5, a6, a7, a8, a9, a10, a11, a12⟩, -⟩ := blk13 HM.out.at_
        go_wp2_with fail
        generalize hWF : World.alloc _ _ = WF
        generalize hrr : wsM.heap.size = rr
        have AF : WF.heap[rr]? = some (.cells #[.int .i64 wo, .int .i64 1, .int .i64 0, .int .i64 o, .int .i64 0] 68 (0, 0)) := by rw [← hWF]; exact alloc_at hrr _
        have HF := Lib.hid ((HM.out.below (w' := WF) (by rw [← hWF]; go_grown)).more AF (HM.out.ms.past rr (by omega)) (by have := HM.out.lt; omega))
        clear hWF hrr AF HM a0 a1 a2 a3 a4 a5 a6 a7 a8 a9 a10 a11 a12
        refine (known15_any _).mono ?_
        rintro e wG ⟨rfl, hbG⟩
        have HG := Lib.hid (HF.out.below hbG)
        clear HF hbG
        obtain ⟨⟨a0, a1, a2, a3, a4, a5, a6, a7, a8, a9, a10, a11, a12⟩, -⟩ := blk13 HG.out.at_
        obtain ⟨⟨v0, v1, v2, v3, v4⟩, zv⟩ := blk5 (HG.out.get (.head _))
        have BG := HZ.out.trans (HG.out.ms.B.mono HZ.out.size)
        go_wp2
        go_ret
        exact ⟨by first | rfl | (simp; done) | (simp; omega), BG⟩
      · have HU := Lib.hid u7
        clear u7
        have hX := HT.out
        rw [HU.out, show (2 : Int) + 2 = 4 from rfl] at hX
        have hX := hX.symm.trans (claims4 h o wo)
        rw [Prod.mk.injEq] at hX
        have HS2 := Lib.hid (HR.out.eqs hX.1 hX.2)
        rw [HU.out]
        clear HR HT hX HU
        go_wp2_with fail
        refine (Load_f HS2.out.ms 1 (by omega)).mono ?_
        rintro e wsL ⟨rfl, mL, kL⟩
        have HL := Lib.hid (HS2.out.mem mL kL (.inl rfl) (cnt_pos HS2.out.s0))
        have zL := HL.out.lt
        rw [show cellAt [0, 3, 0, wo, 1, 0, o, 0] 1 = 3 from by simp [cellAt]]
        clear mL kL HS2
        go_wp2_with fail
        refine (See_f HL.out.ms 3 (by omega)).mono ?_
        rintro e wsM ⟨rfl, -, hbM⟩
        have HM := Lib.hid (HL.out.below hbM)
        rw [rec3]
        clear hbM HL
        generalize hnth : nthIs _ 3 = nb
        clear hnth
        obtain ⟨⟨a0, a1, a2, a3, a4, a5, a6, a7, a8, a9, a10, a11, a12⟩, -⟩ := blk13 HM.out.at_
        go_wp2_with fail
        generalize hWF : World.alloc _ _ = WF
        generalize hrr : wsM.heap.size = rr
        have AF : WF.heap[rr]? = some (.cells #[.int .i64 wo, .int .i64 1, .int .i64 0, .int .i64 o, .int .i64 0] 68 (0, 0)) := by rw [← hWF]; exact alloc_at hrr _
        have HF := Lib.hid ((HM.out.below (w' := WF) (by rw [← hWF]; go_grown)).more AF (HM.out.ms.past rr (by omega)) (by have := HM.out.lt; omega))
        clear hWF hrr AF HM a0 a1 a2 a3 a4 a5 a6 a7 a8 a9 a10 a11 a12
        refine (known15_any _).mono ?_
        rintro e wG ⟨rfl, hbG⟩
        have HG := Lib.hid (HF.out.below hbG)
        clear HF hbG
        obtain ⟨⟨a0, a1, a2, a3, a4, a5, a6, a7, a8, a9, a10, a11, a12⟩, -⟩ := blk13 HG.out.at_
        obtain ⟨⟨v0, v1, v2, v3, v4⟩, zv⟩ := blk5 (HG.out.get (.head _))
        have BG := HZ.out.trans (HG.out.ms.B.mono HZ.out.size)
        go_wp2
        go_ret
        exact ⟨by first | rfl | (simp; done) | (simp; omega), BG⟩
      · have HU := Lib.hid u7
        clear u7
        have hX := HT.out
        rw [HU.out, show (2 : Int) + 3 = 5 from rfl] at hX
        have hX := hX.symm.trans (claims5 h o wo)
        rw [Prod.mk.injEq] at hX
        have HS2 := Lib.hid (HR.out.eqs hX.1 hX.2)
        rw [HU.out]
        clear HR HT hX HU
        go_wp2_with fail
        refine (Load_f HS2.out.ms 1 (by omega)).mono ?_
        rintro e wsL ⟨rfl, mL, kL⟩
        have HL := Lib.hid (HS2.out.mem mL kL (.inl rfl) (cnt_pos HS2.out.s0))
        have zL := HL.out.lt
        rw [show cellAt [0, 3, 0, wo, 1, 0, o, 0] 1 = 3 from by simp [cellAt]]
        clear mL kL HS2
        go_wp2_with fail
        refine (See_f HL.out.ms 3 (by omega)).mono ?_
        rintro e wsM ⟨rfl, -, hbM⟩
        have HM := Lib.hid (HL.out.below hbM)
        rw [rec3]
        clear hbM HL
        generalize hnth : nthIs _ 3 = nb
        clear hnth
        obtain ⟨⟨a0, a1, a2, a3, a4, a5, a6, a7, a8, a9, a10, a11, a12⟩, -⟩ := blk13 HM.out.at_
        go_wp2_with fail
        generalize hWF : World.alloc _ _ = WF
        generalize hrr : wsM.heap.size = rr
        have AF : WF.heap[rr]? = some (.cells #[.int .i64 wo, .int .i64 1, .int .i64 0, .int .i64 o, .int .i64 0] 68 (0, 0)) := by rw [← hWF]; exact alloc_at hrr _
        have HF := Lib.hid ((HM.out.below (w' := WF) (by rw [← hWF]; go_grown)).more AF (HM.out.ms.past rr (by omega)) (by have := HM.out.lt; omega))
        clear hWF hrr AF HM a0 a1 a2 a3 a4 a5 a6 a7 a8 a9 a10 a11 a12
        refine (known15_any _).mono ?_
        rintro e wG ⟨rfl, hbG⟩
        have HG := Lib.hid (HF.out.below hbG)
        clear HF hbG
        obtain ⟨⟨a0, a1, a2, a3, a4, a5, a6, a7, a8, a9, a10, a11, a12⟩, -⟩ := blk13 HG.out.at_
        obtain ⟨⟨v0, v1, v2, v3, v4⟩, zv⟩ := blk5 (HG.out.get (.head _))
        have BG := HZ.out.trans (HG.out.ms.B.mono HZ.out.size)
        go_wp2
        go_ret
        exact ⟨by first | rfl | (simp; done) | (simp; omega), BG⟩
      · have HU := Lib.hid u7
        clear u7
        by_cases heq : h = o
        · subst heq
          have hX := HT.out
          rw [HU.out, show (2 : Int) + 4 = 6 from rfl] at hX
          have hX := hX.symm.trans (claims6y h wo)
          rw [Prod.mk.injEq] at hX
          have HS2 := Lib.hid (HR.out.eqs hX.1 hX.2)
          rw [HU.out]
          clear HR HT hX HU
          go_wp2_with fail
          refine (Load_f HS2.out.ms 1 (by omega)).mono ?_
          rintro e wsL ⟨rfl, mL, kL⟩
          have HL := Lib.hid (HS2.out.mem mL kL (.inl rfl) (cnt_pos HS2.out.s0))
          have zL := HL.out.lt
          rw [show cellAt [0, 3, 0, wo, 1, 0, h, 0] 1 = 3 from by simp [cellAt]]
          clear mL kL HS2
          go_wp2_with fail
          refine (See_f HL.out.ms 3 (by omega)).mono ?_
          rintro e wsM ⟨rfl, -, hbM⟩
          have HM := Lib.hid (HL.out.below hbM)
          rw [rec3]
          clear hbM HL
          generalize hnth : nthIs _ 3 = nb
          clear hnth
          obtain ⟨⟨a0, a1, a2, a3, a4, a5, a6, a7, a8, a9, a10, a11, a12⟩, -⟩ := blk13 HM.out.at_
          go_wp2_with fail
          generalize hWF : World.alloc _ _ = WF
          generalize hrr : wsM.heap.size = rr
          have AF : WF.heap[rr]? = some (.cells #[.int .i64 wo, .int .i64 1, .int .i64 0, .int .i64 h, .int .i64 0] 68 (0, 0)) := by rw [← hWF]; exact alloc_at hrr _
          have HF := Lib.hid ((HM.out.below (w' := WF) (by rw [← hWF]; go_grown)).more AF (HM.out.ms.past rr (by omega)) (by have := HM.out.lt; omega))
          clear hWF hrr AF HM a0 a1 a2 a3 a4 a5 a6 a7 a8 a9 a10 a11 a12
          refine (known15_any _).mono ?_
          rintro e wG ⟨rfl, hbG⟩
          have HG := Lib.hid (HF.out.below hbG)
          clear HF hbG
          obtain ⟨⟨a0, a1, a2, a3, a4, a5, a6, a7, a8, a9, a10, a11, a12⟩, -⟩ := blk13 HG.out.at_
          obtain ⟨⟨v0, v1, v2, v3, v4⟩, zv⟩ := blk5 (HG.out.get (.head _))
          have BG := HZ.out.trans (HG.out.ms.B.mono HZ.out.size)
          go_wp2
          go_ret
          exact ⟨by first | rfl | (simp; done) | (simp; omega), BG⟩
        · have HE := Lib.hid (show ¬ o = h from fun e => heq e.symm)
          have he1 : (o == h) = false := by simpa using HE.out
          have he2 : (o != h) = true := by simpa using HE.out
          have he3 : decide (o = h) = false := by simpa using HE.out
          clear heq
          have hX := HT.out
          rw [HU.out, show (2 : Int) + 4 = 6 from rfl] at hX
          have hX := hX.symm.trans (claims6n h o wo HE.out)
          rw [Prod.mk.injEq] at hX
          have HS2 := Lib.hid (HR.out.eqs hX.1 hX.2)
          rw [HU.out]
          clear HR HT hX HU
          go_wp2_with fail
          refine (Load_f HS2.out.ms 1 (by omega)).mono ?_
          rintro e wsL ⟨rfl, mL, kL⟩
          have HL := Lib.hid (HS2.out.mem mL kL (.inl rfl) (cnt_pos HS2.out.s0))
          have zL := HL.out.lt
          rw [show cellAt [0, o, 0, wo, 0, 0, h, 0] 1 = o from by simp [cellAt]]
          clear mL kL HS2
          go_wp2_with fail
          refine (See_f HL.out.ms 3 (by omega)).mono ?_
          rintro e wsM ⟨rfl, -, hbM⟩
          have HM := Lib.hid (HL.out.below hbM)
          rw [rec3]
          clear hbM HL
          generalize hnth : nthIs _ 3 = nb
          clear hnth
          obtain ⟨⟨a0, a1, a2, a3, a4, a5, a6, a7, a8, a9, a10, a11, a12⟩, -⟩ := blk13 HM.out.at_
          go_wp2_with fail
          generalize hWF : World.alloc _ _ = WF
          generalize hrr : wsM.heap.size = rr
          have AF : WF.heap[rr]? = some (.cells #[.int .i64 wo, .int .i64 0, .int .i64 0, .int .i64 h, .int .i64 0] 68 (0, 0)) := by rw [← hWF]; exact alloc_at hrr _
          have HF := Lib.hid ((HM.out.below (w' := WF) (by rw [← hWF]; go_grown)).more AF (HM.out.ms.past rr (by omega)) (by have := HM.out.lt; omega))
          clear hWF hrr AF HM a0 a1 a2 a3 a4 a5 a6 a7 a8 a9 a10 a11 a12
          refine (known15_any _).mono ?_
          rintro e wG ⟨rfl, hbG⟩
          have HG := Lib.hid (HF.out.below hbG)
          clear HF hbG
          obtain ⟨⟨a0, a1, a2, a3, a4, a5, a6, a7, a8, a9, a10, a11, a12⟩, -⟩ := blk13 HG.out.at_
          obtain ⟨⟨v0, v1, v2, v3, v4⟩, zv⟩ := blk5 (HG.out.get (.head _))
          have BG := HZ.out.trans (HG.out.ms.B.mono HZ.out.size)
          go_wp2
          go_ret
          exact ⟨by first | rfl | (simp; done) | (simp; omega), BG⟩
      · have HU := Lib.hid u7
        clear u7
        by_cases heq : h = o
        · subst heq
          have hX := HT.out
          rw [HU.out, show (2 : Int) + 5 = 7 from rfl] at hX
          have hX := hX.symm.trans (claims7y h wo)
          rw [Prod.mk.injEq] at hX
          have HS2 := Lib.hid (HR.out.eqs hX.1 hX.2)
          rw [HU.out]
          clear HR HT hX HU
          go_wp2_with fail
          refine (Load_f HS2.out.ms 1 (by omega)).mono ?_
          rintro e wsL ⟨rfl, mL, kL⟩
          have HL := Lib.hid (HS2.out.mem mL kL (.inl rfl) (cnt_pos HS2.out.s0))
          have zL := HL.out.lt
          rw [show cellAt [0, 3, 0, wo, 1, 0, h, 0] 1 = 3 from by simp [cellAt]]
          clear mL kL HS2
          go_wp2_with fail
          refine (See_f HL.out.ms 3 (by omega)).mono ?_
          rintro e wsM ⟨rfl, -, hbM⟩
          have HM := Lib.hid (HL.out.below hbM)
          rw [rec3]
          clear hbM HL
          generalize hnth : nthIs _ 3 = nb
          clear hnth
          obtain ⟨⟨a0, a1, a2, a3, a4, a5, a6, a7, a8, a9, a10, a11, a12⟩, -⟩ := blk13 HM.out.at_
          go_wp2_with fail
          generalize hWF : World.alloc _ _ = WF
          generalize hrr : wsM.heap.size = rr
          have AF : WF.heap[rr]? = some (.cells #[.int .i64 wo, .int .i64 1, .int .i64 0, .int .i64 h, .int .i64 0] 68 (0, 0)) := by rw [← hWF]; exact alloc_at hrr _
          have HF := Lib.hid ((HM.out.below (w' := WF) (by rw [← hWF]; go_grown)).more AF (HM.out.ms.past rr (by omega)) (by have := HM.out.lt; omega))
          clear hWF hrr AF HM a0 a1 a2 a3 a4 a5 a6 a7 a8 a9 a10 a11 a12
          refine (known15_any _).mono ?_
          rintro e wG ⟨rfl, hbG⟩
          have HG := Lib.hid (HF.out.below hbG)
          clear HF hbG
          obtain ⟨⟨a0, a1, a2, a3, a4, a5, a6, a7, a8, a9, a10, a11, a12⟩, -⟩ := blk13 HG.out.at_
          obtain ⟨⟨v0, v1, v2, v3, v4⟩, zv⟩ := blk5 (HG.out.get (.head _))
          have BG := HZ.out.trans (HG.out.ms.B.mono HZ.out.size)
          go_wp2
          go_ret
          exact ⟨by first | rfl | (simp; done) | (simp; omega), BG⟩
        · have HE := Lib.hid (show ¬ o = h from fun e => heq e.symm)
          have he1 : (o == h) = false := by simpa using HE.out
          have he2 : (o != h) = true := by simpa using HE.out
          have he3 : decide (o = h) = false := by simpa using HE.out
          clear heq
          have hX := HT.out
          rw [HU.out, show (2 : Int) + 5 = 7 from rfl] at hX
          have hX := hX.symm.trans (claims7n h o wo HE.out)
          rw [Prod.mk.injEq] at hX
          have HS2 := Lib.hid (HR.out.eqs hX.1 hX.2)
          rw [HU.out]
          clear HR HT hX HU
          go_wp2_with fail
          refine (Load_f HS2.out.ms 1 (by omega)).mono ?_
          rintro e wsL ⟨rfl, mL, kL⟩
          have HL := Lib.hid (HS2.out.mem mL kL (.inl rfl) (cnt_pos HS2.out.s0))
          have zL := HL.out.lt
          rw [show cellAt [0, o, 0, wo, 0, 0, h, 0] 1 = o from by simp [cellAt]]
          clear mL kL HS2
          go_wp2_with fail
          refine (See_f HL.out.ms 3 (by omega)).mono ?_
          rintro e wsM ⟨rfl, -, hbM⟩
          have HM := Lib.hid (HL.out.below hbM)
          rw [rec3]
          clear hbM HL
          generalize hnth : nthIs _ 3 = nb
          clear hnth
          obtain ⟨⟨a0, a1, a2, a3, a4, a5, a6, a7, a8, a9, a10, a11, a12⟩, -⟩ := blk13 HM.out.at_
          go_wp2_with fail
          generalize hWF : World.alloc _ _ = WF
          generalize hrr : wsM.heap.size = rr
          have AF : WF.heap[rr]? = some (.cells #[.int .i64 wo, .int .i64 0, .int .i64 0, .int .i64 h, .int .i64 0] 68 (0, 0)) := by rw [← hWF]; exact alloc_at hrr _
          have HF := Lib.hid ((HM.out.below (w' := WF) (by rw [← hWF]; go_grown)).more AF (HM.out.ms.past rr (by omega)) (by have := HM.out.lt; omega))
          clear hWF hrr AF HM a0 a1 a2 a3 a4 a5 a6 a7 a8 a9 a10 a11 a12
          refine (known15_any _).mono ?_
          rintro e wG ⟨rfl, hbG⟩
          have HG := Lib.hid (HF.out.below hbG)
          clear HF hbG
          obtain ⟨⟨a0, a1, a2, a3, a4, a5, a6, a7, a8, a9, a10, a11, a12⟩, -⟩ := blk13 HG.out.at_
          obtain ⟨⟨v0, v1, v2, v3, v4⟩, zv⟩ := blk5 (HG.out.get (.head _))
          have BG := HZ.out.trans (HG.out.ms.B.mono HZ.out.size)
          go_wp2
          go_ret
          exact ⟨by first | rfl | (simp; done) | (simp; omega), BG⟩
      · have HU := Lib.hid u7
        clear u7
        have hX := HT.out
        rw [HU.out, show (2 : Int) + 6 = 8 from rfl] at hX
        have hX := hX.symm.trans (claims8 h o wo)
        rw [Prod.mk.injEq] at hX
        have HS2 := Lib.hid (HR.out.eqs hX.1 hX.2)
        rw [HU.out]
        clear HR HT hX HU
        go_wp2_with fail
        refine (Load_f HS2.out.ms 1 (by omega)).mono ?_
        rintro e wsL ⟨rfl, mL, kL⟩
        have HL := Lib.hid (HS2.out.mem mL kL (.inl rfl) (cnt_pos HS2.out.s0))
        have zL := HL.out.lt
        rw [show cellAt [0, o, 0, wo, 1, 0, h, 0] 1 = o from by simp [cellAt]]
        clear mL kL HS2
        go_wp2_with fail
        refine (See_f HL.out.ms 3 (by omega)).mono ?_
        rintro e wsM ⟨rfl, -, hbM⟩
        have HM := Lib.hid (HL.out.below hbM)
        rw [rec3]
        clear hbM HL
        generalize hnth : nthIs _ 3 = nb
        clear hnth
        obtain ⟨⟨a0, a1, a2, a3, a4, a5, a6, a7, a8, a9, a10, a11, a12⟩, -⟩ := blk13 HM.out.at_
        go_wp2_with fail
        generalize hWF : World.alloc _ _ = WF
        generalize hrr : wsM.heap.size = rr
        have AF : WF.heap[rr]? = some (.cells #[.int .i64 wo, .int .i64 1, .int .i64 0, .int .i64 h, .int .i64 0] 68 (0, 0)) := by rw [← hWF]; exact alloc_at hrr _
        have HF := Lib.hid ((HM.out.below (w' := WF) (by rw [← hWF]; go_grown)).more AF (HM.out.ms.past rr (by omega)) (by have := HM.out.lt; omega))
        clear hWF hrr AF HM a0 a1 a2 a3 a4 a5 a6 a7 a8 a9 a10 a11 a12
        refine (known15_any _).mono ?_
        rintro e wG ⟨rfl, hbG⟩
        have HG := Lib.hid (HF.out.below hbG)
        clear HF hbG
        obtain ⟨⟨a0, a1, a2, a3, a4, a5, a6, a7, a8, a9, a10, a11, a12⟩, -⟩ := blk13 HG.out.at_
        obtain ⟨⟨v0, v1, v2, v3, v4⟩, zv⟩ := blk5 (HG.out.get (.head _))
        have BG := HZ.out.trans (HG.out.ms.B.mono HZ.out.size)
        go_wp2
        go_ret
        exact ⟨by first | rfl | (simp; done) | (simp; omega), BG⟩

end Go.Proofs.Ytcellcjojfbajaa
