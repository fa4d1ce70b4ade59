/- OwnerLock: the walk. -/
import Derived.Test.YtcellcjojfbajaaOwPl
import Derived.Test.YtcellcjojfbajaaOwK
namespace Go.Proofs.Ytcellcjojfbajaa
set_option linter.unusedSimpArgs false
set_option linter.unusedVariables false
open Go.RowKit
open Go.ChangeShapes Go.WideShapes Go.ChangeAt

theorem Rg64.of {x : Int} (h1 : -9223372036854775808 ≤ x) (h2 : x ≤ 9223372036854775807) : Rg64 x := ⟨h1, h2⟩
theorem cnt_pos {xs : List Int} {a st : Int} (h : 0 ≤ st) : 0 ≤ st + cntAt xs a := by have := cntAt_rng xs a; omega
set_option maxRecDepth 100000 in
set_option maxHeartbeats 8000000 in
theorem ownerLock_any (ok ov pk pv d : Int) (fi : Bool) (w : World) (o1 : 0 ≤ ok) (o2 : ok ≤ 255) (o3 : -2147483648 ≤ ov) (o4 : ov ≤ 2147483647) (q1 : 0 ≤ pk) (q2 : pk ≤ 255) (q3 : -2147483648 ≤ pv) (q4 : pv ≤ 2147483647) (k0 : 0 ≤ d) (k1 : d ≤ 255) :
    Calls Try.prog 4 #[.agg #[.int .u8 ok, .int .i32 ov], .agg #[.int .u8 pk, .int .i32 pv], .bool fi, .int .u8 d] w fun e w' => e = .returned (.bool true) ∧ Below w.heap.size w w' := by
  have hwo := word_rng o1 o2 o3 o4
  have hwp := word_rng q1 q2 q3 q4
  obtain ⟨wo, hw0⟩ : ∃ x, wordOf ok ov = x := ⟨_, rfl⟩
  obtain ⟨wp, hw1⟩ : ∃ x, wordOf pk pv = x := ⟨_, rfl⟩
  rw [hw0] at hwo
  rw [hw1] at hwp
  have hne1 : wrap64 (d + 1) ≠ 0 := by rw [wr64 _ (by omega) (by omega)]; omega
  have hne2 : wrap64 (d + 1 + 1) ≠ 0 := by rw [wr64 _ (by omega) (by omega)]; omega
  have HN := Lib.hid (And.intro hne1 hne2)
  clear hne1 hne2
  go_enter Try.func4, Try.ntmps4
  go_wp2_with fail
  generalize hq : w.heap.size = q
  generalize hW0 : World.alloc _ _ = W0
  have QQ : W0.heap[q]? = some (.cells #[.int .u8 ok, .int .i32 ov] 23 (0, 0)) ∧ W0.heap[q + 1]? = some (.cells #[.int .u8 pk, .int .i32 pv] 23 (0, 0)) := by rw [← hW0]; exact alloc2_at hq _ _
  have HZ := Lib.hid (show Below w.heap.size w W0 by rw [← hW0]; go_grown)
  have zq : q + 1 < W0.heap.size := (Array.getElem?_eq_some_iff.1 QQ.2).1
  refine (Open_ms 2 W0 W0 (Below.refl _ _) (by omega) (by omega)).mono ?_
  rintro e w1 ⟨g0, rfl, m1, hb1⟩
  generalize hb : W0.heap.size = b at m1 hb1 ⊢
  have P1 := (hb1.block q (by omega)).trans QQ.1
  have P2 := (hb1.block (q + 1) (by omega)).trans QQ.2
  obtain ⟨⟨p0, p1⟩, zp⟩ := blk2c P1
  have zq1 : q + 1 < w1.heap.size := (Array.getElem?_eq_some_iff.1 P2).1
  have H1 := Lib.hid (And.intro m1 P2)
  clear m1 hb1 P1 P2 hW0 QQ
  go_wp2_with fail
  refine (oBegin_b w1 d 0 0 0 0 0 0 0 0 0 0 0 ok ov (.slice none 0 0) 0 (fun _ => 0) (Its.zero _ _ _) (by omega) o1 o2 o3 o4 (by decide) (by decide)).mono ?_
  rintro e w2 ⟨bt2, rfl, I2, hb2⟩
  obtain ⟨bo2, bc2, rfl, -⟩ := I2
  rw [show wrap64 (0 + 1) = 1 from by unfold wrap64; omega, hw0]
  have m2 := H1.out.1.below hb2
  have P2 := (hb2.block (q + 1) zq1).trans H1.out.2
  have zr0 : w1.heap.size ≤ w2.heap.size := hb2.size
  have zr1 : b ≤ w2.heap.size := by have := m2.2.2.2.1.size; omega
  clear p0 p1 zp H1 hb2
  obtain ⟨⟨p0, p1⟩, zp⟩ := blk2c P2
  have H2 := Lib.hid (And.intro m2 P2)
  clear m2 P2
  go_wp2_with fail
  generalize hr : w2.heap.size = r
  generalize hW : World.alloc _ _ = W
  have A2 : W.heap[r]? = some (.cells #[.int .i64 d, .int .i64 1, .int .i64 0, .int .i64 1, .int .i64 wo, .int .i64 0, .int .i64 0, .int .i64 0, .int .i64 0, .int .i64 0, .int .i64 0, .int .i64 0, .slice bo2 0 bc2] 30 (0, 0)) := by rw [← hW]; exact alloc_at hr _
  have BW : Below w2.heap.size w2 W := by rw [← hW]; go_grown
  have m3 := H2.out.1.below BW
  have fr : ¬ Foot b g0 r := H2.out.1.past r (by omega)
  have H3 := Lib.hid (And.intro m3 (And.intro A2 fr))
  have zW : r < W.heap.size := (Array.getElem?_eq_some_iff.1 A2).1
  clear hW A2 BW m3 fr H2
  refine (oBegin_b W (d + 1) 0 0 0 0 0 0 0 0 0 0 0 pk pv (.slice none 0 0) 0 (fun _ => 0) (Its.zero _ _ _) (by omega) q1 q2 q3 q4 (by decide) (by decide)).mono ?_
  rintro e w3 ⟨bt3, rfl, I3, hb3⟩
  obtain ⟨bo3, bc3, rfl, -⟩ := I3
  rw [show wrap64 (0 + 1) = 1 from by unfold wrap64; omega, hw1]
  clear p0 p1 zp
  have zr3 : r < w3.heap.size := by have := hb3.size; omega
  go_wp2
  generalize hr2 : w3.heap.size = r2
  generalize hW2 : World.alloc _ _ = W2
  have A3 : W2.heap[r2]? = some (.cells #[.int .i64 (d + 1), .int .i64 1, .int .i64 0, .int .i64 1, .int .i64 wp, .int .i64 0, .int .i64 0, .int .i64 0, .int .i64 0, .int .i64 0, .int .i64 0, .int .i64 0, .slice bo3 0 bc3] 30 (0, 0)) := by rw [← hW2]; exact alloc_at hr2 _
  have BW : Below W.heap.size W W2 := hb3.trans ((show Below w3.heap.size w3 W2 by rw [← hW2]; go_grown).mono hb3.size)
  have m4 := H3.out.1.below BW
  have zz : W0.heap.size ≤ W.heap.size := H3.out.1.2.2.2.1.size
  have zb3 : W.heap.size ≤ r2 := by have := hb3.size; omega
  have HS := Lib.hid (show LS W0 W2 b g0 13 [0, 0, 0] 1 r ⟨d, 1, 0, 1, wo, 0, 0, 0, 0, 0, 0, 0⟩ (.slice bo2 0 bc2) [(r2, .cells #[.int .i64 (d + 1), .int .i64 1, .int .i64 0, .int .i64 1, .int .i64 wp, .int .i64 0, .int .i64 0, .int .i64 0, .int .i64 0, .int .i64 0, .int .i64 0, .int .i64 0, .slice bo3 0 bc3] 30 (0, 0))] from ⟨m4, (BW.block r zW).trans H3.out.2.1, H3.out.2.2, by omega, fun p hp => by
    rcases List.mem_singleton.1 hp with rfl
    exact ⟨A3, H3.out.1.past r2 zb3, by show r2 ≠ r; omega⟩, by omega, Rg64.zero⟩)
  have zW1 : W0.heap.size ≤ r := by omega
  have zW2 : W0.heap.size ≤ r2 := by omega
  have nr : r < r2 := by omega
  clear hr hr2 hW2 A3 BW m4 zz zb3 hb3 H3 zW zr0 zr1 zr3 hb hq zq zq1
  go_loopw [14] (fun k wr => ∃ (i : Nat) (X : List Int) (T : Th) (st : Int) (g : Option Nat) (bo : Option Addr) (bc : Nat), i ≤ 11 ∧ k = .int .i64 i ∧ LS W0 wr b g 13 X st r T (.slice bo 0 bc) [(r2, .cells #[.int .i64 (d + 1), .int .i64 1, .int .i64 0, .int .i64 1, .int .i64 wp, .int .i64 0, .int .i64 0, .int .i64 0, .int .i64 0, .int .i64 0, .int .i64 0, .int .i64 0, .slice bo3 0 bc3] 30 (0, 0))] ∧ st ≤ 100 + 2 * i ∧ owIt 13 noE [0, 0, 0] ⟨d, 1, 0, 1, wo, 0, 0, 0, 0, 0, 0, 0⟩ i = (X, T)) (fun k _ => 11 - (intOf k).toNat)
  case atStart => exact ⟨0, _, _, _, _, _, _, Nat.zero_le _, rfl, HS.out, by omega, rfl⟩
  case round =>
    obtain ⟨i, X, T, st, g, bo, bc, hi, rfl, h, s1, hit⟩ := hrel
    have zi : (0 : Int) ≤ (i : Int) := by omega
    have hi' : (i : Int) ≤ 11 := by omega
    have HR := Lib.hid h
    have HT := Lib.hid hit
    have zr1 := h.lt
    clear h hit
    by_cases hlt : i < 11
    · have hlt' : (i : Int) < 11 := by omega
      obtain ⟨⟨a0, a1, a2, a3, a4, a5, a6, a7, a8, a9, a10, a11, a12⟩, -⟩ := blk13 HR.out.at_
      go_wp2_with fail
      refine (oStep_f W0 _ b _ 13 st X T (.slice bo 0 bc) 0 (fun _ => 0) HR.out.ms (Its.zero _ _ _) (Nat.zero_le _) HR.out.s0 (by omega) HR.out.rg).mono ?_
      rintro e ws3 ⟨bt3, g3, he3, m3, I3, k3, hg3⟩
      obtain ⟨bo3, bc3, rfl, -⟩ := I3
      have H3 := Lib.hid (HR.out.mem m3 k3 hg3 (owC_pos HR.out.s0))
      have rg3 := Lib.hid (owT_rg (N := 13) HR.out.rg HR.out.ms.lenk)
      have c3 := owC_rng 13 X T
      obtain ⟨t3, ht3⟩ : ∃ t, owT 13 X T = t := ⟨_, rfl⟩
      rw [ht3] at he3 rg3
      have z3 := H3.out.lt
      have hit3 := owIt_succ HT.out
      unfold noE at hit3
      rw [ht3] at hit3
      have HI3 := Lib.hid hit3
      obtain ⟨⟨c0, c1, c2, c3, c4, c5, c6, c7, c8, c9, c10, c11, c12⟩, -⟩ := blk13 H3.out.at_
      have fc0 := blkF H3.out.at_ 0; have fc1 := blkF H3.out.at_ 1; have fc2 := blkF H3.out.at_ 2; have fc3 := blkF H3.out.at_ 3; have fc4 := blkF H3.out.at_ 4; have fc5 := blkF H3.out.at_ 5; have fc6 := blkF H3.out.at_ 6; have fc7 := blkF H3.out.at_ 7; have fc8 := blkF H3.out.at_ 8; have fc9 := blkF H3.out.at_ 9; have fc10 := blkF H3.out.at_ 10; have fc11 := blkF H3.out.at_ 11; have fc12 := blkF H3.out.at_ 12
      clear ht3 hit3 m3 k3 hg3 zr1 a0 a1 a2 a3 a4 a5 a6 a7 a8 a9 a10 a11 a12
      simp only [thV] at he3
      subst he3
      go_wp2_with fail
      generalize hWs4 : World.setCell _ _ _ = Ws4
      have U4 : Ws4.heap[r]? = some (.cells #[.int .i64 t3.i0, .int .i64 t3.i1, .int .i64 t3.i2, .int .i64 t3.i3, .int .i64 t3.i4, .int .i64 t3.i5, .int .i64 t3.i6, .int .i64 t3.i7, .int .i64 t3.i8, .int .i64 t3.i9, .int .i64 t3.i10, .int .i64 t3.i11, .slice bo3 0 bc3] 30 (0, 0)) := by rw [← hWs4]; exact set13 H3.out.at_ rfl
      have K4 : Kept (fun k => k = r) ws3 Ws4 := by rw [← hWs4]; exact kept_set13 _ _ _ _ _ _ _ _ _ _ _ _ _ _ _
      have Hs4 := H3.out.put K4 U4 rg3.out
      generalize hW4 : World.alloc _ _ = W4
      have H4 := Lib.hid (Hs4.below (w' := W4) (by rw [← hW4]; go_grown))
      clear hWs4 Hs4 hW4 U4 K4
      clear c0 c1 c2 c3 c4 c5 c6 c7 c8 c9 c10 c11 c12 fc0 fc1 fc2 fc3 fc4 fc5 fc6 fc7 fc8 fc9 fc10 fc11 fc12
      go_roundw
      case rel => exact ⟨i + 1, _, t3, _, _, bo3, bc3, by omega, by go_num, H4.out, by omega, HI3.out⟩
      case measure => simp [intOf]; omega
    · have ei : (i : Int) = 11 := by omega
      rw [ei]
      obtain rfl : i = 11 := by omega
      clear zr1 hlt
      have hX := HT.out.symm.trans (lockA d wo)
      rw [Prod.mk.injEq] at hX
      have HS2 := Lib.hid (HR.out.eqs hX.1 hX.2)
      clear HR HT hX HS
      have HO := Lib.hid (HS2.out.other (T2 := ⟨d + 1, 1, 0, 1, wp, 0, 0, 0, 0, 0, 0, 0⟩) Rg64.zero zW2)
      obtain ⟨boa, bca, hboa⟩ : ∃ x y, x = bo ∧ y = bc := ⟨_, _, rfl, rfl⟩
      obtain ⟨rfl, rfl⟩ := hboa
      have s11 : st ≤ 122 := by omega
      clear s1 hi hi' zi
      go_wp2_with fail
      go_loopw [18] (fun k wr => ∃ (i : Nat) (X : List Int) (T : Th) (st : Int) (g : Option Nat) (bo : Option Addr) (bc : Nat), i ≤ 11 ∧ k = .int .i64 i ∧ LS W0 wr b g 13 X st r2 T (.slice bo 0 bc) [(r, .cells #[.int .i64 d, .int .i64 13, .int .i64 3, .int .i64 1, .int .i64 wo, .int .i64 0, .int .i64 0, .int .i64 0, .int .i64 0, .int .i64 0, .int .i64 0, .int .i64 0, .slice boa 0 bca] 30 (0, 0))] ∧ st ≤ 122 + 2 * i ∧ owIt 13 noE [0, 3, 0, wo, 1, 0, 0, 0] ⟨d + 1, 1, 0, 1, wp, 0, 0, 0, 0, 0, 0, 0⟩ i = (X, T)) (fun k _ => 11 - (intOf k).toNat)
      case atStart => exact ⟨0, _, _, _, _, _, _, Nat.zero_le _, rfl, HO.out, by omega, rfl⟩
      case round =>
        obtain ⟨i, X, T, st, g, bo, bc, hi, rfl, h, s1, hit⟩ := hrel
        have zi : (0 : Int) ≤ (i : Int) := by omega
        have hi' : (i : Int) ≤ 11 := by omega
        have HR := Lib.hid h
        have HT := Lib.hid hit
        have zr1 := h.lt
        clear h hit
        by_cases hlt : i < 11
        · have hlt' : (i : Int) < 11 := by omega
          obtain ⟨⟨a0, a1, a2, a3, a4, a5, a6, a7, a8, a9, a10, a11, a12⟩, -⟩ := blk13 HR.out.at_
          go_wp2_with fail
          refine (oStep_f W0 _ b _ 13 st X T (.slice bo 0 bc) 0 (fun _ => 0) HR.out.ms (Its.zero _ _ _) (Nat.zero_le _) HR.out.s0 (by omega) HR.out.rg).mono ?_
          rintro e ws3 ⟨bt3, g3, he3, m3, I3, k3, hg3⟩
          obtain ⟨bo3, bc3, rfl, -⟩ := I3
          have H3 := Lib.hid (HR.out.mem m3 k3 hg3 (owC_pos HR.out.s0))
          have rg3 := Lib.hid (owT_rg (N := 13) HR.out.rg HR.out.ms.lenk)
          have c3 := owC_rng 13 X T
          obtain ⟨t3, ht3⟩ : ∃ t, owT 13 X T = t := ⟨_, rfl⟩
          rw [ht3] at he3 rg3
          have z3 := H3.out.lt
          have hit3 := owIt_succ HT.out
          unfold noE at hit3
          rw [ht3] at hit3
          have HI3 := Lib.hid hit3
          obtain ⟨⟨c0, c1, c2, c3, c4, c5, c6, c7, c8, c9, c10, c11, c12⟩, -⟩ := blk13 H3.out.at_
          have fc0 := blkF H3.out.at_ 0; have fc1 := blkF H3.out.at_ 1; have fc2 := blkF H3.out.at_ 2; have fc3 := blkF H3.out.at_ 3; have fc4 := blkF H3.out.at_ 4; have fc5 := blkF H3.out.at_ 5; have fc6 := blkF H3.out.at_ 6; have fc7 := blkF H3.out.at_ 7; have fc8 := blkF H3.out.at_ 8; have fc9 := blkF H3.out.at_ 9; have fc10 := blkF H3.out.at_ 10; have fc11 := blkF H3.out.at_ 11; have fc12 := blkF H3.out.at_ 12
          clear ht3 hit3 m3 k3 hg3 zr1 a0 a1 a2 a3 a4 a5 a6 a7 a8 a9 a10 a11 a12
          simp only [thV] at he3
          subst he3
          go_wp2_with fail
          generalize hWs4 : World.setCell _ _ _ = Ws4
          have U4 : Ws4.heap[r2]? = some (.cells #[.int .i64 t3.i0, .int .i64 t3.i1, .int .i64 t3.i2, .int .i64 t3.i3, .int .i64 t3.i4, .int .i64 t3.i5, .int .i64 t3.i6, .int .i64 t3.i7, .int .i64 t3.i8, .int .i64 t3.i9, .int .i64 t3.i10, .int .i64 t3.i11, .slice bo3 0 bc3] 30 (0, 0)) := by rw [← hWs4]; exact set13 H3.out.at_ rfl
          have K4 : Kept (fun k => k = r2) ws3 Ws4 := by rw [← hWs4]; exact kept_set13 _ _ _ _ _ _ _ _ _ _ _ _ _ _ _
          have Hs4 := H3.out.put K4 U4 rg3.out
          generalize hW4 : World.alloc _ _ = W4
          have H4 := Lib.hid (Hs4.below (w' := W4) (by rw [← hW4]; go_grown))
          clear hWs4 Hs4 hW4 U4 K4
          clear c0 c1 c2 c3 c4 c5 c6 c7 c8 c9 c10 c11 c12 fc0 fc1 fc2 fc3 fc4 fc5 fc6 fc7 fc8 fc9 fc10 fc11 fc12
          go_roundw
          case rel => exact ⟨i + 1, _, t3, _, _, bo3, bc3, by omega, by go_num, H4.out, by omega, HI3.out⟩
          case measure => simp [intOf]; omega
        · have ei : (i : Int) = 11 := by omega
          rw [ei]
          obtain rfl : i = 11 := by omega
          clear zr1 hlt
      
          have hX := HT.out.symm.trans (lockB (d + 1) wo wp)
          rw [Prod.mk.injEq] at hX
          have HB := Lib.hid (HR.out.eqs hX.1 hX.2)
          clear HR HT hX HO
          have rgL : Rg64 8 := ⟨by omega, by omega⟩
          have rgK : Rg64 3 := ⟨by omega, by omega⟩
          have HA := Lib.hid (HB.out.other (T2 := ⟨d, 13, 3, 1, wo, 0, 0, 0, 0, 0, 0, 0⟩) rgK zW1)
          cases fi
          · obtain ⟨⟨a0, a1, a2, a3, a4, a5, a6, a7, a8, a9, a10, a11, a12⟩, -⟩ := blk13 HB.out.at_
            obtain ⟨⟨b0, b1, b2, b3, b4, b5, b6, b7, b8, b9, b10, b11, b12⟩, zb⟩ := blk13 (HB.out.get (.head _))
            go_wp2_with fail
            clear b0 b1 b2 b3 b4 b5 b6 b7 b8 b9 b10 b11 b12 zb
            refine (oStep_f W0 _ b _ 13 _ [0, 8, 0, wo, 1, 0, 0, 0, wp, 1, 0, 3, 0] ⟨d + 1, 13, 8, 1, wp, 0, 0, 0, 0, 0, 0, 0⟩ (.slice _ 0 _) 0 (fun _ => 0) HB.out.ms (Its.zero _ _ _) (Nat.zero_le _) HB.out.s0 (by omega) HB.out.rg).mono ?_
            rintro e ws5 ⟨bt5, g5, he5, m5, I5, k5, hg5⟩
            obtain ⟨bo5, bc5, rfl, -⟩ := I5
            have H5 := Lib.hid (HB.out.mem m5 k5 hg5 (owC_pos HB.out.s0))
            have rg5 := Lib.hid (owT_rg (N := 13) HB.out.rg HB.out.ms.lenk)
            have c5 := owC_rng 13 [0, 8, 0, wo, 1, 0, 0, 0, wp, 1, 0, 3, 0] ⟨d + 1, 13, 8, 1, wp, 0, 0, 0, 0, 0, 0, 0⟩
            obtain ⟨t5, ht5⟩ : ∃ t, owT 13 [0, 8, 0, wo, 1, 0, 0, 0, wp, 1, 0, 3, 0] ⟨d + 1, 13, 8, 1, wp, 0, 0, 0, 0, 0, 0, 0⟩ = t := ⟨_, rfl⟩
            rw [ht5] at he5 rg5
            have z5 := H5.out.lt
            obtain ⟨⟨c0, c1, c2, c3, c4, c5, c6, c7, c8, c9, c10, c11, c12⟩, -⟩ := blk13 H5.out.at_
            have fc0 := blkF H5.out.at_ 0; have fc1 := blkF H5.out.at_ 1; have fc2 := blkF H5.out.at_ 2; have fc3 := blkF H5.out.at_ 3; have fc4 := blkF H5.out.at_ 4; have fc5 := blkF H5.out.at_ 5; have fc6 := blkF H5.out.at_ 6; have fc7 := blkF H5.out.at_ 7; have fc8 := blkF H5.out.at_ 8; have fc9 := blkF H5.out.at_ 9; have fc10 := blkF H5.out.at_ 10; have fc11 := blkF H5.out.at_ 11; have fc12 := blkF H5.out.at_ 12
            obtain ⟨⟨x0, x1, x2, x3, x4, x5, x6, x7, x8, x9, x10, x11, x12⟩, zx⟩ := blk13 (H5.out.get (.head _))
            have HT5 := Lib.hid ht5
            clear ht5 m5 k5 hg5 a0 a1 a2 a3 a4 a5 a6 a7 a8 a9 a10 a11 a12
            simp only [thV] at he5
            subst he5
            go_wp2_with fail
            generalize hWs6 : World.setCell _ _ _ = Ws6
            have U6 : Ws6.heap[r2]? = some (.cells #[.int .i64 t5.i0, .int .i64 t5.i1, .int .i64 t5.i2, .int .i64 t5.i3, .int .i64 t5.i4, .int .i64 t5.i5, .int .i64 t5.i6, .int .i64 t5.i7, .int .i64 t5.i8, .int .i64 t5.i9, .int .i64 t5.i10, .int .i64 t5.i11, .slice bo5 0 bc5] 30 (0, 0)) := by rw [← hWs6]; exact set13 H5.out.at_ rfl
            have K6 : Kept (fun k => k = r2) ws5 Ws6 := by rw [← hWs6]; exact kept_set13 _ _ _ _ _ _ _ _ _ _ _ _ _ _ _
            have Hs6 := H5.out.put K6 U6 rg5.out
            generalize hW6 : World.alloc _ _ = W6
            have H6 := Lib.hid (Hs6.below (w' := W6) (by rw [← hW6]; go_grown))
            clear hWs6 Hs6 hW6 U6 K6
            clear c0 c1 c2 c3 c4 c5 c6 c7 c8 c9 c10 c11 c12 fc0 fc1 fc2 fc3 fc4 fc5 fc6 fc7 fc8 fc9 fc10 fc11 fc12 x0 x1 x2 x3 x4 x5 x6 x7 x8 x9 x10 x11 x12 zx
            have H6e := Lib.hid (H6.out.eqs (lockE (d + 1) wo wp).1 (HT5.out.symm.trans (lockE (d + 1) wo wp).2))
            clear H6 HT5 H5 rg5
            have HC := Lib.hid (H6e.out.other (T2 := ⟨d, 13, 3, 1, wo, 0, 0, 0, 0, 0, 0, 0⟩) rgK zW1)
            obtain ⟨⟨a0, a1, a2, a3, a4, a5, a6, a7, a8, a9, a10, a11, a12⟩, -⟩ := blk13 HC.out.at_
            refine (oStep_f W0 _ b _ 13 _ [wrap64 (d + 1 + 1), 8, 0, wo, 1, 0, 0, 0, wp, 1, 0, 3, 0] ⟨d, 13, 3, 1, wo, 0, 0, 0, 0, 0, 0, 0⟩ (.slice _ 0 _) 0 (fun _ => 0) HC.out.ms (Its.zero _ _ _) (Nat.zero_le _) HC.out.s0 (by omega) HC.out.rg).mono ?_
            rintro e ws7 ⟨bt7, g7, he7, m7, I7, k7, hg7⟩
            obtain ⟨bo7, bc7, rfl, -⟩ := I7
            have H7 := Lib.hid (HC.out.mem m7 k7 hg7 (owC_pos HC.out.s0))
            have rg7 := Lib.hid (owT_rg (N := 13) HC.out.rg HC.out.ms.lenk)
            have c7 := owC_rng 13 [wrap64 (d + 1 + 1), 8, 0, wo, 1, 0, 0, 0, wp, 1, 0, 3, 0] ⟨d, 13, 3, 1, wo, 0, 0, 0, 0, 0, 0, 0⟩
            obtain ⟨t7, ht7⟩ : ∃ t, owT 13 [wrap64 (d + 1 + 1), 8, 0, wo, 1, 0, 0, 0, wp, 1, 0, 3, 0] ⟨d, 13, 3, 1, wo, 0, 0, 0, 0, 0, 0, 0⟩ = t := ⟨_, rfl⟩
            rw [ht7] at he7 rg7
            have z7 := H7.out.lt
            obtain ⟨⟨c0, c1, c2, c3, c4, c5, c6, c7, c8, c9, c10, c11, c12⟩, -⟩ := blk13 H7.out.at_
            have fc0 := blkF H7.out.at_ 0; have fc1 := blkF H7.out.at_ 1; have fc2 := blkF H7.out.at_ 2; have fc3 := blkF H7.out.at_ 3; have fc4 := blkF H7.out.at_ 4; have fc5 := blkF H7.out.at_ 5; have fc6 := blkF H7.out.at_ 6; have fc7 := blkF H7.out.at_ 7; have fc8 := blkF H7.out.at_ 8; have fc9 := blkF H7.out.at_ 9; have fc10 := blkF H7.out.at_ 10; have fc11 := blkF H7.out.at_ 11; have fc12 := blkF H7.out.at_ 12
            obtain ⟨⟨x0, x1, x2, x3, x4, x5, x6, x7, x8, x9, x10, x11, x12⟩, zx⟩ := blk13 (H7.out.get (.head _))
            have HT7 := Lib.hid ht7
            clear ht7 m7 k7 hg7 a0 a1 a2 a3 a4 a5 a6 a7 a8 a9 a10 a11 a12
            simp only [thV] at he7
            subst he7
            go_wp2_with fail
            generalize hWs8 : World.setCell _ _ _ = Ws8
            have U8 : Ws8.heap[r]? = some (.cells #[.int .i64 t7.i0, .int .i64 t7.i1, .int .i64 t7.i2, .int .i64 t7.i3, .int .i64 t7.i4, .int .i64 t7.i5, .int .i64 t7.i6, .int .i64 t7.i7, .int .i64 t7.i8, .int .i64 t7.i9, .int .i64 t7.i10, .int .i64 t7.i11, .slice bo7 0 bc7] 30 (0, 0)) := by rw [← hWs8]; exact set13 H7.out.at_ rfl
            have K8 : Kept (fun k => k = r) ws7 Ws8 := by rw [← hWs8]; exact kept_set13 _ _ _ _ _ _ _ _ _ _ _ _ _ _ _
            have Hs8 := H7.out.put K8 U8 rg7.out
            generalize hW8 : World.alloc _ _ = W8
            have H8 := Lib.hid (Hs8.below (w' := W8) (by rw [← hW8]; go_grown))
            clear hWs8 Hs8 hW8 U8 K8
            clear c0 c1 c2 c3 c4 c5 c6 c7 c8 c9 c10 c11 c12 fc0 fc1 fc2 fc3 fc4 fc5 fc6 fc7 fc8 fc9 fc10 fc11 fc12 x0 x1 x2 x3 x4 x5 x6 x7 x8 x9 x10 x11 x12 zx
            have H8e := Lib.hid (H8.out.eqs (lockF (d + 1) d wo wp HN.out.2).1 (HT7.out.symm.trans (lockF (d + 1) d wo wp HN.out.2).2))
            clear H8 HT7 H7 rg7
            have HD := Lib.hid (H8e.out.eqs (X' := [(d + 2), 8, 0, wo, 1, 0, 0, 0, wp, 1, 0, 3, 0]) (by rw [show wrap64 (d + 1 + 1) = (d + 2) from (wr64 (d + 1 + 1) (by omega) (by omega)).trans (by omega)]) rfl)
            clear H8e H6e HC
            refine (Load_f HD.out.ms 0 (by omega)).mono ?_
            rintro e wsL ⟨rfl, mL, kL⟩
            have HL := Lib.hid (HD.out.mem mL kL (.inl rfl) (cnt_pos HD.out.s0))
            rw [show cellAt [(d + 2), 8, 0, wo, 1, 0, 0, 0, wp, 1, 0, 3, 0] 0 = (d + 2) from by simp [cellAt]]
            clear mL kL HD
            go_wp2_with fail
            refine (known15_any _).mono ?_
            rintro e wG ⟨rfl, hbG⟩
            have HG := Lib.hid (HL.out.below hbG)
            clear HL hbG
            obtain ⟨⟨a0, a1, a2, a3, a4, a5, a6, a7, a8, a9, a10, a11, a12⟩, -⟩ := blk13 HG.out.at_
            obtain ⟨⟨b0, b1, b2, b3, b4, b5, b6, b7, b8, b9, b10, b11, b12⟩, zb⟩ := blk13 (HG.out.get (.head _))
            have BG := HZ.out.trans (HG.out.ms.B.mono HZ.out.size)
            go_wp2
            go_ret
            exact ⟨by first | rfl | (simp; done) | (simp; omega), BG⟩
          · obtain ⟨⟨a0, a1, a2, a3, a4, a5, a6, a7, a8, a9, a10, a11, a12⟩, -⟩ := blk13 HA.out.at_
            obtain ⟨⟨b0, b1, b2, b3, b4, b5, b6, b7, b8, b9, b10, b11, b12⟩, zb⟩ := blk13 (HA.out.get (.head _))
            go_wp2_with fail
            clear b0 b1 b2 b3 b4 b5 b6 b7 b8 b9 b10 b11 b12 zb
            refine (oStep_f W0 _ b _ 13 _ [0, 8, 0, wo, 1, 0, 0, 0, wp, 1, 0, 3, 0] ⟨d, 13, 3, 1, wo, 0, 0, 0, 0, 0, 0, 0⟩ (.slice _ 0 _) 0 (fun _ => 0) HA.out.ms (Its.zero _ _ _) (Nat.zero_le _) HA.out.s0 (by omega) HA.out.rg).mono ?_
            rintro e ws5 ⟨bt5, g5, he5, m5, I5, k5, hg5⟩
            obtain ⟨bo5, bc5, rfl, -⟩ := I5
            have H5 := Lib.hid (HA.out.mem m5 k5 hg5 (owC_pos HA.out.s0))
            have rg5 := Lib.hid (owT_rg (N := 13) HA.out.rg HA.out.ms.lenk)
            have c5 := owC_rng 13 [0, 8, 0, wo, 1, 0, 0, 0, wp, 1, 0, 3, 0] ⟨d, 13, 3, 1, wo, 0, 0, 0, 0, 0, 0, 0⟩
            obtain ⟨t5, ht5⟩ : ∃ t, owT 13 [0, 8, 0, wo, 1, 0, 0, 0, wp, 1, 0, 3, 0] ⟨d, 13, 3, 1, wo, 0, 0, 0, 0, 0, 0, 0⟩ = t := ⟨_, rfl⟩
            rw [ht5] at he5 rg5
            have z5 := H5.out.lt
            obtain ⟨⟨c0, c1, c2, c3, c4, c5, c6, c7, c8, c9, c10, c11, c12⟩, -⟩ := blk13 H5.out.at_
            have fc0 := blkF H5.out.at_ 0; have fc1 := blkF H5.out.at_ 1; have fc2 := blkF H5.out.at_ 2; have fc3 := blkF H5.out.at_ 3; have fc4 := blkF H5.out.at_ 4; have fc5 := blkF H5.out.at_ 5; have fc6 := blkF H5.out.at_ 6; have fc7 := blkF H5.out.at_ 7; have fc8 := blkF H5.out.at_ 8; have fc9 := blkF H5.out.at_ 9; have fc10 := blkF H5.out.at_ 10; have fc11 := blkF H5.out.at_ 11; have fc12 := blkF H5.out.at_ 12
            obtain ⟨⟨x0, x1, x2, x3, x4, x5, x6, x7, x8, x9, x10, x11, x12⟩, zx⟩ := blk13 (H5.out.get (.head _))
            have HT5 := Lib.hid ht5
            clear ht5 m5 k5 hg5 a0 a1 a2 a3 a4 a5 a6 a7 a8 a9 a10 a11 a12
            simp only [thV] at he5
            subst he5
            go_wp2_with fail
            generalize hWs6 : World.setCell _ _ _ = Ws6
            have U6 : Ws6.heap[r]? = some (.cells #[.int .i64 t5.i0, .int .i64 t5.i1, .int .i64 t5.i2, .int .i64 t5.i3, .int .i64 t5.i4, .int .i64 t5.i5, .int .i64 t5.i6, .int .i64 t5.i7, .int .i64 t5.i8, .int .i64 t5.i9, .int .i64 t5.i10, .int .i64 t5.i11, .slice bo5 0 bc5] 30 (0, 0)) := by rw [← hWs6]; exact set13 H5.out.at_ rfl
            have K6 : Kept (fun k => k = r) ws5 Ws6 := by rw [← hWs6]; exact kept_set13 _ _ _ _ _ _ _ _ _ _ _ _ _ _ _
            have Hs6 := H5.out.put K6 U6 rg5.out
            generalize hW6 : World.alloc _ _ = W6
            have H6 := Lib.hid (Hs6.below (w' := W6) (by rw [← hW6]; go_grown))
            clear hWs6 Hs6 hW6 U6 K6
            clear c0 c1 c2 c3 c4 c5 c6 c7 c8 c9 c10 c11 c12 fc0 fc1 fc2 fc3 fc4 fc5 fc6 fc7 fc8 fc9 fc10 fc11 fc12 x0 x1 x2 x3 x4 x5 x6 x7 x8 x9 x10 x11 x12 zx
            have H6e := Lib.hid (H6.out.eqs (lockC d wo wp).1 (HT5.out.symm.trans (lockC d wo wp).2))
            clear H6 HT5 H5 rg5
            have HC := Lib.hid (H6e.out.other (T2 := ⟨d + 1, 13, 8, 1, wp, 0, 0, 0, 0, 0, 0, 0⟩) rgL zW2)
            obtain ⟨⟨a0, a1, a2, a3, a4, a5, a6, a7, a8, a9, a10, a11, a12⟩, -⟩ := blk13 HC.out.at_
            refine (oStep_f W0 _ b _ 13 _ [wrap64 (d + 1), 8, 0, wo, 1, 0, 0, 0, wp, 1, 0, 3, 0] ⟨d + 1, 13, 8, 1, wp, 0, 0, 0, 0, 0, 0, 0⟩ (.slice _ 0 _) 0 (fun _ => 0) HC.out.ms (Its.zero _ _ _) (Nat.zero_le _) HC.out.s0 (by omega) HC.out.rg).mono ?_
            rintro e ws7 ⟨bt7, g7, he7, m7, I7, k7, hg7⟩
            obtain ⟨bo7, bc7, rfl, -⟩ := I7
            have H7 := Lib.hid (HC.out.mem m7 k7 hg7 (owC_pos HC.out.s0))
            have rg7 := Lib.hid (owT_rg (N := 13) HC.out.rg HC.out.ms.lenk)
            have c7 := owC_rng 13 [wrap64 (d + 1), 8, 0, wo, 1, 0, 0, 0, wp, 1, 0, 3, 0] ⟨d + 1, 13, 8, 1, wp, 0, 0, 0, 0, 0, 0, 0⟩
            obtain ⟨t7, ht7⟩ : ∃ t, owT 13 [wrap64 (d + 1), 8, 0, wo, 1, 0, 0, 0, wp, 1, 0, 3, 0] ⟨d + 1, 13, 8, 1, wp, 0, 0, 0, 0, 0, 0, 0⟩ = t := ⟨_, rfl⟩
            rw [ht7] at he7 rg7
            have z7 := H7.out.lt
            obtain ⟨⟨c0, c1, c2, c3, c4, c5, c6, c7, c8, c9, c10, c11, c12⟩, -⟩ := blk13 H7.out.at_
            have fc0 := blkF H7.out.at_ 0; have fc1 := blkF H7.out.at_ 1; have fc2 := blkF H7.out.at_ 2; have fc3 := blkF H7.out.at_ 3; have fc4 := blkF H7.out.at_ 4; have fc5 := blkF H7.out.at_ 5; have fc6 := blkF H7.out.at_ 6; have fc7 := blkF H7.out.at_ 7; have fc8 := blkF H7.out.at_ 8; have fc9 := blkF H7.out.at_ 9; have fc10 := blkF H7.out.at_ 10; have fc11 := blkF H7.out.at_ 11; have fc12 := blkF H7.out.at_ 12
            obtain ⟨⟨x0, x1, x2, x3, x4, x5, x6, x7, x8, x9, x10, x11, x12⟩, zx⟩ := blk13 (H7.out.get (.head _))
            have HT7 := Lib.hid ht7
            clear ht7 m7 k7 hg7 a0 a1 a2 a3 a4 a5 a6 a7 a8 a9 a10 a11 a12
            simp only [thV] at he7
            subst he7
            go_wp2_with fail
            generalize hWs8 : World.setCell _ _ _ = Ws8
            have U8 : Ws8.heap[r2]? = some (.cells #[.int .i64 t7.i0, .int .i64 t7.i1, .int .i64 t7.i2, .int .i64 t7.i3, .int .i64 t7.i4, .int .i64 t7.i5, .int .i64 t7.i6, .int .i64 t7.i7, .int .i64 t7.i8, .int .i64 t7.i9, .int .i64 t7.i10, .int .i64 t7.i11, .slice bo7 0 bc7] 30 (0, 0)) := by rw [← hWs8]; exact set13 H7.out.at_ rfl
            have K8 : Kept (fun k => k = r2) ws7 Ws8 := by rw [← hWs8]; exact kept_set13 _ _ _ _ _ _ _ _ _ _ _ _ _ _ _
            have Hs8 := H7.out.put K8 U8 rg7.out
            generalize hW8 : World.alloc _ _ = W8
            have H8 := Lib.hid (Hs8.below (w' := W8) (by rw [← hW8]; go_grown))
            clear hWs8 Hs8 hW8 U8 K8
            clear c0 c1 c2 c3 c4 c5 c6 c7 c8 c9 c10 c11 c12 fc0 fc1 fc2 fc3 fc4 fc5 fc6 fc7 fc8 fc9 fc10 fc11 fc12 x0 x1 x2 x3 x4 x5 x6 x7 x8 x9 x10 x11 x12 zx
            have H8e := Lib.hid (H8.out.eqs (lockD d (d + 1) wo wp HN.out.1).1 (HT7.out.symm.trans (lockD d (d + 1) wo wp HN.out.1).2))
            clear H8 HT7 H7 rg7
            have HD := Lib.hid (H8e.out.eqs (X' := [(d + 1), 8, 0, wo, 1, 0, 0, 0, wp, 1, 0, 3, 0]) (by rw [show wrap64 (d + 1) = (d + 1) from wr64 (d + 1) (by omega) (by omega)]) rfl)
            clear H8e H6e HC
            refine (Load_f HD.out.ms 0 (by omega)).mono ?_
            rintro e wsL ⟨rfl, mL, kL⟩
            have HL := Lib.hid (HD.out.mem mL kL (.inl rfl) (cnt_pos HD.out.s0))
            rw [show cellAt [(d + 1), 8, 0, wo, 1, 0, 0, 0, wp, 1, 0, 3, 0] 0 = (d + 1) from by simp [cellAt]]
            clear mL kL HD
            go_wp2_with fail
            refine (known15_any _).mono ?_
            rintro e wG ⟨rfl, hbG⟩
            have HG := Lib.hid (HL.out.below hbG)
            clear HL hbG
            obtain ⟨⟨a0, a1, a2, a3, a4, a5, a6, a7, a8, a9, a10, a11, a12⟩, -⟩ := blk13 HG.out.at_
            obtain ⟨⟨b0, b1, b2, b3, b4, b5, b6, b7, b8, b9, b10, b11, b12⟩, zb⟩ := blk13 (HG.out.get (.head _))
            have BG := HZ.out.trans (HG.out.ms.B.mono HZ.out.size)
            go_wp2
            go_ret
            exact ⟨by first | rfl | (simp; done) | (simp; omega), BG⟩

end Go.Proofs.Ytcellcjojfbajaa
