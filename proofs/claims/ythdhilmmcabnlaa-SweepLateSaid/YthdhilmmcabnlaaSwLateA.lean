/- SweepLate: the walk. -/
import Derived.Test.YthdhilmmcabnlaaSwLate
import Derived.Test.YthdhilmmcabnlaaSwTakes
namespace Go.Proofs.Ythdhilmmcabnlaa
set_option linter.unusedSimpArgs false
set_option linter.unusedVariables false
open Go.RowKit
open Go.ChangeShapes Go.WideShapes Go.ChangeAt

theorem cellSwap_rg {xs : List Int} {a o y : Int} (h : RgX xs) (hy : Rg y) : RgX (cellSwap xs a o y) := by
  unfold cellSwap
  split
  · unfold cellSet
    split
    · exact rg_set h _ _ hy
    · exact h
  · exact h
set_option maxRecDepth 100000 in
set_option maxHeartbeats 4000000 in
theorem sweepLate_a (c : Value) (cs : List Int) (many when_ v : Int) (w : World) (hc : InSlice .u8 w c cs) (k1 : 0 ≤ many) (k2 : many ≤ 255) (p1 : 0 ≤ when_) (p2 : when_ ≤ 255) (q1 : -9223372036854775808 ≤ v) (q2 : v ≤ 9223372036854775807) (hs : v ≤ 0 ∨ min (2 + (many % 9).toNat) (nOf cs) < 2) : Calls Try.prog 6 #[c, .int .u8 many, .int .u8 when_, .int .i64 v] w fun e w' => e = .returned (.bool true) ∧ Below w.heap.size w w' := by
  obtain ⟨n, hn⟩ : ∃ n, nOf cs = n := ⟨_, rfl⟩
  have hn9 := nOf_rng cs
  rw [hn] at hn9
  obtain ⟨M, hM⟩ : ∃ M : Nat, many % 9 = (M : Int) := ⟨(many % 9).toNat, by omega⟩
  have hM9 : M ≤ 8 := by omega
  obtain ⟨m, hm⟩ : ∃ m, min (2 + M) n = m := ⟨_, rfl⟩
  have hmn : m ≤ n := by omega
  obtain ⟨O, hO⟩ : ∃ O, (ord cs n).take m = O := ⟨_, rfl⟩
  have hOl : O.length = m := by rw [← hO, List.length_take, ord_len]; omega
  obtain ⟨X0, hX0⟩ : ∃ X, layN cs O ((List.replicate (3 + 5 * n) 0).set 2 50) m = X := ⟨_, rfl⟩
  have HP := Lib.hid (show nOf cs = n ∧ min (2 + M) n = m ∧ (ord cs n).take m = O ∧ layN cs O ((List.replicate (3 + 5 * n) 0).set 2 50) m = X0 ∧ O.length = m from ⟨hn, hm, hO, hX0, hOl⟩)
  have hs2 : v ≤ 0 ∨ (O.length : Int) < 2 := by
    rw [hn, hM, Int.toNat_natCast, hm, ← hOl] at hs
    omega
  have HS := Lib.hid hs2
  have HC := Lib.hid hc
  obtain ⟨bo, cap, rfl, -, -, -⟩ := hc
  clear hn hm hO hX0 hOl hmn hs hs2
  go_enter Try.func6, Try.ntmps6
  go_wp2_with fail
  refine (Chain_f _ cs (2 + (M : Int)) _ n (2 + M) HC.out (by omega) (by omega) HP.out.1 (by omega)).mono ?_
  rintro e w1 ⟨v1, v2, rfl, R1, I1, hb1, o1⟩
  rw [HP.out.2.1, HP.out.2.2.1, HP.out.2.2.2.1] at R1
  rw [HP.out.2.1, HP.out.2.2.1] at I1
  obtain ⟨xo, xc, rfl⟩ := R1.shape
  obtain ⟨oo, oc, rfl⟩ := I1.shape
  have H1 := Lib.hid hb1
  clear R1 I1 hb1 o1
  by_cases ho : (O.length : Int) < 2
  · go_wp2_with fail
    refine (known17_any _).mono ?_
    rintro e w2 ⟨rfl, hb⟩
    have B := bmore H1.out hb
    clear hb
    go_wp2
    go_ret
    exact ⟨by first | rfl | (simp; done), B⟩
  · have hv : v ≤ 0 := by have := HS.out; omega
    go_wp2_with fail
    refine (known17_any _).mono ?_
    rintro e w2 ⟨rfl, hb⟩
    have B := bmore H1.out hb
    clear hb
    go_wp2
    go_ret
    exact ⟨by first | rfl | (simp; done), B⟩

set_option maxRecDepth 100000 in
set_option maxHeartbeats 16000000 in
theorem sweepLate_b (c : Value) (cs : List Int) (many when_ v : Int) (w : World) (hc : InSlice .u8 w c cs) (k1 : 0 ≤ many) (k2 : many ≤ 255) (p1 : 0 ≤ when_) (p2 : when_ ≤ 255) (q1 : -9223372036854775808 ≤ v) (q2 : v ≤ 9223372036854775807) (hs : ¬ (v ≤ 0 ∨ min (2 + (many % 9).toNat) (nOf cs) < 2)) : Calls Try.prog 6 #[c, .int .u8 many, .int .u8 when_, .int .i64 v] w fun e w' => e = .returned (.bool true) ∧ Below w.heap.size w w' := by
  obtain ⟨n, hn⟩ : ∃ n, nOf cs = n := ⟨_, rfl⟩
  have hn9 := nOf_rng cs
  rw [hn] at hn9
  obtain ⟨M, hM⟩ : ∃ M : Nat, many % 9 = (M : Int) := ⟨(many % 9).toNat, by omega⟩
  have hM9 : M ≤ 8 := by omega
  obtain ⟨m, hm⟩ : ∃ m, min (2 + M) n = m := ⟨_, rfl⟩
  have hmn : m ≤ n := by omega
  obtain ⟨O, hO⟩ : ∃ O, (ord cs n).take m = O := ⟨_, rfl⟩
  have hOl : O.length = m := by rw [← hO, List.length_take, ord_len]; omega
  obtain ⟨X0, hX0⟩ : ∃ X, layN cs O ((List.replicate (3 + 5 * n) 0).set 2 50) m = X := ⟨_, rfl⟩
  have hm2 : 2 ≤ m := by rw [hn, hM, Int.toNat_natCast, hm] at hs; omega
  have hv0 : ¬ v ≤ 0 := by omega
  obtain ⟨J, hJ⟩ : ∃ J : Nat, when_ % 6 = (J : Int) := ⟨(when_ % 6).toNat, by omega⟩
  have hJ5 : J ≤ 5 := by omega
  have hX0l : X0.length = 3 + 5 * n := by rw [← hX0, ← hO]; exact (lay_all (by omega) (adr_ord cs hmn).1 (adr_ord cs hmn).2 m (Nat.le_refl _)).len
  obtain ⟨X2, hX2⟩ : ∃ X, zeroN O X0 m = X := ⟨_, rfl⟩
  obtain ⟨hXl, XS, SW, L, f1, f2, f3, f4, f5, f6, f7⟩ := late_plain cs v (by omega) (1 + J) (by omega) (by omega) (n := n) (by omega) hmn hm2 hO hX0 hX2
  have hat : ∀ i, i < O.length → ∃ a : Nat, O.getD i 0 = (a : Int) ∧ 3 ≤ a ∧ a + 5 ≤ 3 + 5 * n := fun i hi => by
    have h1 := (adr_ord cs hmn).2 i (by omega)
    rw [hO] at h1
    exact ⟨_, h1, (adr_ord cs hmn).1.ge i (by omega), (adr_ord cs hmn).1.le i (by omega)⟩
  have hRX : RgX X2 := by
    have hz : ∀ k, RgX (zeroN O X0 k) := fun k => by
      induction k with
      | zero =>
        show RgX X0
        rw [← hX0, ← hO]
        exact rg_layN (fun q => rg_on cs n m q (by omega)) (rg_set (fun x hx => by rw [List.eq_of_mem_replicate hx]; unfold Rg; omega) _ _ (by unfold Rg; omega)) m
      | succ k ih => exact rg_set ih _ _ (by unfold Rg; omega)
    rw [← hX2]; exact hz m
  obtain ⟨a0, ha0, ha03, ha0L⟩ := hat 0 (by omega)
  obtain ⟨a1, ha1, ha13, ha1L⟩ := hat 1 (by omega)
  rw [ha1] at f1 f7
  rw [ha0] at f6
  have HP := Lib.hid (show nOf cs = n ∧ min (2 + M) n = m ∧ (ord cs n).take m = O ∧ layN cs O ((List.replicate (3 + 5 * n) 0).set 2 50) m = X0 ∧ O.length = m ∧ X0.length = 3 + 5 * n ∧ zeroN O X0 m = X2 ∧ X2.length = 3 + 5 * n ∧ RgX X2 from ⟨hn, hm, hO, hX0, hOl, hX0l, hX2, hXl, hRX⟩)
  have HT := Lib.hid (And.intro f1 (And.intro f3 (And.intro f4 (And.intro f5 (And.intro f6 f7)))))
  have HQ := Lib.hid (And.intro hat (And.intro ha0 ha1))
  have hl2 : X2.length ≤ 1000 := by omega
  have hl3 : XS.length ≤ 1000 := by omega
  have HL := Lib.hid (show X2.length ≤ 1000 ∧ XS.length ≤ 1000 ∧ 8 ≤ X0.length ∧ m ≤ 9 ∧ 2 ≤ O.length from ⟨hl2, hl3, by omega, by omega, by omega⟩)
  have HV := Lib.hid (show -9223372036854775808 ≤ v ∧ v ≤ 9223372036854775807 from ⟨q1, q2⟩)
  have HC := Lib.hid hc
  obtain ⟨bo, cap, rfl, -, -, -⟩ := hc
  subst f2
  clear hn hm hO hX0 hOl hmn hs hm2 hX0l hX2 hXl f1 f3 f4 f5 f6 f7 hat hRX ha0 ha03 ha0L ha1 ha13 ha1L hl2 hl3
  have hO2 : (2 : Int) ≤ (O.length : Int) := by have := HL.out.2.2.2.2; omega
  go_enter Try.func6, Try.ntmps6
  go_wp2_with fail
  refine (Chain_f _ cs (2 + (M : Int)) _ n (2 + M) HC.out (by omega) (by omega) HP.out.1 (by omega)).mono ?_
  rintro e w1 ⟨v1, v2, rfl, R1, I1, hb1, o1⟩
  rw [HP.out.2.1, HP.out.2.2.1, HP.out.2.2.2.1] at R1
  rw [HP.out.2.1, HP.out.2.2.1] at I1
  obtain ⟨xo, xc, rfl⟩ := R1.shape
  obtain ⟨oo, oc, rfl⟩ := I1.shape
  have hX08 : 8 ≤ X0.length := HL.out.2.2.1
  obtain ⟨gx, cx, curx, ex, hgx, -, -, -, -⟩ := R1.pos (by omega)
  cases ex
  have zgx : w.heap.size ≤ gx := o1 gx rfl
  have zx : gx < w1.heap.size := (Array.getElem?_eq_some_iff.1 hgx).1
  have hfo : ∀ k, (Value.slice oo O.length oc).ownBlock = some k → k ≠ gx := fun k e hk => by
    obtain ⟨cur, h3⟩ := I1.heap3 e
    rw [hk, hgx] at h3; simp at h3
  have H1 := Lib.hid (And.intro R1 (And.intro I1 (And.intro hb1 (And.intro hfo zgx))))
  clear R1 I1 hb1 o1 hgx hfo
  have hO9 : (O.length : Int) ≤ 9 := by have := HP.out.2.2.2.2.1; have := HL.out.2.2.2.1; omega
  go_wp2
  go_loopw [11] (fun k wr => ∃ i : Nat, i ≤ O.length ∧ k = .int .i64 i ∧ Row wr (.slice (some ⟨gx, 0, none⟩) X0.length xc) (zeroN O X0 i) ∧ Kept (fun b => b = gx) w1 wr) (fun k _ => O.length - (intOf k).toNat)
  case atStart => exact ⟨0, Nat.zero_le _, rfl, H1.out.1, Kept.refl _ _⟩
  case round =>
    obtain ⟨i, hi, rfl, hRow, hK⟩ := hrel
    have zi : (0 : Int) ≤ (i : Int) := by omega
    by_cases hlt : i < O.length
    · have hi1' : (i : Int) < (O.length : Int) := by omega
      obtain ⟨a, ha, ha3, haL⟩ := HQ.out.1 i hlt
      obtain ⟨go, co, curo, eo, -, -, -, hoc, -⟩ := H1.out.2.1.pos (by omega)
      cases eo
      have ho1 := hoc i hlt
      rw [ha] at ho1
      have zo : go < w1.heap.size := World.block_lt_of_cell? w1 _ ho1
      have ho := (hK.cell (p := ⟨go, i, none⟩) zo (show ¬ go = gx from H1.out.2.2.2.1 go rfl)).trans ho1
      have zow : go < wr.heap.size := World.block_lt_of_cell? wr _ ho
      have hlen := zeroN_len O X0 i
      have hX0l := HP.out.2.2.2.2.2.1
      have haX : a + 2 < X0.length := by omega
      have haX' : (a : Int) + 2 < (X0.length : Int) := by omega
      obtain ⟨g3, c3, cur3, e3, -, -, -, hxc, hxf⟩ := hRow.pos (by rw [hlen]; omega)
      rw [hlen] at e3
      cases e3
      have hq := hxc (a + 2) (by rw [hlen]; omega)
      have hqf := hxf (a + 2)
      have HA := Lib.hid (And.intro ha (And.intro hRow (And.intro hK hlen)))
      have zgw : gx < wr.heap.size := World.block_lt_of_cell? wr _ hq
      clear ha hoc ho1 hlen hX0l hxc hxf hRow hK
      go_wp2_with fail
      generalize hwB : World.setCell _ _ _ = wB
      have RB : Row wB (.slice (some ⟨gx, 0, none⟩) X0.length xc) (zeroN O X0 (i + 1)) := by
        rw [← hwB, zeroN, HA.out.1, Int.toNat_natCast]
        exact HA.out.2.1.set rfl (a + 2) (by rw [HA.out.2.2.2]; omega) _
      have KB : Kept (fun b => b = gx) w1 wB := by
        rw [← hwB]
        exact HA.out.2.2.1.setCell (p := ⟨gx, a + 2, none⟩) (fun _ => rfl) _
      have HBB := Lib.hid (And.intro RB KB)
      clear RB KB hwB
      go_roundw
      case rel => exact ⟨i + 1, by omega, by go_num, HBB.out.1, HBB.out.2⟩
      case measure => simp [intOf]; omega
    · obtain rfl : i = O.length := by omega
      have hlen := zeroN_len O X0 O.length
      have hXX : zeroN O X0 O.length = X2 := by rw [HP.out.2.2.2.2.1]; exact HP.out.2.2.2.2.2.2.1
      rw [hXX] at hRow hlen
      have O2 : IRow wr (.slice oo O.length oc) O := H1.out.2.1.kept hK H1.out.2.2.2.1
      have B2 : Below w.heap.size w wr := H1.out.2.2.1.trans (hK.below H1.out.2.2.1.size (fun k hk e => by omega))
      have H2 := Lib.hid (And.intro hRow (And.intro O2 B2))
      clear hRow hK hlen hXX O2 B2
      go_wp2_with fail
      refine (Memory13_f _ X2 wr H2.out.1.sl HL.out.1).mono ?_
      rintro e w3 ⟨mv, b, g, q, rfl, h3, -⟩
      obtain ⟨ao1, cap1, rfl, -, -⟩ := h3.rv.open
      have H3 := Lib.hid h3
      clear h3
      go_upto_block 2 with fail
      obtain ⟨wo, hwo⟩ : ∃ wo : World, wo = wr := ⟨_, rfl⟩
      subst hwo
      generalize hr14 : w3.heap.size + 1 = r14
      generalize hW4 : World.alloc _ _ = W4
      have A14 : W4.heap[r14]? = some (.cells #[.int .i64 0, .int .i64 40, .int .i64 0, .int .i64 0, .int .i64 0, .int .i64 0, .int .i64 0, .int .i64 0, .int .i64 0, .int .i64 0, .int .i64 50, .int .i64 0, .slice none 0 0] 39 (0, 0)) := by rw [← hW4, ← hr14]; exact alloc2_heap1 _ _ _
      have B4 : Below w3.heap.size w3 W4 := by rw [← hW4]; go_grown
      have hF14 : ¬ Foot b g r14 := H3.out.ms.past r14 (by omega)
      have z14 : r14 < W4.heap.size := (Array.getElem?_eq_some_iff.1 A14).1
      have H4 := Lib.hid (And.intro A14 (And.intro (H3.out.ms.below B4) hF14))
      have zr14 : wo.heap.size ≤ r14 := by have := H3.out.ms.B.size; omega
      clear hr14 hW4 A14 B4 hF14
      go_cut [15, 16, 17] from 62 to 89 (fun a15 a16 a17 wx => a16 = .bool (decide (1 + J ≤ 4)) ∧ (∃ i : Nat, a15 = .int .i64 i) ∧ (∃ i : Nat, a17 = .int .i64 i) ∧ ∃ su, MS wo wx b g X2.length XS su)
      case first =>
        go_wp2_with fail
        go_loopw [15, 16, 17] (fun x s k wr => ∃ (i : Nat) (X : List Int) (su : Int) (t : Th) (sw : Bool) (bo : Option Addr) (bc : Nat), i ≤ 200 ∧ x = .int .i64 i ∧ s = .bool sw ∧ k = .int .i64 i ∧ MS wo wr b g X2.length X su ∧ wr.heap[r14]? = some (.cells #[.int .i64 t.i0, .int .i64 t.i1, .int .i64 t.i2, .int .i64 t.i3, .int .i64 t.i4, .int .i64 t.i5, .int .i64 t.i6, .int .i64 t.i7, .int .i64 t.i8, .int .i64 t.i9, .int .i64 t.i10, .int .i64 t.i11, .slice bo 0 bc] 39 (0, 0)) ∧ 0 ≤ su ∧ su ≤ 2000 + 2 * i ∧ RgX X ∧ Rg t.i5 ∧ Rg t.i6 ∧ lateK (1 + J) (a1 : Int) v (200 - i) X t i sw = (XS, decide (1 + J ≤ 4))) (fun _ _ k _ => 200 - (intOf k).toNat)
        case atStart => exact ⟨0, X2, _, ⟨0, 40, 0, 0, 0, 0, 0, 0, 0, 0, 50, 0⟩, false, none, 0, by omega, rfl, rfl, rfl, H4.out.2.1, H4.out.1, by omega, by have := HL.out.1; omega, HP.out.2.2.2.2.2.2.2.2, by show Rg 0; unfold Rg; omega, by show Rg 0; unfold Rg; omega, HT.out.1⟩
        case round =>
          obtain ⟨i, X, su, t, sw, bo, bc, hi, rfl, rfl, rfl, m, A14, su0, su1, hX, h5, h6, hA⟩ := hrel
          have zi : (0 : Int) ≤ (i : Int) := by omega
          have hi' : (i : Int) ≤ 200 := by omega
          have z14' : r14 < wr.heap.size := (Array.getElem?_eq_some_iff.1 A14).1
          have HR := Lib.hid (And.intro m (And.intro A14 (And.intro hX (And.intro h5 (And.intro h6 hA)))))
          obtain ⟨⟨a0, a1, a2, a3, a4, a5, a6, a7, a8, a9, a10, a11, a12⟩, -⟩ := blk13 A14
          clear m A14 hX h5 h6 hA
          by_cases hlt : i < 200
          · have hlt' : (i : Int) < 200 := by omega
            go_wp2_with fail
            refine (Sweeps_f _ t bo 0 bc).mono ?_
            rintro e w2 ⟨rfl, hb2⟩
            have A14 := (hb2.block r14 z14').trans HR.out.2.1
            have m2 := HR.out.1.below hb2
            have H5 := Lib.hid (And.intro m2 A14)
            clear hb2 A14 m2 a0 a1 a2 a3 a4 a5 a6 a7 a8 a9 a10 a11 a12
            by_cases hs : 40 ≤ t.i1 ∧ t.i1 ≤ 48
            · rw [decide_eq_true hs]
              have HS := Lib.hid hs
              clear hs
              by_cases hj : i = 1 + J
              · have hjb : ((i : Int) == 1 + (J : Int)) = true := beq_iff_eq.2 (by omega)
                obtain ⟨go, co, curo, eo, -, -, -, hoc, -⟩ := (H2.out.2.1.below H5.out.1.B).pos (by omega)
                cases eo
                have ho := hoc 1 (by have := HL.out.2.2.2.2; omega)
                rw [HQ.out.2.2] at ho
                have zo : go < w2.heap.size := World.block_lt_of_cell? w2 _ ho
                have hA := HR.out.2.2.2.2.2
                rw [show 200 - i = (200 - (i + 1)) + 1 by omega, lateK_hit HS.out hj] at hA
                have HA := Lib.hid hA
                clear hj hoc hA
                go_wp2_with fail
                refine (Swap_f H5.out.1 (a1 : Int) 0 v (by omega)).mono ?_
                rintro e w3 ⟨rfl, m3, k3⟩
                have A14 := (k3.block r14 (Array.getElem?_eq_some_iff.1 H5.out.2).1 H4.out.2.2).trans H5.out.2
                have cr := cntAt_rng X (a1 : Int)
                have hXs := cellSwap_rg HR.out.2.2.1 (a := (a1 : Int)) (o := 0) HV.out
                have H6 := Lib.hid (And.intro m3 (And.intro A14 hXs))
                clear m3 k3 A14 hXs ho zo
                obtain ⟨⟨d0, d1, d2, d3, d4, d5, d6, d7, d8, d9, d10, d11, d12⟩, -⟩ := blk13 (H6.out.2.1)
                have df0 := blkF (H6.out.2.1) 0; have df1 := blkF (H6.out.2.1) 1; have df2 := blkF (H6.out.2.1) 2; have df3 := blkF (H6.out.2.1) 3; have df4 := blkF (H6.out.2.1) 4; have df5 := blkF (H6.out.2.1) 5; have df6 := blkF (H6.out.2.1) 6; have df7 := blkF (H6.out.2.1) 7; have df8 := blkF (H6.out.2.1) 8; have df9 := blkF (H6.out.2.1) 9; have df10 := blkF (H6.out.2.1) 10; have df11 := blkF (H6.out.2.1) 11; have df12 := blkF (H6.out.2.1) 12
                have zd : r14 < w3.heap.size := (Array.getElem?_eq_some_iff.1 (H6.out.2.1)).1
                go_wp2_with fail
                refine (sStep_f wo _ b g X2.length (su + cntAt X (a1 : Int)) (cellSwap X (a1 : Int) 0 v) t (.slice bo 0 bc) 0 (fun _ => 0) 10 (H6.out.1) (Its.zero _ _ _) (Nat.zero_le _) (by omega) (by omega) HR.out.2.2.2.2.1).mono ?_
                rintro e w4 ⟨bt3, he, m4, I3, k4⟩
                obtain ⟨bo3, bc3, rfl, -⟩ := id I3
                obtain ⟨t3, ht3⟩ : ∃ t3, swT (cellSwap X (a1 : Int) 0 v) 10 t = t3 := ⟨_, rfl⟩
                have g56 : Rg t3.i5 ∧ Rg t3.i6 := by rw [← ht3]; exact swT_rg (H6.out.2.2) 10 t HR.out.2.2.2.1 HR.out.2.2.2.2.1
                have gX : RgX (swX (cellSwap X (a1 : Int) 0 v) t) := swX_rg (H6.out.2.2) t HR.out.2.2.2.1
                have c3 := swC_rng (cellSwap X (a1 : Int) 0 v) t
                have hA2 := HA.out
                rw [ht3] at hA2 he
                have R14 := (k4.block r14 zd H4.out.2.2).trans (H6.out.2.1)
                have x14 : r14 < w4.heap.size := (Array.getElem?_eq_some_iff.1 R14).1
                have H7 := Lib.hid (And.intro m4 (And.intro R14 (And.intro g56 (And.intro gX (And.intro hA2 c3)))))
                clear m4 k4 g56 gX hA2 ht3 I3 c3 d0 d1 d2 d3 d4 d5 d6 d7 d8 d9 d10 d11 d12 df0 df1 df2 df3 df4 df5 df6 df7 df8 df9 df10 df11 df12
                obtain ⟨⟨f0, f1, f2, f3, f4, f5, f6, f7, f8, f9, f10, f11, f12⟩, -⟩ := blk13 R14
                have ff0 := blkF R14 0; have ff1 := blkF R14 1; have ff2 := blkF R14 2; have ff3 := blkF R14 3; have ff4 := blkF R14 4; have ff5 := blkF R14 5; have ff6 := blkF R14 6; have ff7 := blkF R14 7; have ff8 := blkF R14 8; have ff9 := blkF R14 9; have ff10 := blkF R14 10; have ff11 := blkF R14 11; have ff12 := blkF R14 12
                clear R14
                obtain ⟨y0, y1, y2, y3, y4, y5, y6, y7, y8, y9, y10, y11⟩ := t3
                simp only [thV] at he
                subst he
                go_wp2_with fail
                generalize hW5 : World.setCell _ _ _ = W5
                have U14 : W5.heap[r14]? = some (.cells #[.int .i64 y0, .int .i64 y1, .int .i64 y2, .int .i64 y3, .int .i64 y4, .int .i64 y5, .int .i64 y6, .int .i64 y7, .int .i64 y8, .int .i64 y9, .int .i64 y10, .int .i64 y11, .slice bo3 0 bc3] 39 (0, 0)) := by rw [← hW5]; exact set13 H7.out.2.1 rfl
                have K5 : Kept (fun k => k = r14) w4 W5 := by rw [← hW5]; exact kept_set13 _ _ _ _ _ _ _ _ _ _ _ _ _ _ _
                have m5 := H7.out.1.far K5 (by omega) H4.out.2.2
                have H8 := Lib.hid (And.intro m5 U14)
                clear hW5 U14 K5 m5
                go_roundw
                case rel =>
                  have c3 := H7.out.2.2.2.2.2
                  exact ⟨i + 1, _, _, ⟨y0, y1, y2, y3, y4, y5, y6, y7, y8, y9, y10, y11⟩, _, bo3, bc3, by omega, by go_num, rfl, by go_num, H8.out.1, H8.out.2, by omega, by omega, H7.out.2.2.2.1, H7.out.2.2.1.1, H7.out.2.2.1.2, H7.out.2.2.2.2.1⟩
                case measure => simp [intOf]; omega
              · have hjb : ((i : Int) == 1 + (J : Int)) = false := beq_eq_false_iff_ne.2 (by omega)
                have hA := HR.out.2.2.2.2.2
                rw [show 200 - i = (200 - (i + 1)) + 1 by omega, lateK_pass HS.out hj] at hA
                have HA := Lib.hid hA
                clear hj hA
                obtain ⟨⟨d0, d1, d2, d3, d4, d5, d6, d7, d8, d9, d10, d11, d12⟩, -⟩ := blk13 (H5.out.2)
                have df0 := blkF (H5.out.2) 0; have df1 := blkF (H5.out.2) 1; have df2 := blkF (H5.out.2) 2; have df3 := blkF (H5.out.2) 3; have df4 := blkF (H5.out.2) 4; have df5 := blkF (H5.out.2) 5; have df6 := blkF (H5.out.2) 6; have df7 := blkF (H5.out.2) 7; have df8 := blkF (H5.out.2) 8; have df9 := blkF (H5.out.2) 9; have df10 := blkF (H5.out.2) 10; have df11 := blkF (H5.out.2) 11; have df12 := blkF (H5.out.2) 12
                have zd : r14 < w2.heap.size := (Array.getElem?_eq_some_iff.1 (H5.out.2)).1
                go_wp2_with fail
                refine (sStep_f wo _ b g X2.length su X t (.slice bo 0 bc) 0 (fun _ => 0) 10 (H5.out.1) (Its.zero _ _ _) (Nat.zero_le _) (by omega) (by omega) HR.out.2.2.2.2.1).mono ?_
                rintro e w4 ⟨bt3, he, m4, I3, k4⟩
                obtain ⟨bo3, bc3, rfl, -⟩ := id I3
                obtain ⟨t3, ht3⟩ : ∃ t3, swT X 10 t = t3 := ⟨_, rfl⟩
                have g56 : Rg t3.i5 ∧ Rg t3.i6 := by rw [← ht3]; exact swT_rg (HR.out.2.2.1) 10 t HR.out.2.2.2.1 HR.out.2.2.2.2.1
                have gX : RgX (swX X t) := swX_rg (HR.out.2.2.1) t HR.out.2.2.2.1
                have c3 := swC_rng X t
                have hA2 := HA.out
                rw [ht3] at hA2 he
                have R14 := (k4.block r14 zd H4.out.2.2).trans (H5.out.2)
                have x14 : r14 < w4.heap.size := (Array.getElem?_eq_some_iff.1 R14).1
                have H7 := Lib.hid (And.intro m4 (And.intro R14 (And.intro g56 (And.intro gX (And.intro hA2 c3)))))
                clear m4 k4 g56 gX hA2 ht3 I3 c3 d0 d1 d2 d3 d4 d5 d6 d7 d8 d9 d10 d11 d12 df0 df1 df2 df3 df4 df5 df6 df7 df8 df9 df10 df11 df12
                obtain ⟨⟨f0, f1, f2, f3, f4, f5, f6, f7, f8, f9, f10, f11, f12⟩, -⟩ := blk13 R14
                have ff0 := blkF R14 0; have ff1 := blkF R14 1; have ff2 := blkF R14 2; have ff3 := blkF R14 3; have ff4 := blkF R14 4; have ff5 := blkF R14 5; have ff6 := blkF R14 6; have ff7 := blkF R14 7; have ff8 := blkF R14 8; have ff9 := blkF R14 9; have ff10 := blkF R14 10; have ff11 := blkF R14 11; have ff12 := blkF R14 12
                clear R14
                obtain ⟨y0, y1, y2, y3, y4, y5, y6, y7, y8, y9, y10, y11⟩ := t3
                simp only [thV] at he
                subst he
                go_wp2_with fail
                generalize hW5 : World.setCell _ _ _ = W5
                have U14 : W5.heap[r14]? = some (.cells #[.int .i64 y0, .int .i64 y1, .int .i64 y2, .int .i64 y3, .int .i64 y4, .int .i64 y5, .int .i64 y6, .int .i64 y7, .int .i64 y8, .int .i64 y9, .int .i64 y10, .int .i64 y11, .slice bo3 0 bc3] 39 (0, 0)) := by rw [← hW5]; exact set13 H7.out.2.1 rfl
                have K5 : Kept (fun k => k = r14) w4 W5 := by rw [← hW5]; exact kept_set13 _ _ _ _ _ _ _ _ _ _ _ _ _ _ _
                have m5 := H7.out.1.far K5 (by omega) H4.out.2.2
                have H8 := Lib.hid (And.intro m5 U14)
                clear hW5 U14 K5 m5
                go_roundw
                case rel =>
                  have c3 := H7.out.2.2.2.2.2
                  exact ⟨i + 1, _, _, ⟨y0, y1, y2, y3, y4, y5, y6, y7, y8, y9, y10, y11⟩, _, bo3, bc3, by omega, by go_num, rfl, by go_num, H8.out.1, H8.out.2, by omega, by omega, H7.out.2.2.2.1, H7.out.2.2.1.1, H7.out.2.2.1.2, H7.out.2.2.2.2.1⟩
                case measure => simp [intOf]; omega
            · rw [decide_eq_false hs]
              have hA := HR.out.2.2.2.2.2
              rw [lateK_end hs] at hA
              simp only [Prod.mk.injEq] at hA
              obtain ⟨e1, e2⟩ := hA
              have HA := Lib.hid (And.intro e1 e2)
              clear hs e1 e2
              go_wp2_with fail
              go_meet
              case rel => exact ⟨by rw [HA.out.2], ⟨_, rfl⟩, ⟨_, rfl⟩, _, by rw [← HA.out.1]; exact H5.out.1⟩
          · obtain rfl : i = 200 := by omega
            have hA : (X, sw) = (XS, decide (1 + J ≤ 4)) := HR.out.2.2.2.2.2
            simp only [Prod.mk.injEq] at hA
            obtain ⟨e1, e2⟩ := hA
            have HA := Lib.hid (And.intro e1 e2)
            clear e1 e2
            go_wp2_with fail
            go_meet
            case rel => exact ⟨by rw [HA.out.2], ⟨200, rfl⟩, ⟨200, rfl⟩, _, by rw [← HA.out.1]; exact HR.out.1⟩
      case rest =>
        obtain ⟨rfl, ⟨i15, rfl⟩, ⟨i17, rfl⟩, su, hm⟩ := hcut
        have H5 := Lib.hid hm
        clear hm
        go_wp2_with fail
        refine (Cells_ms H5.out).mono ?_
        rintro e w6 ⟨ao6, ccap6, rfl, m6, row6, hb6, -⟩
        have m6b := H5.out.below hb6
        have H6 := Lib.hid (And.intro row6 m6b)
        clear m6 m6b row6 hb6
        go_wp2_with fail
        refine (Memory13_f _ XS w6 H6.out.1.sl HL.out.2.1).mono ?_
        rintro e w7 ⟨mv2, b2, g2, q2, rfl, h7, -⟩
        obtain ⟨ao2, cap2, rfl, -, -⟩ := h7.rv.open
        have H7 := Lib.hid h7
        clear h7
        go_wp2_with fail
        generalize hW8 : World.alloc _ _ = W8
        have B8 : Below w7.heap.size w7 W8 := by rw [← hW8]; go_grown
        refine (rReach_f W8 _ q2 _ _ XS L true (H7.out.rv.below B8) HL.out.2.1 HT.out.2.2.1).mono ?_
        rintro e w9 ⟨u, rfl, hx, hb9⟩
        obtain ⟨xo5, xc5, rfl⟩ := hx.shape
        have B9 : Below w6.heap.size w6 w9 := H7.out.ms.B.trans ((B8.trans (hb9.mono B8.size)).mono H7.out.ms.B.size)
        have m9 := H6.out.2.below B9
        have o9 := H2.out.2.1.below m9.B
        have H9 := Lib.hid (And.intro (IRow.slx hx) (And.intro o9 (H2.out.2.2.trans (m9.B.mono H2.out.2.2.size))))
        clear hW8 B8 hx hb9 B9 m9 o9
        obtain ⟨go, co, curo, eo, -, -, -, hoc, -⟩ := H9.out.2.1.pos (by omega)
        cases eo
        have ho1 := hoc 1 (by have := HL.out.2.2.2.2; omega)
        have ho0 := hoc 0 (by omega)
        rw [HQ.out.2.2] at ho1
        rw [HQ.out.2.1] at ho0
        have zo : go < w9.heap.size := World.block_lt_of_cell? w9 _ ho1
        have c0 := fun (u : World) (hu : Below w9.heap.size w9 u) => (hu.cell (p := ⟨go, 0, none⟩) zo).trans ho0
        have HC0 := Lib.hid c0
        clear hoc ho0 c0
        go_wp2_with fail
        refine (Place_any _ L (a1 : Int) _ H9.out.1 (by have := HT.out.2.2.2.1; omega)).mono ?_
        rintro e w' ⟨rfl, rfl⟩
        have hpl := HT.out.2.2.2.2.2
        obtain ⟨P, hP⟩ : ∃ P, placeOf L (a1 : Int) = P := ⟨_, rfl⟩
        rw [hP] at hpl
        rw [hP]
        have HPL := Lib.hid hpl
        clear hpl hP
        by_cases hj : J ≤ 3
        · have hd : decide (1 + J ≤ 4) = true := decide_eq_true (by omega)
          have hp : 0 ≤ P := of_decide_eq_true (HPL.out.trans hd)
          rw [hd]
          have hj' : (1 : Int) + (J : Int) ≤ 4 := by omega
          clear hj hd
          go_wp2_with fail
          refine (known17_any _).mono ?_
          rintro e w10 ⟨rfl, hb10⟩
          have c0 := HC0.out w10 hb10
          have zo2 : go < w10.heap.size := World.block_lt_of_cell? w10 _ c0
          have HB := Lib.hid hb10
          clear hb10
          go_wp2_with fail
          refine (Place_any _ L (a0 : Int) _ (H9.out.1.below HB.out) (by have := HT.out.2.2.2.1; omega)).mono ?_
          rintro e w' ⟨rfl, rfl⟩
          rw [HT.out.2.2.2.2.1]
          have BZ := bmore H9.out.2.2 HB.out
          go_wp2
          go_ret
          exact ⟨by first | rfl | (simp; done) | (simp; omega), BZ⟩
        · have hd : decide (1 + J ≤ 4) = false := decide_eq_false (by omega)
          have hp : ¬ 0 ≤ P := of_decide_eq_false (HPL.out.trans hd)
          rw [hd]
          have hj' : ¬ (1 : Int) + (J : Int) ≤ 4 := by omega
          clear hj hd
          go_wp2_with fail
          refine (known17_any _).mono ?_
          rintro e w10 ⟨rfl, hb10⟩
          have c0 := HC0.out w10 hb10
          have zo2 : go < w10.heap.size := World.block_lt_of_cell? w10 _ c0
          have HB := Lib.hid hb10
          clear hb10
          go_wp2_with fail
          refine (Place_any _ L (a0 : Int) _ (H9.out.1.below HB.out) (by have := HT.out.2.2.2.1; omega)).mono ?_
          rintro e w' ⟨rfl, rfl⟩
          rw [HT.out.2.2.2.2.1]
          have BZ := bmore H9.out.2.2 HB.out
          go_wp2
          go_ret
          exact ⟨by first | rfl | (simp; done) | (simp; omega), BZ⟩
theorem sweepLate_any (c : Value) (cs : List Int) (many when_ v : Int) (w : World) (hc : InSlice .u8 w c cs) (k1 : 0 ≤ many) (k2 : many ≤ 255) (p1 : 0 ≤ when_) (p2 : when_ ≤ 255) (q1 : -9223372036854775808 ≤ v) (q2 : v ≤ 9223372036854775807) : Calls Try.prog 6 #[c, .int .u8 many, .int .u8 when_, .int .i64 v] w fun e w' => e = .returned (.bool true) ∧ Below w.heap.size w w' := by
  by_cases hs : v ≤ 0 ∨ min (2 + (many % 9).toNat) (nOf cs) < 2
  · exact sweepLate_a c cs many when_ v w hc k1 k2 p1 p2 q1 q2 hs
  · exact sweepLate_b c cs many when_ v w hc k1 k2 p1 p2 q1 q2 hs

end Go.Proofs.Ythdhilmmcabnlaa
