/- SweepTwice: the walk. -/
import Derived.Test.YthdhilmmcabnlaaSwTab
namespace Go.Proofs.Ythdhilmmcabnlaa
set_option linter.unusedSimpArgs false
set_option linter.unusedVariables false
open Go.RowKit
open Go.ChangeShapes Go.WideShapes Go.ChangeAt

theorem fresh_foot {W0 u w2 w4 : World} {b b2 : Nat} {g g2 : Option Nat} {N N2 st st2 : Int} {X Y : List Int} (h : MS W0 u b g N X st) (hu : u.heap.size ≤ w2.heap.size) (h2 : MS w2 w4 b2 g2 N2 Y st2) :
    (¬ Foot b g b2 ∧ ∀ k, g2 = some k → ¬ Foot b g k) ∧ (¬ Foot b2 g2 b ∧ ∀ k, g = some k → ¬ Foot b2 g2 k) := by
  have zb2 : w2.heap.size ≤ b2 := h2.2.1
  have zg2 : ∀ k, g2 = some k → w2.heap.size ≤ k := h2.2.2.1
  have zb : b < w2.heap.size := Nat.lt_of_lt_of_le h.mem.lt hu
  have zg : ∀ k, g = some k → k < w2.heap.size := fun k e => by subst e; exact Nat.lt_of_lt_of_le h.mem.row_lt hu
  refine ⟨⟨fun e => ?_, fun k e e2 => ?_⟩, ⟨fun e => ?_, fun k e e2 => ?_⟩⟩
  · rcases e with e | e
    · omega
    · have := zg _ e.symm; omega
  · have h1 := zg2 k e
    rcases e2 with e2 | e2
    · omega
    · have := zg _ e2.symm; omega
  · rcases e with e | e
    · omega
    · have := zg2 _ e.symm; omega
  · have h1 := zg k e
    rcases e2 with e2 | e2
    · omega
    · have := zg2 _ e2.symm; omega
theorem MS.past {W0 u : World} {b : Nat} {g : Option Nat} {N st : Int} {X : List Int} (h : MS W0 u b g N X st) : ∀ k, u.heap.size ≤ k → ¬ Foot b g k := fun k hk => by
  rintro (e | e)
  · have := h.mem.lt; omega
  · subst e; have := h.mem.row_lt; omega
set_option maxRecDepth 100000 in
set_option maxHeartbeats 8000000 in
theorem sweepTwice_any (c : Value) (cs : List Int) (many age more : Int) (w : World) (hc : InSlice .u8 w c cs) (k1 : 0 ≤ many) (k2 : many ≤ 255) (p1 : 0 ≤ age) (p2 : age ≤ 255) (q1 : 0 ≤ more) (q2 : more ≤ 255) :
    Calls Try.prog 5 #[c, .int .u8 many, .int .u8 age, .int .u8 more] w fun e w' => e = .returned (.bool true) ∧ Below w.heap.size w w' := by
  obtain ⟨n, hn⟩ : ∃ n, nOf cs = n := ⟨_, rfl⟩
  have hn9 := nOf_rng cs
  rw [hn] at hn9
  obtain ⟨M, hM⟩ : ∃ M : Nat, many % 10 = (M : Int) := ⟨(many % 10).toNat, by omega⟩
  obtain ⟨A, hA⟩ : ∃ A : Nat, age % 60 = (A : Int) := ⟨(age % 60).toNat, by omega⟩
  obtain ⟨C, hC⟩ : ∃ C : Nat, more % 60 = (C : Int) := ⟨(more % 60).toNat, by omega⟩
  have hM9 : M ≤ 9 := by omega
  have hA9 : A ≤ 59 := by omega
  have hC9 : C ≤ 59 := by omega
  obtain ⟨m, hm⟩ : ∃ m, min M n = m := ⟨_, rfl⟩
  have hmn : m ≤ n := by omega
  obtain ⟨O, hO⟩ : ∃ O, (ord cs n).take m = O := ⟨_, rfl⟩
  obtain ⟨X, hX⟩ : ∃ X, layN cs O ((List.replicate (3 + 5 * n) 0).set 2 50) m = X := ⟨_, rfl⟩
  obtain ⟨hXl, hX2, X1, T1, K1, Y, T2, K2, T3, K3, L1, L2, f1, f2, f3, f4, f5, f6, f7, f8, f9, f10⟩ := twice_plain cs (A : Int) ((A : Int) + (C : Int)) (by omega) (by omega) (by omega) (n := n) (by omega) hmn hO hX
  have hRX : RgX X := by
    rw [← hX, ← hO]
    exact rg_layN (fun q => rg_on cs n m q (by omega)) (rg_set (fun x hx => by rw [List.eq_of_mem_replicate hx]; unfold Rg; omega) _ _ (by unfold Rg; omega)) m
  have HP := Lib.hid (show nOf cs = n ∧ min M n = m ∧ (ord cs n).take m = O ∧ layN cs O ((List.replicate (3 + 5 * n) 0).set 2 50) m = X ∧ X.length = 3 + 5 * n ∧ X.getD 2 0 = 50 ∧ RgX X from ⟨hn, hm, hO, hX, hXl, hX2, hRX⟩)
  have HT := Lib.hid (And.intro f1 (And.intro f3 (And.intro f4 (And.intro f6 (And.intro f7 f8)))))
  have hl1 : X.length ≤ 1000 := by omega
  have hl2 : X1.length ≤ 1000 := by omega
  have hl3 : Y.length ≤ 1000 := by omega
  have hl4 : L1.length ≤ 9 := by omega
  have hx3 : (3 : Int) ≤ (X.length : Int) := by omega
  have hle' : (L1.length : Int) ≤ (L2.length : Int) := by omega
  have HL := Lib.hid (show X.length ≤ 1000 ∧ X1.length ≤ 1000 ∧ Y.length ≤ 1000 ∧ L1.length ≤ 9 ∧ L2.length ≤ 9 ∧ 3 ≤ X.length ∧ L1.length ≤ L2.length from ⟨hl1, hl2, hl3, hl4, f10, by omega, f9⟩)
  have HC := Lib.hid hc
  obtain ⟨bo, cap, rfl, -, -, -⟩ := hc
  clear hn hm hO hX hXl hX2 hRX f1 f2 f3 f4 f5 f6 f7 f8 f9 f10 hmn hl1 hl2 hl3 hl4 hle'
  go_enter Try.func5, Try.ntmps5
  go_wp2_with fail
  refine (Chain_f _ cs (M : Int) _ n M HC.out (by omega) (by omega) HP.out.1 rfl).mono ?_
  rintro e w1 ⟨v1, v2, rfl, R1, I1, hb1, o1⟩
  rw [HP.out.2.1, HP.out.2.2.1, HP.out.2.2.2.1] at R1
  rw [HP.out.2.1, HP.out.2.2.1] at I1
  obtain ⟨xo, xc, rfl⟩ := R1.shape
  obtain ⟨oo, oc, rfl⟩ := I1.shape
  obtain ⟨gx, cx, curx, ex, -, -, -, hcx, -⟩ := R1.pos (by have := HL.out.2.2.2.2.2.1; omega)
  cases ex
  have x2 := hcx 2 (by have := HL.out.2.2.2.2.2.1; omega)
  rw [HP.out.2.2.2.2.2.1] at x2
  have zx : gx < w1.heap.size := World.block_lt_of_cell? w1 _ x2
  have H1 := Lib.hid (And.intro R1 (And.intro hb1 (And.intro x2 zx)))
  clear R1 I1 hb1 o1 hcx x2
  go_wp2_with fail
  refine (Memory13_f _ X w1 H1.out.1.sl HL.out.1).mono ?_
  rintro e w2 ⟨mv, b, g, q, rfl, h1, -⟩
  obtain ⟨ao1, cap1, rfl, -, -⟩ := h1.rv.open
  have H2 := Lib.hid h1
  clear h1
  go_wp2_with fail
  generalize hW3 : World.alloc _ _ = W3
  have B3 : Below w2.heap.size w2 W3 := by rw [← hW3]; go_grown
  refine (Memory13_f _ X W3 (H1.out.1.sl.below (H2.out.ms.B.trans (B3.mono H2.out.ms.B.size))) HL.out.1).mono ?_
  rintro e w4 ⟨nv, b2, g2, q2, rfl, h2, -⟩
  obtain ⟨ao2, cap2, rfl, -, -⟩ := h2.rv.open
  have m1 := (H2.out.ms.below B3).below (h2.ms.B)
  have h2o := Both.older (H2.out.ms.B.trans (B3.mono H2.out.ms.B.size)) h2
  have HF := Lib.hid (fresh_foot H2.out.ms B3.size h2.ms)
  have H4 := Lib.hid (And.intro m1 (And.intro h2o.ms B3))
  clear hW3 B3 h2 m1 h2o
  -- the first sweep
  have c2 := fun (u : World) (hu : Below w1.heap.size w1 u) => (hu.cell (p := ⟨gx, 2, none⟩) H1.out.2.2.2).trans H1.out.2.2.1
  have HX := Lib.hid c2
  clear c2
  have d4 := HX.out _ H4.out.1.B
  have z4 : gx < w4.heap.size := World.block_lt_of_cell? w4 _ d4
  go_wp2_with fail
  generalize hW5 : World.alloc _ _ = W5
  have B5 : Below w4.heap.size w4 W5 := by rw [← hW5]; go_grown
  clear hW5 d4 z4
  refine (all17_f w1 W5 b g _ _ X A 50 X1 T1 K1 (H4.out.1.below B5) (by omega) (by have := HL.out.1; omega) HP.out.2.2.2.2.2.2 HT.out.1).mono ?_
  rintro e w6 ⟨bo6, bc6, st6, rfl, m6, s60, s61, rg6, k6⟩
  obtain ⟨t0, t1, t2, t3, t4, t5, t6, t7, t8, t9, t10, t11⟩ := T1
  simp only [thV]
  have n6 := (H4.out.2.1.below B5).kept k6 m6.B HF.out.1.1 HF.out.1.2
  have s62 : st6 ≤ 2000 := by have := HL.out.1; omega
  have s63 : 0 ≤ st6 := by omega
  have H6 := Lib.hid (And.intro m6 (And.intro n6 rg6))
  clear B5 m6 k6 n6 s60 s61 rg6
  -- the cells behind it
  go_wp2_with fail
  refine (Cells_ms H6.out.1).mono ?_
  rintro e w7 ⟨ao7, ccap7, rfl, m7, row7, hb7, o7⟩
  have n7 := H6.out.2.1.below hb7
  have hfar : ∀ k, (Value.slice ao7 X1.length ccap7).ownBlock = some k → ¬ Foot b g k ∧ ¬ Foot b2 g2 k := fun k e => ⟨H6.out.1.past k (o7 k e), H6.out.2.1.past k (o7 k e)⟩
  have H7 := Lib.hid (And.intro (H6.out.1.below hb7) (And.intro n7 (And.intro row7 hfar)))
  clear m7 n7 row7 hb7 o7 hfar
  -- the second sweep
  have d7 := HX.out _ H7.out.1.B
  have z7 : gx < w7.heap.size := World.block_lt_of_cell? w7 _ d7
  go_wp2_with fail
  clear d7 z7
  refine (all17_f w1 w7 b g _ _ X1 A 50 X1 T2 K2 H7.out.1 (by omega) (by omega) H6.out.2.2 HT.out.2.1).mono ?_
  rintro e w8 ⟨bo8, bc8, st8, rfl, m8, s80, s81, rg8, k8⟩
  obtain ⟨u0, u1, u2, u3, u4, u5, u6, u7, u8, u9, u10, u11⟩ := T2
  simp only [thV]
  have n8 := H7.out.2.1.kept k8 m8.B HF.out.1.1 HF.out.1.2
  have row8 := H7.out.2.2.1.kept k8 (fun k e => (H7.out.2.2.2 k e).1)
  have H8 := Lib.hid (And.intro m8 (And.intro n8 row8))
  clear m8 k8 n8 row8 s80 s81 rg8
  -- the other one
  have d8 := HX.out _ H8.out.1.B
  have z8 : gx < w8.heap.size := World.block_lt_of_cell? w8 _ d8
  go_wp2_with fail
  clear d8 z8
  refine (all17_f w1 w8 b2 g2 _ _ X ((A : Int) + (C : Int)) 50 Y T3 K3 H8.out.2.1 (by omega) (by have := HL.out.1; omega) HP.out.2.2.2.2.2.2 HT.out.2.2.1).mono ?_
  rintro e w9 ⟨bo9, bc9, st9, rfl, m9, s90, s91, rg9, k9⟩
  obtain ⟨r0, r1, r2, r3, r4, r5, r6, r7, r8, r9, r10, r11⟩ := T3
  simp only [thV]
  have n9 := H8.out.1.kept k9 m9.B HF.out.2.1 HF.out.2.2
  have row9 := H8.out.2.2.kept k9 (fun k e => (H7.out.2.2.2 k e).2)
  have H9 := Lib.hid (And.intro n9 (And.intro m9 row9))
  clear m9 k9 n9 row9 s90 s91 rg9
  go_wp2_with fail
  refine (Cells_ms H9.out.1).mono ?_
  rintro e w10 ⟨ao10, ccap10, rfl, -, row10, hb10, -⟩
  have H10 := Lib.hid (And.intro row10 (And.intro (H9.out.2.2.below hb10) (H9.out.2.1.below hb10)))
  clear row10 hb10
  go_wp2_with fail
  refine (Memory13_f _ X1 w10 H10.out.2.1.sl HL.out.2.1).mono ?_
  rintro e w11 ⟨mv3, b3, g3, q3, rfl, h3, -⟩
  obtain ⟨ao3, cap3, rfl, -, -⟩ := h3.rv.open
  have H11 := Lib.hid h3
  clear h3
  go_wp2_with fail
  generalize hr18 : w11.heap.size = r18
  generalize hW12 : World.alloc _ _ = W12
  have T18 : W12.heap[r18]? = some (.cells #[.int .i64 X1.length, .slice ao3 X1.length cap3, .int .i64 (1 + X1.length)] 33 (0, 0)) := by rw [← hW12]; exact alloc_at hr18 _
  have B12 : Below w11.heap.size w11 W12 := by rw [← hW12]; go_grown
  have BX : Below w10.heap.size w10 W12 := H11.out.ms.B.trans (B12.mono H11.out.ms.B.size)
  refine (Cells_ms (H10.out.2.2.below BX)).mono ?_
  rintro e w13 ⟨ao13, ccap13, rfl, -, row13, hb13, -⟩
  have T18b := (hb13.block r18 (Array.getElem?_eq_some_iff.1 T18).1).trans T18
  have HZ := Lib.hid (And.intro T18b (And.intro row13 (And.intro (BX.trans (hb13.mono BX.size)) (H11.out.rv.below (B12.trans (hb13.mono B12.size))))))
  clear hr18 hW12 T18 B12 BX row13 hb13 T18b
  go_wp2_with fail
  refine (Memory13_f _ Y w13 HZ.out.2.1.sl HL.out.2.2.1).mono ?_
  rintro e w14 ⟨mv4, b4, g4, q4, rfl, h4, -⟩
  obtain ⟨ao4, cap4, rfl, -, -⟩ := h4.rv.open
  have H14 := Lib.hid h4
  clear h4
  have T18 := (H14.out.ms.B.block r18 (Array.getElem?_eq_some_iff.1 HZ.out.1).1).trans HZ.out.1
  obtain ⟨c0, c1, c2, -⟩ := blk3 T18
  have z18 : r18 < w14.heap.size := (Array.getElem?_eq_some_iff.1 T18).1
  have HR := Lib.hid T18
  clear T18
  go_wp2_with fail
  clear c0 c1 c2 z18
  generalize hr20 : w14.heap.size = r20
  generalize hW15 : World.alloc _ _ = W15
  have T20 : W15.heap[r20]? = some (.cells #[.int .i64 Y.length, .slice ao4 Y.length cap4, .int .i64 (1 + Y.length)] 33 (0, 0)) := by rw [← hW15]; exact alloc_at hr20 _
  have B15 : Below w14.heap.size w14 W15 := by rw [← hW15]; go_grown
  have B16 : Below w13.heap.size w13 W15 := H14.out.ms.B.trans (B15.mono H14.out.ms.B.size)
  refine (rReach_f W15 _ q3 _ _ X1 L1 true (HZ.out.2.2.2.below B16) HL.out.2.1 HT.out.2.2.2.1).mono ?_
  rintro e w16 ⟨u, rfl, hx, hb16⟩
  obtain ⟨xo1, xc1, rfl⟩ := hx.shape
  have T20b := (hb16.block r20 (Array.getElem?_eq_some_iff.1 T20).1).trans T20
  have H16 := Lib.hid (And.intro hx (And.intro T20b (And.intro (H14.out.rv.below (B15.trans (hb16.mono B15.size))) (B16.trans (hb16.mono B16.size)))))
  clear hr20 hW15 T20 B15 B16 hx hb16
  obtain ⟨c0, c1, c2, -⟩ := blk3 T20b
  have z20 : r20 < w16.heap.size := (Array.getElem?_eq_some_iff.1 T20b).1
  clear T20b
  go_wp2_with fail
  clear c0 c1 c2 z20
  refine (rReach_f w16 _ q4 _ _ Y L2 true H16.out.2.2.1 HL.out.2.2.1 HT.out.2.2.2.2.1).mono ?_
  rintro e W ⟨u, rfl, hy, hb17⟩
  obtain ⟨yo1, yc1, rfl⟩ := hy.shape
  have BW : Below w10.heap.size w10 W := HZ.out.2.2.1.trans ((H16.out.2.2.2.trans (hb17.mono H16.out.2.2.2.size)).mono HZ.out.2.2.1.size)
  have nW := H10.out.2.2.below BW
  have HW := Lib.hid (And.intro (H16.out.1.below hb17) (And.intro hy (And.intro (H10.out.1.below BW) (And.intro (H10.out.2.1.below BW) (And.intro nW (H1.out.2.1.trans (nW.B.mono H1.out.2.1.size)))))))
  clear hy hb17 BW nW
  have h999 : (L1.length : Int) ≤ 9 := by have := HL.out.2.2.2.1; omega
  have hll' : (L1.length : Int) ≤ (L2.length : Int) := by have := HL.out.2.2.2.2.2.2; omega
  have hlk : (L2.length : Int) ≤ 9 := by have := HL.out.2.2.2.2.1; omega
  go_wp2
  go_loopw [25] (fun k wr => ∃ i : Nat, i ≤ L1.length ∧ k = .int .i64 i ∧ wr = W) (fun k _ => L1.length - (intOf k).toNat)
  case atStart => exact ⟨0, Nat.zero_le _, rfl, rfl⟩
  case round =>
    obtain ⟨i, hi, rfl, rfl⟩ := hrel
    have zi : (0 : Int) ≤ (i : Int) := by omega
    have hi9 : (i : Int) ≤ 9 := by omega
    by_cases hlt : i < L1.length
    · have hlt' : (i : Int) < (L1.length : Int) := by omega
      obtain ⟨lg, lcp, lcur, hls, -, -, -, hlc, -⟩ := HW.out.1.pos (by omega)
      cases hls
      have hx := hlc i hlt
      obtain ⟨a, haa⟩ : ∃ a, L1.getD i 0 = a := ⟨_, rfl⟩
      rw [haa] at hx
      have hm : a ∈ L2 := HT.out.2.2.2.2.2 a (by rw [← haa, List.getD_eq_getElem?_getD, List.getElem?_eq_getElem hlt]; exact List.getElem_mem _)
      have HM := Lib.hid ((placeOf_mem L2 a).2 hm)
      clear hlc haa hm
      go_wp2_with fail
      refine (Place_any _ L2 a _ (IRow.slx HW.out.2.1) (by have := HL.out.2.2.2.2.1; omega)).mono ?_
      rintro e w' ⟨rfl, rfl⟩
      have hp := HM.out
      go_wp2
      go_roundw
      case rel => exact ⟨i + 1, by omega, by go_num, by first | rfl | trivial⟩
      case measure => simp [intOf]; omega
    · obtain rfl : i = L1.length := by omega
      go_wp2_with fail
      have hX9 : X1.length ≤ 1000000 := by have := HL.out.2.1; omega
      have HS := Lib.hid (And.intro HW.out.2.2.2.1.sl HW.out.2.2.1.sl)
      refine (known17_any _).mono ?_
      rintro e w20 ⟨rfl, hb20⟩
      go_wp2_with fail
      refine (Same64_slf _ _ X1 _ (HS.out.1.below hb20) (HS.out.2.below hb20) hX9).mono ?_
      rintro e w21 ⟨rfl, hb21⟩
      have BZ := bmore (bmore HW.out.2.2.2.2.2 hb20) hb21
      go_wp2
      go_ret
      exact ⟨by first | rfl | (simp; done), BZ⟩

end Go.Proofs.Ythdhilmmcabnlaa
