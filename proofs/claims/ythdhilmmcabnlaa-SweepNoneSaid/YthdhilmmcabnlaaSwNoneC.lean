/- SweepNone: the walk. -/
import Derived.Test.YthdhilmmcabnlaaSwNoneB
namespace Go.Proofs.Ythdhilmmcabnlaa
set_option linter.unusedSimpArgs false
set_option linter.unusedVariables false
open Go.RowKit
open Go.ChangeShapes Go.WideShapes Go.ChangeAt

set_option maxRecDepth 100000 in
set_option maxHeartbeats 8000000 in
theorem sweepNone_any (c : Value) (cs : List Int) (many pass : Int) (w : World) (hc : InSlice .u8 w c cs) (k1 : 0 ≤ many) (k2 : many ≤ 255) (p1 : -9223372036854775808 ≤ pass) (p2 : pass ≤ 9223372036854775807) :
    Calls Try.prog 7 #[c, .int .u8 many, .int .i64 pass] w fun e w' => e = .returned (.bool true) ∧ Below w.heap.size w w' := by
  obtain ⟨n, hn⟩ : ∃ n, nOf cs = n := ⟨_, rfl⟩
  have hn9 := nOf_rng cs
  rw [hn] at hn9
  obtain ⟨M, hM⟩ : ∃ M : Nat, many % 10 = (M : Int) := ⟨(many % 10).toNat, by omega⟩
  have hM9 : M ≤ 9 := by omega
  obtain ⟨m, hm⟩ : ∃ m, min M n = m := ⟨_, rfl⟩
  have hmn : m ≤ n := by omega
  obtain ⟨O, hO⟩ : ∃ O, (ord cs n).take m = O := ⟨_, rfl⟩
  obtain ⟨X, hX⟩ : ∃ X, layN cs O ((List.replicate (3 + 5 * n) 0).set 2 50) m = X := ⟨_, rfl⟩
  obtain ⟨hA, hon⟩ := adr_ord cs hmn
  have hlay : Lay (fun q => ((ord cs n).getD q 0).toNat) (ageV cs) (3 + 5 * n) m X := by rw [← hX, ← hO]; exact lay_all (by omega) hA hon m (Nat.le_refl _)
  have hXl := hlay.len
  rw [hO] at hon
  have hOl : O.length = m := by rw [← hO, List.length_take, ord_len]; omega
  have hreach := reach_all rfl (by omega) (by omega) hA hlay hOl hon
  have hwf : ∀ q, 0 ≤ ageV cs q ∧ ageV cs q ≤ 59 := fun q => ageV_rng cs q
  obtain ⟨T, K, hK, hT⟩ := none_all (by omega) (by omega) (by omega) hA hlay (fun q _ => hwf q)
  rw [set_same hlay.zero] at hK
  obtain ⟨T2, hK2, hT2⟩ := none_two pass
  have hRX : RgX X := by
    rw [← hX, ← hO]
    exact rg_layN (fun q => rg_on cs n m q (by omega)) (rg_set (fun x hx => by rw [List.eq_of_mem_replicate hx]; unfold Rg; omega) _ _ (by unfold Rg; omega)) m
  have HP := Lib.hid (And.intro hn (And.intro hm (And.intro hO (And.intro hX (And.intro hreach (And.intro hK (And.intro hT (And.intro hK2 (And.intro hT2 (And.intro hRX (And.intro hXl hOl)))))))))))
  have HC := Lib.hid hc
  obtain ⟨bo, cap, rfl, -, -, -⟩ := hc
  clear hn hm hO hX hA hon hlay hXl hOl hreach hwf hK hT hK2 hT2 hRX hmn
  go_enter Try.func7, Try.ntmps7
  go_wp2_with fail
  refine (Chain_f _ cs (M : Int) _ n M HC.out (by omega) (by omega) HP.out.1 rfl).mono ?_
  rintro e w1 ⟨v1, v2, rfl, R1, I1, hb1, o1⟩
  rw [HP.out.2.1, HP.out.2.2.1, HP.out.2.2.2.1] at R1
  rw [HP.out.2.1, HP.out.2.2.1] at I1
  obtain ⟨xo, xc, rfl⟩ := R1.shape
  obtain ⟨oo, oc, rfl⟩ := I1.shape
  have H1 := Lib.hid (And.intro R1 (And.intro I1 (And.intro hb1 o1)))
  clear R1 I1 hb1 o1
  go_wp2_with fail
  refine (Memory13_f _ X w1 H1.out.1.sl (by have := HP.out.2.2.2.2.2.2.2.2.2.2.1; omega)).mono ?_
  rintro e w2 ⟨mv, b, g, q, rfl, h1, -⟩
  obtain ⟨ao1, cap1, rfl, -, -⟩ := h1.rv.open
  have H2 := Lib.hid h1
  clear h1
  go_wp2_with fail
  generalize hW3 : World.alloc _ _ = W3
  have R3 : Row W3 (.slice (some ⟨w2.heap.size + 1, 0, none⟩) 3 3) [5, 0, pass] := by rw [← hW3]; exact row_lit (vs := [5, 0, pass]) (alloc2_heap1 _ _ _) rfl (by omega)
  have B3 : Below w2.heap.size w2 W3 := by rw [← hW3]; go_grown
  refine (Memory13_f _ [5, 0, pass] W3 R3.sl (by simp)).mono ?_
  rintro e w4 ⟨nv, b2, g2, q2, rfl, h2, -⟩
  obtain ⟨ao2, cap2, rfl, -, -⟩ := h2.rv.open
  have m1 := (H2.out.ms.below B3).below (h2.ms.B)
  have h2o := Both.older (H2.out.ms.B.trans (B3.mono H2.out.ms.B.size)) h2
  have zb2 : W3.heap.size ≤ b2 := h2.ms.2.1
  have zg2 : ∀ k, g2 = some k → W3.heap.size ≤ k := h2.ms.2.2.1
  have zb : b < W3.heap.size := Nat.lt_of_lt_of_le H2.out.ms.mem.lt B3.size
  have zg : ∀ k, g = some k → k < W3.heap.size := fun k e => by have := H2.out.ms; subst e; exact Nat.lt_of_lt_of_le this.mem.row_lt B3.size
  have HF := Lib.hid (show (¬ Foot b g b2 ∧ ∀ k, g2 = some k → ¬ Foot b g k) ∧ (¬ Foot b2 g2 b ∧ ∀ k, g = some k → ¬ Foot b2 g2 k) from ⟨⟨fun e => by rcases e with e | e; omega; have := zg _ e.symm; omega, fun k e e2 => by
      have h1 := zg2 k e
      rcases e2 with e2 | e2
      · omega
      · have := zg _ e2.symm; omega⟩, ⟨fun e => by rcases e with e | e; omega; have := zg2 _ e.symm; omega, fun k e e2 => by
      have h1 := zg k e
      rcases e2 with e2 | e2
      · omega
      · have := zg2 _ e2.symm; omega⟩⟩)
  have H4 := Lib.hid (And.intro m1 (And.intro h2o B3))
  clear hW3 R3 B3 h2 m1 h2o zb2 zg2 zb zg
  have hRXp : RgX [5, 0, pass] := fun x hx => by simp at hx; unfold Rg; omega
  have HRP := Lib.hid hRXp
  clear hRXp
  go_wp2_with fail
  generalize hW5 : World.alloc _ _ = W5
  have B5 : Below w4.heap.size w4 W5 := by rw [← hW5]; go_grown
  refine (all17_f w1 W5 b g _ _ X 60 50 X T K (H4.out.1.below B5) (by omega) (by have := HP.out.2.2.2.2.2.2.2.2.2.2.1; omega) HP.out.2.2.2.2.2.2.2.2.2.1 HP.out.2.2.2.2.2.1).mono ?_
  rintro e w6 ⟨bo6, bc6, st6, rfl, m6, -, -, -, k6⟩
  obtain ⟨t0, t1, t2, t3, t4, t5, t6, t7, t8, t9, t10, t11⟩ := T
  have hT1 : t1 = 11 := HP.out.2.2.2.2.2.2.1
  subst hT1
  simp only [thV]
  have n6 := (H4.out.2.1.ms.below B5).kept k6 m6.B HF.out.1.1 HF.out.1.2
  have zn6 : b2 < w6.heap.size := n6.mem.lt
  have zn6g : ∀ k, g2 = some k → k < w6.heap.size := fun k e => by have := n6; subst e; exact this.mem.row_lt
  have H6 := Lib.hid (And.intro m6 (And.intro n6 (And.intro zn6 zn6g)))
  clear hW5 B5 m6 k6 n6 zn6 zn6g
  go_wp2_with fail
  generalize hr13 : w6.heap.size = r13
  generalize hW7 : World.alloc _ _ = W7
  have T7 : W7.heap[r13]? = some (.cells #[.int .i64 t0, .int .i64 11, .int .i64 t2, .int .i64 t3, .int .i64 t4, .int .i64 t5, .int .i64 t6, .int .i64 t7, .int .i64 t8, .int .i64 t9, .int .i64 t10, .int .i64 t11, .slice bo6 0 bc6] 39 (0, 0)) := by rw [← hW7]; exact alloc_at hr13 _
  have B7 : Below w6.heap.size w6 W7 := by rw [← hW7]; go_grown
  have f13 : ¬ Foot b2 g2 r13 := fun e => by
    rcases e with e | e
    · have := H6.out.2.2.1; omega
    · have := H6.out.2.2.2 _ e.symm; omega
  refine (all17_f w1 W7 b2 g2 _ _ [5, 0, pass] 1 pass [0, 0, pass] T2 2 (H6.out.2.1.below B7) (by simp) (by simp) HRP.out HP.out.2.2.2.2.2.2.2.1).mono ?_
  rintro e w8 ⟨bo8, bc8, st8, rfl, m8, -, -, -, k8⟩
  obtain ⟨s0, s1, s2, s3, s4, s5, s6, s7, s8, s9, s10, s11⟩ := T2
  have hs1 : s1 = 11 := HP.out.2.2.2.2.2.2.2.2.1
  subst hs1
  simp only [thV]
  have m8b := (H6.out.1.below B7).kept k8 m8.B HF.out.2.1 HF.out.2.2
  have T8 := (k8.block r13 (Array.getElem?_eq_some_iff.1 T7).1 f13).trans T7
  have H8 := Lib.hid (And.intro m8b (And.intro m8 T8))
  clear hW7 hr13 T7 B7 f13 m8 m8b k8 T8
  go_wp2_with fail
  generalize hr15 : w8.heap.size = r15
  generalize hW9 : World.alloc _ _ = W9
  have T15 : W9.heap[r15]? = some (.cells #[.int .i64 s0, .int .i64 11, .int .i64 s2, .int .i64 s3, .int .i64 s4, .int .i64 s5, .int .i64 s6, .int .i64 s7, .int .i64 s8, .int .i64 s9, .int .i64 s10, .int .i64 s11, .slice bo8 0 bc8] 39 (0, 0)) := by rw [← hW9]; exact alloc_at hr15 _
  have B9 : Below w8.heap.size w8 W9 := by rw [← hW9]; go_grown
  have T13 := (B9.block r13 (Array.getElem?_eq_some_iff.1 H8.out.2.2).1).trans H8.out.2.2
  have n9 := H8.out.2.1.below B9
  refine (Cells_ms (H8.out.1.below B9)).mono ?_
  rintro e w10 ⟨co, ccap, rfl, -, row, hb10, -⟩
  have T13b := (hb10.block r13 (Array.getElem?_eq_some_iff.1 T13).1).trans T13
  have T15b := (hb10.block r15 (Array.getElem?_eq_some_iff.1 T15).1).trans T15
  have H10 := Lib.hid (And.intro row (And.intro T13b (And.intro T15b (n9.below hb10))))
  clear hW9 hr15 T15 B9 T13 n9 row hb10 T13b T15b
  go_wp2_with fail
  refine (Memory13_f _ X w10 H10.out.1.sl (by have := HP.out.2.2.2.2.2.2.2.2.2.2.1; omega)).mono ?_
  rintro e w11 ⟨mv3, b3, g3, q3, rfl, h3, -⟩
  obtain ⟨ao3, cap3, rfl, -, -⟩ := h3.rv.open
  have H11 := Lib.hid h3
  clear h3
  go_wp2_with fail
  generalize hW12 : World.alloc _ _ = W12
  have B12 : Below w11.heap.size w11 W12 := by rw [← hW12]; go_grown
  refine (rReach_f W12 _ q3 _ _ X O true (H11.out.rv.below B12) (by have := HP.out.2.2.2.2.2.2.2.2.2.2.1; omega) HP.out.2.2.2.2.1).mono ?_
  rintro e W ⟨u, rfl, hy, hb13⟩
  obtain ⟨yo, yc, rfl⟩ := hy.shape
  have B10 : Below w10.heap.size w10 W := H11.out.ms.B.trans ((B12.trans (hb13.mono B12.size)).mono H11.out.ms.B.size)
  have nW := H10.out.2.2.2.below B10
  have B1W : Below w1.heap.size w1 W := nW.B
  have BwW : Below w.heap.size w W := H1.out.2.2.1.trans (B1W.mono H1.out.2.2.1.size)
  have T13 := (B10.block r13 (Array.getElem?_eq_some_iff.1 H10.out.2.1).1).trans H10.out.2.1
  have T15 := (B10.block r15 (Array.getElem?_eq_some_iff.1 H10.out.2.2.1).1).trans H10.out.2.2.1
  have HW := Lib.hid (And.intro nW (And.intro (H10.out.1.below B10) (And.intro (H1.out.1.below B1W) (And.intro (H1.out.2.1.below B1W) (And.intro hy BwW)))))
  have z13 : r13 < W.heap.size := (Array.getElem?_eq_some_iff.1 T13).1
  have z15 : r15 < W.heap.size := (Array.getElem?_eq_some_iff.1 T15).1
  have c13 : W.cell? ⟨r13, 1, none⟩ = some (.int .i64 11) := by simp [World.cell?, T13]
  have c15 : W.cell? ⟨r15, 1, none⟩ = some (.int .i64 11) := by simp [World.cell?, T15]
  have u13 := fun (u : World) (hu : Below W.heap.size W u) => (hu.cell (p := ⟨r13, 1, none⟩) z13).trans c13
  have u15 := fun (u : World) (hu : Below W.heap.size W u) => (hu.cell (p := ⟨r15, 1, none⟩) z15).trans c15
  clear hW12 B12 hy hb13 B10 nW B1W BwW T13 T15 c13 c15
  go_wp2_with fail
  have hXlen : X.length = 3 + 5 * n := HP.out.2.2.2.2.2.2.2.2.2.2.1
  obtain ⟨gn, cn, curn, en, -, -, hcn, -, -⟩ := HW.out.2.1.pos (by omega)
  obtain ⟨gx, cx, curx, ex, -, -, hcx, -, -⟩ := HW.out.2.2.1.pos (by omega)
  cases en
  cases ex
  have hx1 : (1 : Int) ≤ (X.length : Int) := by omega
  have hx2 : (X.length : Int) ≤ (ccap : Int) := by omega
  have hx3 : (X.length : Int) ≤ (xc : Int) := by omega
  have hx4 : ¬ ccap = 1 := by omega
  have hx5 : ¬ xc = 1 := by omega
  have hX9 : X.tail.length ≤ 1000000 := by rw [List.length_tail]; omega
  have hO9 : O.length ≤ 1000000 := by have h1 := HP.out.2.1; have h2 := HP.out.2.2.2.2.2.2.2.2.2.2.2; omega
  have HS := Lib.hid (And.intro (IRow.slx HW.out.2.2.2.2.1) (And.intro (IRow.slx HW.out.2.2.2.1) (And.intro (Row.tl HW.out.2.1 rfl) (Row.tl HW.out.2.2.1 rfl))))
  clear hXlen
  go_region_held3 (fun wz => Below W.heap.size W wz ∧ W.heap.size ≤ wz.heap.size)
        (first | (exact ⟨(Below.refl _ _).drew, Nat.le_refl _⟩) | (go_split_ands; refine ⟨?_, ?_⟩ <;> first | (with_reducible assumption) | (have := hb.size; omega) | exact Below.trans (by with_reducible assumption) (hb.mono (by omega)) | exact Below.alloc (by with_reducible assumption) (by omega) _ | (simp; omega)))
        (first | (go_at_call 9; go_split_ands; with_reducible refine (known17_any _).mono ?_; rintro e w20 ⟨rfl, hb⟩) | (go_at_call 19; go_split_ands; with_reducible refine (Ints_self _ _ O _ (HS.out.1.below (by with_reducible assumption)) (HS.out.2.1.below (by with_reducible assumption)) hO9).mono ?_; rintro e w21 ⟨rfl, hb⟩) | (go_at_call 16; go_split_ands; with_reducible refine (Cells_ms (HW.out.1.below (by with_reducible assumption))).mono ?_; rintro e w22 ⟨ao7, cap7, rfl, -, r7, hb, -⟩; replace r7 : Row _ (.slice ao7 3 cap7) [0, 0, pass] := r7) | (go_at_call 21; go_split_ands; (first | (with_reducible refine (Same64_slf _ _ X.tail _ (HS.out.2.2.1.below (by with_reducible assumption)) (HS.out.2.2.2.below (by with_reducible assumption)) hX9).mono ?_) | (with_reducible refine Go.Calls.mono (Same64_slf (.slice ao7 3 cap7) _ [0, 0, pass] _ ?_ ?_ (by simp)) ?_; (first | exact r7.sl | exact r7.sl.below (by go_grown)); (first | exact sl_lit3 _ 0 0 pass | (refine Sl.below (sl_lit3 _ 0 0 pass) ?_; with_reducible assumption)))); rintro e w23 ⟨rfl, hb⟩))
  all_goals
    go_split_ands
    have BZ := bmore HW.out.2.2.2.2.2 (by with_reducible assumption)
    go_wp2
    go_ret
    exact ⟨by first | rfl | (simp; done), BZ⟩

end Go.Proofs.Ythdhilmmcabnlaa
