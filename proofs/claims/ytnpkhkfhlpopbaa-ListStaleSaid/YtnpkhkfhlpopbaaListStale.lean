/- ListStale. -/
import Derived.Test.YtnpkhkfhlpopbaaListK
import Derived.Test.YtnpkhkfhlpopbaaListR
import Derived.Test.YtnpkhkfhlpopbaaChainA
import Derived.Test.YtnpkhkfhlpopbaaFrame
import Derived.Test.YtnpkhkfhlpopbaaBel
import Derived.Deep.RegionHeld3
namespace Go.Proofs.Ytnpkhkfhlpopbaa
set_option linter.unusedSimpArgs false
set_option linter.unusedVariables false
open Go.RowKit
open Go.ChangeShapes Go.WideShapes Go.ChangeAt

theorem bmrs {W a b : World} (h1 : Below W.heap.size W a) (h2 : Below a.heap.size a b) : Below W.heap.size W b := h1.trans (h2.mono h1.size)
set_option maxRecDepth 100000 in
set_option maxHeartbeats 8000000 in
theorem listStale_any (c : Value) (cs : List Int) (many at_ age wv : Int) (w : World) (hc : InSlice .u8 w c cs) (hk : 0 ≤ many ∧ many ≤ 255) (ha : 0 ≤ at_ ∧ at_ ≤ 255) (hg9 : 0 ≤ age ∧ age ≤ 255) : Calls Try.prog 6 #[c, .int .u8 many, .int .u8 at_, .int .u8 age, .int .i64 wv] w fun e w' => e = .returned (.bool true) ∧ Below w.heap.size w w' := by
  obtain ⟨n, hn⟩ : ∃ n, nOf cs = n := ⟨_, rfl⟩
  have hn9 := nOf_rng cs
  rw [hn] at hn9
  obtain ⟨M, hM⟩ : ∃ M : Nat, 1 + many % 10 = (M : Int) := ⟨(1 + many % 10).toNat, by omega⟩
  obtain ⟨m, hm⟩ : ∃ m, min M n = m := ⟨_, rfl⟩
  have hmn : m ≤ n := by omega
  obtain ⟨O, hO⟩ : ∃ O, (ord cs n).take m = O := ⟨_, rfl⟩
  obtain ⟨X, hX⟩ : ∃ X, layN cs O ((List.replicate (3 + 5 * n) 0).set 2 50) m = X := ⟨_, rfl⟩
  have hOl : O.length = m := by rw [← hO, List.length_take, ord_len]; omega
  obtain ⟨a, haa⟩ : ∃ a, age % 60 = a := ⟨_, rfl⟩
  obtain ⟨k, hkd⟩ : ∃ k : Nat, at_ % (m : Int) = (k : Int) := ⟨(at_ % (m : Int)).toNat, by have := Int.emod_nonneg at_ (show (m : Int) ≠ 0 by omega); omega⟩
  have hkm : k < m := by have h2 := Int.emod_lt_of_pos at_ (show (0 : Int) < (m : Int) by omega); omega
  obtain ⟨f1, f2, f3, f4⟩ := stale_all (X := X) cs hmn (by omega) hkm (by rw [hO]; exact hX) wv a
  have hXl : X.length = 3 + 5 * n := by rw [← hX, ← hO]; exact (chain_tab cs hmn).len
  have hOq : ∀ q, q < m → O.getD q 0 = (ordA cs n q : Int) := fun q hq => by rw [← hO, ord_adrs cs hmn]; exact adrs_getD hq
  have hAq : ∀ q, q < m → ordA cs n q + 5 ≤ X.length ∧ 3 ≤ ordA cs n q := fun q hq => by have := (per_ord cs n).lt (show q < n by omega) (show 4 < 5 by omega); omega
  have ek := hAq k hkm
  have ok := hOq k hkm
  obtain ⟨p, hpp⟩ : ∃ p, ordA cs n k = p := ⟨_, rfl⟩
  rw [hpp] at f1 f2 f3 f4 ek ok
  obtain ⟨Y, hY⟩ : ∃ Y, X.set p wv = Y := ⟨_, rfl⟩
  have hYl : Y.length = X.length := by rw [← hY, List.length_set]
  rw [hY] at f1 f2 f3 f4
  obtain ⟨SL, hSL⟩ : ∃ SL, staleL Y a = SL := ⟨_, rfl⟩
  rw [hSL] at f2 f3
  have HN := Lib.hid (And.intro hn (And.intro hm (And.intro hO hX)))
  have HC := Lib.hid hc
  have HO := Lib.hid (And.intro hOl (And.intro ok hOq))
  have HE := Lib.hid (And.intro hY (And.intro hYl (And.intro hXl (And.intro hSL hAq))))
  have HJ := Lib.hid (And.intro f1 f2)
  have HZ := Lib.hid (show SL.length ≤ 1000000 ∧ SL.length < m from ⟨by omega, f3⟩)
  have HW4 := Lib.hid f4
  obtain ⟨bo, cap, rfl, -, -, -⟩ := hc
  have hM1 : IntKind.i64.wrap (1 + many % 10) = (M : Int) := by rw [← hM]; exact IntWalk.i64_in _ (by omega)
  have hm0 : ¬ (m : Int) = 0 := by omega
  have hm00 : ¬ m = 0 := by omega
  have ym9 : (m : Int) ≤ 9 := by omega
  have ykm : (k : Int) < (m : Int) := by omega
  have ypx : (p : Int) < (X.length : Int) := by omega
  have zpx : p < X.length := by omega
  have yX9 : (X.length : Int) ≤ 50 := by omega
  clear hn hm hO hX f1 f2 f3 f4 hOl hOq hAq hY hYl hXl hSL ok hpp ek
  go_enter Try.func6, Try.ntmps6
  go_wp2_with fail
  refine (Chain_f _ cs (M : Int) _ n M HC.out (by omega) (by omega) HN.out.1 rfl).mono ?_
  rintro e w1 ⟨v1, v2, rfl, R1, I1, hb1, o1⟩
  rw [HN.out.2.1, HN.out.2.2.1, HN.out.2.2.2] at R1
  rw [HN.out.2.1, HN.out.2.2.1] at I1
  obtain ⟨xo, xc, rfl⟩ := R1.shape
  obtain ⟨oo, oc, rfl⟩ := I1.shape
  obtain ⟨og, oc2, cur, hs, hg, -, -, hc, -⟩ := I1.pos (by have := HO.out.1; omega)
  cases hs
  obtain ⟨lg, lc2, cur2, hs, hg2, -, -, hc2, hf2⟩ := R1.pos (by omega)
  cases hs
  have hne : ¬ og = lg := fun e => by rw [e, hg2] at hg; simp at hg
  have H1 := Lib.hid (And.intro R1 (And.intro I1 (And.intro hb1 (And.intro (o1 lg rfl) hne))))
  have ck := hc k (by have := HO.out.1; omega)
  rw [HO.out.2.1] at ck
  have lp := hc2 p (by omega)
  have lf := hf2 p
  have hOm : O.length = m := HO.out.1
  rw [hOm]
  clear hc hg R1 I1 hb1 o1 hc2 hf2 hg2 hne
  go_wp2_with fail
  generalize hW1 : World.setCell _ _ _ = W1
  have R2 : Row W1 (.slice (some ⟨lg, 0, none⟩) X.length xc) Y := by
    have := H1.out.1.set rfl p (by omega) wv
    rw [HE.out.1] at this
    rw [← hW1]; exact this
  have I2 : IRow W1 (.slice (some ⟨og, 0, none⟩) O.length oc) O := by
    rw [← hW1]
    refine H1.out.2.1.kept (kept_setCell w1 ⟨lg, p, none⟩ _) (fun g hg => ?_)
    cases hg
    simpa using H1.out.2.2.2.2
  have B2 : Below w.heap.size w W1 := by rw [← hW1]; exact H1.out.2.2.1.setCell H1.out.2.2.2.1 _
  have H2 := Lib.hid (And.intro R2 (And.intro I2 B2))
  clear hW1 R2 I2 B2 H1 ck lp lf
  refine (Memory13_f _ Y W1 H2.out.1.sl (by have := HE.out.2.1; omega)).mono ?_
  rintro e w3 ⟨mv, b, g, q, rfl, h1, -⟩
  obtain ⟨ao1, cap1, rfl, -, -⟩ := h1.rv.open
  have H3 := Lib.hid h1.ms
  clear h1
  go_wp2_with fail
  generalize hW3 : World.alloc _ _ = W3
  have B3 : Below w3.heap.size w3 W3 := by rw [← hW3]; go_grown
  have m3 := H3.out.below B3
  have HM3 := Lib.hid m3
  clear hW3 B3 m3 H3
  have hwa : IntKind.i64.wrap a = a := IntWalk.i64_in _ (by omega)
  refine (Stale_f _ W3 _ _ _ _ _ a HM3.out).mono ?_
  rintro e W ⟨u, rfl, hu, hb4⟩
  rw [HE.out.2.2.2.1] at hu
  obtain ⟨so, sc, rfl, hsc⟩ := hu
  have m4 := HM3.out.below hb4
  have HW := Lib.hid (And.intro m4 (And.intro (H2.out.1.below m4.B) (And.intro (H2.out.2.1.below m4.B) (And.intro (show Sl W (.slice so SL.length sc) SL from ⟨so, sc, rfl, hsc⟩) (H2.out.2.2.trans (m4.B.mono H2.out.2.2.size))))))
  clear hsc hb4 m4 HM3 H2
  go_wp2_with fail
  go_loopw [17] (fun j wr => ∃ i : Nat, i ≤ m ∧ j = .int .i64 i ∧ Below W.heap.size W wr) (fun j _ => m - (intOf j).toNat)
  case atStart => exact ⟨0, Nat.zero_le _, rfl, Below.refl _ _⟩
  case round =>
    obtain ⟨j, hj, rfl, hB⟩ := hrel
    have HB := Lib.hid hB
    have yj0 : (0 : Int) ≤ (j : Int) := by omega
    have yj9 : (j : Int) ≤ 9 := by omega
    by_cases hlt : j < m
    · have hlt' : (j : Int) < (m : Int) := by omega
      have hM := HJ.out.2 j hlt
      have hx1 := HJ.out.1 j hlt
      have ho1 := HO.out.2.2 j hlt
      have hq1 := HE.out.2.2.2.2 j hlt
      have hv := ageV_rng cs j
      generalize ordA cs n j = p0 at hM hx1 ho1 hq1
      generalize ageV cs j = x at hM hx1 hv
      obtain ⟨og', oc2, cur, hs, hg, -, -, hc, -⟩ := (HW.out.2.2.1.below hB).pos (by have := HO.out.1; omega)
      cases hs
      obtain ⟨lg', lc2, cur2, hs, hg2, -, -, hc2, -⟩ := (HW.out.2.1.below hB).pos (by have := HE.out.2.1; omega)
      rw [HE.out.2.1] at hs
      cases hs
      have c1 := hc j (by have := HO.out.1; omega)
      rw [ho1] at c1
      obtain ⟨e2, he2⟩ : ∃ e2, p0 + 2 = e2 := ⟨_, rfl⟩
      have c2 := hc2 (p0 + 2) (by have := HE.out.2.1; omega)
      rw [hx1, he2] at c2
      have hw2 : IntKind.i64.wrap ((p0 : Int) + 2) = (e2 : Int) := by rw [← he2]; exact IntWalk.i64_in _ (by omega)
      have ye : (e2 : Int) < (X.length : Int) := by omega
      have ze : e2 < X.length := by omega
      have hwx : IntKind.i64.wrap (50 - x) = 50 - x := IntWalk.i64_in _ (by omega)
      have HM := Lib.hid hM
      clear hM hx1 ho1 hq1 hg hc hg2 hc2 hB
      by_cases h1 : a < 50 - x
      · rcases Nat.eq_zero_or_pos j with h0 | h0
        · have h0' : ¬ (0 : Int) < (j : Int) := by omega
          have h0n : ¬ 0 < j := by omega
          clear h0
          go_wp2_with fail
          refine (Place_any _ SL _ _ (HW.out.2.2.2.1.below HB.out) HZ.out.1).mono ?_
          rintro e w' ⟨rfl, rfl⟩
          have hpl : placeOf SL (p0 : Int) < 0 := Int.not_le.1 (fun hh => (fun hh : _ ∧ 0 < j ∧ _ => absurd hh.2.1 h0n) (HM.out.1 ((placeOf_mem SL _).1 hh)))
          go_wp2
          go_roundw
          case rel => exact ⟨j + 1, by omega, by go_num, HB.out⟩
          case measure => simp [intOf]; omega
        · have h0' : (0 : Int) < (j : Int) := by omega
          by_cases hjk : j = k
          · subst hjk
            by_cases hw0 : wv = 0
            · subst hw0
              go_wp2_with fail
              refine (Place_any _ SL _ _ (HW.out.2.2.2.1.below HB.out) HZ.out.1).mono ?_
              rintro e w' ⟨rfl, rfl⟩
              have hpl : 0 ≤ placeOf SL (p0 : Int) := (placeOf_mem SL _).2 (HM.out.2 ⟨h1, h0, .inr (by first | rfl | trivial | simp)⟩)
              go_wp2
              go_roundw
              case rel => exact ⟨j + 1, by omega, by go_num, HB.out⟩
              case measure => simp [intOf]; omega
            · have hwb : (wv == 0) = false := beq_eq_false_iff_ne.2 hw0
              go_wp2_with fail
              refine (Place_any _ SL _ _ (HW.out.2.2.2.1.below HB.out) HZ.out.1).mono ?_
              rintro e w' ⟨rfl, rfl⟩
              have hpl : placeOf SL (p0 : Int) < 0 := Int.not_le.1 (fun hh => (fun hh : _ ∧ _ ∧ (j ≠ j ∨ wv = 0) => hh.2.2.elim (fun e => e rfl) hw0) (HM.out.1 ((placeOf_mem SL _).1 hh)))
              go_wp2
              go_roundw
              case rel => exact ⟨j + 1, by omega, by go_num, HB.out⟩
              case measure => simp [intOf]; omega
          · have hjk' : ¬ (j : Int) = (k : Int) := by omega
            go_wp2_with fail
            refine (Place_any _ SL _ _ (HW.out.2.2.2.1.below HB.out) HZ.out.1).mono ?_
            rintro e w' ⟨rfl, rfl⟩
            have hpl : 0 ≤ placeOf SL (p0 : Int) := (placeOf_mem SL _).2 (HM.out.2 ⟨h1, h0, .inl hjk⟩)
            go_wp2
            go_roundw
            case rel => exact ⟨j + 1, by omega, by go_num, HB.out⟩
            case measure => simp [intOf]; omega
      · go_wp2_with fail
        refine (Place_any _ SL _ _ (HW.out.2.2.2.1.below HB.out) HZ.out.1).mono ?_
        rintro e w' ⟨rfl, rfl⟩
        have hpl : placeOf SL (p0 : Int) < 0 := Int.not_le.1 (fun hh => (fun hh : a < 50 - x ∧ _ ∧ _ => absurd hh.1 (by omega)) (HM.out.1 ((placeOf_mem SL _).1 hh)))
        go_wp2
        go_roundw
        case rel => exact ⟨j + 1, by omega, by go_num, HB.out⟩
        case measure => simp [intOf]; omega
    · obtain rfl : j = m := by omega
      clear hB hlt
      go_wp2_with fail
      refine (Waiting_f _ wr _ _ _ _ _ (HW.out.1.below HB.out)).mono ?_
      rintro e w7 ⟨u7, rfl, hu7, hb7⟩
      rw [HW4.out] at hu7
      have B7 := HB.out.trans (hb7.mono HB.out.size)
      have HF := Lib.hid (HW.out.2.2.2.2.trans (B7.mono HW.out.2.2.2.2.size))
      have zsl : SL.length < j := HZ.out.2
      have ysl : (SL.length : Int) < (j : Int) := by omega
      by_cases hw0 : 0 < wv
      · rw [if_pos hw0] at hu7
        obtain ⟨wo, wc, rfl, hcw⟩ := hu7
        obtain ⟨wb, wf, rfl, zwb, kw⟩ := hcw (by simp)
        have cw := kw 0 (by simp)
        have cw1 : w7.cell? ⟨wb, wf, none⟩ = some (.int .i64 (p : Int)) := by simpa using cw
        obtain ⟨og', oc2, cur, hs, hg, -, -, hc, -⟩ := (HW.out.2.2.1.below B7).pos (by have := HO.out.1; omega)
        cases hs
        have c1 := hc k (by have := HO.out.1; omega)
        rw [HO.out.2.1] at c1
        have zog : og < w7.heap.size := (Array.getElem?_eq_some_iff.1 hg).1
        have gw := fun (u : World) (hu : Below w7.heap.size w7 u) => (hu.cell (p := ⟨wb, wf, none⟩) zwb).trans cw1
        have gk := fun (u : World) (hu : Below w7.heap.size w7 u) => (hu.cell (p := ⟨og, k, none⟩) zog).trans c1
        have hd1 : decide (wv ≤ 0) = false := decide_eq_false (by omega)
        have hd2 : decide (0 < wv) = true := decide_eq_true hw0
        have hnl : ¬ wv ≤ 0 := by omega
        have zkj : k < j := hkm
        clear B7 hb7 hcw kw cw cw1 hg hc c1 hmn
        go_wp2_with fail
        go_region_held3 (fun wz => Below w7.heap.size w7 wz)
          (first | (exact (Below.refl _ _).drew) | (go_split_ands; with_reducible first | assumption | exact bmrs (by assumption) hb2))
          (first | (go_at_call 11; go_split_ands; with_reducible refine (known14_any _).mono ?_; rintro e w20 ⟨rfl, hb2⟩))
        all_goals
          go_split_ands
          have BZ := HF.out.trans (Below.mono (by with_reducible assumption) HF.out.size)
          go_wp2
          go_ret
          exact ⟨by first | rfl | (simp; done), BZ⟩
      · rw [if_neg hw0] at hu7
        obtain ⟨wo, wc, rfl, -⟩ := hu7
        have hd1 : decide (wv ≤ 0) = true := decide_eq_true (by omega)
        have hd2 : decide (0 < wv) = false := decide_eq_false hw0
        have hnl : wv ≤ 0 := by omega
        clear B7 hb7 hmn
        have cT : ∀ u : World, Below w7.heap.size w7 u → Calls Try.prog 11 #[] u fun e u' => e = .returned (.bool true) ∧ Below u.heap.size u u' := fun u _ => known14_any u
        have HT := Lib.hid cT
        clear cT
        go_wp2_with fail
        refine wp_region_bel (by kernel_rfl) (by kernel_rfl) w7 (Below.refl _ _).drew ?_
        repeat (go_big_quiet_step ((with_reducible refine (HT.out _ (Bel.h _)).mono ?_; rintro e w9 ⟨rfl, hb⟩; exact ⟨rfl, ⟨w9, bmrs (Bel.h _) hb⟩, rfl⟩)))
        refine wpQuiet_nil ?_
        rintro ux ⟨⟨u, hu⟩, rfl⟩
        have BZ := HF.out.trans (Below.mono hu HF.out.size)
        go_wp2
        go_ret
        exact ⟨by first | rfl | (simp; done), BZ⟩

theorem Try.resTypes6 : Try.f6.resultTypes = #[4] := by kernel_rfl
theorem listStale_rdbytes : Try.prog.readableRec 22 = true ∧ 22 < Try.prog.types.size := ⟨by kernel_rfl, of_decide_eq_true (by kernel_rfl)⟩
theorem listStale_rdu8 : Try.prog.readableRec 5 = true ∧ 5 < Try.prog.types.size := ⟨by kernel_rfl, of_decide_eq_true (by kernel_rfl)⟩
theorem listStale_rdi64 : Try.prog.readableRec 2 = true ∧ 2 < Try.prog.types.size := ⟨by kernel_rfl, of_decide_eq_true (by kernel_rfl)⟩
set_option maxRecDepth 100000 in
theorem listStale_lifted (os : Os) (started : os.Started) (H : Type) (enc : TypeId × Value → H) :
    ReturnsInHanded {} Try.checked os 6 .any (Rows.listStaleSpec.pre6 enc Try.prog Try.f6 Rows.listStaleRow.domain false) (Rows.listStaleSpec.post enc Try.prog Try.f6 false true false false) := by
  refine law_lifted (C := Try.checked) (T := 4) Try.own started (by kernel_rfl) Try.func6
    (ChangeSpec.witness6 (enc := enc) (C := Try.checked) false ⟨#[], #[.slice none 0 0, .int .u8 0, .int .u8 0, .int .u8 0, .int .i64 0], []⟩ 8 (by kernel_rfl) (by kernel_rfl) (by kernel_rfl) (by kernel_rfl))
    Try.laidOut (fun t ht => ?_) Try.resTypes6 Try.underlying4 rfl (fun ds hd => ?_) ?_
  · rw [Try.params6] at ht
    exact (show ∀ t ∈ [22, 5, 5, 5, 2], Try.prog.readableRec t = true ∧ t < Try.prog.types.size from List.forall_mem_cons.2 ⟨listStale_rdbytes, List.forall_mem_cons.2 ⟨listStale_rdu8, List.forall_mem_cons.2 ⟨listStale_rdu8, List.forall_mem_cons.2 ⟨listStale_rdu8, List.forall_mem_cons.2 ⟨listStale_rdi64, fun _ h => by cases h⟩⟩⟩⟩⟩) t ht
  · rw [Try.params6] at hd
    match ds, hd with
    | [e0, e1, e2, e3, e4], _ => rfl
  · intro W base args ds p hval0 hA0
    have hval : ∀ (j : Nat) t v, Try.f6.params[j]? = some t → args[j]? = some v → Value.okWide Try.prog W .any base t v := hval0
    have hA : DataW.TrodAll enc Try.prog W 0 (fun _ => true) true Try.f6.params.toList args.toList ds p := hA0
    rw [Try.params6] at hA hval
    obtain ⟨v0, vs0, d0, ds0, p0, q0, hargs, rfl, rfl, h0, r0⟩ := trodAll_cons hA
    obtain ⟨v1, vs1, d1, ds1, p1, q1, rfl, rfl, rfl, h1, r1⟩ := trodAll_cons r0
    obtain ⟨v2, vs2, d2, ds2, p2, q2, rfl, rfl, rfl, h2, r2⟩ := trodAll_cons r1
    obtain ⟨v3, vs3, d3, ds3, p3, q3, rfl, rfl, rfl, h3, r3⟩ := trodAll_cons r2
    obtain ⟨v4, vs4, d4, ds4, p4, q4, rfl, rfl, rfl, h4, r4⟩ := trodAll_cons r3
    obtain ⟨rfl, rfl, rfl⟩ := trodAll_nil r4
    obtain rfl : args = #[v0, v1, v2, v3, v4] := by cases args; simp_all
    obtain ⟨c, sc⟩ := open_inslice (k := .u8) Try.underlying22 Try.underlying5 (by kernel_rfl) (hval 0 22 v0 rfl rfl) h0
    obtain ⟨m, rfl, _, _, wm⟩ := open_int Try.underlying5 (hval 1 5 v1 rfl rfl) h1
    have bm := bounds_u8 wm
    obtain ⟨a, rfl, _, _, wa⟩ := open_int Try.underlying5 (hval 2 5 v2 rfl rfl) h2
    have ba := bounds_u8 wa
    obtain ⟨g, rfl, _, _, wg⟩ := open_int Try.underlying5 (hval 3 5 v3 rfl rfl) h3
    have bg := bounds_u8 wg
    obtain ⟨x, rfl, _, _, wx⟩ := open_int Try.underlying2 (hval 4 2 v4 rfl rfl) h4
    have bx := bounds_i64 wx
    exact listStale_any v0 c m a g x W sc bm ba bg

/-- ListStale: for every input the call returns true. -/
theorem listStale_said : Rows.ListStaleSaid :=
  OpenClaim.holds_of_wide 6 Try.f6 rfl rfl rfl rfl rfl rfl rfl ⟨rfl, rfl, rfl, rfl, rfl⟩ rfl rfl rfl rfl rfl (by as_aux_lemma => kernel_rfl) Try.func6 (by as_aux_lemma => kernel_rfl)
    (of_decide_eq_true (by as_aux_lemma => kernel_rfl)) (by unfold Func.isWrapper; first | (rw [if_pos (by decide +kernel)]; kernel_rfl) | (rw [if_neg (by decide +kernel)]; exact ⟨rfl, rfl⟩))
    (fun os started H enc _ => listStale_lifted os started H enc)
#print axioms listStale_said

end Go.Proofs.Ytnpkhkfhlpopbaa
