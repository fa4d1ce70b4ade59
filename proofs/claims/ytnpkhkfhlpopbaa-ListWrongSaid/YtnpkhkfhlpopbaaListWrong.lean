/- ListWrong. -/
import Derived.Test.YtnpkhkfhlpopbaaListW
import Derived.Test.YtnpkhkfhlpopbaaChainA
import Derived.Test.YtnpkhkfhlpopbaaFrame
import Derived.Deep.RegionHeld3
namespace Go.Proofs.Ytnpkhkfhlpopbaa
set_option linter.unusedSimpArgs false
set_option linter.unusedVariables false
open Go.RowKit
open Go.ChangeShapes Go.WideShapes Go.ChangeAt

theorem with14_Y (w : World) (l : Value) (X : List Int) (p : Int) (a : Nat) (y : Int) (Y : List Int) (h : Row w l X) (ha : a < X.length) (hl : X.length ≤ 1000) (hp : p = (a : Int)) (hY : X.set a y = Y) :
    Calls Try.prog 10 #[l, .int .i64 p, .int .i64 y] w fun e w' => ∃ ao cap, e = .returned (.slice ao X.length cap) ∧ Row w' (.slice ao X.length cap) Y ∧ Below w.heap.size w w' := by
  subst hY; exact with14_f w l X p a y h ha hl hp
theorem bmrw {W a b : World} (h1 : Below W.heap.size W a) (h2 : Below a.heap.size a b) : Below W.heap.size W b := h1.trans (h2.mono h1.size)
set_option maxRecDepth 100000 in
set_option maxHeartbeats 8000000 in
theorem listWrong_any (c : Value) (cs : List Int) (many at_ : Int) (w : World) (hc : InSlice .u8 w c cs) (hk : 0 ≤ many ∧ many ≤ 255) (ha : 0 ≤ at_ ∧ at_ ≤ 255) : Calls Try.prog 3 #[c, .int .u8 many, .int .u8 at_] w fun e w' => e = .returned (.bool true) ∧ Below w.heap.size w w' := by
  obtain ⟨n, hn⟩ : ∃ n, nOf cs = n := ⟨_, rfl⟩
  have hn9 := nOf_rng cs
  rw [hn] at hn9
  obtain ⟨M, hM⟩ : ∃ M : Nat, 1 + many % 10 = (M : Int) := ⟨(1 + many % 10).toNat, by omega⟩
  obtain ⟨m, hm⟩ : ∃ m, min M n = m := ⟨_, rfl⟩
  have hmn : m ≤ n := by omega
  obtain ⟨O, hO⟩ : ∃ O, (ord cs n).take m = O := ⟨_, rfl⟩
  obtain ⟨X, hX⟩ : ∃ X, layN cs O ((List.replicate (3 + 5 * n) 0).set 2 50) m = X := ⟨_, rfl⟩
  have hOl : O.length = m := by rw [← hO, List.length_take, ord_len]; omega
  obtain ⟨k, hkk⟩ : ∃ k : Nat, at_.tmod (m : Int) = (k : Int) := ⟨(at_.tmod (m : Int)).toNat, by have := Int.tmod_nonneg (m : Int) ha.1; omega⟩
  have hkm : k < m := by
    have h1 := Int.tmod_eq_emod_of_nonneg (a := at_) (b := (m : Int)) (by omega)
    have h2 := Int.emod_lt_of_pos at_ (show (0 : Int) < (m : Int) by omega)
    omega
  have hF := wrong_all (X := X) cs hmn (by omega) hkm (by rw [hO]; exact hX)
  have hXl : X.length = 3 + 5 * n := by rw [← hX, ← hO]; exact (chain_tab cs hmn).len
  have hOq : ∀ q, q < m → O.getD q 0 = (ordA cs n q : Int) := fun q hq => by rw [← hO, ord_adrs cs hmn]; exact adrs_getD hq
  have hAq : ∀ q, q < n → ordA cs n q + 5 ≤ 3 + 5 * n ∧ 3 ≤ ordA cs n q := fun q hq => by have := (per_ord cs n).lt hq (show 4 < 5 by omega); omega
  obtain ⟨d, hd⟩ : ∃ d, m = d + 1 := ⟨m - 1, by omega⟩
  rw [show m - 1 = d by omega] at hF
  have ek := hAq k (by omega)
  have ed := hAq d (by omega)
  have e0 := hAq 0 (by omega)
  have ok := hOq k hkm
  have od := hOq d (by omega)
  have o0 := hOq 0 (by omega)
  generalize ordA cs n k = p at hF ek ok
  generalize ordA cs n d = r at hF ed od
  generalize ordA cs n 0 = z at hF e0 o0
  obtain ⟨one, hone⟩ : ∃ one : Int, (if 1 < m then 31 else 0) = one := ⟨_, rfl⟩
  rw [hone] at hF
  obtain ⟨Y1, hY1⟩ : ∃ Y, X.set (p + 1) 0 = Y := ⟨_, rfl⟩
  obtain ⟨Y2, hY2⟩ : ∃ Y, X.set (r + 3) (p : Int) = Y := ⟨_, rfl⟩
  obtain ⟨Y3, hY3⟩ : ∃ Y, X.set (p + 3) ((p : Int) + 1) = Y := ⟨_, rfl⟩
  obtain ⟨Y4, hY4⟩ : ∃ Y, X.set 1 0 = Y := ⟨_, rfl⟩
  obtain ⟨Y5, hY5⟩ : ∃ Y, Y4.set z (-1) = Y := ⟨_, rfl⟩
  have l1 : Y1.length ≤ 1000 := by rw [← hY1, List.length_set]; omega
  have l2 : Y2.length ≤ 1000 := by rw [← hY2, List.length_set]; omega
  have l3 : Y3.length ≤ 1000 := by rw [← hY3, List.length_set]; omega
  have l4 : Y4.length = 3 + 5 * n := by rw [← hY4, List.length_set]; omega
  have l5 : Y5.length ≤ 1000 := by rw [← hY5, List.length_set]; omega
  rw [hY1, hY2, hY3, hY4, hY5] at hF
  have HY1 := Lib.hid (And.intro hF.1 l1)
  have HY2 := Lib.hid (And.intro hF.2.1 l2)
  have HY3 := Lib.hid (And.intro hF.2.2.1 l3)
  have HY4 := Lib.hid (And.intro hF.2.2.2.1 (show Y4.length ≤ 1000 by omega))
  have HY5 := Lib.hid (And.intro hF.2.2.2.2 l5)
  have HE := Lib.hid (And.intro hY1 (And.intro hY2 (And.intro hY3 (And.intro hY4 (And.intro hY5 (And.intro hXl (And.intro l4 (And.intro ek (And.intro ed e0)))))))))
  have HN := Lib.hid (And.intro hn (And.intro hm (And.intro hO hX)))
  have HC := Lib.hid hc
  have HO := Lib.hid (And.intro hOl (And.intro ok (And.intro od o0)))
  have HK := Lib.hid (And.intro hkk (And.intro hkm hone))
  obtain ⟨bo, cap, rfl, -, -, -⟩ := hc
  have hM1 : IntKind.i64.wrap (1 + many % 10) = (M : Int) := by rw [← hM]; exact IntWalk.i64_in _ (by omega)
  have HD := Lib.hid hd
  clear hd hn hm hO hX hF hOl hOq hAq hY1 hY2 hY3 hY4 hY5 l1 l2 l3 l4 l5 hXl ok od o0 hkk hone
  go_enter Try.func3, Try.ntmps3
  go_wp2_with fail
  refine (Chain_f _ cs (M : Int) _ n M HC.out (by omega) (by omega) HN.out.1 rfl).mono ?_
  rintro e w1 ⟨v1, v2, rfl, R1, I1, hb1, o1⟩
  rw [HN.out.2.1, HN.out.2.2.1, HN.out.2.2.2] at R1
  rw [HN.out.2.1, HN.out.2.2.1] at I1
  obtain ⟨xo, xc, rfl⟩ := R1.shape
  obtain ⟨oo, oc, rfl⟩ := I1.shape
  have hI := I1.pos (by have := HO.out.1; omega)
  obtain ⟨og, oc2, cur, hs, hg, -, -, hc, -⟩ := hI
  cases hs
  have H1 := Lib.hid (And.intro R1 (And.intro I1 hb1))
  have ck := hc k (by have := HO.out.1; omega)
  have cd := hc d (by have := HO.out.1; have := HD.out; omega)
  have c0 := hc 0 (by have := HO.out.1; omega)
  rw [HO.out.2.1] at ck
  rw [HO.out.2.2.1] at cd
  rw [HO.out.2.2.2] at c0
  have zg : og < w1.heap.size := (Array.getElem?_eq_some_iff.1 hg).1
  have hOm : O.length = m := HO.out.1
  rw [hOm]
  have hkd : at_ % (m : Int) = (k : Int) := by
    have h1 := HK.out.1
    rwa [Int.tmod_eq_emod_of_nonneg ha.1] at h1
  have hm0 : ¬ (m : Int) = 0 := by omega
  have hm00 : ¬ m = 0 := by omega
  have hm1 : IntKind.i64.wrap ((m : Int) - 1) = (d : Int) := by rw [show (m : Int) - 1 = d by have := HD.out; omega]; exact IntWalk.i64_in _ (by have := HD.out; omega)
  clear hc hg R1 I1 hb1 o1
  go_wp2_with fail
  refine (with14_f w1 _ X _ 1 0 H1.out.1 (by have := HE.out.2.2.2.2.2.1; omega) (by have := HE.out.2.2.2.2.2.1; omega) (by rfl)).mono ?_
  rintro e w2 ⟨so, sc, rfl, r4, hb2⟩
  rw [HE.out.2.2.2.1] at r4
  have H2 := Lib.hid (And.intro (H1.out.1.below hb2) (And.intro (H1.out.2.2.trans (hb2.mono H1.out.2.2.size)) r4))
  have zl := HE.out.2.2.2.2.2.1
  have z4 := HE.out.2.2.2.2.2.2.1
  have zp : p + 5 ≤ X.length ∧ p + 5 ≤ 50 := by omega
  have zr : r + 5 ≤ X.length ∧ r + 5 ≤ 50 := by omega
  have zz : z + 5 ≤ Y4.length ∧ z + 5 ≤ 50 := by omega
  have hp1 : IntKind.i64.wrap ((p : Int) + 1) = (p : Int) + 1 := IntWalk.i64_in _ (by omega)
  have hp3 : IntKind.i64.wrap ((p : Int) + 3) = (p : Int) + 3 := IntWalk.i64_in _ (by omega)
  have hr3 : IntKind.i64.wrap ((r : Int) + 3) = (r : Int) + 3 := IntWalk.i64_in _ (by omega)
  have x1 := fun (u : World) (hu : Below w2.heap.size w2 u) => with14_Y u _ X ((p : Int) + 1) (p + 1) 0 Y1 (H2.out.1.below hu) (by omega) (by omega) (by omega) HE.out.1
  have x2 := fun (u : World) (hu : Below w2.heap.size w2 u) => with14_Y u _ X ((r : Int) + 3) (r + 3) (p : Int) Y2 (H2.out.1.below hu) (by omega) (by omega) (by omega) HE.out.2.1
  have x3 := fun (u : World) (hu : Below w2.heap.size w2 u) => with14_Y u _ X ((p : Int) + 3) (p + 3) ((p : Int) + 1) Y3 (H2.out.1.below hu) (by omega) (by omega) (by omega) HE.out.2.2.1
  have x5 := fun (u : World) (hu : Below w2.heap.size w2 u) => with14_Y u _ Y4 (z : Int) z (-1) Y5 (H2.out.2.2.below hu) (by omega) (by omega) (by omega) HE.out.2.2.2.2.1
  have D1 := Lib.hid x1
  have D2 := Lib.hid x2
  have D3 := Lib.hid x3
  have D5 := Lib.hid x5
  have HS4 := Lib.hid r4.sl
  have HB := Lib.hid H2.out.2.1
  have zg2 : og < w2.heap.size := Nat.lt_of_lt_of_le zg hb2.size
  have gk := fun (u : World) (hu : Below w2.heap.size w2 u) => (hu.cell (p := ⟨og, k, none⟩) zg2).trans ((hb2.cell (p := ⟨og, k, none⟩) zg).trans ck)
  have gd := fun (u : World) (hu : Below w2.heap.size w2 u) => (hu.cell (p := ⟨og, d, none⟩) zg2).trans ((hb2.cell (p := ⟨og, d, none⟩) zg).trans cd)
  have g0 := fun (u : World) (hu : Below w2.heap.size w2 u) => (hu.cell (p := ⟨og, 0, none⟩) zg2).trans ((hb2.cell (p := ⟨og, 0, none⟩) zg).trans c0)
  have hone := HK.out.2.2
  have yk : (k : Int) < (m : Int) := by omega
  have ydm : (d : Int) < (m : Int) := by have := HD.out; omega
  have ym0 : (0 : Int) < (m : Int) := by omega
  have zk : k < m := by omega
  have zd : d < m := by have := HD.out; omega
  have zm : 0 < m := by omega
  have ym9 : (m : Int) ≤ 9 := by omega
  have yk0 : (0 : Int) ≤ (k : Int) := by omega
  have yd0 : (0 : Int) ≤ (d : Int) := by omega
  clear x1 x2 x3 x5 r4 ck cd c0 zl z4 hOm HC HN H1 hb2 zg zg2 HO HK hkm ek ed e0 zp zr zz
  by_cases h1 : 1 < m
  · rw [if_pos h1] at hone
    subst hone
    have h1' : (1 : Int) < (m : Int) := by omega
    clear hmn
    go_wp2_with fail
    skip
    go_region_held3 (fun wz => Below w2.heap.size w2 wz)
      (first | (exact (Below.refl _ _).drew) | (go_split_ands; with_reducible first | assumption | exact bmrw (by assumption) hb2))
      (first | (go_at_call 11; go_split_ands; with_reducible refine (known14_any _).mono ?_; rintro e w20 ⟨rfl, hb2⟩; skip) | (go_at_call 10; go_split_ands; with_reducible refine (D1.out _ (by with_reducible assumption)).mono ?_; rintro e w20 ⟨ro, rcap, rfl, rr, hb2⟩; skip) | (go_at_call 10; go_split_ands; with_reducible refine (D2.out _ (by with_reducible assumption)).mono ?_; rintro e w20 ⟨ro, rcap, rfl, rr, hb2⟩; skip) | (go_at_call 10; go_split_ands; with_reducible refine (D3.out _ (by with_reducible assumption)).mono ?_; rintro e w20 ⟨ro, rcap, rfl, rr, hb2⟩; skip) | (go_at_call 10; go_split_ands; with_reducible refine (D5.out _ (by with_reducible assumption)).mono ?_; rintro e w20 ⟨ro, rcap, rfl, rr, hb2⟩; skip) | (go_at_call 12; go_split_ands; with_reducible refine (sound14_f _ _ Y1 33 HY1.out.1 rr.sl HY1.out.2).mono ?_; rintro e w20 ⟨rfl, hb2⟩; skip) | (go_at_call 12; go_split_ands; with_reducible refine (sound14_f _ _ Y2 30 HY2.out.1 rr.sl HY2.out.2).mono ?_; rintro e w20 ⟨rfl, hb2⟩; skip) | (go_at_call 12; go_split_ands; with_reducible refine (sound14_f _ _ Y3 30 HY3.out.1 rr.sl HY3.out.2).mono ?_; rintro e w20 ⟨rfl, hb2⟩; skip) | (go_at_call 12; go_split_ands; with_reducible refine (sound14_f _ _ Y5 _ HY5.out.1 rr.sl HY5.out.2).mono ?_; rintro e w20 ⟨rfl, hb2⟩; skip) | (go_at_call 12; go_split_ands; with_reducible refine (sound14_f _ _ Y4 31 HY4.out.1 (HS4.out.below (by with_reducible assumption)) HY4.out.2).mono ?_; rintro e w20 ⟨rfl, hb2⟩; skip))
    all_goals
      go_split_ands
      have BZ := HB.out.trans (Below.mono (by with_reducible assumption) HB.out.size)
      go_wp2
      go_ret
      exact ⟨by first | rfl | (simp; done), BZ⟩
  · rw [if_neg h1] at hone
    subst hone
    have h1' : (m : Int) ≤ 1 := by omega
    have h1n : m ≤ 1 := by omega
    clear hmn
    go_wp2_with fail
    skip
    go_region_held3 (fun wz => Below w2.heap.size w2 wz)
      (first | (exact (Below.refl _ _).drew) | (go_split_ands; with_reducible first | assumption | exact bmrw (by assumption) hb2))
      (first | (go_at_call 11; go_split_ands; with_reducible refine (known14_any _).mono ?_; rintro e w20 ⟨rfl, hb2⟩; skip) | (go_at_call 10; go_split_ands; with_reducible refine (D1.out _ (by with_reducible assumption)).mono ?_; rintro e w20 ⟨ro, rcap, rfl, rr, hb2⟩; skip) | (go_at_call 10; go_split_ands; with_reducible refine (D2.out _ (by with_reducible assumption)).mono ?_; rintro e w20 ⟨ro, rcap, rfl, rr, hb2⟩; skip) | (go_at_call 10; go_split_ands; with_reducible refine (D3.out _ (by with_reducible assumption)).mono ?_; rintro e w20 ⟨ro, rcap, rfl, rr, hb2⟩; skip) | (go_at_call 10; go_split_ands; with_reducible refine (D5.out _ (by with_reducible assumption)).mono ?_; rintro e w20 ⟨ro, rcap, rfl, rr, hb2⟩; skip) | (go_at_call 12; go_split_ands; with_reducible refine (sound14_f _ _ Y1 33 HY1.out.1 rr.sl HY1.out.2).mono ?_; rintro e w20 ⟨rfl, hb2⟩; skip) | (go_at_call 12; go_split_ands; with_reducible refine (sound14_f _ _ Y2 30 HY2.out.1 rr.sl HY2.out.2).mono ?_; rintro e w20 ⟨rfl, hb2⟩; skip) | (go_at_call 12; go_split_ands; with_reducible refine (sound14_f _ _ Y3 30 HY3.out.1 rr.sl HY3.out.2).mono ?_; rintro e w20 ⟨rfl, hb2⟩; skip) | (go_at_call 12; go_split_ands; with_reducible refine (sound14_f _ _ Y5 _ HY5.out.1 rr.sl HY5.out.2).mono ?_; rintro e w20 ⟨rfl, hb2⟩; skip) | (go_at_call 12; go_split_ands; with_reducible refine (sound14_f _ _ Y4 31 HY4.out.1 (HS4.out.below (by with_reducible assumption)) HY4.out.2).mono ?_; rintro e w20 ⟨rfl, hb2⟩; skip))
    all_goals
      go_split_ands
      have BZ := HB.out.trans (Below.mono (by with_reducible assumption) HB.out.size)
      go_wp2
      go_ret
      exact ⟨by first | rfl | (simp; done), BZ⟩

theorem Try.resTypes3 : Try.f3.resultTypes = #[4] := by kernel_rfl
theorem listWrong_rdbytes : Try.prog.readableRec 22 = true ∧ 22 < Try.prog.types.size := ⟨by kernel_rfl, of_decide_eq_true (by kernel_rfl)⟩
theorem listWrong_rdu8 : Try.prog.readableRec 5 = true ∧ 5 < Try.prog.types.size := ⟨by kernel_rfl, of_decide_eq_true (by kernel_rfl)⟩
set_option maxRecDepth 100000 in
theorem listWrong_lifted (os : Os) (started : os.Started) (H : Type) (enc : TypeId × Value → H) :
    ReturnsInHanded {} Try.checked os 3 .any (Rows.listWrongSpec.pre6 enc Try.prog Try.f3 Rows.listWrongRow.domain false) (Rows.listWrongSpec.post enc Try.prog Try.f3 false true false false) := by
  refine law_lifted (C := Try.checked) (T := 4) Try.own started (by kernel_rfl) Try.func3
    (ChangeSpec.witness6 (enc := enc) (C := Try.checked) false ⟨#[], #[.slice none 0 0, .int .u8 0, .int .u8 0], []⟩ 8 (by kernel_rfl) (by kernel_rfl) (by kernel_rfl) (by kernel_rfl))
    Try.laidOut (fun t ht => ?_) Try.resTypes3 Try.underlying4 rfl (fun ds hd => ?_) ?_
  · rw [Try.params3] at ht
    exact (show ∀ t ∈ [22, 5, 5], Try.prog.readableRec t = true ∧ t < Try.prog.types.size from List.forall_mem_cons.2 ⟨listWrong_rdbytes, List.forall_mem_cons.2 ⟨listWrong_rdu8, List.forall_mem_cons.2 ⟨listWrong_rdu8, fun _ h => by cases h⟩⟩⟩) t ht
  · rw [Try.params3] at hd
    match ds, hd with
    | [e0, e1, e2], _ => rfl
  · intro W base args ds p hval0 hA0
    have hval : ∀ (j : Nat) t v, Try.f3.params[j]? = some t → args[j]? = some v → Value.okWide Try.prog W .any base t v := hval0
    have hA : DataW.TrodAll enc Try.prog W 0 (fun _ => true) true Try.f3.params.toList args.toList ds p := hA0
    rw [Try.params3] at hA hval
    obtain ⟨v0, vs0, d0, ds0, p0, q0, hargs, rfl, rfl, h0, r0⟩ := trodAll_cons hA
    obtain ⟨v1, vs1, d1, ds1, p1, q1, rfl, rfl, rfl, h1, r1⟩ := trodAll_cons r0
    obtain ⟨v2, vs2, d2, ds2, p2, q2, rfl, rfl, rfl, h2, r2⟩ := trodAll_cons r1
    obtain ⟨rfl, rfl, rfl⟩ := trodAll_nil r2
    obtain rfl : args = #[v0, v1, v2] := by cases args; simp_all
    obtain ⟨c, sc⟩ := open_inslice (k := .u8) Try.underlying22 Try.underlying5 (by kernel_rfl) (hval 0 22 v0 rfl rfl) h0
    obtain ⟨m, rfl, _, _, wm⟩ := open_int Try.underlying5 (hval 1 5 v1 rfl rfl) h1
    have bm := bounds_u8 wm
    obtain ⟨a, rfl, _, _, wa⟩ := open_int Try.underlying5 (hval 2 5 v2 rfl rfl) h2
    have ba := bounds_u8 wa
    exact listWrong_any v0 c m a W sc bm ba

/-- ListWrong: for every input the call returns true. -/
theorem listWrong_said : Rows.ListWrongSaid :=
  OpenClaim.holds_of_wide 3 Try.f3 rfl rfl rfl rfl rfl rfl rfl ⟨rfl, rfl, rfl, rfl, rfl⟩ rfl rfl rfl rfl rfl (by as_aux_lemma => kernel_rfl) Try.func3 (by as_aux_lemma => kernel_rfl)
    (of_decide_eq_true (by as_aux_lemma => kernel_rfl)) (by unfold Func.isWrapper; first | (rw [if_pos (by decide +kernel)]; kernel_rfl) | (rw [if_neg (by decide +kernel)]; exact ⟨rfl, rfl⟩))
    (fun os started H enc _ => listWrong_lifted os started H enc)
#print axioms listWrong_said

end Go.Proofs.Ytnpkhkfhlpopbaa
