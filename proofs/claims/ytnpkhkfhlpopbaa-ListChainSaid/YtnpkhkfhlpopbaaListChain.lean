/- ListChain. -/
import Derived.Test.YtnpkhkfhlpopbaaListN
import Derived.Test.YtnpkhkfhlpopbaaListP
import Derived.Test.YtnpkhkfhlpopbaaChainA
import Derived.Test.YtnpkhkfhlpopbaaFrame
namespace Go.Proofs.Ytnpkhkfhlpopbaa
set_option linter.unusedSimpArgs false
set_option linter.unusedVariables false
open Go.RowKit
open Go.ChangeShapes Go.WideShapes Go.ChangeAt

theorem recsL_len (n : Nat) : (recsL (3 + 5 * n)).length = n := by
  unfold recsL; rw [List.length_map, List.length_range, manyOf_tab, Int.toNat_natCast]
theorem Records_k (W0 w : World) (b : Nat) (g : Option Nat) (N st : Int) (X : List Int) (n : Nat) (hl : X.length = 3 + 5 * n) (h : MS W0 w b g N X st) : Calls Try.prog 19 #[.pointer (some ⟨b, 0, none⟩)] w fun e w' => ∃ ao cap, e = .returned (.slice ao n cap) ∧ Below w.heap.size w w' :=
  (Records_s W0 w b g N st X h).mono fun e w' ⟨ao, cap, h1, _, h4⟩ => ⟨ao, cap, by rw [h1, hl, recsL_len], h4⟩
theorem Many_k (W0 w : World) (b : Nat) (g : Option Nat) (N st : Int) (X : List Int) (n : Nat) (hl : X.length = 3 + 5 * n) (h : MS W0 w b g N X st) : Calls Try.prog 20 #[.pointer (some ⟨b, 0, none⟩)] w fun e w' => e = .returned (.int .i64 (n : Int)) ∧ Below w.heap.size w w' :=
  (Many_ms h).mono fun e w' ⟨h1, _, h4⟩ => ⟨by rw [h1, hl, manyOf_tab], h4⟩
theorem Waiting_k (W0 w : World) (b : Nat) (g : Option Nat) (N st : Int) (X : List Int) (hw : ((recsL X.length).filter fun a => decide (0 < recAt X a 0)) = []) (h : MS W0 w b g N X st) : Calls Try.prog 21 #[.pointer (some ⟨b, 0, none⟩)] w fun e w' => ∃ ao cap, e = .returned (.slice ao 0 cap) ∧ Below w.heap.size w w' :=
  (Waiting_s W0 w b g N st X h).mono fun e w' ⟨ao, cap, h1, _, h4⟩ => ⟨ao, cap, by rw [h1, show waitL X = [] from hw]; rfl, h4⟩
set_option maxRecDepth 100000 in
set_option maxHeartbeats 4000000 in
theorem listChain_any (c : Value) (cs : List Int) (many : Int) (w : World) (hc : InSlice .u8 w c cs) (hk : 0 ≤ many ∧ many ≤ 255) : Calls Try.prog 5 #[c, .int .u8 many] w fun e w' => e = .returned (.bool true) ∧ Below w.heap.size w w' := by
  obtain ⟨n, hn⟩ : ∃ n, nOf cs = n := ⟨_, rfl⟩
  have hn9 := nOf_rng cs
  rw [hn] at hn9
  obtain ⟨M, hM⟩ : ∃ M : Nat, many % 10 = (M : Int) := ⟨(many % 10).toNat, by omega⟩
  obtain ⟨m, hm⟩ : ∃ m, min M n = m := ⟨_, rfl⟩
  have hmn : m ≤ n := by omega
  obtain ⟨O, hO⟩ : ∃ O, (ord cs n).take m = O := ⟨_, rfl⟩
  obtain ⟨X, hX⟩ : ∃ X, layN cs O ((List.replicate (3 + 5 * n) 0).set 2 50) m = X := ⟨_, rfl⟩
  have hOl : O.length = m := by rw [← hO, List.length_take, ord_len]; omega
  have hF := chain_all (X := X) cs hmn (by omega) (by rw [hO]; exact hX)
  rw [hO] at hF
  have HX := Lib.hid hF
  have HN := Lib.hid (And.intro hn (And.intro hm (And.intro hO hX)))
  have HC := Lib.hid hc
  have HL := Lib.hid (show X.length ≤ 1000 from by have := hF.1; omega)
  have HO := Lib.hid (show O.length ≤ 1000000 from by omega)
  obtain ⟨bo, cap, rfl, -, -, -⟩ := hc
  clear hn hm hO hX hmn hF hOl
  go_enter Try.func5, Try.ntmps5
  go_wp2_with fail
  refine (Chain_f _ cs (M : Int) _ n M HC.out (by omega) (by omega) HN.out.1 rfl).mono ?_
  rintro e w1 ⟨v1, v2, rfl, R1, I1, hb1, o1⟩
  rw [HN.out.2.1, HN.out.2.2.1, HN.out.2.2.2] at R1
  rw [HN.out.2.1, HN.out.2.2.1] at I1
  obtain ⟨xo, xc, rfl⟩ := R1.shape
  obtain ⟨oo, oc, rfl⟩ := I1.shape
  have H1 := Lib.hid (And.intro R1.sl (And.intro I1.slx hb1))
  clear R1 I1 hb1 o1
  go_wp2_with fail
  refine (Memory13_f _ X w1 H1.out.1 HL.out).mono ?_
  rintro e w2 ⟨mv, b, g, q, rfl, h1, -⟩
  obtain ⟨ao1, cap1, rfl, -, -⟩ := h1.rv.open
  have H2 := Lib.hid h1.ms
  clear h1
  go_wp2_with fail
  generalize hW3 : World.alloc _ _ = W3
  have B3 : Below w2.heap.size w2 W3 := by rw [← hW3]; go_grown
  have m3 := H2.out.below B3
  have HM3 := Lib.hid m3
  clear hW3 B3 m3
  refine (Reach_s _ W3 _ _ _ _ _ O true HX.out.2.1 HM3.out).mono ?_
  rintro e W ⟨u, rfl, hy, hb4⟩
  obtain ⟨yo, yc, rfl⟩ := hy.shape
  have m4 := HM3.out.below hb4
  have HM := Lib.hid m4
  have HS := Lib.hid (And.intro hy.slx (And.intro (H1.out.2.1.below m4.B) HO.out))
  have HB := Lib.hid (H1.out.2.2.trans (m4.B.mono H1.out.2.2.size))
  clear hy hb4 m4 HM3
  go_wp2_with fail
  have BB0 := Below.refl W.heap.size W
  refine (known14_any _).mono ?_
  rintro e w5 ⟨rfl, hb5⟩
  have BB1 := bmr BB0 hb5
  clear BB0 hb5
  go_wp2_with fail
  refine (Ints_same _ _ O _ (HS.out.1.below BB1) (HS.out.2.1.below BB1) HS.out.2.2).mono ?_
  rintro e w6 ⟨rfl, hb6⟩
  have BB2 := bmr BB1 hb6
  clear BB1 hb6
  go_wp2_with fail
  refine (Sound_s _ _ _ _ _ _ _ 0 HX.out.2.2.1 (HM.out.below BB2)).mono ?_
  rintro e w7 ⟨rfl, hb7⟩
  have BB3 := bmr BB2 hb7
  clear BB2 hb7
  go_wp2_with fail
  refine (Records_k _ _ _ _ _ _ _ n HX.out.1 (HM.out.below BB3)).mono ?_
  rintro e w8 ⟨ro, rcap, rfl, hb8⟩
  have BB4 := bmr BB3 hb8
  clear BB3 hb8
  go_wp2_with fail
  refine (Many_k _ _ _ _ _ _ _ n HX.out.1 (HM.out.below BB4)).mono ?_
  rintro e w9 ⟨rfl, hb9⟩
  have BB5 := bmr BB4 hb9
  clear BB4 hb9
  go_wp2_with fail
  refine (Waiting_k _ _ _ _ _ _ _ HX.out.2.2.2 (HM.out.below BB5)).mono ?_
  rintro e w10 ⟨wo, wcap, rfl, hb10⟩
  have BB6 := bmr BB5 hb10
  clear BB5 hb10
  go_wp2
  go_ret
  exact ⟨by first | rfl | (simp; done), HB.out.trans (BB6.mono HB.out.size)⟩

theorem Try.resTypes5 : Try.f5.resultTypes = #[4] := by kernel_rfl
theorem listChain_rdbytes : Try.prog.readableRec 22 = true ∧ 22 < Try.prog.types.size := ⟨by kernel_rfl, of_decide_eq_true (by kernel_rfl)⟩
theorem listChain_rdu8 : Try.prog.readableRec 5 = true ∧ 5 < Try.prog.types.size := ⟨by kernel_rfl, of_decide_eq_true (by kernel_rfl)⟩
set_option maxRecDepth 100000 in
theorem listChain_lifted (os : Os) (started : os.Started) (H : Type) (enc : TypeId × Value → H) :
    ReturnsInHanded {} Try.checked os 5 .any (Rows.listChainSpec.pre6 enc Try.prog Try.f5 Rows.listChainRow.domain false) (Rows.listChainSpec.post enc Try.prog Try.f5 false true false false) := by
  refine law_lifted (C := Try.checked) (T := 4) Try.own started (by kernel_rfl) Try.func5
    (ChangeSpec.witness6 (enc := enc) (C := Try.checked) false ⟨#[], #[.slice none 0 0, .int .u8 0], []⟩ 8 (by kernel_rfl) (by kernel_rfl) (by kernel_rfl) (by kernel_rfl))
    Try.laidOut (fun t ht => ?_) Try.resTypes5 Try.underlying4 rfl (fun ds hd => ?_) ?_
  · rw [Try.params5] at ht
    exact (show ∀ t ∈ [22, 5], Try.prog.readableRec t = true ∧ t < Try.prog.types.size from List.forall_mem_cons.2 ⟨listChain_rdbytes, List.forall_mem_cons.2 ⟨listChain_rdu8, fun _ h => by cases h⟩⟩) t ht
  · rw [Try.params5] at hd
    match ds, hd with
    | [e0, e1], _ => rfl
  · intro W base args ds p hval0 hA0
    have hval : ∀ (j : Nat) t v, Try.f5.params[j]? = some t → args[j]? = some v → Value.okWide Try.prog W .any base t v := hval0
    have hA : DataW.TrodAll enc Try.prog W 0 (fun _ => true) true Try.f5.params.toList args.toList ds p := hA0
    rw [Try.params5] at hA hval
    obtain ⟨v0, vs0, d0, ds0, p0, q0, hargs, rfl, rfl, h0, r0⟩ := trodAll_cons hA
    obtain ⟨v1, vs1, d1, ds1, p1, q1, rfl, rfl, rfl, h1, r1⟩ := trodAll_cons r0
    obtain ⟨rfl, rfl, rfl⟩ := trodAll_nil r1
    obtain rfl : args = #[v0, v1] := by cases args; simp_all
    obtain ⟨c, sc⟩ := open_inslice (k := .u8) Try.underlying22 Try.underlying5 (by kernel_rfl) (hval 0 22 v0 rfl rfl) h0
    obtain ⟨m, rfl, _, _, wm⟩ := open_int Try.underlying5 (hval 1 5 v1 rfl rfl) h1
    have bm := bounds_u8 wm
    exact listChain_any v0 c m W sc bm

/-- ListChain: for every input the call returns true. -/
theorem listChain_said : Rows.ListChainSaid :=
  OpenClaim.holds_of_wide 5 Try.f5 rfl rfl rfl rfl rfl rfl rfl ⟨rfl, rfl, rfl, rfl, rfl⟩ rfl rfl rfl rfl rfl (by as_aux_lemma => kernel_rfl) Try.func5 (by as_aux_lemma => kernel_rfl)
    (of_decide_eq_true (by as_aux_lemma => kernel_rfl)) (by unfold Func.isWrapper; first | (rw [if_pos (by decide +kernel)]; kernel_rfl) | (rw [if_neg (by decide +kernel)]; exact ⟨rfl, rfl⟩))
    (fun os started H enc _ => listChain_lifted os started H enc)
#print axioms listChain_said

end Go.Proofs.Ytnpkhkfhlpopbaa
