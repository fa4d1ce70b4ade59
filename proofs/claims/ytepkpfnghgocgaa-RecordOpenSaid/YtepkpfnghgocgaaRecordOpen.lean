/- RecordOpen: for so many threads there is room for as many records, and no more: the law returns true for every input. -/
import Derived.Test.YtepkpfnghgocgaaRec
import Derived.Test.YtepkpfnghgocgaaFrame
namespace Go.Proofs.Ytepkpfnghgocgaa
set_option linter.unusedSimpArgs false
set_option linter.unusedVariables false
open Go.RowKit
open Go.ChangeShapes Go.WideShapes Go.ChangeAt

set_option maxRecDepth 100000 in
set_option maxHeartbeats 4000000 in
theorem recordOpen_a (n k T : Int) (w : World) (k1 : 0 ≤ k) (k2 : k ≤ 255) (hT : 1 + k % 64 = T) (t1 : 1 ≤ T) (t2 : T ≤ 64) (hn : n < 1) :
    Calls Try.prog 3 #[.int .i64 n, .int .u8 k] w fun e w' => e = .returned (.bool true) ∧ Below w.heap.size w w' := by
  go_enter Try.func3, Try.ntmps3
  go_wp2_with fail
  refine (Open_ms T w w (Below.refl _ _) t1 t2).mono ?_
  rintro e w1 ⟨g0, rfl, m1, -⟩
  go_wp2_with fail
  refine (Open_no n _ (by omega)).mono ?_
  rintro e w' ⟨rfl, rfl⟩
  have m2 := m1
  clear m1
  obtain ⟨bb, hbb⟩ : ∃ bb, w.heap.size = bb := ⟨_, rfl⟩
  have Hbb := Lib.hid hbb
  rw [hbb] at m2 ⊢
  clear hbb
  go_wp2
  go_loopw [8, 9] (fun p j wr => ∃ (i : Nat) (c : Int) (g : Option Nat) (xs : List Int) (st : Int), i ≤ 70 ∧ p = .int .i64 c ∧ j = .int .i64 i ∧ MS w wr bb g (3 + 5 * T) xs st ∧ (xs.length : Int) = 3 + 5 * c ∧ c = min (i : Int) T ∧ st ≤ i + 1) (fun _ j _ => 70 - (intOf j).toNat)
  case atStart => exact ⟨0, 0, g0, [0, 0, 0], 1, by omega, rfl, rfl, m2, rfl, by omega, by omega⟩
  case round =>
    obtain ⟨i, c, g, xs, st, hi, rfl, rfl, m, hlen, hc, hst⟩ := hrel
    have s0 : 0 ≤ st := m.2.2.2.2.2.2.2
    clear m2
    have Hlen := Lib.hid hlen
    have c0 : 0 ≤ c := by omega
    have c1 : c ≤ T := by omega
    have Hc := Lib.hid hc
    clear hlen hc
    by_cases hlt : i < 70
    · have hlt' : (i : Int) < 70 := by omega
      by_cases hr : c < T
      · have hAl := Alloc_ms m 5 (by omega) (by have := Hlen.out; omega) (by omega)
        go_wp2_with fail
        refine hAl.mono ?_
        rintro e w3 ⟨g3, rfl, m3, -, -⟩
        clear hAl m
        go_wp2
        go_roundw
        case rel => exact ⟨i + 1, c + 1, g3, _, _, by omega, by go_num, by go_num, m3, by rw [List.length_append, List.length_replicate]; have := Hlen.out; omega, by have := Hc.out; omega, by omega⟩
        case measure => simp [intOf]; omega
      · have hAl := Alloc_ms_full m 5 (by omega) (by have := Hlen.out; omega)
        go_wp2_with fail
        refine hAl.mono ?_
        rintro e w3 ⟨rfl, m3, -⟩
        clear hAl m
        go_wp2
        go_roundw
        case rel => exact ⟨i + 1, c, g, _, _, by omega, rfl, by go_num, m3, Hlen.out, by have := Hc.out; omega, by omega⟩
        case measure => simp [intOf]; omega
    · obtain rfl : i = 70 := by omega
      obtain rfl : c = T := by have := Hc.out; omega
      go_wp2_with fail
      refine (known13_any _).mono ?_
      rintro e w3 ⟨rfl, hb⟩
      have m3 := m.below hb
      clear m hb
      go_wp2_with fail
      have cc := Many_ms m3
      rw [show manyOf xs.length = c from by have := Hlen.out; unfold manyOf; omega] at cc
      refine cc.mono ?_
      rintro e w4 ⟨rfl, m4, -⟩
      clear m3 cc
      go_wp2_with fail
      have cc := Top_ms m4
      rw [Hlen.out] at cc
      refine cc.mono ?_
      rintro e w5 ⟨rfl, m5, -⟩
      clear m4 cc
      go_wp2_with fail
      refine (Base_in c _ (by omega) (by omega)).mono ?_
      rintro e w' ⟨rfl, rfl⟩
      go_wp2
      go_ret
      exact ⟨by first | rfl | (simp; done) | (simp; omega), m5.B⟩

set_option maxRecDepth 100000 in
set_option maxHeartbeats 4000000 in
theorem recordOpen_b (n k T : Int) (w : World) (k1 : 0 ≤ k) (k2 : k ≤ 255) (hT : 1 + k % 64 = T) (t1 : 1 ≤ T) (t2 : T ≤ 64) (hn : 64 < n) :
    Calls Try.prog 3 #[.int .i64 n, .int .u8 k] w fun e w' => e = .returned (.bool true) ∧ Below w.heap.size w w' := by
  go_enter Try.func3, Try.ntmps3
  go_wp2_with fail
  refine (Open_ms T w w (Below.refl _ _) t1 t2).mono ?_
  rintro e w1 ⟨g0, rfl, m1, -⟩
  go_wp2_with fail
  refine (Open_no n _ (by omega)).mono ?_
  rintro e w' ⟨rfl, rfl⟩
  have m2 := m1
  clear m1
  obtain ⟨bb, hbb⟩ : ∃ bb, w.heap.size = bb := ⟨_, rfl⟩
  have Hbb := Lib.hid hbb
  rw [hbb] at m2 ⊢
  clear hbb
  go_wp2
  go_loopw [8, 9] (fun p j wr => ∃ (i : Nat) (c : Int) (g : Option Nat) (xs : List Int) (st : Int), i ≤ 70 ∧ p = .int .i64 c ∧ j = .int .i64 i ∧ MS w wr bb g (3 + 5 * T) xs st ∧ (xs.length : Int) = 3 + 5 * c ∧ c = min (i : Int) T ∧ st ≤ i + 1) (fun _ j _ => 70 - (intOf j).toNat)
  case atStart => exact ⟨0, 0, g0, [0, 0, 0], 1, by omega, rfl, rfl, m2, rfl, by omega, by omega⟩
  case round =>
    obtain ⟨i, c, g, xs, st, hi, rfl, rfl, m, hlen, hc, hst⟩ := hrel
    have s0 : 0 ≤ st := m.2.2.2.2.2.2.2
    clear m2
    have Hlen := Lib.hid hlen
    have c0 : 0 ≤ c := by omega
    have c1 : c ≤ T := by omega
    have Hc := Lib.hid hc
    clear hlen hc
    by_cases hlt : i < 70
    · have hlt' : (i : Int) < 70 := by omega
      by_cases hr : c < T
      · have hAl := Alloc_ms m 5 (by omega) (by have := Hlen.out; omega) (by omega)
        go_wp2_with fail
        refine hAl.mono ?_
        rintro e w3 ⟨g3, rfl, m3, -, -⟩
        clear hAl m
        go_wp2
        go_roundw
        case rel => exact ⟨i + 1, c + 1, g3, _, _, by omega, by go_num, by go_num, m3, by rw [List.length_append, List.length_replicate]; have := Hlen.out; omega, by have := Hc.out; omega, by omega⟩
        case measure => simp [intOf]; omega
      · have hAl := Alloc_ms_full m 5 (by omega) (by have := Hlen.out; omega)
        go_wp2_with fail
        refine hAl.mono ?_
        rintro e w3 ⟨rfl, m3, -⟩
        clear hAl m
        go_wp2
        go_roundw
        case rel => exact ⟨i + 1, c, g, _, _, by omega, rfl, by go_num, m3, Hlen.out, by have := Hc.out; omega, by omega⟩
        case measure => simp [intOf]; omega
    · obtain rfl : i = 70 := by omega
      obtain rfl : c = T := by have := Hc.out; omega
      go_wp2_with fail
      refine (known13_any _).mono ?_
      rintro e w3 ⟨rfl, hb⟩
      have m3 := m.below hb
      clear m hb
      go_wp2_with fail
      have cc := Many_ms m3
      rw [show manyOf xs.length = c from by have := Hlen.out; unfold manyOf; omega] at cc
      refine cc.mono ?_
      rintro e w4 ⟨rfl, m4, -⟩
      clear m3 cc
      go_wp2_with fail
      have cc := Top_ms m4
      rw [Hlen.out] at cc
      refine cc.mono ?_
      rintro e w5 ⟨rfl, m5, -⟩
      clear m4 cc
      go_wp2_with fail
      refine (Base_in c _ (by omega) (by omega)).mono ?_
      rintro e w' ⟨rfl, rfl⟩
      go_wp2
      go_ret
      exact ⟨by first | rfl | (simp; done) | (simp; omega), m5.B⟩

set_option maxRecDepth 100000 in
set_option maxHeartbeats 4000000 in
theorem recordOpen_c (n k T : Int) (w : World) (k1 : 0 ≤ k) (k2 : k ≤ 255) (hT : 1 + k % 64 = T) (t1 : 1 ≤ T) (t2 : T ≤ 64) (hn : 1 ≤ n) (hn2 : n ≤ 64) :
    Calls Try.prog 3 #[.int .i64 n, .int .u8 k] w fun e w' => e = .returned (.bool true) ∧ Below w.heap.size w w' := by
  go_enter Try.func3, Try.ntmps3
  go_wp2_with fail
  refine (Open_ms T w w (Below.refl _ _) t1 t2).mono ?_
  rintro e w1 ⟨g0, rfl, m1, -⟩
  go_wp2_with fail
  refine (Open_ms n w w1 m1.B (by omega) (by omega)).mono ?_
  rintro e w2 ⟨g2, rfl, -, hb⟩
  have m2 := m1.below hb
  clear m1 hb
  obtain ⟨bb, hbb⟩ : ∃ bb, w.heap.size = bb := ⟨_, rfl⟩
  have Hbb := Lib.hid hbb
  rw [hbb] at m2 ⊢
  clear hbb
  go_wp2
  go_loopw [8, 9] (fun p j wr => ∃ (i : Nat) (c : Int) (g : Option Nat) (xs : List Int) (st : Int), i ≤ 70 ∧ p = .int .i64 c ∧ j = .int .i64 i ∧ MS w wr bb g (3 + 5 * T) xs st ∧ (xs.length : Int) = 3 + 5 * c ∧ c = min (i : Int) T ∧ st ≤ i + 1) (fun _ j _ => 70 - (intOf j).toNat)
  case atStart => exact ⟨0, 0, g0, [0, 0, 0], 1, by omega, rfl, rfl, m2, rfl, by omega, by omega⟩
  case round =>
    obtain ⟨i, c, g, xs, st, hi, rfl, rfl, m, hlen, hc, hst⟩ := hrel
    have s0 : 0 ≤ st := m.2.2.2.2.2.2.2
    clear m2
    have Hlen := Lib.hid hlen
    have c0 : 0 ≤ c := by omega
    have c1 : c ≤ T := by omega
    have Hc := Lib.hid hc
    clear hlen hc
    by_cases hlt : i < 70
    · have hlt' : (i : Int) < 70 := by omega
      by_cases hr : c < T
      · have hAl := Alloc_ms m 5 (by omega) (by have := Hlen.out; omega) (by omega)
        go_wp2_with fail
        refine hAl.mono ?_
        rintro e w3 ⟨g3, rfl, m3, -, -⟩
        clear hAl m
        go_wp2
        go_roundw
        case rel => exact ⟨i + 1, c + 1, g3, _, _, by omega, by go_num, by go_num, m3, by rw [List.length_append, List.length_replicate]; have := Hlen.out; omega, by have := Hc.out; omega, by omega⟩
        case measure => simp [intOf]; omega
      · have hAl := Alloc_ms_full m 5 (by omega) (by have := Hlen.out; omega)
        go_wp2_with fail
        refine hAl.mono ?_
        rintro e w3 ⟨rfl, m3, -⟩
        clear hAl m
        go_wp2
        go_roundw
        case rel => exact ⟨i + 1, c, g, _, _, by omega, rfl, by go_num, m3, Hlen.out, by have := Hc.out; omega, by omega⟩
        case measure => simp [intOf]; omega
    · obtain rfl : i = 70 := by omega
      obtain rfl : c = T := by have := Hc.out; omega
      go_wp2_with fail
      refine (known13_any _).mono ?_
      rintro e w3 ⟨rfl, hb⟩
      have m3 := m.below hb
      clear m hb
      go_wp2_with fail
      have cc := Many_ms m3
      rw [show manyOf xs.length = c from by have := Hlen.out; unfold manyOf; omega] at cc
      refine cc.mono ?_
      rintro e w4 ⟨rfl, m4, -⟩
      clear m3 cc
      go_wp2_with fail
      have cc := Top_ms m4
      rw [Hlen.out] at cc
      refine cc.mono ?_
      rintro e w5 ⟨rfl, m5, -⟩
      clear m4 cc
      go_wp2_with fail
      refine (Base_in c _ (by omega) (by omega)).mono ?_
      rintro e w' ⟨rfl, rfl⟩
      go_wp2
      go_ret
      exact ⟨by first | rfl | (simp; done) | (simp; omega), m5.B⟩

theorem recordOpen_any (n k : Int) (w : World) (k1 : 0 ≤ k) (k2 : k ≤ 255) :
    Calls Try.prog 3 #[.int .i64 n, .int .u8 k] w fun e w' => e = .returned (.bool true) ∧ Below w.heap.size w w' := by
  by_cases h1 : n < 1
  · exact recordOpen_a n k _ w k1 k2 rfl (by omega) (by omega) h1
  · by_cases h2 : n ≤ 64
    · exact recordOpen_c n k _ w k1 k2 rfl (by omega) (by omega) (by omega) h2
    · exact recordOpen_b n k _ w k1 k2 rfl (by omega) (by omega) (by omega)

theorem Try.resTypes3 : Try.f3.resultTypes = #[4] := by kernel_rfl
theorem recordOpen_rdint : Try.prog.readableRec 3 = true ∧ 3 < Try.prog.types.size := ⟨by kernel_rfl, of_decide_eq_true (by kernel_rfl)⟩
theorem recordOpen_rdu8 : Try.prog.readableRec 5 = true ∧ 5 < Try.prog.types.size := ⟨by kernel_rfl, of_decide_eq_true (by kernel_rfl)⟩
set_option maxRecDepth 100000 in
theorem recordOpen_lifted (os : Os) (started : os.Started) (H : Type) (enc : TypeId × Value → H) :
    ReturnsInHanded {} Try.checked os 3 .any (Rows.recordOpenSpec.pre6 enc Try.prog Try.f3 Rows.recordOpenRow.domain false) (Rows.recordOpenSpec.post enc Try.prog Try.f3 false true false false) := by
  refine law_lifted (C := Try.checked) (T := 4) Try.own started (by kernel_rfl) Try.func3
    (ChangeSpec.witness6 (enc := enc) (C := Try.checked) false ⟨#[], #[.int .i64 0, .int .u8 0], []⟩ 8 (by kernel_rfl) (by kernel_rfl) (by kernel_rfl) (by kernel_rfl))
    Try.laidOut (fun t ht => ?_) Try.resTypes3 Try.underlying4 rfl (fun ds hd => ?_) ?_
  · rw [Try.params3] at ht
    exact (show ∀ t ∈ [3, 5], Try.prog.readableRec t = true ∧ t < Try.prog.types.size from List.forall_mem_cons.2 ⟨recordOpen_rdint, List.forall_mem_cons.2 ⟨recordOpen_rdu8, fun _ h => by cases h⟩⟩) t ht
  · rw [Try.params3] at hd
    match ds, hd with
    | [e0, e1], _ => rfl
  · intro W base args ds p hval0 hA0
    have hval : ∀ (j : Nat) t v, Try.f3.params[j]? = some t → args[j]? = some v → Value.okWide Try.prog W .any base t v := hval0
    have hA : DataW.TrodAll enc Try.prog W 0 (fun _ => true) true Try.f3.params.toList args.toList ds p := hA0
    rw [Try.params3] at hA hval
    obtain ⟨v0, vs0, d0, ds0, p0, q0, hargs, rfl, rfl, h0, r0⟩ := trodAll_cons hA
    obtain ⟨v1, vs1, d1, ds1, p1, q1, rfl, rfl, rfl, h1, r1⟩ := trodAll_cons r0
    obtain ⟨rfl, rfl, rfl⟩ := trodAll_nil r1
    obtain rfl : args = #[v0, v1] := by cases args; simp_all
    obtain ⟨n, rfl, _, _, wn⟩ := open_int Try.underlying3 (hval 0 3 v0 rfl rfl) h0
    have bn := bounds_i64 wn
    obtain ⟨k, rfl, _, _, wk⟩ := open_int Try.underlying5 (hval 1 5 v1 rfl rfl) h1
    have bk := bounds_u8 wk
    exact recordOpen_any n k W bk.1 bk.2

/-- RecordOpen: for every input the call returns true. -/
theorem recordOpen_said : Rows.RecordOpenSaid :=
  OpenClaim.holds_of_wide 3 Try.f3 rfl rfl rfl rfl rfl rfl rfl ⟨rfl, rfl, rfl, rfl, rfl⟩ rfl rfl rfl rfl rfl (by as_aux_lemma => kernel_rfl) Try.func3 (by as_aux_lemma => kernel_rfl)
    (of_decide_eq_true (by as_aux_lemma => kernel_rfl)) (by unfold Func.isWrapper; first | (rw [if_pos (by decide +kernel)]; kernel_rfl) | (rw [if_neg (by decide +kernel)]; exact ⟨rfl, rfl⟩))
    (fun os started H enc _ => recordOpen_lifted os started H enc)
#print axioms recordOpen_said

end Go.Proofs.Ytepkpfnghgocgaa
