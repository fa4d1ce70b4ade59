/- ListAsks. -/
import Derived.Test.YtnpkhkfhlpopbaaListN
import Derived.Test.YtnpkhkfhlpopbaaFrame
namespace Go.Proofs.Ytnpkhkfhlpopbaa
set_option linter.unusedSimpArgs false
set_option linter.unusedVariables false
open Go.RowKit
open Go.ChangeShapes Go.WideShapes Go.ChangeAt

set_option maxHeartbeats 1000000 in
theorem listAsks_l (l c : Value) (ls cs : List Int) (a k : Int) (w : World) (hl : InSlice .i64 w l ls) (hc : InSlice .u8 w c cs) (hk : 0 ≤ k ∧ k ≤ 255) (h : 200 < ls.length) : Calls Try.prog 7 #[l, .int .i64 a, .int .u8 k, c] w fun e w' => e = .returned (.bool true) ∧ Below w.heap.size w w' := by
  obtain ⟨ao, cap, rfl, -, -, -⟩ := hl
  obtain ⟨bo, cap', rfl, -, -, -⟩ := hc
  have h' : (200 : Int) < (ls.length : Int) := by omega
  skip
  go_enter Try.func7, Try.ntmps7
  go_wp2_with fail
  refine (known14_any _).mono ?_
  rintro e w1 ⟨rfl, hb⟩
  go_wp2
  go_ret
  exact ⟨by first | rfl | (simp; done), hb⟩

set_option maxHeartbeats 1000000 in
theorem listAsks_c (l c : Value) (ls cs : List Int) (a k : Int) (w : World) (hl : InSlice .i64 w l ls) (hc : InSlice .u8 w c cs) (hk : 0 ≤ k ∧ k ≤ 255) (h1 : ls.length ≤ 200) (h : 200 < cs.length) : Calls Try.prog 7 #[l, .int .i64 a, .int .u8 k, c] w fun e w' => e = .returned (.bool true) ∧ Below w.heap.size w w' := by
  obtain ⟨ao, cap, rfl, -, -, -⟩ := hl
  obtain ⟨bo, cap', rfl, -, -, -⟩ := hc
  have h' : (200 : Int) < (cs.length : Int) := by omega
  have h1' : (ls.length : Int) ≤ 200 := by omega
  go_enter Try.func7, Try.ntmps7
  go_wp2_with fail
  refine (known14_any _).mono ?_
  rintro e w1 ⟨rfl, hb⟩
  go_wp2
  go_ret
  exact ⟨by first | rfl | (simp; done), hb⟩

set_option maxRecDepth 100000 in
set_option maxHeartbeats 4000000 in
theorem listAsks_yes (l c : Value) (ls cs : List Int) (a k : Int) (w : World) (hl : InSlice .i64 w l ls) (hc : InSlice .u8 w c cs) (hk : 0 ≤ k ∧ k ≤ 255) (h1 : ls.length ≤ 200) (h2 : cs.length ≤ 200) : Calls Try.prog 7 #[l, .int .i64 a, .int .u8 k, c] w fun e w' => e = .returned (.bool true) ∧ Below w.heap.size w w' := by
  have HL := Lib.hid hl.sl
  have HC := Lib.hid hc
  obtain ⟨ao, cap, rfl, -, -, -⟩ := hl
  obtain ⟨bo, cap', rfl, -, -, -⟩ := hc
  have h1' : (ls.length : Int) ≤ 200 := by omega
  have h2' : (cs.length : Int) ≤ 200 := by omega
  go_enter Try.func7, Try.ntmps7
  go_wp2_with fail
  refine (known14_any _).mono ?_
  rintro e w1 ⟨rfl, hb1⟩
  go_wp2_with fail
  refine (asks14_f _ _ ls a (HL.out.below hb1) (by omega)).mono ?_
  rintro e w2 ⟨rfl, hb2⟩
  have B2 := hb1.trans (hb2.mono hb1.size)
  clear hb1 hb2
  go_wp2_with fail
  refine (CellsOf_f _ cs _ (HC.out.below B2) (by omega)).mono ?_
  rintro e w3 ⟨v, ys, rfl, hR, hyl, hb3, -⟩
  obtain ⟨co, cap2, rfl⟩ := hR.shape
  have B3 := B2.trans (hb3.mono B2.size)
  have HO := Lib.hid hR.sl
  clear B2 hb3 hR
  go_wp2_with fail
  refine (asks14_f _ _ ys _ HO.out (by omega)).mono ?_
  rintro e w4 ⟨rfl, hb4⟩
  have B4 := B3.trans (hb4.mono B3.size)
  clear B3 hb4 HO hyl
  go_wp2_with fail
  refine (CellsOf_f _ cs _ (HC.out.below B4) (by omega)).mono ?_
  rintro e w5 ⟨v, zs, rfl, hR, hyl, hb5, -⟩
  obtain ⟨co5, cap5, rfl⟩ := hR.shape
  have B5 := B4.trans (hb5.mono B4.size)
  have HO := Lib.hid hR.sl
  clear B4 hb5 hR
  go_wp2_with fail
  refine (asks14_f _ _ zs a HO.out (by omega)).mono ?_
  rintro e w6 ⟨rfl, hb6⟩
  go_wp2
  go_ret
  exact ⟨by first | rfl | (simp; done), B5.trans (hb6.mono B5.size)⟩
theorem listAsks_any (l c : Value) (ls cs : List Int) (a k : Int) (w : World) (hl : InSlice .i64 w l ls) (hc : InSlice .u8 w c cs) (hk : 0 ≤ k ∧ k ≤ 255) : Calls Try.prog 7 #[l, .int .i64 a, .int .u8 k, c] w fun e w' => e = .returned (.bool true) ∧ Below w.heap.size w w' := by
  by_cases h1 : 200 < ls.length
  · exact listAsks_l l c ls cs a k w hl hc hk h1
  · by_cases h2 : 200 < cs.length
    · exact listAsks_c l c ls cs a k w hl hc hk (by omega) h2
    · exact listAsks_yes l c ls cs a k w hl hc hk (by omega) (by omega)

theorem Try.resTypes7 : Try.f7.resultTypes = #[4] := by kernel_rfl
theorem listAsks_rds64 : Try.prog.readableRec 23 = true ∧ 23 < Try.prog.types.size := ⟨by kernel_rfl, of_decide_eq_true (by kernel_rfl)⟩
theorem listAsks_rdint : Try.prog.readableRec 3 = true ∧ 3 < Try.prog.types.size := ⟨by kernel_rfl, of_decide_eq_true (by kernel_rfl)⟩
theorem listAsks_rdu8 : Try.prog.readableRec 5 = true ∧ 5 < Try.prog.types.size := ⟨by kernel_rfl, of_decide_eq_true (by kernel_rfl)⟩
theorem listAsks_rdbytes : Try.prog.readableRec 22 = true ∧ 22 < Try.prog.types.size := ⟨by kernel_rfl, of_decide_eq_true (by kernel_rfl)⟩
set_option maxRecDepth 100000 in
theorem listAsks_lifted (os : Os) (started : os.Started) (H : Type) (enc : TypeId × Value → H) :
    ReturnsInHanded {} Try.checked os 7 .any (Rows.listAsksSpec.pre6 enc Try.prog Try.f7 Rows.listAsksRow.domain false) (Rows.listAsksSpec.post enc Try.prog Try.f7 false true false false) := by
  refine law_lifted (C := Try.checked) (T := 4) Try.own started (by kernel_rfl) Try.func7
    (ChangeSpec.witness6 (enc := enc) (C := Try.checked) false ⟨#[], #[.slice none 0 0, .int .i64 0, .int .u8 0, .slice none 0 0], []⟩ 8 (by kernel_rfl) (by kernel_rfl) (by kernel_rfl) (by kernel_rfl))
    Try.laidOut (fun t ht => ?_) Try.resTypes7 Try.underlying4 rfl (fun ds hd => ?_) ?_
  · rw [Try.params7] at ht
    exact (show ∀ t ∈ [23, 3, 5, 22], Try.prog.readableRec t = true ∧ t < Try.prog.types.size from List.forall_mem_cons.2 ⟨listAsks_rds64, List.forall_mem_cons.2 ⟨listAsks_rdint, List.forall_mem_cons.2 ⟨listAsks_rdu8, List.forall_mem_cons.2 ⟨listAsks_rdbytes, fun _ h => by cases h⟩⟩⟩⟩) t ht
  · rw [Try.params7] at hd
    match ds, hd with
    | [e0, e1, e2, e3], _ => rfl
  · intro W base args ds p hval0 hA0
    have hval : ∀ (j : Nat) t v, Try.f7.params[j]? = some t → args[j]? = some v → Value.okWide Try.prog W .any base t v := hval0
    have hA : DataW.TrodAll enc Try.prog W 0 (fun _ => true) true Try.f7.params.toList args.toList ds p := hA0
    rw [Try.params7] at hA hval
    obtain ⟨v0, vs0, d0, ds0, p0, q0, hargs, rfl, rfl, h0, r0⟩ := trodAll_cons hA
    obtain ⟨v1, vs1, d1, ds1, p1, q1, rfl, rfl, rfl, h1, r1⟩ := trodAll_cons r0
    obtain ⟨v2, vs2, d2, ds2, p2, q2, rfl, rfl, rfl, h2, r2⟩ := trodAll_cons r1
    obtain ⟨v3, vs3, d3, ds3, p3, q3, rfl, rfl, rfl, h3, r3⟩ := trodAll_cons r2
    obtain ⟨rfl, rfl, rfl⟩ := trodAll_nil r3
    obtain rfl : args = #[v0, v1, v2, v3] := by cases args; simp_all
    obtain ⟨l, sl⟩ := open_inslice (k := .i64) Try.underlying23 Try.underlying2 (by kernel_rfl) (hval 0 23 v0 rfl rfl) h0
    obtain ⟨a, rfl, _, _, wa⟩ := open_int Try.underlying3 (hval 1 3 v1 rfl rfl) h1
    have ba := bounds_i64 wa
    obtain ⟨k, rfl, _, _, wk⟩ := open_int Try.underlying5 (hval 2 5 v2 rfl rfl) h2
    have bk := bounds_u8 wk
    obtain ⟨c, sc⟩ := open_inslice (k := .u8) Try.underlying22 Try.underlying5 (by kernel_rfl) (hval 3 22 v3 rfl rfl) h3
    exact listAsks_any v0 v3 l c a k W sl sc bk

/-- ListAsks: for every input the call returns true. -/
theorem listAsks_said : Rows.ListAsksSaid :=
  OpenClaim.holds_of_wide 7 Try.f7 rfl rfl rfl rfl rfl rfl rfl ⟨rfl, rfl, rfl, rfl, rfl⟩ rfl rfl rfl rfl rfl (by as_aux_lemma => kernel_rfl) Try.func7 (by as_aux_lemma => kernel_rfl)
    (of_decide_eq_true (by as_aux_lemma => kernel_rfl)) (by unfold Func.isWrapper; first | (rw [if_pos (by decide +kernel)]; kernel_rfl) | (rw [if_neg (by decide +kernel)]; exact ⟨rfl, rfl⟩))
    (fun os started H enc _ => listAsks_lifted os started H enc)
#print axioms listAsks_said

end Go.Proofs.Ytnpkhkfhlpopbaa
