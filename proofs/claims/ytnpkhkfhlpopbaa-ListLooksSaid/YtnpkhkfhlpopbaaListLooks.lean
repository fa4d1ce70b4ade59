/- ListLooks. -/
import Derived.Test.YtnpkhkfhlpopbaaListL
import Derived.Test.YtnpkhkfhlpopbaaFrame
namespace Go.Proofs.Ytnpkhkfhlpopbaa
set_option linter.unusedSimpArgs false
set_option linter.unusedVariables false
open Go.RowKit
open Go.ChangeShapes Go.WideShapes Go.ChangeAt

set_option maxHeartbeats 1000000 in
theorem listLooks_l (l c : Value) (ls cs : List Int) (a : Int) (w : World) (hl : InSlice .i64 w l ls) (hc : InSlice .u8 w c cs) (h : 150 < ls.length) : Calls Try.prog 8 #[l, .int .i64 a, c] w fun e w' => e = .returned (.bool true) ∧ Below w.heap.size w w' := by
  obtain ⟨ao, cap, rfl, -, -, -⟩ := hl
  obtain ⟨bo, cap', rfl, -, -, -⟩ := hc
  have h' : (150 : Int) < (ls.length : Int) := by omega
  skip
  go_enter Try.func8, Try.ntmps8
  go_wp2_with fail
  refine (known14_any _).mono ?_
  rintro e w1 ⟨rfl, hb⟩
  go_wp2
  go_ret
  exact ⟨by first | rfl | (simp; done), hb⟩

set_option maxHeartbeats 1000000 in
theorem listLooks_c (l c : Value) (ls cs : List Int) (a : Int) (w : World) (hl : InSlice .i64 w l ls) (hc : InSlice .u8 w c cs) (h1 : ls.length ≤ 150) (h : 150 < cs.length) : Calls Try.prog 8 #[l, .int .i64 a, c] w fun e w' => e = .returned (.bool true) ∧ Below w.heap.size w w' := by
  obtain ⟨ao, cap, rfl, -, -, -⟩ := hl
  obtain ⟨bo, cap', rfl, -, -, -⟩ := hc
  have h' : (150 : Int) < (cs.length : Int) := by omega
  have h1' : (ls.length : Int) ≤ 150 := by omega
  go_enter Try.func8, Try.ntmps8
  go_wp2_with fail
  refine (known14_any _).mono ?_
  rintro e w1 ⟨rfl, hb⟩
  go_wp2
  go_ret
  exact ⟨by first | rfl | (simp; done), hb⟩

set_option maxRecDepth 100000 in
set_option maxHeartbeats 4000000 in
theorem listLooks_yes (l c : Value) (ls cs : List Int) (a : Int) (w : World) (hl : InSlice .i64 w l ls) (hc : InSlice .u8 w c cs) (h1 : ls.length ≤ 150) (h2 : cs.length ≤ 150) : Calls Try.prog 8 #[l, .int .i64 a, c] w fun e w' => e = .returned (.bool true) ∧ Below w.heap.size w w' := by
  have HL := Lib.hid hl.sl
  have HC := Lib.hid hc
  obtain ⟨ao, cap, rfl, -, -, -⟩ := hl
  obtain ⟨bo, cap', rfl, -, -, -⟩ := hc
  have h1' : (ls.length : Int) ≤ 150 := by omega
  have h2' : (cs.length : Int) ≤ 150 := by omega
  go_enter Try.func8, Try.ntmps8
  go_wp2_with fail
  refine (known14_any _).mono ?_
  rintro e w1 ⟨rfl, hb1⟩
  go_wp2_with fail
  refine (looks_f _ _ ls a (HL.out.below hb1) (by omega)).mono ?_
  rintro e w2 ⟨rfl, hb2⟩
  have B2 := hb1.trans (hb2.mono hb1.size)
  clear hb1 hb2
  go_wp2_with fail
  refine (CellsOf_f _ cs _ (HC.out.below B2) (by omega)).mono ?_
  rintro e w3 ⟨v, ys, rfl, hR, hyl, hb3, -⟩
  obtain ⟨co, cap2, rfl⟩ := hR.shape
  have B3 := B2.trans (hb3.mono B2.size)
  have HO := Lib.hid hR.sl
  clear B2 hb3 hR
  go_wp2_with fail
  refine (looks_f _ _ ys a HO.out (by omega)).mono ?_
  rintro e w4 ⟨rfl, hb4⟩
  go_wp2
  go_ret
  exact ⟨by first | rfl | (simp; done), B3.trans (hb4.mono B3.size)⟩
theorem listLooks_any (l c : Value) (ls cs : List Int) (a : Int) (w : World) (hl : InSlice .i64 w l ls) (hc : InSlice .u8 w c cs) : Calls Try.prog 8 #[l, .int .i64 a, c] w fun e w' => e = .returned (.bool true) ∧ Below w.heap.size w w' := by
  by_cases h1 : 150 < ls.length
  · exact listLooks_l l c ls cs a w hl hc h1
  · by_cases h2 : 150 < cs.length
    · exact listLooks_c l c ls cs a w hl hc (by omega) h2
    · exact listLooks_yes l c ls cs a w hl hc (by omega) (by omega)

theorem Try.resTypes8 : Try.f8.resultTypes = #[4] := by kernel_rfl
theorem listLooks_rds64 : Try.prog.readableRec 23 = true ∧ 23 < Try.prog.types.size := ⟨by kernel_rfl, of_decide_eq_true (by kernel_rfl)⟩
theorem listLooks_rdint : Try.prog.readableRec 3 = true ∧ 3 < Try.prog.types.size := ⟨by kernel_rfl, of_decide_eq_true (by kernel_rfl)⟩
theorem listLooks_rdbytes : Try.prog.readableRec 22 = true ∧ 22 < Try.prog.types.size := ⟨by kernel_rfl, of_decide_eq_true (by kernel_rfl)⟩
set_option maxRecDepth 100000 in
theorem listLooks_lifted (os : Os) (started : os.Started) (H : Type) (enc : TypeId × Value → H) :
    ReturnsInHanded {} Try.checked os 8 .any (Rows.listLooksSpec.pre6 enc Try.prog Try.f8 Rows.listLooksRow.domain false) (Rows.listLooksSpec.post enc Try.prog Try.f8 false true false false) := by
  refine law_lifted (C := Try.checked) (T := 4) Try.own started (by kernel_rfl) Try.func8
    (ChangeSpec.witness6 (enc := enc) (C := Try.checked) false ⟨#[], #[.slice none 0 0, .int .i64 0, .slice none 0 0], []⟩ 8 (by kernel_rfl) (by kernel_rfl) (by kernel_rfl) (by kernel_rfl))
    Try.laidOut (fun t ht => ?_) Try.resTypes8 Try.underlying4 rfl (fun ds hd => ?_) ?_
  · rw [Try.params8] at ht
    exact (show ∀ t ∈ [23, 3, 22], Try.prog.readableRec t = true ∧ t < Try.prog.types.size from List.forall_mem_cons.2 ⟨listLooks_rds64, List.forall_mem_cons.2 ⟨listLooks_rdint, List.forall_mem_cons.2 ⟨listLooks_rdbytes, fun _ h => by cases h⟩⟩⟩) t ht
  · rw [Try.params8] at hd
    match ds, hd with
    | [e0, e1, e2], _ => rfl
  · intro W base args ds p hval0 hA0
    have hval : ∀ (j : Nat) t v, Try.f8.params[j]? = some t → args[j]? = some v → Value.okWide Try.prog W .any base t v := hval0
    have hA : DataW.TrodAll enc Try.prog W 0 (fun _ => true) true Try.f8.params.toList args.toList ds p := hA0
    rw [Try.params8] at hA hval
    obtain ⟨v0, vs0, d0, ds0, p0, q0, hargs, rfl, rfl, h0, r0⟩ := trodAll_cons hA
    obtain ⟨v1, vs1, d1, ds1, p1, q1, rfl, rfl, rfl, h1, r1⟩ := trodAll_cons r0
    obtain ⟨v2, vs2, d2, ds2, p2, q2, rfl, rfl, rfl, h2, r2⟩ := trodAll_cons r1
    obtain ⟨rfl, rfl, rfl⟩ := trodAll_nil r2
    obtain rfl : args = #[v0, v1, v2] := by cases args; simp_all
    obtain ⟨l, sl⟩ := open_inslice (k := .i64) Try.underlying23 Try.underlying2 (by kernel_rfl) (hval 0 23 v0 rfl rfl) h0
    obtain ⟨a, rfl, _, _, wa⟩ := open_int Try.underlying3 (hval 1 3 v1 rfl rfl) h1
    have ba := bounds_i64 wa
    obtain ⟨c, sc⟩ := open_inslice (k := .u8) Try.underlying22 Try.underlying5 (by kernel_rfl) (hval 2 22 v2 rfl rfl) h2
    exact listLooks_any v0 v2 l c a W sl sc

/-- ListLooks: for every input the call returns true. -/
theorem listLooks_said : Rows.ListLooksSaid :=
  OpenClaim.holds_of_wide 8 Try.f8 rfl rfl rfl rfl rfl rfl rfl ⟨rfl, rfl, rfl, rfl, rfl⟩ rfl rfl rfl rfl rfl (by as_aux_lemma => kernel_rfl) Try.func8 (by as_aux_lemma => kernel_rfl)
    (of_decide_eq_true (by as_aux_lemma => kernel_rfl)) (by unfold Func.isWrapper; first | (rw [if_pos (by decide +kernel)]; kernel_rfl) | (rw [if_neg (by decide +kernel)]; exact ⟨rfl, rfl⟩))
    (fun os started H enc _ => listLooks_lifted os started H enc)
#print axioms listLooks_said

end Go.Proofs.Ytnpkhkfhlpopbaa
