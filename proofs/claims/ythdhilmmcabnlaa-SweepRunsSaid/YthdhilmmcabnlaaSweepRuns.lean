/- SweepRuns: a thread that sweeps, step by step, at a memory of choices, goes as the chapter says: the law returns true for every input. -/
import Derived.Test.YthdhilmmcabnlaaSwpR
import Derived.Test.YthdhilmmcabnlaaFrame
namespace Go.Proofs.Ythdhilmmcabnlaa
set_option linter.unusedSimpArgs false
set_option linter.unusedVariables false
open Go.RowKit
open Go.ChangeShapes Go.WideShapes Go.ChangeAt

set_option maxHeartbeats 1000000 in
theorem sweepRuns_c (c : Value) (cs : List Int) (age pass k : Int) (w : World) (hc : InSlice .u8 w c cs) (a1 : 0 ≤ age) (a2 : age ≤ 255) (k1 : 0 ≤ k) (k2 : k ≤ 255) (h : 150 < cs.length) : Calls Try.prog 3 #[c, .int .u8 age, .int .i64 pass, .int .u8 k] w fun e w' => e = .returned (.bool true) ∧ Below w.heap.size w w' := by
  obtain ⟨bo, cap', rfl, -, -, -⟩ := hc
  have h' : (150 : Int) < (cs.length : Int) := by omega
  go_enter Try.func3, Try.ntmps3
  go_wp2_with fail
  refine (known17_any _).mono ?_
  rintro e w1 ⟨rfl, hb⟩
  go_wp2
  go_ret
  exact ⟨by first | rfl | (simp; done), hb⟩
set_option maxHeartbeats 2000000 in
theorem sweepRuns_d (c : Value) (cs : List Int) (age pass k : Int) (w : World) (hc : InSlice .u8 w c cs) (a1 : 0 ≤ age) (a2 : age ≤ 255) (k1 : 0 ≤ k) (k2 : k ≤ 255) (h : cs.length ≤ 150) : Calls Try.prog 3 #[c, .int .u8 age, .int .i64 pass, .int .u8 k] w fun e w' => e = .returned (.bool true) ∧ Below w.heap.size w w' := by
  have HC := Lib.hid hc
  obtain ⟨bo, cap', rfl, -, -, -⟩ := hc
  have h' : (cs.length : Int) ≤ 150 := by omega
  go_enter Try.func3, Try.ntmps3
  go_wp2_with fail
  refine (known17_any _).mono ?_
  rintro e w1 ⟨rfl, hb1⟩
  go_wp2_with fail
  refine (CellsOf_f _ cs _ (HC.out.below hb1) (by omega)).mono ?_
  rintro e w2 ⟨v, ys, rfl, hR, hyl, hb2, -, hs⟩
  obtain ⟨co, cap2, rfl⟩ := hR.shape
  have B2 := bmore hb1 hb2
  have HO := Lib.hid (And.intro hR.sl (And.intro hs hyl))
  clear hb1 hb2 hR hs hyl
  go_wp2_with fail
  refine (runs17_any _ _ ys _ _ HO.out.1 (by have := HO.out.2.2; omega) HO.out.2.1.rg).mono ?_
  rintro e w3 ⟨rfl, hb3⟩
  have B3 := bmore B2 hb3
  clear hb3 B2
  go_wp2_with fail
  refine (CellsOf_f _ cs _ (HC.out.below B3) (by omega)).mono ?_
  rintro e w4 ⟨v, zs, rfl, hR, hyl, hb4, -, hs⟩
  obtain ⟨co2, cap3, rfl⟩ := hR.shape
  have B4 := bmore B3 hb4
  have HO2 := Lib.hid (And.intro hR.sl (And.intro hs hyl))
  clear hb4 hR hs hyl B3
  go_wp2_with fail
  refine (runs17_any _ _ zs _ _ HO2.out.1 (by have := HO2.out.2.2; omega) HO2.out.2.1.rg).mono ?_
  rintro e w5 ⟨rfl, hb5⟩
  have B5 := bmore B4 hb5
  clear hb5 B4
  go_wp2
  go_ret
  exact ⟨by first | rfl | (simp; done), B5⟩
theorem sweepRuns_any (c : Value) (cs : List Int) (age pass k : Int) (w : World) (hc : InSlice .u8 w c cs) (a1 : 0 ≤ age) (a2 : age ≤ 255) (k1 : 0 ≤ k) (k2 : k ≤ 255) : Calls Try.prog 3 #[c, .int .u8 age, .int .i64 pass, .int .u8 k] w fun e w' => e = .returned (.bool true) ∧ Below w.heap.size w w' := by
  by_cases h : 150 < cs.length
  · exact sweepRuns_c c cs age pass k w hc a1 a2 k1 k2 h
  · exact sweepRuns_d c cs age pass k w hc a1 a2 k1 k2 (by omega)

theorem Try.resTypes3 : Try.f3.resultTypes = #[4] := by kernel_rfl
theorem sweepRuns_rdbytes : Try.prog.readableRec 22 = true ∧ 22 < Try.prog.types.size := ⟨by kernel_rfl, of_decide_eq_true (by kernel_rfl)⟩
theorem sweepRuns_rdu8 : Try.prog.readableRec 5 = true ∧ 5 < Try.prog.types.size := ⟨by kernel_rfl, of_decide_eq_true (by kernel_rfl)⟩
theorem sweepRuns_rdi64 : Try.prog.readableRec 2 = true ∧ 2 < Try.prog.types.size := ⟨by kernel_rfl, of_decide_eq_true (by kernel_rfl)⟩
set_option maxRecDepth 100000 in
theorem sweepRuns_lifted (os : Os) (started : os.Started) (H : Type) (enc : TypeId × Value → H) :
    ReturnsInHanded {} Try.checked os 3 .any (Rows.sweepRunsSpec.pre6 enc Try.prog Try.f3 Rows.sweepRunsRow.domain false) (Rows.sweepRunsSpec.post enc Try.prog Try.f3 false true false false) := by
  refine law_lifted (C := Try.checked) (T := 4) Try.own started (by kernel_rfl) Try.func3
    (ChangeSpec.witness6 (enc := enc) (C := Try.checked) false ⟨#[], #[.slice none 0 0, .int .u8 0, .int .i64 0, .int .u8 0], []⟩ 8 (by kernel_rfl) (by kernel_rfl) (by kernel_rfl) (by kernel_rfl))
    Try.laidOut (fun t ht => ?_) Try.resTypes3 Try.underlying4 rfl (fun ds hd => ?_) ?_
  · rw [Try.params3] at ht
    exact (show ∀ t ∈ [22, 5, 2, 5], Try.prog.readableRec t = true ∧ t < Try.prog.types.size from List.forall_mem_cons.2 ⟨sweepRuns_rdbytes, List.forall_mem_cons.2 ⟨sweepRuns_rdu8, List.forall_mem_cons.2 ⟨sweepRuns_rdi64, List.forall_mem_cons.2 ⟨sweepRuns_rdu8, fun _ h => by cases h⟩⟩⟩⟩) t ht
  · rw [Try.params3] at hd
    match ds, hd with
    | [e0, e1, e2, e3], _ => rfl
  · intro W base args ds p hval0 hA0
    have hval : ∀ (j : Nat) t v, Try.f3.params[j]? = some t → args[j]? = some v → Value.okWide Try.prog W .any base t v := hval0
    have hA : DataW.TrodAll enc Try.prog W 0 (fun _ => true) true Try.f3.params.toList args.toList ds p := hA0
    rw [Try.params3] at hA hval
    obtain ⟨v0, vs0, d0, ds0, p0, q0, hargs, rfl, rfl, h0, r0⟩ := trodAll_cons hA
    obtain ⟨v1, vs1, d1, ds1, p1, q1, rfl, rfl, rfl, h1, r1⟩ := trodAll_cons r0
    obtain ⟨v2, vs2, d2, ds2, p2, q2, rfl, rfl, rfl, h2, r2⟩ := trodAll_cons r1
    obtain ⟨v3, vs3, d3, ds3, p3, q3, rfl, rfl, rfl, h3, r3⟩ := trodAll_cons r2
    obtain ⟨rfl, rfl, rfl⟩ := trodAll_nil r3
    obtain rfl : args = #[v0, v1, v2, v3] := by cases args; simp_all
    obtain ⟨c, sc⟩ := open_inslice (k := .u8) Try.underlying22 Try.underlying5 (by kernel_rfl) (hval 0 22 v0 rfl rfl) h0
    obtain ⟨age, rfl, _, _, wage⟩ := open_int Try.underlying5 (hval 1 5 v1 rfl rfl) h1
    have bage := bounds_u8 wage
    obtain ⟨pass, rfl, _, _, wpass⟩ := open_int Try.underlying2 (hval 2 2 v2 rfl rfl) h2
    have bpass := bounds_i64 wpass
    obtain ⟨k, rfl, _, _, wk⟩ := open_int Try.underlying5 (hval 3 5 v3 rfl rfl) h3
    have bk := bounds_u8 wk
    exact sweepRuns_any v0 c age pass k W sc bage.1 bage.2 bk.1 bk.2

/-- SweepRuns: for every input the call returns true. -/
theorem sweepRuns_said : Rows.SweepRunsSaid :=
  OpenClaim.holds_of_wide 3 Try.f3 rfl rfl rfl rfl rfl rfl rfl ⟨rfl, rfl, rfl, rfl, rfl⟩ rfl rfl rfl rfl rfl (by as_aux_lemma => kernel_rfl) Try.func3 (by as_aux_lemma => kernel_rfl)
    (of_decide_eq_true (by as_aux_lemma => kernel_rfl)) (by unfold Func.isWrapper; first | (rw [if_pos (by decide +kernel)]; kernel_rfl) | (rw [if_neg (by decide +kernel)]; exact ⟨rfl, rfl⟩))
    (fun os started H enc _ => sweepRuns_lifted os started H enc)
#print axioms sweepRuns_said

end Go.Proofs.Ythdhilmmcabnlaa
