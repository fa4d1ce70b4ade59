/- SweepLate: who asks while he is looked at stays; who asks once he is closed finds it so: the law returns true for every input. -/
import Derived.Test.YthdhilmmcabnlaaSwLateA
namespace Go.Proofs.Ythdhilmmcabnlaa
set_option linter.unusedSimpArgs false
set_option linter.unusedVariables false
open Go.RowKit
open Go.ChangeShapes Go.WideShapes Go.ChangeAt

theorem Try.resTypes6 : Try.f6.resultTypes = #[4] := by kernel_rfl
theorem sweepLate_rdbytes : Try.prog.readableRec 22 = true ∧ 22 < Try.prog.types.size := ⟨by kernel_rfl, of_decide_eq_true (by kernel_rfl)⟩
theorem sweepLate_rdu8 : Try.prog.readableRec 5 = true ∧ 5 < Try.prog.types.size := ⟨by kernel_rfl, of_decide_eq_true (by kernel_rfl)⟩
theorem sweepLate_rdi64 : Try.prog.readableRec 2 = true ∧ 2 < Try.prog.types.size := ⟨by kernel_rfl, of_decide_eq_true (by kernel_rfl)⟩
set_option maxRecDepth 100000 in
theorem sweepLate_lifted (os : Os) (started : os.Started) (H : Type) (enc : TypeId × Value → H) :
    ReturnsInHanded {} Try.checked os 6 .any (Rows.sweepLateSpec.pre6 enc Try.prog Try.f6 Rows.sweepLateRow.domain false) (Rows.sweepLateSpec.post enc Try.prog Try.f6 false true false false) := by
  refine law_lifted (C := Try.checked) (T := 4) Try.own started (by kernel_rfl) Try.func6
    (ChangeSpec.witness6 (enc := enc) (C := Try.checked) false ⟨#[], #[.slice none 0 0, .int .u8 0, .int .u8 0, .int .i64 0], []⟩ 8 (by kernel_rfl) (by kernel_rfl) (by kernel_rfl) (by kernel_rfl))
    Try.laidOut (fun t ht => ?_) Try.resTypes6 Try.underlying4 rfl (fun ds hd => ?_) ?_
  · rw [Try.params6] at ht
    exact (show ∀ t ∈ [22, 5, 5, 2], Try.prog.readableRec t = true ∧ t < Try.prog.types.size from List.forall_mem_cons.2 ⟨sweepLate_rdbytes, List.forall_mem_cons.2 ⟨sweepLate_rdu8, List.forall_mem_cons.2 ⟨sweepLate_rdu8, List.forall_mem_cons.2 ⟨sweepLate_rdi64, fun _ h => by cases h⟩⟩⟩⟩) t ht
  · rw [Try.params6] at hd
    match ds, hd with
    | [e0, e1, e2, e3], _ => rfl
  · intro W base args ds p hval0 hA0
    have hval : ∀ (j : Nat) t v, Try.f6.params[j]? = some t → args[j]? = some v → Value.okWide Try.prog W .any base t v := hval0
    have hA : DataW.TrodAll enc Try.prog W 0 (fun _ => true) true Try.f6.params.toList args.toList ds p := hA0
    rw [Try.params6] at hA hval
    obtain ⟨v0, vs0, d0, ds0, p0, q0, hargs, rfl, rfl, h0, r0⟩ := trodAll_cons hA
    obtain ⟨v1, vs1, d1, ds1, p1, q1, rfl, rfl, rfl, h1, r1⟩ := trodAll_cons r0
    obtain ⟨v2, vs2, d2, ds2, p2, q2, rfl, rfl, rfl, h2, r2⟩ := trodAll_cons r1
    obtain ⟨v3, vs3, d3, ds3, p3, q3, rfl, rfl, rfl, h3, r3⟩ := trodAll_cons r2
    obtain ⟨rfl, rfl, rfl⟩ := trodAll_nil r3
    obtain rfl : args = #[v0, v1, v2, v3] := by cases args; simp_all
    obtain ⟨c, sc⟩ := open_inslice (k := .u8) Try.underlying22 Try.underlying5 (by kernel_rfl) (hval 0 22 v0 rfl rfl) h0
    obtain ⟨m, rfl, _, _, wm⟩ := open_int Try.underlying5 (hval 1 5 v1 rfl rfl) h1
    have bm := bounds_u8 wm
    obtain ⟨a, rfl, _, _, wa⟩ := open_int Try.underlying5 (hval 2 5 v2 rfl rfl) h2
    have ba := bounds_u8 wa
    obtain ⟨d, rfl, _, _, wd⟩ := open_int Try.underlying2 (hval 3 2 v3 rfl rfl) h3
    have bd := bounds_i64 wd
    exact sweepLate_any v0 c m a d W sc bm.1 bm.2 ba.1 ba.2 bd.1 bd.2

/-- SweepLate: for every input the call returns true. -/
theorem sweepLate_said : Rows.SweepLateSaid :=
  OpenClaim.holds_of_wide 6 Try.f6 rfl rfl rfl rfl rfl rfl rfl ⟨rfl, rfl, rfl, rfl, rfl⟩ rfl rfl rfl rfl rfl (by as_aux_lemma => kernel_rfl) Try.func6 (by as_aux_lemma => kernel_rfl)
    (of_decide_eq_true (by as_aux_lemma => kernel_rfl)) (by unfold Func.isWrapper; first | (rw [if_pos (by decide +kernel)]; kernel_rfl) | (rw [if_neg (by decide +kernel)]; exact ⟨rfl, rfl⟩))
    (fun os started H enc _ => sweepLate_lifted os started H enc)
#print axioms sweepLate_said

end Go.Proofs.Ythdhilmmcabnlaa
