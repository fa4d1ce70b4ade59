/- OwnerLate: who claims a place though it was served, and closed, meanwhile, gives it up again, and is told; who is not served links: the law returns true for every input. -/
import Derived.Test.YtcellcjojfbajaaOwLate
import Derived.Test.YtcellcjojfbajaaFrame
namespace Go.Proofs.Ytcellcjojfbajaa
set_option linter.unusedSimpArgs false
set_option linter.unusedVariables false
open Go.RowKit
open Go.ChangeShapes Go.WideShapes Go.ChangeAt

theorem Try.resTypes9 : Try.f9.resultTypes = #[4] := by kernel_rfl
theorem ownerLate_rdop : Try.prog.readableRec 23 = true ∧ 23 < Try.prog.types.size := ⟨by kernel_rfl, of_decide_eq_true (by kernel_rfl)⟩
theorem ownerLate_rdres : Try.prog.readableRec 25 = true ∧ 25 < Try.prog.types.size := ⟨by kernel_rfl, of_decide_eq_true (by kernel_rfl)⟩
theorem ownerLate_rdbool : Try.prog.readableRec 4 = true ∧ 4 < Try.prog.types.size := ⟨by kernel_rfl, of_decide_eq_true (by kernel_rfl)⟩
theorem ownerLate_rdi64 : Try.prog.readableRec 2 = true ∧ 2 < Try.prog.types.size := ⟨by kernel_rfl, of_decide_eq_true (by kernel_rfl)⟩
set_option maxRecDepth 100000 in
theorem ownerLate_lifted (os : Os) (started : os.Started) (H : Type) (enc : TypeId × Value → H) :
    ReturnsInHanded {} Try.checked os 9 .any (Rows.ownerLateSpec.pre6 enc Try.prog Try.f9 Rows.ownerLateRow.domain false) (Rows.ownerLateSpec.post enc Try.prog Try.f9 false true false false) := by
  refine law_lifted (C := Try.checked) (T := 4) Try.own started (by kernel_rfl) Try.func9
    (ChangeSpec.witness6 (enc := enc) (C := Try.checked) false ⟨#[], #[.agg #[.int .u8 0, .int .i32 0], .agg #[.int .u8 0, .int .i32 0], .bool false, .int .i64 0], []⟩ 8 (by kernel_rfl) (by kernel_rfl) (by kernel_rfl) (by kernel_rfl))
    Try.laidOut (fun t ht => ?_) Try.resTypes9 Try.underlying4 rfl (fun ds hd => ?_) ?_
  · rw [Try.params9] at ht
    exact (show ∀ t ∈ [23, 25, 4, 2], Try.prog.readableRec t = true ∧ t < Try.prog.types.size from List.forall_mem_cons.2 ⟨ownerLate_rdop, List.forall_mem_cons.2 ⟨ownerLate_rdres, List.forall_mem_cons.2 ⟨ownerLate_rdbool, List.forall_mem_cons.2 ⟨ownerLate_rdi64, fun _ h => by cases h⟩⟩⟩⟩) t ht
  · rw [Try.params9] at hd
    match ds, hd with
    | [e0, e1, e2, e3], _ => rfl
  · intro W base args ds p hval0 hA0
    have hval : ∀ (j : Nat) t v, Try.f9.params[j]? = some t → args[j]? = some v → Value.okWide Try.prog W .any base t v := hval0
    have hA : DataW.TrodAll enc Try.prog W 0 (fun _ => true) true Try.f9.params.toList args.toList ds p := hA0
    rw [Try.params9] at hA hval
    obtain ⟨v0, vs0, d0, ds0, p0, q0, hargs, rfl, rfl, h0, r0⟩ := trodAll_cons hA
    obtain ⟨v1, vs1, d1, ds1, p1, q1, rfl, rfl, rfl, h1, r1⟩ := trodAll_cons r0
    obtain ⟨v2, vs2, d2, ds2, p2, q2, rfl, rfl, rfl, h2, r2⟩ := trodAll_cons r1
    obtain ⟨v3, vs3, d3, ds3, p3, q3, rfl, rfl, rfl, h3, r3⟩ := trodAll_cons r2
    obtain ⟨rfl, rfl, rfl⟩ := trodAll_nil r3
    obtain rfl : args = #[v0, v1, v2, v3] := by cases args; simp_all
    obtain ⟨ok, ov, rfl, o1, o2, o3, o4⟩ := open_op (hval 0 23 v0 rfl rfl) h0
    obtain ⟨sk, sv, rfl, s1, s2, s3, s4⟩ := open_res (hval 1 25 v1 rfl rfl) h1
    obtain ⟨f, rfl, _, _⟩ := open_bool Try.underlying4 (hval 2 4 v2 rfl rfl) h2
    obtain ⟨p, rfl, _, _, wp⟩ := open_int Try.underlying2 (hval 3 2 v3 rfl rfl) h3
    have bp := bounds_i64 wp
    exact ownerLate_any ok ov sk sv p f W o1 o2 o3 o4 s1 s2 s3 s4

/-- OwnerLate: for every input the call returns true. -/
theorem ownerLate_said : Rows.OwnerLateSaid :=
  OpenClaim.holds_of_wide 9 Try.f9 rfl rfl rfl rfl rfl rfl rfl ⟨rfl, rfl, rfl, rfl, rfl⟩ rfl rfl rfl rfl rfl (by as_aux_lemma => kernel_rfl) Try.func9 (by as_aux_lemma => kernel_rfl)
    (of_decide_eq_true (by as_aux_lemma => kernel_rfl)) (by unfold Func.isWrapper; first | (rw [if_pos (by decide +kernel)]; kernel_rfl) | (rw [if_neg (by decide +kernel)]; exact ⟨rfl, rfl⟩))
    (fun os started H enc _ => ownerLate_lifted os started H enc)
#print axioms ownerLate_said

end Go.Proofs.Ytcellcjojfbajaa
