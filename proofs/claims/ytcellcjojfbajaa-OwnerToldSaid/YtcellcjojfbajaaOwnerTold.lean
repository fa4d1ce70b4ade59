/- OwnerTold: who is answered is told what stands there, and is idle; it keeps its record, and asks again without a new one: the law returns true for every input. -/
import Derived.Test.YtcellcjojfbajaaOwTold
import Derived.Test.YtcellcjojfbajaaFrame
namespace Go.Proofs.Ytcellcjojfbajaa
set_option linter.unusedSimpArgs false
set_option linter.unusedVariables false
open Go.RowKit
open Go.ChangeShapes Go.WideShapes Go.ChangeAt

theorem Try.resTypes3 : Try.f3.resultTypes = #[4] := by kernel_rfl
theorem ownerTold_rdop : Try.prog.readableRec 23 = true ∧ 23 < Try.prog.types.size := ⟨by kernel_rfl, of_decide_eq_true (by kernel_rfl)⟩
theorem ownerTold_rdres : Try.prog.readableRec 25 = true ∧ 25 < Try.prog.types.size := ⟨by kernel_rfl, of_decide_eq_true (by kernel_rfl)⟩
theorem ownerTold_rdu8 : Try.prog.readableRec 5 = true ∧ 5 < Try.prog.types.size := ⟨by kernel_rfl, of_decide_eq_true (by kernel_rfl)⟩
set_option maxRecDepth 100000 in
theorem ownerTold_lifted (os : Os) (started : os.Started) (H : Type) (enc : TypeId × Value → H) :
    ReturnsInHanded {} Try.checked os 3 .any (Rows.ownerToldSpec.pre6 enc Try.prog Try.f3 Rows.ownerToldRow.domain false) (Rows.ownerToldSpec.post enc Try.prog Try.f3 false true false false) := by
  refine law_lifted (C := Try.checked) (T := 4) Try.own started (by kernel_rfl) Try.func3
    (ChangeSpec.witness6 (enc := enc) (C := Try.checked) false ⟨#[], #[.agg #[.int .u8 0, .int .i32 0], .agg #[.int .u8 0, .int .i32 0], .int .u8 0], []⟩ 8 (by kernel_rfl) (by kernel_rfl) (by kernel_rfl) (by kernel_rfl))
    Try.laidOut (fun t ht => ?_) Try.resTypes3 Try.underlying4 rfl (fun ds hd => ?_) ?_
  · rw [Try.params3] at ht
    exact (show ∀ t ∈ [23, 25, 5], Try.prog.readableRec t = true ∧ t < Try.prog.types.size from List.forall_mem_cons.2 ⟨ownerTold_rdop, List.forall_mem_cons.2 ⟨ownerTold_rdres, List.forall_mem_cons.2 ⟨ownerTold_rdu8, fun _ h => by cases h⟩⟩⟩) t ht
  · rw [Try.params3] at hd
    match ds, hd with
    | [e0, e1, e2], _ => rfl
  · intro W base args ds p hval0 hA0
    have hval : ∀ (j : Nat) t v, Try.f3.params[j]? = some t → args[j]? = some v → Value.okWide Try.prog W .any base t v := hval0
    have hA : DataW.TrodAll enc Try.prog W 0 (fun _ => true) true Try.f3.params.toList args.toList ds p := hA0
    rw [Try.params3] at hA hval
    obtain ⟨v0, vs0, d0, ds0, p0, q0, hargs, rfl, rfl, h0, r0⟩ := trodAll_cons hA
    obtain ⟨v1, vs1, d1, ds1, p1, q1, rfl, rfl, rfl, h1, r1⟩ := trodAll_cons r0
    obtain ⟨v2, vs2, d2, ds2, p2, q2, rfl, rfl, rfl, h2, r2⟩ := trodAll_cons r1
    obtain ⟨rfl, rfl, rfl⟩ := trodAll_nil r2
    obtain rfl : args = #[v0, v1, v2] := by cases args; simp_all
    obtain ⟨ok, ov, rfl, o1, o2, o3, o4⟩ := open_op (hval 0 23 v0 rfl rfl) h0
    obtain ⟨sk, sv, rfl, s1, s2, s3, s4⟩ := open_res (hval 1 25 v1 rfl rfl) h1
    obtain ⟨k, rfl, _, _, wk⟩ := open_int Try.underlying5 (hval 2 5 v2 rfl rfl) h2
    have bk := bounds_u8 wk
    exact ownerTold_any ok ov sk sv k W o1 o2 o3 o4 s1 s2 s3 s4 bk.1 bk.2

/-- OwnerTold: for every input the call returns true. -/
theorem ownerTold_said : Rows.OwnerToldSaid :=
  OpenClaim.holds_of_wide 3 Try.f3 rfl rfl rfl rfl rfl rfl rfl ⟨rfl, rfl, rfl, rfl, rfl⟩ rfl rfl rfl rfl rfl (by as_aux_lemma => kernel_rfl) Try.func3 (by as_aux_lemma => kernel_rfl)
    (of_decide_eq_true (by as_aux_lemma => kernel_rfl)) (by unfold Func.isWrapper; first | (rw [if_pos (by decide +kernel)]; kernel_rfl) | (rw [if_neg (by decide +kernel)]; exact ⟨rfl, rfl⟩))
    (fun os started H enc _ => ownerTold_lifted os started H enc)
#print axioms ownerTold_said

end Go.Proofs.Ytcellcjojfbajaa
