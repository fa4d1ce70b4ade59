/- WordAsks: all calls of any operations and numbers are what the reference says: the law returns true for every input. -/
import Derived.Test.YtomiibhdafcmhaaWord
import Derived.Test.YtomiibhdafcmhaaWordKnown
import Derived.Test.YtomiibhdafcmhaaFrame
import Derived.Deep.RegionHeld3
namespace Go.Proofs.Ytomiibhdafcmhaa
open Go.RowKit
open Go.ChangeShapes Go.WideShapes Go.ChangeAt

set_option maxHeartbeats 2000000 in
theorem wordAsks_any (k v c x n j : Int) (w : World) (h1 : 0 ≤ k) (h2 : k ≤ 255) (h3 : -2147483648 ≤ v) (h4 : v ≤ 2147483647) (i1 : 0 ≤ c) (i2 : c ≤ 255) (i3 : -2147483648 ≤ x) (i4 : x ≤ 2147483647) :
    Calls Try.prog 6 #[.agg #[.int .u8 k, .int .i32 v], .agg #[.int .u8 c, .int .i32 x], .int .i64 n, .int .i32 j] w fun e w' => e = .returned (.bool true) ∧ Below w.heap.size w w' := by
  go_enter Try.func6, Try.ntmps6
  go_wp2
  obtain ⟨W, hW, hB, hz, c0, c1, c2, c3⟩ : ∃ W, W = ((w.alloc (Obj.cells #[.int .u8 k, .int .i32 v] 23)).alloc (Obj.cells #[.int .u8 c, .int .i32 x] 29)) ∧ Below w.heap.size w W ∧ W.heap.size = w.heap.size + 1 + 1 ∧ W.cell? ⟨w.heap.size, 0, none⟩ = some (.int .u8 k) ∧ W.cell? ⟨w.heap.size, 1, none⟩ = some (.int .i32 v) ∧ W.cell? ⟨w.heap.size + 1, 0, none⟩ = some (.int .u8 c) ∧ W.cell? ⟨w.heap.size + 1, 1, none⟩ = some (.int .i32 x) :=
    ⟨_, rfl, by go_grown, by go_simp, by go_simp, by go_simp, by go_simp, by go_simp⟩
  rw [← hW]
  clear hW
  have hz1 : w.heap.size + 1 < W.heap.size := by omega
  clear hz
  go_region_held3 (fun w1 => Below w.heap.size w w1 ∧ w.heap.size + 1 < w1.heap.size ∧ w1.cell? ⟨w.heap.size, 0, none⟩ = some (.int .u8 k) ∧ w1.cell? ⟨w.heap.size, 1, none⟩ = some (.int .i32 v) ∧ w1.cell? ⟨w.heap.size + 1, 0, none⟩ = some (.int .u8 c) ∧ w1.cell? ⟨w.heap.size + 1, 1, none⟩ = some (.int .i32 x))
    (first | (exact ⟨hB.drew, hz1, c0, c1, c2, c3⟩) | (go_split_ands; refine ⟨?_, ?_, ?_, ?_, ?_, ?_⟩ <;> first | (have := hb.size; omega) | (rw [hb.cell (by simp; omega)]; assumption) | exact Below.trans (by assumption) (hb.mono (by omega))))
    (first | (go_at_call 8; refine (known1_any _).mono ?_; rintro e w' ⟨rfl, hb⟩) | (go_at_call 14; refine (asks1_any _ _).mono ?_; rintro e w' ⟨rfl, hb⟩) | (go_at_call 9; refine (wOp_any _ _ _ (by omega) (by omega) (by omega) (by omega)).mono ?_; rintro e w' ⟨rfl, hb⟩) | (go_at_call 15; refine (rOp_any _ _ _ (by omega) (by omega) (by omega) (by omega)).mono ?_; rintro e w' ⟨rfl, hb⟩) | (go_at_call 10; refine (wRes_any _ _ _ (by omega) (by omega) (by omega) (by omega)).mono ?_; rintro e w' ⟨rfl, hb⟩) | (go_at_call 16; refine (rRes_any _ _ _ (by omega) (by omega) (by omega) (by omega)).mono ?_; rintro e w' ⟨rfl, hb⟩))
  go_wp2
  go_ret
  go_split_ands
  exact ⟨by first | rfl | (simp; done) | (simp; omega), by assumption⟩

theorem Try.resTypes6 : Try.f6.resultTypes = #[4] := by kernel_rfl
theorem wordAsks_rdop : Try.prog.readableRec 23 = true ∧ 23 < Try.prog.types.size := ⟨by kernel_rfl, of_decide_eq_true (by kernel_rfl)⟩
theorem wordAsks_rdres : Try.prog.readableRec 29 = true ∧ 29 < Try.prog.types.size := ⟨by kernel_rfl, of_decide_eq_true (by kernel_rfl)⟩
theorem wordAsks_rdi64 : Try.prog.readableRec 2 = true ∧ 2 < Try.prog.types.size := ⟨by kernel_rfl, of_decide_eq_true (by kernel_rfl)⟩
theorem wordAsks_rdi32 : Try.prog.readableRec 21 = true ∧ 21 < Try.prog.types.size := ⟨by kernel_rfl, of_decide_eq_true (by kernel_rfl)⟩
set_option maxRecDepth 100000 in
theorem wordAsks_lifted (os : Os) (started : os.Started) (H : Type) (enc : TypeId × Value → H) :
    ReturnsInHanded {} Try.checked os 6 .any (Rows.wordAsksSpec.pre6 enc Try.prog Try.f6 Rows.wordAsksRow.domain false) (Rows.wordAsksSpec.post enc Try.prog Try.f6 false true false false) := by
  refine law_lifted (C := Try.checked) (T := 4) Try.own started (by kernel_rfl) Try.func6
    (ChangeSpec.witness6 (enc := enc) (C := Try.checked) false ⟨#[], #[.agg #[.int .u8 0, .int .i32 0], .agg #[.int .u8 0, .int .i32 0], .int .i64 0, .int .i32 0], []⟩ 8 (by kernel_rfl) (by kernel_rfl) (by kernel_rfl) (by kernel_rfl))
    Try.laidOut (fun t ht => ?_) Try.resTypes6 Try.underlying4 rfl (fun ds hd => ?_) ?_
  · rw [Try.params6] at ht
    exact (show ∀ t ∈ [23, 29, 2, 21], Try.prog.readableRec t = true ∧ t < Try.prog.types.size from List.forall_mem_cons.2 ⟨wordAsks_rdop, List.forall_mem_cons.2 ⟨wordAsks_rdres, List.forall_mem_cons.2 ⟨wordAsks_rdi64, List.forall_mem_cons.2 ⟨wordAsks_rdi32, fun _ h => by cases h⟩⟩⟩⟩) t ht
  · rw [Try.params6] at hd
    match ds, hd with
    | [e0, e1, e2, e3], _ => rfl
  · intro W base args ds p hval0 hA0
    have hval : ∀ (j : Nat) t v, Try.f6.params[j]? = some t → args[j]? = some v → Value.okWide Try.prog W .any base t v := hval0
    have hA : DataW.TrodAll enc Try.prog W 0 (fun _ => true) true Try.f6.params.toList args.toList ds p := hA0
    rw [Try.params6] at hA hval
    obtain ⟨v0, vs0, d0, ds0, p0, q0, hargs, rfl, rfl, h0, r0⟩ := trodAll_cons hA
    obtain ⟨v1, vs1, d1, ds1, p1, q1, rfl, rfl, rfl, h1, r1⟩ := trodAll_cons r0
    obtain ⟨v2, vs2, d2, ds2, p2, q2, rfl, rfl, rfl, h2, r2⟩ := trodAll_cons r1
    obtain ⟨v3, vs3, d3, ds3, p3, q3, rfl, rfl, rfl, h3, r3⟩ := trodAll_cons r2
    obtain ⟨rfl, rfl, rfl⟩ := trodAll_nil r3
    obtain rfl : args = #[v0, v1, v2, v3] := by cases args; simp_all
    obtain ⟨ok, ov, rfl, o1, o2, o3, o4⟩ := open_op (hval 0 23 v0 rfl rfl) h0
    obtain ⟨sk, sv, rfl, s1, s2, s3, s4⟩ := open_res (hval 1 29 v1 rfl rfl) h1
    obtain ⟨n, rfl, _, _, wn⟩ := open_int Try.underlying2 (hval 2 2 v2 rfl rfl) h2
    have bn := bounds_i64 wn
    obtain ⟨j, rfl, _, _, wj⟩ := open_int Try.underlying21 (hval 3 21 v3 rfl rfl) h3
    have bj := bounds_i32 wj
    exact wordAsks_any ok ov sk sv n j W o1 o2 o3 o4 s1 s2 s3 s4

/-- WordAsks: for every input the call returns true. -/
theorem wordAsks_said : Rows.WordAsksSaid :=
  OpenClaim.holds_of_wide 6 Try.f6 rfl rfl rfl rfl rfl rfl rfl ⟨rfl, rfl, rfl, rfl, rfl⟩ rfl rfl rfl rfl rfl (by as_aux_lemma => kernel_rfl) Try.func6 (by as_aux_lemma => kernel_rfl)
    (of_decide_eq_true (by as_aux_lemma => kernel_rfl)) (by unfold Func.isWrapper; first | (rw [if_pos (by decide +kernel)]; kernel_rfl) | (rw [if_neg (by decide +kernel)]; exact ⟨rfl, rfl⟩))
    (fun os started H enc _ => wordAsks_lifted os started H enc)
#print axioms wordAsks_said

end Go.Proofs.Ytomiibhdafcmhaa
