/- WordParts: a value more makes a word 256 greater, a kind more 1: the law returns true for every operation. -/
import Derived.Test.YtomiibhdafcmhaaWord
import Derived.Test.YtomiibhdafcmhaaWordKnown
import Derived.Test.YtomiibhdafcmhaaFrame
import Derived.Deep.RegionHeld3
namespace Go.Proofs.Ytomiibhdafcmhaa
open Go.RowKit
open Go.ChangeShapes Go.WideShapes Go.ChangeAt

set_option maxHeartbeats 2000000 in
theorem parts_a (k v : Int) (w : World) (h1 : 0 ≤ k) (h2 : k ≤ 255) (h3 : -2147483648 ≤ v) (h4 : v ≤ 2147483647) (h5 : k < 255) (h6 : v < 2147483647) :
    Calls Try.prog 3 #[.agg #[.int .u8 k, .int .i32 v]] w fun e w' => e = .returned (.bool true) ∧ Below w.heap.size w w' := by
  have e1 : ((v + 1) == v) = false := by simp; omega
  have e3 : IntKind.i64.wrap (wordOf k (v + 1) - wordOf k v) = 256 := by rw [show wordOf k (v + 1) - wordOf k v = 256 from by unfold wordOf; omega]; rfl
  have e2 : ((k + 1) == k) = false := by simp; omega
  have e4 : IntKind.i64.wrap (wordOf (k + 1) v - wordOf k v) = 1 := by rw [show wordOf (k + 1) v - wordOf k v = 1 from by unfold wordOf; omega]; rfl
  go_enter Try.func3, Try.ntmps3
  go_wp2
  obtain ⟨W, hW, hB, hz, c0, c1, c2, c3, c4, c5⟩ : ∃ W, W = (((w.alloc (Obj.cells #[.int .u8 k, .int .i32 v] 23)).alloc (Obj.cells #[.int .u8 k, .int .i32 (v + 1)] 23)).alloc (Obj.cells #[.int .u8 (k + 1), .int .i32 v] 23)) ∧ Below w.heap.size w W ∧ W.heap.size = w.heap.size + 1 + 1 + 1 ∧ W.cell? ⟨w.heap.size, 0, none⟩ = some (.int .u8 k) ∧ W.cell? ⟨w.heap.size, 1, none⟩ = some (.int .i32 v) ∧ W.cell? ⟨w.heap.size + 1, 0, none⟩ = some (.int .u8 k) ∧ W.cell? ⟨w.heap.size + 1, 1, none⟩ = some (.int .i32 (v + 1)) ∧ W.cell? ⟨w.heap.size + 1 + 1, 0, none⟩ = some (.int .u8 (k + 1)) ∧ W.cell? ⟨w.heap.size + 1 + 1, 1, none⟩ = some (.int .i32 v) :=
    ⟨_, rfl, by go_grown, by go_simp, by go_simp, by go_simp, by go_simp, by go_simp, by go_simp, by go_simp⟩
  rw [← hW]
  clear hW
  have hz1 : w.heap.size + 1 + 1 < W.heap.size := by omega
  clear hz
  go_region_held3 (fun w1 => Below w.heap.size w w1 ∧ w.heap.size + 1 + 1 < w1.heap.size ∧ w1.cell? ⟨w.heap.size, 0, none⟩ = some (.int .u8 k) ∧ w1.cell? ⟨w.heap.size, 1, none⟩ = some (.int .i32 v) ∧ w1.cell? ⟨w.heap.size + 1, 0, none⟩ = some (.int .u8 k) ∧ w1.cell? ⟨w.heap.size + 1, 1, none⟩ = some (.int .i32 (v + 1)) ∧ w1.cell? ⟨w.heap.size + 1 + 1, 0, none⟩ = some (.int .u8 (k + 1)) ∧ w1.cell? ⟨w.heap.size + 1 + 1, 1, none⟩ = some (.int .i32 v))
    (first | (exact ⟨hB.drew, hz1, c0, c1, c2, c3, c4, c5⟩) | (go_split_ands; refine ⟨?_, ?_, ?_, ?_, ?_, ?_, ?_, ?_⟩ <;> first | (have := hb.size; omega) | (rw [hb.cell (by simp; omega)]; assumption) | exact Below.trans (by assumption) (hb.mono (by omega))))
    (first | (go_at_call 8; refine (known1_any _).mono ?_; rintro e w' ⟨rfl, hb⟩) | (go_at_call 9; refine (wOp_any _ _ _ (by omega) (by omega) (by omega) (by omega)).mono ?_; rintro e w' ⟨rfl, hb⟩))
  go_wp2
  go_ret
  go_split_ands
  exact ⟨by first | rfl | simp | (simp [e5]), by assumption⟩

set_option maxHeartbeats 2000000 in
theorem parts_b (k v : Int) (w : World) (h1 : 0 ≤ k) (h2 : k ≤ 255) (h3 : -2147483648 ≤ v) (h4 : v ≤ 2147483647) (h5 : ¬ k < 255) (h6 : v < 2147483647) :
    Calls Try.prog 3 #[.agg #[.int .u8 k, .int .i32 v]] w fun e w' => e = .returned (.bool true) ∧ Below w.heap.size w w' := by
  have e1 : ((v + 1) == v) = false := by simp; omega
  have e3 : IntKind.i64.wrap (wordOf k (v + 1) - wordOf k v) = 256 := by rw [show wordOf k (v + 1) - wordOf k v = 256 from by unfold wordOf; omega]; rfl
  have e5 : IntKind.i64.wrap 0 = 0 := rfl
  go_enter Try.func3, Try.ntmps3
  go_wp2
  obtain ⟨W, hW, hB, hz, c0, c1, c2, c3, c4, c5⟩ : ∃ W, W = (((w.alloc (Obj.cells #[.int .u8 k, .int .i32 v] 23)).alloc (Obj.cells #[.int .u8 k, .int .i32 (v + 1)] 23)).alloc (Obj.cells #[.int .u8 (k), .int .i32 v] 23)) ∧ Below w.heap.size w W ∧ W.heap.size = w.heap.size + 1 + 1 + 1 ∧ W.cell? ⟨w.heap.size, 0, none⟩ = some (.int .u8 k) ∧ W.cell? ⟨w.heap.size, 1, none⟩ = some (.int .i32 v) ∧ W.cell? ⟨w.heap.size + 1, 0, none⟩ = some (.int .u8 k) ∧ W.cell? ⟨w.heap.size + 1, 1, none⟩ = some (.int .i32 (v + 1)) ∧ W.cell? ⟨w.heap.size + 1 + 1, 0, none⟩ = some (.int .u8 (k)) ∧ W.cell? ⟨w.heap.size + 1 + 1, 1, none⟩ = some (.int .i32 v) :=
    ⟨_, rfl, by go_grown, by go_simp, by go_simp, by go_simp, by go_simp, by go_simp, by go_simp, by go_simp⟩
  rw [← hW]
  clear hW
  have hz1 : w.heap.size + 1 + 1 < W.heap.size := by omega
  clear hz
  go_region_held3 (fun w1 => Below w.heap.size w w1 ∧ w.heap.size + 1 + 1 < w1.heap.size ∧ w1.cell? ⟨w.heap.size, 0, none⟩ = some (.int .u8 k) ∧ w1.cell? ⟨w.heap.size, 1, none⟩ = some (.int .i32 v) ∧ w1.cell? ⟨w.heap.size + 1, 0, none⟩ = some (.int .u8 k) ∧ w1.cell? ⟨w.heap.size + 1, 1, none⟩ = some (.int .i32 (v + 1)) ∧ w1.cell? ⟨w.heap.size + 1 + 1, 0, none⟩ = some (.int .u8 (k)) ∧ w1.cell? ⟨w.heap.size + 1 + 1, 1, none⟩ = some (.int .i32 v))
    (first | (exact ⟨hB.drew, hz1, c0, c1, c2, c3, c4, c5⟩) | (go_split_ands; refine ⟨?_, ?_, ?_, ?_, ?_, ?_, ?_, ?_⟩ <;> first | (have := hb.size; omega) | (rw [hb.cell (by simp; omega)]; assumption) | exact Below.trans (by assumption) (hb.mono (by omega))))
    (first | (go_at_call 8; refine (known1_any _).mono ?_; rintro e w' ⟨rfl, hb⟩) | (go_at_call 9; refine (wOp_any _ _ _ (by omega) (by omega) (by omega) (by omega)).mono ?_; rintro e w' ⟨rfl, hb⟩))
  go_wp2
  go_ret
  go_split_ands
  exact ⟨by first | rfl | simp | (simp [e5]), by assumption⟩

set_option maxHeartbeats 2000000 in
theorem parts_c (k v : Int) (w : World) (h1 : 0 ≤ k) (h2 : k ≤ 255) (h3 : -2147483648 ≤ v) (h4 : v ≤ 2147483647) (h5 : k < 255) (h6 : ¬ v < 2147483647) :
    Calls Try.prog 3 #[.agg #[.int .u8 k, .int .i32 v]] w fun e w' => e = .returned (.bool true) ∧ Below w.heap.size w w' := by
  have e2 : ((k + 1) == k) = false := by simp; omega
  have e4 : IntKind.i64.wrap (wordOf (k + 1) v - wordOf k v) = 1 := by rw [show wordOf (k + 1) v - wordOf k v = 1 from by unfold wordOf; omega]; rfl
  have e5 : IntKind.i64.wrap 0 = 0 := rfl
  go_enter Try.func3, Try.ntmps3
  go_wp2
  obtain ⟨W, hW, hB, hz, c0, c1, c2, c3, c4, c5⟩ : ∃ W, W = (((w.alloc (Obj.cells #[.int .u8 k, .int .i32 v] 23)).alloc (Obj.cells #[.int .u8 k, .int .i32 (v)] 23)).alloc (Obj.cells #[.int .u8 (k + 1), .int .i32 v] 23)) ∧ Below w.heap.size w W ∧ W.heap.size = w.heap.size + 1 + 1 + 1 ∧ W.cell? ⟨w.heap.size, 0, none⟩ = some (.int .u8 k) ∧ W.cell? ⟨w.heap.size, 1, none⟩ = some (.int .i32 v) ∧ W.cell? ⟨w.heap.size + 1, 0, none⟩ = some (.int .u8 k) ∧ W.cell? ⟨w.heap.size + 1, 1, none⟩ = some (.int .i32 (v)) ∧ W.cell? ⟨w.heap.size + 1 + 1, 0, none⟩ = some (.int .u8 (k + 1)) ∧ W.cell? ⟨w.heap.size + 1 + 1, 1, none⟩ = some (.int .i32 v) :=
    ⟨_, rfl, by go_grown, by go_simp, by go_simp, by go_simp, by go_simp, by go_simp, by go_simp, by go_simp⟩
  rw [← hW]
  clear hW
  have hz1 : w.heap.size + 1 + 1 < W.heap.size := by omega
  clear hz
  go_region_held3 (fun w1 => Below w.heap.size w w1 ∧ w.heap.size + 1 + 1 < w1.heap.size ∧ w1.cell? ⟨w.heap.size, 0, none⟩ = some (.int .u8 k) ∧ w1.cell? ⟨w.heap.size, 1, none⟩ = some (.int .i32 v) ∧ w1.cell? ⟨w.heap.size + 1, 0, none⟩ = some (.int .u8 k) ∧ w1.cell? ⟨w.heap.size + 1, 1, none⟩ = some (.int .i32 (v)) ∧ w1.cell? ⟨w.heap.size + 1 + 1, 0, none⟩ = some (.int .u8 (k + 1)) ∧ w1.cell? ⟨w.heap.size + 1 + 1, 1, none⟩ = some (.int .i32 v))
    (first | (exact ⟨hB.drew, hz1, c0, c1, c2, c3, c4, c5⟩) | (go_split_ands; refine ⟨?_, ?_, ?_, ?_, ?_, ?_, ?_, ?_⟩ <;> first | (have := hb.size; omega) | (rw [hb.cell (by simp; omega)]; assumption) | exact Below.trans (by assumption) (hb.mono (by omega))))
    (first | (go_at_call 8; refine (known1_any _).mono ?_; rintro e w' ⟨rfl, hb⟩) | (go_at_call 9; refine (wOp_any _ _ _ (by omega) (by omega) (by omega) (by omega)).mono ?_; rintro e w' ⟨rfl, hb⟩))
  go_wp2
  go_ret
  go_split_ands
  exact ⟨by first | rfl | simp | (simp [e5]), by assumption⟩

set_option maxHeartbeats 2000000 in
theorem parts_d (k v : Int) (w : World) (h1 : 0 ≤ k) (h2 : k ≤ 255) (h3 : -2147483648 ≤ v) (h4 : v ≤ 2147483647) (h5 : ¬ k < 255) (h6 : ¬ v < 2147483647) :
    Calls Try.prog 3 #[.agg #[.int .u8 k, .int .i32 v]] w fun e w' => e = .returned (.bool true) ∧ Below w.heap.size w w' := by
  have e5 : IntKind.i64.wrap 0 = 0 := rfl
  go_enter Try.func3, Try.ntmps3
  go_wp2
  obtain ⟨W, hW, hB, hz, c0, c1, c2, c3, c4, c5⟩ : ∃ W, W = (((w.alloc (Obj.cells #[.int .u8 k, .int .i32 v] 23)).alloc (Obj.cells #[.int .u8 k, .int .i32 (v)] 23)).alloc (Obj.cells #[.int .u8 (k), .int .i32 v] 23)) ∧ Below w.heap.size w W ∧ W.heap.size = w.heap.size + 1 + 1 + 1 ∧ W.cell? ⟨w.heap.size, 0, none⟩ = some (.int .u8 k) ∧ W.cell? ⟨w.heap.size, 1, none⟩ = some (.int .i32 v) ∧ W.cell? ⟨w.heap.size + 1, 0, none⟩ = some (.int .u8 k) ∧ W.cell? ⟨w.heap.size + 1, 1, none⟩ = some (.int .i32 (v)) ∧ W.cell? ⟨w.heap.size + 1 + 1, 0, none⟩ = some (.int .u8 (k)) ∧ W.cell? ⟨w.heap.size + 1 + 1, 1, none⟩ = some (.int .i32 v) :=
    ⟨_, rfl, by go_grown, by go_simp, by go_simp, by go_simp, by go_simp, by go_simp, by go_simp, by go_simp⟩
  rw [← hW]
  clear hW
  have hz1 : w.heap.size + 1 + 1 < W.heap.size := by omega
  clear hz
  go_region_held3 (fun w1 => Below w.heap.size w w1 ∧ w.heap.size + 1 + 1 < w1.heap.size ∧ w1.cell? ⟨w.heap.size, 0, none⟩ = some (.int .u8 k) ∧ w1.cell? ⟨w.heap.size, 1, none⟩ = some (.int .i32 v) ∧ w1.cell? ⟨w.heap.size + 1, 0, none⟩ = some (.int .u8 k) ∧ w1.cell? ⟨w.heap.size + 1, 1, none⟩ = some (.int .i32 (v)) ∧ w1.cell? ⟨w.heap.size + 1 + 1, 0, none⟩ = some (.int .u8 (k)) ∧ w1.cell? ⟨w.heap.size + 1 + 1, 1, none⟩ = some (.int .i32 v))
    (first | (exact ⟨hB.drew, hz1, c0, c1, c2, c3, c4, c5⟩) | (go_split_ands; refine ⟨?_, ?_, ?_, ?_, ?_, ?_, ?_, ?_⟩ <;> first | (have := hb.size; omega) | (rw [hb.cell (by simp; omega)]; assumption) | exact Below.trans (by assumption) (hb.mono (by omega))))
    (first | (go_at_call 8; refine (known1_any _).mono ?_; rintro e w' ⟨rfl, hb⟩) | (go_at_call 9; refine (wOp_any _ _ _ (by omega) (by omega) (by omega) (by omega)).mono ?_; rintro e w' ⟨rfl, hb⟩))
  go_wp2
  go_ret
  go_split_ands
  exact ⟨by first | rfl | simp | (simp [e5]), by assumption⟩

theorem parts_any (k v : Int) (w : World) (h1 : 0 ≤ k) (h2 : k ≤ 255) (h3 : -2147483648 ≤ v) (h4 : v ≤ 2147483647) :
    Calls Try.prog 3 #[.agg #[.int .u8 k, .int .i32 v]] w fun e w' => e = .returned (.bool true) ∧ Below w.heap.size w w' := by
  by_cases h6 : v < 2147483647 <;> by_cases h5 : k < 255
  · exact parts_a k v w h1 h2 h3 h4 h5 h6
  · exact parts_b k v w h1 h2 h3 h4 h5 h6
  · exact parts_c k v w h1 h2 h3 h4 h5 h6
  · exact parts_d k v w h1 h2 h3 h4 h5 h6

theorem Try.resTypes3 : Try.f3.resultTypes = #[4] := by kernel_rfl
theorem wordParts_rdop : Try.prog.readableRec 23 = true ∧ 23 < Try.prog.types.size := ⟨by kernel_rfl, of_decide_eq_true (by kernel_rfl)⟩
set_option maxRecDepth 100000 in
theorem wordParts_lifted (os : Os) (started : os.Started) (H : Type) (enc : TypeId × Value → H) :
    ReturnsInHanded {} Try.checked os 3 .any (Rows.wordPartsSpec.pre6 enc Try.prog Try.f3 Rows.wordPartsRow.domain false) (Rows.wordPartsSpec.post enc Try.prog Try.f3 false true false false) := by
  refine law_lifted (C := Try.checked) (T := 4) Try.own started (by kernel_rfl) Try.func3
    (ChangeSpec.witness6 (enc := enc) (C := Try.checked) false ⟨#[], #[.agg #[.int .u8 0, .int .i32 0]], []⟩ 8 (by kernel_rfl) (by kernel_rfl) (by kernel_rfl) (by kernel_rfl))
    Try.laidOut (fun t ht => ?_) Try.resTypes3 Try.underlying4 rfl (fun ds hd => ?_) ?_
  · rw [Try.params3] at ht
    exact (show ∀ t ∈ [23], Try.prog.readableRec t = true ∧ t < Try.prog.types.size from List.forall_mem_cons.2 ⟨wordParts_rdop, fun _ h => by cases h⟩) t ht
  · rw [Try.params3] at hd
    match ds, hd with
    | [e0], _ => rfl
  · intro W base args ds p hval0 hA0
    have hval : ∀ (j : Nat) t v, Try.f3.params[j]? = some t → args[j]? = some v → Value.okWide Try.prog W .any base t v := hval0
    have hA : DataW.TrodAll enc Try.prog W 0 (fun _ => true) true Try.f3.params.toList args.toList ds p := hA0
    rw [Try.params3] at hA hval
    obtain ⟨v0, vs0, d0, ds0, p0, q0, hargs, rfl, rfl, h0, r0⟩ := trodAll_cons hA
    obtain ⟨rfl, rfl, rfl⟩ := trodAll_nil r0
    obtain rfl : args = #[v0] := by cases args; simp_all
    obtain ⟨ok, ov, rfl, o1, o2, o3, o4⟩ := open_op (hval 0 23 v0 rfl rfl) h0
    exact parts_any ok ov W o1 o2 o3 o4

/-- WordParts: for every input the call returns true. -/
theorem wordParts_said : Rows.WordPartsSaid :=
  OpenClaim.holds_of_wide 3 Try.f3 rfl rfl rfl rfl rfl rfl rfl ⟨rfl, rfl, rfl, rfl, rfl⟩ rfl rfl rfl rfl rfl (by as_aux_lemma => kernel_rfl) Try.func3 (by as_aux_lemma => kernel_rfl)
    (of_decide_eq_true (by as_aux_lemma => kernel_rfl)) (by unfold Func.isWrapper; first | (rw [if_pos (by decide +kernel)]; kernel_rfl) | (rw [if_neg (by decide +kernel)]; exact ⟨rfl, rfl⟩))
    (fun os started H enc _ => wordParts_lifted os started H enc)
#print axioms wordParts_said

end Go.Proofs.Ytomiibhdafcmhaa
