/- OwnerIdle: who does not ask does nothing; who asks already can't ask again; one step comes to one cell: the law returns true for every input. -/
import Derived.Test.YtcellcjojfbajaaOwIdA
import Derived.Test.YtcellcjojfbajaaOwIdB
import Derived.Test.YtcellcjojfbajaaOwIdC
import Derived.Test.YtcellcjojfbajaaOwO
import Derived.Test.YtcellcjojfbajaaFrame
namespace Go.Proofs.Ytcellcjojfbajaa
set_option linter.unusedSimpArgs false
set_option linter.unusedVariables false
open Go.RowKit
open Go.ChangeShapes Go.WideShapes Go.ChangeAt

set_option maxRecDepth 100000 in
set_option maxHeartbeats 2000000 in
theorem ownerIdle_l (l : Value) (ls : List Int) (i0 i1 i2 i3 i4 i5 i6 i7 i8 i9 i10 i11 : Int) (bt : Value) (n : Nat) (F : Nat → Int) (ok ov k : Int) (w : World) (hl : InSlice .i64 w l ls) (hI : Its w bt n F) (r1 : -9223372036854775808 ≤ i2) (r2 : i2 ≤ 9223372036854775807) (o1 : 0 ≤ ok) (o2 : ok ≤ 255) (o3 : -2147483648 ≤ ov) (o4 : ov ≤ 2147483647) (k0 : 0 ≤ k) (k1 : k ≤ 255) (h : 150 < ls.length) : Calls Try.prog 7 #[.agg #[.int .i64 i0, .int .i64 i1, .int .i64 i2, .int .i64 i3, .int .i64 i4, .int .i64 i5, .int .i64 i6, .int .i64 i7, .int .i64 i8, .int .i64 i9, .int .i64 i10, .int .i64 i11, bt], l, .agg #[.int .u8 ok, .int .i32 ov], .int .u8 k] w fun e w' => e = .returned (.bool true) ∧ Below w.heap.size w w' := by
  obtain ⟨ao, cap, rfl, -, -, -⟩ := hl
  obtain ⟨bo, bc, rfl, -⟩ := hI
  have h' : (150 : Int) < (ls.length : Int) := by omega
  skip
  go_enter Try.func7, Try.ntmps7
  go_wp2_with fail
  refine (known15_any _).mono ?_
  rintro e w1 ⟨rfl, hb⟩
  have B1 : Below w.heap.size w w1 := Below.trans (by go_grown) (hb.mono (by simp; try omega))
  go_wp2
  go_ret
  exact ⟨by first | rfl | (simp; done), B1⟩

set_option maxRecDepth 100000 in
set_option maxHeartbeats 2000000 in
theorem ownerIdle_n (l : Value) (ls : List Int) (i0 i1 i2 i3 i4 i5 i6 i7 i8 i9 i10 i11 : Int) (bt : Value) (n : Nat) (F : Nat → Int) (ok ov k : Int) (w : World) (hl : InSlice .i64 w l ls) (hI : Its w bt n F) (r1 : -9223372036854775808 ≤ i2) (r2 : i2 ≤ 9223372036854775807) (o1 : 0 ≤ ok) (o2 : ok ≤ 255) (o3 : -2147483648 ≤ ov) (o4 : ov ≤ 2147483647) (k0 : 0 ≤ k) (k1 : k ≤ 255) (h1 : ls.length ≤ 150) (h : 20 < n) : Calls Try.prog 7 #[.agg #[.int .i64 i0, .int .i64 i1, .int .i64 i2, .int .i64 i3, .int .i64 i4, .int .i64 i5, .int .i64 i6, .int .i64 i7, .int .i64 i8, .int .i64 i9, .int .i64 i10, .int .i64 i11, bt], l, .agg #[.int .u8 ok, .int .i32 ov], .int .u8 k] w fun e w' => e = .returned (.bool true) ∧ Below w.heap.size w w' := by
  obtain ⟨ao, cap, rfl, -, -, -⟩ := hl
  obtain ⟨bo, bc, rfl, -⟩ := hI
  have h' : (20 : Int) < (n : Int) := by omega
  have h1b : (ls.length : Int) ≤ 150 := by omega
  go_enter Try.func7, Try.ntmps7
  go_wp2_with fail
  refine (known15_any _).mono ?_
  rintro e w1 ⟨rfl, hb⟩
  have B1 : Below w.heap.size w w1 := Below.trans (by go_grown) (hb.mono (by simp; try omega))
  go_wp2
  go_ret
  exact ⟨by first | rfl | (simp; done), B1⟩

theorem ownerIdle_any (l : Value) (ls : List Int) (i0 i1 i2 i3 i4 i5 i6 i7 i8 i9 i10 i11 : Int) (bt : Value) (n : Nat) (F : Nat → Int) (ok ov k : Int) (w : World) (hl : InSlice .i64 w l ls) (hI : Its w bt n F) (r1 : -9223372036854775808 ≤ i2) (r2 : i2 ≤ 9223372036854775807) (o1 : 0 ≤ ok) (o2 : ok ≤ 255) (o3 : -2147483648 ≤ ov) (o4 : ov ≤ 2147483647) (k0 : 0 ≤ k) (k1 : k ≤ 255) : Calls Try.prog 7 #[.agg #[.int .i64 i0, .int .i64 i1, .int .i64 i2, .int .i64 i3, .int .i64 i4, .int .i64 i5, .int .i64 i6, .int .i64 i7, .int .i64 i8, .int .i64 i9, .int .i64 i10, .int .i64 i11, bt], l, .agg #[.int .u8 ok, .int .i32 ov], .int .u8 k] w fun e w' => e = .returned (.bool true) ∧ Below w.heap.size w w' := by
  by_cases h1 : 150 < ls.length
  · exact ownerIdle_l l ls i0 i1 i2 i3 i4 i5 i6 i7 i8 i9 i10 i11 bt n F ok ov k w hl hI r1 r2 o1 o2 o3 o4 k0 k1 h1
  · by_cases h2 : 20 < n
    · exact ownerIdle_n l ls i0 i1 i2 i3 i4 i5 i6 i7 i8 i9 i10 i11 bt n F ok ov k w hl hI r1 r2 o1 o2 o3 o4 k0 k1 (by omega) h2
    · by_cases h3 : i1 < 1
      · exact ownerIdle_a l ls i0 i1 i2 i3 i4 i5 i6 i7 i8 i9 i10 i11 bt n F ok ov k w hl hI r1 r2 o1 o2 o3 o4 k0 k1 (by omega) (by omega) h3
      · by_cases h4 : i1 ≤ 16
        · exact ownerIdle_b l ls i0 i1 i2 i3 i4 i5 i6 i7 i8 i9 i10 i11 bt n F ok ov k w hl hI r1 r2 o1 o2 o3 o4 k0 k1 (by omega) (by omega) (by omega) h4
        · exact ownerIdle_c l ls i0 i1 i2 i3 i4 i5 i6 i7 i8 i9 i10 i11 bt n F ok ov k w hl hI r1 r2 o1 o2 o3 o4 k0 k1 (by omega) (by omega) (by omega) (by omega)

theorem Try.resTypes7 : Try.f7.resultTypes = #[4] := by kernel_rfl
theorem ownerIdle_rdthread : Try.prog.readableRec 30 = true ∧ 30 < Try.prog.types.size := ⟨by kernel_rfl, of_decide_eq_true (by kernel_rfl)⟩
theorem ownerIdle_rds64 : Try.prog.readableRec 45 = true ∧ 45 < Try.prog.types.size := ⟨by kernel_rfl, of_decide_eq_true (by kernel_rfl)⟩
theorem ownerIdle_rdop : Try.prog.readableRec 23 = true ∧ 23 < Try.prog.types.size := ⟨by kernel_rfl, of_decide_eq_true (by kernel_rfl)⟩
theorem ownerIdle_rdu8 : Try.prog.readableRec 5 = true ∧ 5 < Try.prog.types.size := ⟨by kernel_rfl, of_decide_eq_true (by kernel_rfl)⟩
set_option maxRecDepth 100000 in
theorem ownerIdle_lifted (os : Os) (started : os.Started) (H : Type) (enc : TypeId × Value → H) :
    ReturnsInHanded {} Try.checked os 7 .any (Rows.ownerIdleSpec.pre6 enc Try.prog Try.f7 Rows.ownerIdleRow.domain false) (Rows.ownerIdleSpec.post enc Try.prog Try.f7 false true false false) := by
  refine law_lifted (C := Try.checked) (T := 4) Try.own started (by kernel_rfl) Try.func7
    (ChangeSpec.witness6 (enc := enc) (C := Try.checked) false ⟨#[], #[.agg #[.int .i64 0, .int .i64 0, .int .i64 0, .int .i64 0, .int .i64 0, .int .i64 0, .int .i64 0, .int .i64 0, .int .i64 0, .int .i64 0, .int .i64 0, .int .i64 0, .slice none 0 0], .slice none 0 0, .agg #[.int .u8 0, .int .i32 0], .int .u8 0], []⟩ 8 (by kernel_rfl) (by kernel_rfl) (by kernel_rfl) (by kernel_rfl))
    Try.laidOut (fun t ht => ?_) Try.resTypes7 Try.underlying4 rfl (fun ds hd => ?_) ?_
  · rw [Try.params7] at ht
    exact (show ∀ t ∈ [30, 45, 23, 5], Try.prog.readableRec t = true ∧ t < Try.prog.types.size from List.forall_mem_cons.2 ⟨ownerIdle_rdthread, List.forall_mem_cons.2 ⟨ownerIdle_rds64, List.forall_mem_cons.2 ⟨ownerIdle_rdop, List.forall_mem_cons.2 ⟨ownerIdle_rdu8, fun _ h => by cases h⟩⟩⟩⟩) t ht
  · rw [Try.params7] at hd
    match ds, hd with
    | [e0, e1, e2, e3], _ => rfl
  · intro W base args ds p hval0 hA0
    have hval : ∀ (j : Nat) t v, Try.f7.params[j]? = some t → args[j]? = some v → Value.okWide Try.prog W .any base t v := hval0
    have hA : DataW.TrodAll enc Try.prog W 0 (fun _ => true) true Try.f7.params.toList args.toList ds p := hA0
    rw [Try.params7] at hA hval
    obtain ⟨v0, vs0, d0, ds0, p0, q0, hargs, rfl, rfl, h0, r0⟩ := trodAll_cons hA
    obtain ⟨v1, vs1, d1, ds1, p1, q1, rfl, rfl, rfl, h1, r1⟩ := trodAll_cons r0
    obtain ⟨v2, vs2, d2, ds2, p2, q2, rfl, rfl, rfl, h2, r2⟩ := trodAll_cons r1
    obtain ⟨v3, vs3, d3, ds3, p3, q3, rfl, rfl, rfl, h3, r3⟩ := trodAll_cons r2
    obtain ⟨rfl, rfl, rfl⟩ := trodAll_nil r3
    obtain rfl : args = #[v0, v1, v2, v3] := by cases args; simp_all
    obtain ⟨i0, i1, i2, i3, i4, i5, i6, i7, i8, i9, i10, i11, tb, tn, tF, rfl, _, tI, t1, t2⟩ := open_thread2 (hval 0 30 v0 rfl rfl) h0
    obtain ⟨l, sl⟩ := open_inslice (k := .i64) Try.underlying45 Try.underlying2 (by kernel_rfl) (hval 1 45 v1 rfl rfl) h1
    obtain ⟨ok, ov, rfl, o1, o2, o3, o4⟩ := open_op (hval 2 23 v2 rfl rfl) h2
    obtain ⟨k, rfl, _, _, wk⟩ := open_int Try.underlying5 (hval 3 5 v3 rfl rfl) h3
    have bk := bounds_u8 wk
    exact ownerIdle_any v1 l i0 i1 i2 i3 i4 i5 i6 i7 i8 i9 i10 i11 tb tn tF ok ov k W sl tI t1 t2 o1 o2 o3 o4 bk.1 bk.2

/-- OwnerIdle: for every input the call returns true. -/
theorem ownerIdle_said : Rows.OwnerIdleSaid :=
  OpenClaim.holds_of_wide 7 Try.f7 rfl rfl rfl rfl rfl rfl rfl ⟨rfl, rfl, rfl, rfl, rfl⟩ rfl rfl rfl rfl rfl (by as_aux_lemma => kernel_rfl) Try.func7 (by as_aux_lemma => kernel_rfl)
    (of_decide_eq_true (by as_aux_lemma => kernel_rfl)) (by unfold Func.isWrapper; first | (rw [if_pos (by decide +kernel)]; kernel_rfl) | (rw [if_neg (by decide +kernel)]; exact ⟨rfl, rfl⟩))
    (fun os started H enc _ => ownerIdle_lifted os started H enc)
#print axioms ownerIdle_said

end Go.Proofs.Ytcellcjojfbajaa
