/- CellsSwaps: of two that swap from the same number to others the first alone does; back and forth it is as it was: the law returns true for every input. -/
import Derived.Test.YtepkpfnghgocgaaCellsPlain
import Derived.Test.YtepkpfnghgocgaaFrame
namespace Go.Proofs.Ytepkpfnghgocgaa
set_option linter.unusedSimpArgs false
set_option linter.unusedVariables false
open Go.RowKit
open Go.ChangeShapes Go.WideShapes Go.ChangeAt

set_option maxRecDepth 100000 in
set_option maxHeartbeats 2000000 in
theorem cellsSwaps_a (n at1 a b c K X : Int) (w : World) (n1 : 0 ≤ n) (n2 : n ≤ 255) (a1 : 0 ≤ at1) (a2 : at1 ≤ 255) (hK : 1 + n % 20 = K) (hX : at1 % K = X) (k1 : 1 ≤ K) (k2 : K ≤ 20) (x1 : 0 ≤ X) (x2 : X < K) (hab : a = b) :
    Calls Try.prog 6 #[.int .u8 n, .int .u8 at1, .int .i64 a, .int .i64 b, .int .i64 c] w fun e w' => e = .returned (.bool true) ∧ Below w.heap.size w w' := by
  subst hab
  go_enter Try.func6, Try.ntmps6
  go_wp2_with fail
  refine (New_ms K w _ (Below.refl _ _)).mono ?_
  rintro e w1 ⟨rfl, m1, -⟩
  go_wp2_with fail
  refine (Alloc_new m1 k1 (by omega)).mono ?_
  rintro e w2 ⟨g, xs, rfl, m0, hl, h0, -, -⟩
  have hlen : K = (xs.length : Int) := by omega
  have Hlen := Lib.hid hlen
  clear m1 hl h0 hlen
  go_wp2_with fail
  have cc := Store_ms m0 X a x1 (by have := Hlen.out; simp; omega) (by omega)
  refine cc.mono ?_
  clear cc
  rintro e w1 ⟨rfl, m1, -⟩
  clear m0
  have G := Lib.hid (getD_set_self xs X.toNat a (by have := Hlen.out; simp; omega))
  obtain ⟨ys, hys⟩ : ∃ l, xs.set X.toNat a = l := ⟨_, rfl⟩
  rw [hys] at m1 G
  have Hlen := Lib.hid (show K = (ys.length : Int) by rw [← hys]; have := Hlen.out; simpa using this)
  clear hys
  go_wp2_with fail
  have cc := Swap_ms_hit m1 X a a x1 (by have := Hlen.out; simp; omega) G.out (by omega)
  refine cc.mono ?_
  clear cc
  rintro e w2 ⟨rfl, m2, -⟩
  clear m1
  clear G
  have G := Lib.hid (getD_set_self ys X.toNat a (by have := Hlen.out; simp; omega))
  obtain ⟨zs, hys⟩ : ∃ l, ys.set X.toNat a = l := ⟨_, rfl⟩
  rw [hys] at m2 G
  have Hlen := Lib.hid (show K = (zs.length : Int) by rw [← hys]; have := Hlen.out; simpa using this)
  clear hys
  go_wp2_with fail
  have cc := Swap_ms_hit m2 X a c x1 (by have := Hlen.out; simp; omega) G.out (by omega)
  refine cc.mono ?_
  clear cc
  rintro e w3 ⟨rfl, m3, -⟩
  clear m2
  clear G
  have G := Lib.hid (getD_set_self zs X.toNat c (by have := Hlen.out; simp; omega))
  obtain ⟨us, hys⟩ : ∃ l, zs.set X.toNat c = l := ⟨_, rfl⟩
  rw [hys] at m3 G
  have Hlen := Lib.hid (show K = (us.length : Int) by rw [← hys]; have := Hlen.out; simpa using this)
  clear hys
  go_wp2_with fail
  have cc := Load_ms m3 X x1 (by have := Hlen.out; simp; omega) (by omega)
  rw [G.out] at cc
  refine cc.mono ?_
  clear cc
  rintro e w4 ⟨rfl, m4, -⟩
  clear m3
  go_wp2_with fail
  have cc := Swap_ms_hit m4 X c a x1 (by have := Hlen.out; simp; omega) G.out (by omega)
  refine cc.mono ?_
  clear cc
  rintro e w5 ⟨rfl, m5, -⟩
  clear m4
  clear G
  have G := Lib.hid (getD_set_self us X.toNat a (by have := Hlen.out; simp; omega))
  obtain ⟨vs, hys⟩ : ∃ l, us.set X.toNat a = l := ⟨_, rfl⟩
  rw [hys] at m5 G
  have Hlen := Lib.hid (show K = (vs.length : Int) by rw [← hys]; have := Hlen.out; simpa using this)
  clear hys
  go_wp2_with fail
  have cc := Load_ms m5 X x1 (by have := Hlen.out; simp; omega) (by omega)
  rw [G.out] at cc
  refine cc.mono ?_
  clear cc
  rintro e w6 ⟨rfl, m6, -⟩
  clear m5
  go_wp2_with fail
  refine (known2_any _).mono ?_
  rintro e w7 ⟨rfl, hb⟩
  have m7 := m6.below hb
  clear m6 hb
  go_wp2
  go_ret
  exact ⟨by first | rfl | (simp; done) | (simp; omega), m7.B⟩

set_option maxRecDepth 100000 in
set_option maxHeartbeats 2000000 in
theorem cellsSwaps_b (n at1 a b c K X : Int) (w : World) (n1 : 0 ≤ n) (n2 : n ≤ 255) (a1 : 0 ≤ at1) (a2 : at1 ≤ 255) (hK : 1 + n % 20 = K) (hX : at1 % K = X) (k1 : 1 ≤ K) (k2 : K ≤ 20) (x1 : 0 ≤ X) (x2 : X < K) (hab : ¬ a = b) :
    Calls Try.prog 6 #[.int .u8 n, .int .u8 at1, .int .i64 a, .int .i64 b, .int .i64 c] w fun e w' => e = .returned (.bool true) ∧ Below w.heap.size w w' := by
  have hab2 : (a == b) = false := by rw [beq_eq_false_iff_ne]; exact hab
  have Hab := Lib.hid hab
  clear hab
  go_enter Try.func6, Try.ntmps6
  go_wp2_with fail
  refine (New_ms K w _ (Below.refl _ _)).mono ?_
  rintro e w1 ⟨rfl, m1, -⟩
  go_wp2_with fail
  refine (Alloc_new m1 k1 (by omega)).mono ?_
  rintro e w2 ⟨g, xs, rfl, m0, hl, h0, -, -⟩
  have hlen : K = (xs.length : Int) := by omega
  have Hlen := Lib.hid hlen
  clear m1 hl h0 hlen
  go_wp2_with fail
  have cc := Store_ms m0 X a x1 (by have := Hlen.out; simp; omega) (by omega)
  refine cc.mono ?_
  clear cc
  rintro e w1 ⟨rfl, m1, -⟩
  clear m0
  have G := Lib.hid (getD_set_self xs X.toNat a (by have := Hlen.out; simp; omega))
  obtain ⟨ys, hys⟩ : ∃ l, xs.set X.toNat a = l := ⟨_, rfl⟩
  rw [hys] at m1 G
  have Hlen := Lib.hid (show K = (ys.length : Int) by rw [← hys]; have := Hlen.out; simpa using this)
  clear hys
  go_wp2_with fail
  have cc := Swap_ms_hit m1 X a b x1 (by have := Hlen.out; simp; omega) G.out (by omega)
  refine cc.mono ?_
  clear cc
  rintro e w2 ⟨rfl, m2, -⟩
  clear m1
  clear G
  have G := Lib.hid (getD_set_self ys X.toNat b (by have := Hlen.out; simp; omega))
  obtain ⟨zs, hys⟩ : ∃ l, ys.set X.toNat b = l := ⟨_, rfl⟩
  rw [hys] at m2 G
  have Hlen := Lib.hid (show K = (zs.length : Int) by rw [← hys]; have := Hlen.out; simpa using this)
  clear hys
  go_wp2_with fail
  have cc := Swap_ms_miss m2 X a c x1 (by have := Hlen.out; simp; omega) (by rw [G.out]; exact fun e => Hab.out e.symm) (by omega)
  refine cc.mono ?_
  clear cc
  rintro e w3 ⟨rfl, m3, -⟩
  clear m2
  go_wp2_with fail
  have cc := Load_ms m3 X x1 (by have := Hlen.out; simp; omega) (by omega)
  rw [G.out] at cc
  refine cc.mono ?_
  clear cc
  rintro e w4 ⟨rfl, m4, -⟩
  clear m3
  go_wp2_with fail
  have cc := Swap_ms_hit m4 X b a x1 (by have := Hlen.out; simp; omega) G.out (by omega)
  refine cc.mono ?_
  clear cc
  rintro e w5 ⟨rfl, m5, -⟩
  clear m4
  clear G
  have G := Lib.hid (getD_set_self zs X.toNat a (by have := Hlen.out; simp; omega))
  obtain ⟨vs, hys⟩ : ∃ l, zs.set X.toNat a = l := ⟨_, rfl⟩
  rw [hys] at m5 G
  have Hlen := Lib.hid (show K = (vs.length : Int) by rw [← hys]; have := Hlen.out; simpa using this)
  clear hys
  go_wp2_with fail
  have cc := Load_ms m5 X x1 (by have := Hlen.out; simp; omega) (by omega)
  rw [G.out] at cc
  refine cc.mono ?_
  clear cc
  rintro e w6 ⟨rfl, m6, -⟩
  clear m5
  go_wp2_with fail
  refine (known2_any _).mono ?_
  rintro e w7 ⟨rfl, hb⟩
  have m7 := m6.below hb
  clear m6 hb
  go_wp2
  go_ret
  exact ⟨by first | rfl | (simp; done) | (simp; omega), m7.B⟩

theorem cellsSwaps_any (n at1 a b c : Int) (w : World) (n1 : 0 ≤ n) (n2 : n ≤ 255) (a1 : 0 ≤ at1) (a2 : at1 ≤ 255) :
    Calls Try.prog 6 #[.int .u8 n, .int .u8 at1, .int .i64 a, .int .i64 b, .int .i64 c] w fun e w' => e = .returned (.bool true) ∧ Below w.heap.size w w' := by
  have k1 : 1 ≤ 1 + n % 20 := by omega
  have k2 : 1 + n % 20 ≤ 20 := by omega
  have x1 := Int.emod_nonneg at1 (show (1 + n % 20) ≠ 0 by omega)
  have x2 := Int.emod_lt_of_pos at1 (show 0 < 1 + n % 20 by omega)
  by_cases hab : a = b
  · exact cellsSwaps_a n at1 a b c _ _ w n1 n2 a1 a2 rfl rfl k1 k2 x1 x2 hab
  · exact cellsSwaps_b n at1 a b c _ _ w n1 n2 a1 a2 rfl rfl k1 k2 x1 x2 hab

theorem Try.resTypes6 : Try.f6.resultTypes = #[4] := by kernel_rfl
theorem cellsSwaps_rdu8 : Try.prog.readableRec 5 = true ∧ 5 < Try.prog.types.size := ⟨by kernel_rfl, of_decide_eq_true (by kernel_rfl)⟩
theorem cellsSwaps_rdi64 : Try.prog.readableRec 2 = true ∧ 2 < Try.prog.types.size := ⟨by kernel_rfl, of_decide_eq_true (by kernel_rfl)⟩
set_option maxRecDepth 100000 in
theorem cellsSwaps_lifted (os : Os) (started : os.Started) (H : Type) (enc : TypeId × Value → H) :
    ReturnsInHanded {} Try.checked os 6 .any (Rows.cellsSwapsSpec.pre6 enc Try.prog Try.f6 Rows.cellsSwapsRow.domain false) (Rows.cellsSwapsSpec.post enc Try.prog Try.f6 false true false false) := by
  refine law_lifted (C := Try.checked) (T := 4) Try.own started (by kernel_rfl) Try.func6
    (ChangeSpec.witness6 (enc := enc) (C := Try.checked) false ⟨#[], #[.int .u8 0, .int .u8 0, .int .i64 0, .int .i64 0, .int .i64 0], []⟩ 8 (by kernel_rfl) (by kernel_rfl) (by kernel_rfl) (by kernel_rfl))
    Try.laidOut (fun t ht => ?_) Try.resTypes6 Try.underlying4 rfl (fun ds hd => ?_) ?_
  · rw [Try.params6] at ht
    exact (show ∀ t ∈ [5, 5, 2, 2, 2], Try.prog.readableRec t = true ∧ t < Try.prog.types.size from List.forall_mem_cons.2 ⟨cellsSwaps_rdu8, List.forall_mem_cons.2 ⟨cellsSwaps_rdu8, List.forall_mem_cons.2 ⟨cellsSwaps_rdi64, List.forall_mem_cons.2 ⟨cellsSwaps_rdi64, List.forall_mem_cons.2 ⟨cellsSwaps_rdi64, fun _ h => by cases h⟩⟩⟩⟩⟩) t ht
  · rw [Try.params6] at hd
    match ds, hd with
    | [e0, e1, e2, e3, e4], _ => rfl
  · intro W base args ds p hval0 hA0
    have hval : ∀ (j : Nat) t v, Try.f6.params[j]? = some t → args[j]? = some v → Value.okWide Try.prog W .any base t v := hval0
    have hA : DataW.TrodAll enc Try.prog W 0 (fun _ => true) true Try.f6.params.toList args.toList ds p := hA0
    rw [Try.params6] at hA hval
    obtain ⟨v0, vs0, d0, ds0, p0, q0, hargs, rfl, rfl, h0, r0⟩ := trodAll_cons hA
    obtain ⟨v1, vs1, d1, ds1, p1, q1, rfl, rfl, rfl, h1, r1⟩ := trodAll_cons r0
    obtain ⟨v2, vs2, d2, ds2, p2, q2, rfl, rfl, rfl, h2, r2⟩ := trodAll_cons r1
    obtain ⟨v3, vs3, d3, ds3, p3, q3, rfl, rfl, rfl, h3, r3⟩ := trodAll_cons r2
    obtain ⟨v4, vs4, d4, ds4, p4, q4, rfl, rfl, rfl, h4, r4⟩ := trodAll_cons r3
    obtain ⟨rfl, rfl, rfl⟩ := trodAll_nil r4
    obtain rfl : args = #[v0, v1, v2, v3, v4] := by cases args; simp_all
    obtain ⟨n, rfl, _, _, wn⟩ := open_int Try.underlying5 (hval 0 5 v0 rfl rfl) h0
    have bn := bounds_u8 wn
    obtain ⟨a, rfl, _, _, wa⟩ := open_int Try.underlying5 (hval 1 5 v1 rfl rfl) h1
    have ba := bounds_u8 wa
    obtain ⟨x, rfl, _, _, wx⟩ := open_int Try.underlying2 (hval 2 2 v2 rfl rfl) h2
    have bx := bounds_i64 wx
    obtain ⟨u, rfl, _, _, wu⟩ := open_int Try.underlying2 (hval 3 2 v3 rfl rfl) h3
    have bu := bounds_i64 wu
    obtain ⟨z, rfl, _, _, wz⟩ := open_int Try.underlying2 (hval 4 2 v4 rfl rfl) h4
    have bz := bounds_i64 wz
    exact cellsSwaps_any n a x u z W bn.1 bn.2 ba.1 ba.2

/-- CellsSwaps: for every input the call returns true. -/
theorem cellsSwaps_said : Rows.CellsSwapsSaid :=
  OpenClaim.holds_of_wide 6 Try.f6 rfl rfl rfl rfl rfl rfl rfl ⟨rfl, rfl, rfl, rfl, rfl⟩ rfl rfl rfl rfl rfl (by as_aux_lemma => kernel_rfl) Try.func6 (by as_aux_lemma => kernel_rfl)
    (of_decide_eq_true (by as_aux_lemma => kernel_rfl)) (by unfold Func.isWrapper; first | (rw [if_pos (by decide +kernel)]; kernel_rfl) | (rw [if_neg (by decide +kernel)]; exact ⟨rfl, rfl⟩))
    (fun os started H enc _ => cellsSwaps_lifted os started H enc)
#print axioms cellsSwaps_said

end Go.Proofs.Ytepkpfnghgocgaa
