/- CellsCopy: a copy is the same, and knows nothing of the other one; cells that are told are new memory; without a memory there is nothing: the law returns true for every input. -/
import Derived.Test.YtepkpfnghgocgaaCellsPlain
import Derived.Test.YtepkpfnghgocgaaFrame
namespace Go.Proofs.Ytepkpfnghgocgaa
set_option linter.unusedSimpArgs false
set_option linter.unusedVariables false
open Go.RowKit
open Go.ChangeShapes Go.WideShapes Go.ChangeAt

set_option maxRecDepth 100000 in
set_option maxHeartbeats 4000000 in
theorem cellsCopy_core (n v u K : Int) (w : World) (n1 : 0 ≤ n) (n2 : n ≤ 255) (hK : 1 + n % 20 = K) (k1 : 1 ≤ K) (k2 : K ≤ 20) :
    Calls Try.prog 10 #[.int .u8 n, .int .i64 v, .int .i64 u] w fun e w' => e = .returned (.bool true) ∧ Below w.heap.size w w' := by
  go_enter Try.func10, Try.ntmps10
  go_wp2_with fail
  refine (New_ms K w _ (Below.refl _ _)).mono ?_
  rintro e w1 ⟨rfl, m1, -⟩
  go_wp2_with fail
  refine (Alloc_new m1 k1 (by omega)).mono ?_
  rintro e w2 ⟨g, xs, rfl, m2, hl, h0, -, -⟩
  have hpos : 0 < xs.length := by omega
  have Hp := Lib.hid hpos
  clear m1 hl h0 hpos
  go_wp2_with fail
  refine (Store_ms m2 0 v (by omega) (by have := Hp.out; omega) (by omega)).mono ?_
  rintro e w3 ⟨rfl, m3, -⟩
  have g1 : (xs.set (0 : Int).toNat v).getD (0 : Int).toNat 0 = v := getD_set_self _ _ _ Hp.out
  have Hq : 0 < (xs.set (0 : Int).toNat v).length := by rw [List.length_set]; exact Hp.out
  obtain ⟨ys, hys⟩ : ∃ l, xs.set (0 : Int).toNat v = l := ⟨_, rfl⟩
  rw [hys] at m3 g1 Hq
  have G := Lib.hid (And.intro g1 Hq)
  clear m2 hys g1 Hq Hp xs
  go_wp2_with fail
  refine (Copy_ms m3).mono ?_
  rintro e w4 ⟨c, q, rfl, m4, d4, hc, hq, -⟩
  have hlt : w.heap.size < w3.heap.size ∧ ∀ k, g = some k → k < w3.heap.size := ⟨m3.mem.lt, fun k e => by subst e; exact m3.mem.row_lt⟩
  have D := Lib.hid (And.intro hc (And.intro hq hlt))
  clear m3 hc hq hlt
  go_wp2_with fail
  refine (Steps_ms d4).mono ?_
  rintro e w' ⟨rfl, rfl⟩
  go_wp2_with fail
  refine (Steps_ms m4).mono ?_
  rintro e w' ⟨rfl, rfl⟩
  go_wp2_with fail
  refine (Store_ms d4 0 u (by omega) (by have := G.out.2; omega) (by omega)).mono ?_
  rintro e w5 ⟨rfl, d5, hk5⟩
  have m5 := m4.kept hk5 d5.B (by
      obtain ⟨hc, hq, h1, h2⟩ := D.out
      rintro (e | e)
      · omega
      · have := hq _ e.symm; omega) (fun k e => by
      obtain ⟨hc, hq, h1, h2⟩ := D.out
      have := h2 k e
      rintro (e | e)
      · omega
      · have := hq _ e.symm; omega)
  have g2 : (ys.set (0 : Int).toNat u).getD (0 : Int).toNat 0 = u := getD_set_self _ _ _ G.out.2
  have Hz : 0 < (ys.set (0 : Int).toNat u).length := by rw [List.length_set]; exact G.out.2
  obtain ⟨zs, hzs⟩ : ∃ l, ys.set (0 : Int).toNat u = l := ⟨_, rfl⟩
  rw [hzs] at d5 g2 Hz
  have G2 := Lib.hid (And.intro g2 Hz)
  clear d4 m4 hk5 hzs g2 Hz
  go_wp2_with fail
  refine (Cells_ms m5).mono ?_
  rintro e w6 ⟨ao, cap, rfl, m6, hr6, hb6, hv6⟩
  have d6 := d5.below hb6
  obtain ⟨r, cap', cur, hs, hg6, _, _, hc6, hf6⟩ := hr6.pos G.out.2
  cases hs
  have hr5 : w5.heap.size ≤ r := hv6 r rfl
  have c60 := hc6 0 G.out.2
  have f60 := hf6 0
  obtain ⟨z0, hz0⟩ : ∃ z, ys.getD 0 0 = z := ⟨_, rfl⟩
  rw [hz0] at c60
  have l60 : (0 : Int) < (ys.length : Int) := by have := G.out.2; omega
  have hm5 : w.heap.size < w5.heap.size ∧ (∀ k, g = some k → k < w5.heap.size) := ⟨m5.mem.lt, fun k e => by subst e; exact m5.mem.row_lt⟩
  have hd5 : c < w5.heap.size ∧ (∀ k, q = some k → k < w5.heap.size) := ⟨d5.mem.lt, fun k e => by subst e; exact d5.mem.row_lt⟩
  have hw6 : Below w.heap.size w (w6.setCell ⟨r, 0, none⟩ (.int .i64 (wrap64 (v + 1)))) := m6.B.setCell (by have := hm5.1; simp; omega) _
  have m7 := m6.kept (kept_setCell w6 ⟨r, 0, none⟩ (.int .i64 (wrap64 (v + 1)))) hw6 (fun e => by have := hm5.1; simp at e; omega) (fun k e e' => by have := hm5.2 k e; simp at e'; omega)
  have d7 := d6.kept (kept_setCell w6 ⟨r, 0, none⟩ (.int .i64 (wrap64 (v + 1)))) hw6 (fun e => by have := hd5.1; simp at e; omega) (fun k e e' => by have := hd5.2 k e; simp at e'; omega)
  have M := Lib.hid (And.intro m7 d7)
  clear m5 d5 hr6 hb6 hv6 hg6 hc6 hf6 hz0 hm5 hd5 hw6 m7 d7 hr5 m6 d6
  go_wp2_with fail
  have c1 := Load_ms M.out.1 0 (by omega) (by have := G.out.2; omega) (by omega)
  rw [G.out.1] at c1
  refine c1.mono ?_
  clear c1
  rintro e w7 ⟨rfl, m7, hk7⟩
  have d7 := M.out.2.kept hk7 m7.B (by
      obtain ⟨hc, hq, h1, h2⟩ := D.out
      rintro (e | e)
      · omega
      · have := h2 _ e.symm; omega) (fun k e => by
      obtain ⟨hc, hq, h1, h2⟩ := D.out
      have := hq k e
      rintro (e | e)
      · omega
      · have := h2 _ e.symm; omega)
  clear m7 hk7
  go_wp2_with fail
  have c1 := Load_ms d7 0 (by omega) (by have := G2.out.2; omega) (by omega)
  rw [G2.out.1] at c1
  refine c1.mono ?_
  clear c1
  rintro e w8 ⟨rfl, d8, -⟩
  have B8 := d8.B
  clear d7 d8
  go_wp2_with fail
  refine (Load_nil 0 _).mono ?_
  rintro e w9 ⟨rfl, hb⟩
  have B9 := B8.trans (hb.mono B8.size)
  clear hb B8
  go_wp2_with fail
  refine (Alloc_nil0 _).mono ?_
  rintro e w10 ⟨rfl, hb⟩
  have B10 := B9.trans (hb.mono B9.size)
  clear hb B9
  go_wp2_with fail
  refine (Alloc_nil 1 _ (by omega)).mono ?_
  rintro e w11 ⟨rfl, hb⟩
  have B11 := B10.trans (hb.mono B10.size)
  clear hb B10
  go_wp2_with fail
  refine (known2_any _).mono ?_
  rintro e w12 ⟨rfl, hb⟩
  have B12 := B11.trans (hb.mono B11.size)
  clear hb B11
  go_wp2_with fail
  refine (Top_nil _).mono ?_
  rintro e w' ⟨rfl, rfl⟩
  go_wp2_with fail
  refine (Steps_nil _).mono ?_
  rintro e w' ⟨rfl, rfl⟩
  go_wp2_with fail
  refine (Copy_nil _).mono ?_
  rintro e w13 ⟨rfl, hm, hb⟩
  have B13 := B12.trans (hb.mono B12.size)
  clear hb B12
  go_wp2_with fail
  refine (Top_any _ _ _ _ _ _ hm (by simp)).mono ?_
  rintro e w14 ⟨rfl, hb⟩
  have B14 := B13.trans (hb.mono B13.size)
  clear hb B13
  go_wp2
  go_ret
  exact ⟨by first | rfl | (simp; done) | (simp; omega), B14⟩

theorem cellsCopy_any (n v u : Int) (w : World) (n1 : 0 ≤ n) (n2 : n ≤ 255) :
    Calls Try.prog 10 #[.int .u8 n, .int .i64 v, .int .i64 u] w fun e w' => e = .returned (.bool true) ∧ Below w.heap.size w w' :=
  cellsCopy_core n v u _ w n1 n2 rfl (by omega) (by omega)

theorem Try.resTypes10 : Try.f10.resultTypes = #[4] := by kernel_rfl
theorem cellsCopy_rdu8 : Try.prog.readableRec 5 = true ∧ 5 < Try.prog.types.size := ⟨by kernel_rfl, of_decide_eq_true (by kernel_rfl)⟩
theorem cellsCopy_rdi64 : Try.prog.readableRec 2 = true ∧ 2 < Try.prog.types.size := ⟨by kernel_rfl, of_decide_eq_true (by kernel_rfl)⟩
set_option maxRecDepth 100000 in
theorem cellsCopy_lifted (os : Os) (started : os.Started) (H : Type) (enc : TypeId × Value → H) :
    ReturnsInHanded {} Try.checked os 10 .any (Rows.cellsCopySpec.pre6 enc Try.prog Try.f10 Rows.cellsCopyRow.domain false) (Rows.cellsCopySpec.post enc Try.prog Try.f10 false true false false) := by
  refine law_lifted (C := Try.checked) (T := 4) Try.own started (by kernel_rfl) Try.func10
    (ChangeSpec.witness6 (enc := enc) (C := Try.checked) false ⟨#[], #[.int .u8 0, .int .i64 0, .int .i64 0], []⟩ 8 (by kernel_rfl) (by kernel_rfl) (by kernel_rfl) (by kernel_rfl))
    Try.laidOut (fun t ht => ?_) Try.resTypes10 Try.underlying4 rfl (fun ds hd => ?_) ?_
  · rw [Try.params10] at ht
    exact (show ∀ t ∈ [5, 2, 2], Try.prog.readableRec t = true ∧ t < Try.prog.types.size from List.forall_mem_cons.2 ⟨cellsCopy_rdu8, List.forall_mem_cons.2 ⟨cellsCopy_rdi64, List.forall_mem_cons.2 ⟨cellsCopy_rdi64, fun _ h => by cases h⟩⟩⟩) t ht
  · rw [Try.params10] at hd
    match ds, hd with
    | [e0, e1, e2], _ => rfl
  · intro W base args ds p hval0 hA0
    have hval : ∀ (j : Nat) t v, Try.f10.params[j]? = some t → args[j]? = some v → Value.okWide Try.prog W .any base t v := hval0
    have hA : DataW.TrodAll enc Try.prog W 0 (fun _ => true) true Try.f10.params.toList args.toList ds p := hA0
    rw [Try.params10] at hA hval
    obtain ⟨v0, vs0, d0, ds0, p0, q0, hargs, rfl, rfl, h0, r0⟩ := trodAll_cons hA
    obtain ⟨v1, vs1, d1, ds1, p1, q1, rfl, rfl, rfl, h1, r1⟩ := trodAll_cons r0
    obtain ⟨v2, vs2, d2, ds2, p2, q2, rfl, rfl, rfl, h2, r2⟩ := trodAll_cons r1
    obtain ⟨rfl, rfl, rfl⟩ := trodAll_nil r2
    obtain rfl : args = #[v0, v1, v2] := by cases args; simp_all
    obtain ⟨n, rfl, _, _, wn⟩ := open_int Try.underlying5 (hval 0 5 v0 rfl rfl) h0
    have bn := bounds_u8 wn
    obtain ⟨v, rfl, _, _, wv⟩ := open_int Try.underlying2 (hval 1 2 v1 rfl rfl) h1
    have bv := bounds_i64 wv
    obtain ⟨u, rfl, _, _, wu⟩ := open_int Try.underlying2 (hval 2 2 v2 rfl rfl) h2
    have bu := bounds_i64 wu
    exact cellsCopy_any n v u W bn.1 bn.2

/-- CellsCopy: for every input the call returns true. -/
theorem cellsCopy_said : Rows.CellsCopySaid :=
  OpenClaim.holds_of_wide 10 Try.f10 rfl rfl rfl rfl rfl rfl rfl ⟨rfl, rfl, rfl, rfl, rfl⟩ rfl rfl rfl rfl rfl (by as_aux_lemma => kernel_rfl) Try.func10 (by as_aux_lemma => kernel_rfl)
    (of_decide_eq_true (by as_aux_lemma => kernel_rfl)) (by unfold Func.isWrapper; first | (rw [if_pos (by decide +kernel)]; kernel_rfl) | (rw [if_neg (by decide +kernel)]; exact ⟨rfl, rfl⟩))
    (fun os started H enc _ => cellsCopy_lifted os started H enc)
#print axioms cellsCopy_said

end Go.Proofs.Ytepkpfnghgocgaa
