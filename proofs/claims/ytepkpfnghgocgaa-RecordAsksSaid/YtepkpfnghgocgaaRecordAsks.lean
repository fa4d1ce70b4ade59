/- RecordAsks: all calls of any memories and numbers, and of choices, are what the chapter says: the law returns true for every input. -/
import Derived.Test.YtepkpfnghgocgaaRecAsk
import Derived.Test.YtepkpfnghgocgaaBel
namespace Go.Proofs.Ytepkpfnghgocgaa
set_option linter.unusedSimpArgs false
set_option linter.unusedVariables false
open Go.RowKit
open Go.ChangeShapes Go.WideShapes Go.ChangeAt

/-- A record's address, or 0. -/
def baseOf (k : Int) : Int := if k < 0 ∨ 1000 < k then 0 else 3 + 5 * k
theorem Base_g (k : Int) (w : World) : Calls Try.prog 19 #[.int .i64 k] w fun e w' => e = .returned (.int .i64 (baseOf k)) ∧ w = w' := Base_f k w
theorem rBase_g (k : Int) (w : World) : Calls Try.prog 38 #[.int .i64 k] w fun e w' => e = .returned (.int .i64 (baseOf k)) ∧ w = w' := rBase_f k w

set_option maxHeartbeats 1000000 in
theorem recordAsks_l (l c : Value) (ls cs : List Int) (k a j : Int) (w : World) (hl : InSlice .i64 w l ls) (hc : InSlice .u8 w c cs) (a2 : a ≤ 9223372036854775807) (j1 : 0 ≤ j) (j2 : j ≤ 255) (h : 200 < ls.length) : Calls Try.prog 13 #[l, .int .i64 k, .int .i64 a, .int .u8 j, c] w fun e w' => e = .returned (.bool true) ∧ Below w.heap.size w w' := by
  obtain ⟨ao, cap, rfl, -, -, -⟩ := hl
  obtain ⟨bo, cap', rfl, -, -, -⟩ := hc
  have h' : (200 : Int) < (ls.length : Int) := by omega
  skip
  go_enter Try.func13, Try.ntmps13
  go_wp2_with fail
  refine (known13_any _).mono ?_
  rintro e w1 ⟨rfl, hb⟩
  go_wp2
  go_ret
  exact ⟨by first | rfl | (simp; done), hb⟩

set_option maxHeartbeats 1000000 in
theorem recordAsks_c (l c : Value) (ls cs : List Int) (k a j : Int) (w : World) (hl : InSlice .i64 w l ls) (hc : InSlice .u8 w c cs) (a2 : a ≤ 9223372036854775807) (j1 : 0 ≤ j) (j2 : j ≤ 255) (h1 : ls.length ≤ 200) (h : 200 < cs.length) : Calls Try.prog 13 #[l, .int .i64 k, .int .i64 a, .int .u8 j, c] w fun e w' => e = .returned (.bool true) ∧ Below w.heap.size w w' := by
  obtain ⟨ao, cap, rfl, -, -, -⟩ := hl
  obtain ⟨bo, cap', rfl, -, -, -⟩ := hc
  have h' : (200 : Int) < (cs.length : Int) := by omega
  have h1' : (ls.length : Int) ≤ 200 := by omega
  go_enter Try.func13, Try.ntmps13
  go_wp2_with fail
  refine (known13_any _).mono ?_
  rintro e w1 ⟨rfl, hb⟩
  go_wp2
  go_ret
  exact ⟨by first | rfl | (simp; done), hb⟩

set_option maxRecDepth 100000 in
set_option maxHeartbeats 4000000 in
theorem recordAsks_yes (l c : Value) (ls cs : List Int) (k a j : Int) (w : World) (hl : InSlice .i64 w l ls) (hc : InSlice .u8 w c cs) (a2 : a ≤ 9223372036854775807) (j1 : 0 ≤ j) (j2 : j ≤ 255) (h1 : ls.length ≤ 200) (h2 : cs.length ≤ 200) (h3 : 1 ≤ k) (h4 : k ≤ 64) : Calls Try.prog 13 #[l, .int .i64 k, .int .i64 a, .int .u8 j, c] w fun e w' => e = .returned (.bool true) ∧ Below w.heap.size w w' := by
  have HL := Lib.hid hl.sl
  have HC := Lib.hid hc
  obtain ⟨ao, cap, rfl, -, -, -⟩ := hl
  obtain ⟨bo, cap', rfl, -, -, -⟩ := hc
  have h1' : (ls.length : Int) ≤ 200 := by omega
  have h2' : (cs.length : Int) ≤ 200 := by omega
  go_enter Try.func13, Try.ntmps13
  go_wp2_with fail
  refine (known13_any _).mono ?_
  rintro e w1 ⟨rfl, hb1⟩
  go_wp2_with fail
  refine (CellsOf_f _ cs _ (HC.out.below hb1) (by omega)).mono ?_
  rintro e w2 ⟨v, ys, rfl, hR, hyl, hb2, -⟩
  obtain ⟨co, cap2, rfl⟩ := hR.shape
  have B2 : Below w.heap.size w w2 := hb1.trans (hb2.mono hb1.size)
  have HO := Lib.hid hR.sl
  clear hb1 hb2 hR
  go_wp2_with fail
  refine (Open_ms k w2 w2 (Below.refl _ _) h3 h4).mono ?_
  rintro e w3 ⟨g, rfl, m3, hb3⟩
  have bl3 := m3.mem.lt
  have HM := Lib.hid m3
  clear m3
  go_wp2_with fail
  refine (rOpen_yes k _ h3 h4).mono ?_
  rintro e w4 ⟨v4, q4, rfl, hr4, -, hb4⟩
  obtain ⟨ao4, cap4, rfl, -, -⟩ := hr4.open
  have hb34 := hb4
  have B4 : Below w2.heap.size w2 w4 := hb3.trans (hb4.mono hb3.size)
  clear hb3 hb4 hr4
  go_wp2
  obtain ⟨W, hW, hBW, zW, x0, x1, x2⟩ : ∃ W, W = w4.alloc (.cells #[.int .i64 (3 + 5 * k), .slice ao4 3 cap4, .int .i64 1] 71) ∧ Below w2.heap.size w2 W ∧ w4.heap.size < W.heap.size ∧ W.cell? ⟨w4.heap.size, 0, none⟩ = some (.int .i64 (3 + 5 * k)) ∧ W.cell? ⟨w4.heap.size, 1, none⟩ = some (.slice ao4 3 cap4) ∧ W.cell? ⟨w4.heap.size, 2, none⟩ = some (.int .i64 1) :=
    ⟨_, rfl, B4.alloc B4.size _, by simp, by go_simp, by go_simp, by go_simp⟩
  rw [← hW]
  have HB := Lib.hid (And.intro B2 hBW)
  have HBW3 : Hid (Below w3.heap.size w3 W) := Lib.hid (by rw [hW]; exact hb34.alloc hb34.size _)
  have cL0 : ∀ (u : World) (d : Int), Below W.heap.size W u → d ≤ 9223372036854775807 → Calls Try.prog 39 #[.slice ao ls.length cap, .int .i64 d] u fun e u' => e = .returned (.bool true) ∧ Below u.heap.size u u' := fun u d hb hd =>
    (asks13_any _ ls d u (HL.out.below (HB.out.1.trans ((HB.out.2.trans (hb.mono HB.out.2.size)).mono HB.out.1.size))) (by omega) hd)
  have cO0 : ∀ (u : World) (d : Int), Below W.heap.size W u → d ≤ 9223372036854775807 → Calls Try.prog 39 #[.slice co ys.length cap2, .int .i64 d] u fun e u' => e = .returned (.bool true) ∧ Below u.heap.size u u' := fun u d hb hd =>
    (asks13_any _ ys d u (HO.out.below (HB.out.2.trans (hb.mono HB.out.2.size))) (by omega) hd)
  have cL := Lib.hid cL0
  have cO := Lib.hid cO0
  have cT0 : ∀ u : World, Below W.heap.size W u → Calls Try.prog 18 #[.pointer (some ⟨w2.heap.size, 0, none⟩)] u fun e u' => e = .returned (.int .i64 3) ∧ Below u.heap.size u u' := fun u hb =>
    (Top_ms (HM.out.below (HBW3.out.trans (hb.mono HBW3.out.size)))).mono fun e u' ⟨e1, _, e3⟩ => ⟨e1, e3⟩
  have cT := Lib.hid cT0
  clear cT0
  clear hW hBW B2 B4 cL0 cO0 hb34
  go_region_held3 (fun wz => Below W.heap.size W wz ∧ W.heap.size ≤ wz.heap.size ∧ wz.cell? ⟨w4.heap.size, 0, none⟩ = some (.int .i64 (3 + 5 * k)) ∧ wz.cell? ⟨w4.heap.size, 1, none⟩ = some (.slice ao4 3 cap4) ∧ wz.cell? ⟨w4.heap.size, 2, none⟩ = some (.int .i64 1))
    (first | (exact ⟨(Below.refl _ _).drew, Nat.le_refl _, x0, x1, x2⟩) | (go_split_ands; refine ⟨?_, ?_, ?_, ?_, ?_⟩ <;> first | (with_reducible assumption) | (have := hb.size; omega) | (rw [hb.cell (by simp; omega)]; (with_reducible assumption)) | exact Below.trans (by with_reducible assumption) (hb.mono (by omega))))
    (first | (go_at_call 18; go_split_ands; refine (cT.out _ (by with_reducible assumption)).mono ?_; rintro e w9 ⟨rfl, hb⟩) | (go_at_call 19; refine (Base_g _ _).mono ?_; rintro e w9 ⟨rfl, rfl⟩) | (go_at_call 38; refine (rBase_g _ _).mono ?_; rintro e w9 ⟨rfl, rfl⟩) | (go_at_call 39; go_split_ands; (first | (with_reducible refine (cL.out _ _ ?_ ?_).mono ?_) | (with_reducible refine (cO.out _ _ ?_ ?_).mono ?_)); (with_reducible assumption); (first | omega | exact i64_le _ | (rw [IntKind.wrap_i64]; omega)); rintro e w9 ⟨rfl, hb⟩))
  all_goals
    go_split_ands
    have B9 := HB.out.1.trans ((HB.out.2.trans (Below.mono (B := W.heap.size) (by with_reducible assumption) HB.out.2.size)).mono HB.out.1.size)
    go_wp2
    go_ret
    exact ⟨by first | rfl | (simp; done), B9⟩

set_option maxRecDepth 100000 in
set_option maxHeartbeats 4000000 in
theorem recordAsks_no (l c : Value) (ls cs : List Int) (k a j : Int) (w : World) (hl : InSlice .i64 w l ls) (hc : InSlice .u8 w c cs) (a2 : a ≤ 9223372036854775807) (j1 : 0 ≤ j) (j2 : j ≤ 255) (h1 : ls.length ≤ 200) (h2 : cs.length ≤ 200) (h3 : k < 1 ∨ 64 < k) : Calls Try.prog 13 #[l, .int .i64 k, .int .i64 a, .int .u8 j, c] w fun e w' => e = .returned (.bool true) ∧ Below w.heap.size w w' := by
  have HL := Lib.hid hl.sl
  have HC := Lib.hid hc
  obtain ⟨ao, cap, rfl, -, -, -⟩ := hl
  obtain ⟨bo, cap', rfl, -, -, -⟩ := hc
  have h1' : (ls.length : Int) ≤ 200 := by omega
  have h2' : (cs.length : Int) ≤ 200 := by omega
  go_enter Try.func13, Try.ntmps13
  go_wp2_with fail
  refine (known13_any _).mono ?_
  rintro e w1 ⟨rfl, hb1⟩
  go_wp2_with fail
  refine (CellsOf_f _ cs _ (HC.out.below hb1) (by omega)).mono ?_
  rintro e w2 ⟨v, ys, rfl, hR, hyl, hb2, -⟩
  obtain ⟨co, cap2, rfl⟩ := hR.shape
  have B2 : Below w.heap.size w w2 := hb1.trans (hb2.mono hb1.size)
  have HO := Lib.hid hR.sl
  clear hb1 hb2 hR
  go_wp2_with fail
  refine (Open_no k _ h3).mono ?_
  rintro e w' ⟨rfl, rfl⟩
  have hb3 : Below w2.heap.size w2 w2 := Below.refl _ _
  go_wp2_with fail
  refine (rOpen_no k _ h3).mono ?_
  rintro e w4 ⟨rfl, hb4⟩
  skip
  skip
  have B4 : Below w2.heap.size w2 w4 := hb3.trans (hb4.mono hb3.size)
  clear hb3 hb4
  go_wp2
  obtain ⟨W, hW, hBW, zW, x0, x1, x2⟩ : ∃ W, W = w4.alloc (.cells #[.int .i64 0, .slice none 0 0, .int .i64 0] 71) ∧ Below w2.heap.size w2 W ∧ w4.heap.size < W.heap.size ∧ W.cell? ⟨w4.heap.size, 0, none⟩ = some (.int .i64 0) ∧ W.cell? ⟨w4.heap.size, 1, none⟩ = some (.slice none 0 0) ∧ W.cell? ⟨w4.heap.size, 2, none⟩ = some (.int .i64 0) :=
    ⟨_, rfl, B4.alloc B4.size _, by simp, by go_simp, by go_simp, by go_simp⟩
  rw [← hW]
  have HB := Lib.hid (And.intro B2 hBW)
  skip
  have cL0 : ∀ (u : World) (d : Int), Below W.heap.size W u → d ≤ 9223372036854775807 → Calls Try.prog 39 #[.slice ao ls.length cap, .int .i64 d] u fun e u' => e = .returned (.bool true) ∧ Below W.heap.size W u' := fun u d hb hd =>
    (asks13_any _ ls d u (HL.out.below (HB.out.1.trans ((HB.out.2.trans (hb.mono HB.out.2.size)).mono HB.out.1.size))) (by omega) hd).mono fun e u' ⟨e1, e2⟩ => ⟨e1, hb.trans (e2.mono hb.size)⟩
  have cO0 : ∀ (u : World) (d : Int), Below W.heap.size W u → d ≤ 9223372036854775807 → Calls Try.prog 39 #[.slice co ys.length cap2, .int .i64 d] u fun e u' => e = .returned (.bool true) ∧ Below W.heap.size W u' := fun u d hb hd =>
    (asks13_any _ ys d u (HO.out.below (HB.out.2.trans (hb.mono HB.out.2.size))) (by omega) hd).mono fun e u' ⟨e1, e2⟩ => ⟨e1, hb.trans (e2.mono hb.size)⟩
  have cL := Lib.hid cL0
  have cO := Lib.hid cO0
  clear hW hBW B2 B4 cL0 cO0
  refine wp_region_bel (by kernel_rfl) (by kernel_rfl) W (Below.refl _ _).drew ?_
  repeat (go_big_quiet_step ((first | (with_reducible refine (Base_g _ _).mono ?_; rintro e w9 ⟨rfl, rfl⟩; exact ⟨rfl, _, rfl⟩) | (with_reducible refine (rBase_g _ _).mono ?_; rintro e w9 ⟨rfl, rfl⟩; exact ⟨rfl, _, rfl⟩) | (with_reducible refine (cL.out _ _ (Bel.h _) (by first | omega | exact i64_le _ | (rw [IntKind.wrap_i64]; omega))).mono ?_; rintro e w9 ⟨rfl, hb⟩; exact ⟨rfl, ⟨w9, hb⟩, rfl⟩) | (with_reducible refine (cO.out _ _ (Bel.h _) (by first | omega | exact i64_le _ | (rw [IntKind.wrap_i64]; omega))).mono ?_; rintro e w9 ⟨rfl, hb⟩; exact ⟨rfl, ⟨w9, hb⟩, rfl⟩))))
  refine wpQuiet_nil ?_
  rintro _ ⟨⟨u, hu⟩, rfl⟩
  all_goals
    skip
    have B9 := HB.out.1.trans ((HB.out.2.trans (Below.mono (B := W.heap.size) (by with_reducible assumption) HB.out.2.size)).mono HB.out.1.size)
    go_wp2
    go_ret
    exact ⟨by first | rfl | (simp; done), B9⟩

theorem recordAsks_any (l c : Value) (ls cs : List Int) (k a j : Int) (w : World) (hl : InSlice .i64 w l ls) (hc : InSlice .u8 w c cs) (a2 : a ≤ 9223372036854775807) (j1 : 0 ≤ j) (j2 : j ≤ 255) : Calls Try.prog 13 #[l, .int .i64 k, .int .i64 a, .int .u8 j, c] w fun e w' => e = .returned (.bool true) ∧ Below w.heap.size w w' := by
  by_cases h1 : 200 < ls.length
  · exact recordAsks_l l c ls cs k a j w hl hc a2 j1 j2 h1
  · by_cases h2 : 200 < cs.length
    · exact recordAsks_c l c ls cs k a j w hl hc a2 j1 j2 (by omega) h2
    · by_cases h3 : 1 ≤ k ∧ k ≤ 64
      · exact recordAsks_yes l c ls cs k a j w hl hc a2 j1 j2 (by omega) (by omega) h3.1 h3.2
      · exact recordAsks_no l c ls cs k a j w hl hc a2 j1 j2 (by omega) (by omega) (by omega)

theorem Try.resTypes13 : Try.f13.resultTypes = #[4] := by kernel_rfl
theorem recordAsks_rds64 : Try.prog.readableRec 38 = true ∧ 38 < Try.prog.types.size := ⟨by kernel_rfl, of_decide_eq_true (by kernel_rfl)⟩
theorem recordAsks_rdint : Try.prog.readableRec 3 = true ∧ 3 < Try.prog.types.size := ⟨by kernel_rfl, of_decide_eq_true (by kernel_rfl)⟩
theorem recordAsks_rdu8 : Try.prog.readableRec 5 = true ∧ 5 < Try.prog.types.size := ⟨by kernel_rfl, of_decide_eq_true (by kernel_rfl)⟩
theorem recordAsks_rdbytes : Try.prog.readableRec 41 = true ∧ 41 < Try.prog.types.size := ⟨by kernel_rfl, of_decide_eq_true (by kernel_rfl)⟩
set_option maxRecDepth 100000 in
theorem recordAsks_lifted (os : Os) (started : os.Started) (H : Type) (enc : TypeId × Value → H) :
    ReturnsInHanded {} Try.checked os 13 .any (Rows.recordAsksSpec.pre6 enc Try.prog Try.f13 Rows.recordAsksRow.domain false) (Rows.recordAsksSpec.post enc Try.prog Try.f13 false true false false) := by
  refine law_lifted (C := Try.checked) (T := 4) Try.own started (by kernel_rfl) Try.func13
    (ChangeSpec.witness6 (enc := enc) (C := Try.checked) false ⟨#[], #[.slice none 0 0, .int .i64 0, .int .i64 0, .int .u8 0, .slice none 0 0], []⟩ 8 (by kernel_rfl) (by kernel_rfl) (by kernel_rfl) (by kernel_rfl))
    Try.laidOut (fun t ht => ?_) Try.resTypes13 Try.underlying4 rfl (fun ds hd => ?_) ?_
  · rw [Try.params13] at ht
    exact (show ∀ t ∈ [38, 3, 3, 5, 41], Try.prog.readableRec t = true ∧ t < Try.prog.types.size from List.forall_mem_cons.2 ⟨recordAsks_rds64, List.forall_mem_cons.2 ⟨recordAsks_rdint, List.forall_mem_cons.2 ⟨recordAsks_rdint, List.forall_mem_cons.2 ⟨recordAsks_rdu8, List.forall_mem_cons.2 ⟨recordAsks_rdbytes, fun _ h => by cases h⟩⟩⟩⟩⟩) t ht
  · rw [Try.params13] at hd
    match ds, hd with
    | [e0, e1, e2, e3, e4], _ => rfl
  · intro W base args ds p hval0 hA0
    have hval : ∀ (j : Nat) t v, Try.f13.params[j]? = some t → args[j]? = some v → Value.okWide Try.prog W .any base t v := hval0
    have hA : DataW.TrodAll enc Try.prog W 0 (fun _ => true) true Try.f13.params.toList args.toList ds p := hA0
    rw [Try.params13] at hA hval
    obtain ⟨v0, vs0, d0, ds0, p0, q0, hargs, rfl, rfl, h0, r0⟩ := trodAll_cons hA
    obtain ⟨v1, vs1, d1, ds1, p1, q1, rfl, rfl, rfl, h1, r1⟩ := trodAll_cons r0
    obtain ⟨v2, vs2, d2, ds2, p2, q2, rfl, rfl, rfl, h2, r2⟩ := trodAll_cons r1
    obtain ⟨v3, vs3, d3, ds3, p3, q3, rfl, rfl, rfl, h3, r3⟩ := trodAll_cons r2
    obtain ⟨v4, vs4, d4, ds4, p4, q4, rfl, rfl, rfl, h4, r4⟩ := trodAll_cons r3
    obtain ⟨rfl, rfl, rfl⟩ := trodAll_nil r4
    obtain rfl : args = #[v0, v1, v2, v3, v4] := by cases args; simp_all
    obtain ⟨l, sl⟩ := open_inslice (k := .i64) Try.underlying38 Try.underlying2 (by kernel_rfl) (hval 0 38 v0 rfl rfl) h0
    obtain ⟨k, rfl, _, _, wk⟩ := open_int Try.underlying3 (hval 1 3 v1 rfl rfl) h1
    have bk := bounds_i64 wk
    obtain ⟨a, rfl, _, _, wa⟩ := open_int Try.underlying3 (hval 2 3 v2 rfl rfl) h2
    have ba := bounds_i64 wa
    obtain ⟨j, rfl, _, _, wj⟩ := open_int Try.underlying5 (hval 3 5 v3 rfl rfl) h3
    have bj := bounds_u8 wj
    obtain ⟨c, sc⟩ := open_inslice (k := .u8) Try.underlying41 Try.underlying5 (by kernel_rfl) (hval 4 41 v4 rfl rfl) h4
    exact recordAsks_any v0 v4 l c k a j W sl sc ba.2 bj.1 bj.2

/-- RecordAsks: for every input the call returns true. -/
theorem recordAsks_said : Rows.RecordAsksSaid :=
  OpenClaim.holds_of_wide 13 Try.f13 rfl rfl rfl rfl rfl rfl rfl ⟨rfl, rfl, rfl, rfl, rfl⟩ rfl rfl rfl rfl rfl (by as_aux_lemma => kernel_rfl) Try.func13 (by as_aux_lemma => kernel_rfl)
    (of_decide_eq_true (by as_aux_lemma => kernel_rfl)) (by unfold Func.isWrapper; first | (rw [if_pos (by decide +kernel)]; kernel_rfl) | (rw [if_neg (by decide +kernel)]; exact ⟨rfl, rfl⟩))
    (fun os started H enc _ => recordAsks_lifted os started H enc)
#print axioms recordAsks_said

end Go.Proofs.Ytepkpfnghgocgaa
