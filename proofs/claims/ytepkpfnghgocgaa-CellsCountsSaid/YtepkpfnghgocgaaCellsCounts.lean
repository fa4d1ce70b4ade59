/- CellsCounts: each call that came to a cell counts one, whatever it told; asking for all counts none: the law returns true for every input. -/
import Derived.Test.YtepkpfnghgocgaaMsAny
import Derived.Test.YtepkpfnghgocgaaSlices
import Derived.Test.YtepkpfnghgocgaaFrame
import Derived.Deep.RegionHeld3
import Derived.Deep.QuietTactic
import Derived.BigQuiet
namespace Go.Proofs.Ytepkpfnghgocgaa
set_option linter.unusedSimpArgs false
set_option linter.unusedVariables false
open Go.RowKit
open Go.ChangeShapes Go.WideShapes Go.ChangeAt

set_option maxRecDepth 100000 in
set_option maxHeartbeats 4000000 in
theorem cellsCounts_core (n v K : Int) (l : Value) (ls : List Int) (w : World) (n1 : 0 ≤ n) (n2 : n ≤ 255) (hK : 1 + n % 20 = K) (k1 : 1 ≤ K) (k2 : K ≤ 20) (hl : InSlice .u8 w l ls) :
    Calls Try.prog 11 #[.int .u8 n, l, .int .i64 v] w fun e w' => e = .returned (.bool true) ∧ Below w.heap.size w w' := by
  obtain ⟨ao, cap, rfl, hwf, hmax, hcells⟩ := hl
  have Hc := Lib.hid (And.intro hwf hcells)
  clear hwf hcells
  by_cases h100 : 100 < ls.length
  · have h100' : (100 : Int) < (ls.length : Int) := by omega
    go_enter Try.func11, Try.ntmps11
    go_wp2_with fail
    refine (New_ms K w _ (Below.refl _ _)).mono ?_
    rintro e w1 ⟨rfl, m1, -⟩
    have B1 := m1.B
    clear m1
    go_wp2_with fail
    refine (known2_any _).mono ?_
    rintro e w2 ⟨rfl, hb⟩
    go_wp2
    go_ret
    exact ⟨by first | rfl | (simp; done), B1.trans (hb.mono B1.size)⟩
  · have h100' : (ls.length : Int) ≤ 100 := by omega
    go_enter Try.func11, Try.ntmps11
    go_wp2_with fail
    refine (New_ms K w _ (Below.refl _ _)).mono ?_
    rintro e w1 ⟨rfl, m1, -⟩
    go_wp2_with fail
    refine (Alloc_new m1 k1 (by omega)).mono ?_
    rintro e w2 ⟨g0, xs0, rfl, m2, hl0, -, -, -⟩
    have Hl0 := Lib.hid hl0
    have Hw := Lib.hid m2.mem.lt
    obtain ⟨bb, hbb⟩ : ∃ bb, w.heap.size = bb := ⟨_, rfl⟩
    have Hbb := Lib.hid hbb
    rw [hbb] at m2 ⊢
    clear m1 hl0 hbb
    go_wp2
    go_loopw [9, 10] (fun q j wr => ∃ (k : Nat) (g : Option Nat) (xs : List Int) (st : Int), k ≤ ls.length ∧ q = .int .i64 st ∧ j = .int .i64 k ∧ MS w wr bb g K xs st ∧ xs.length = K.toNat ∧ st ≤ k + 1) (fun _ j _ => ls.length - (intOf j).toNat)
    case atStart => exact ⟨0, g0, xs0, 1, Nat.zero_le _, rfl, rfl, m2, Hl0.out, by omega⟩
    case round =>
      obtain ⟨k, g, xs, st, hk, rfl, rfl, m, hlen, hst⟩ := hrel
      have Hlen := Lib.hid hlen
      clear hlen
      have s0 : 0 ≤ st := m.2.2.2.2.2.2.2
      by_cases hlt : k < ls.length
      · obtain ⟨bk, off, rfl, hbk, hcs⟩ := Hc.out.2 (by omega)
        have hc0 : w.cell? ⟨bk, off + k, none⟩ = some (.int .u8 (ls.getD k 0)) := hcs k hlt
        have hx0 := bounds_u8 (wf_getD Hc.out.1 k hlt)
        have hc1 := (m.B.cell (p := ⟨bk, off + k, none⟩) hbk).trans hc0
        clear hcs hc0
        obtain ⟨x, hx⟩ : ∃ x, ls.getD k 0 = x := ⟨_, rfl⟩
        rw [hx] at hc1 hx0
        clear hx
        have i1 : (0 : Int) ≤ (k : Int) := by omega
        have i2 : (k : Int) < (ls.length : Int) := by omega
        obtain ⟨A, hA⟩ : ∃ A, (x / 3) % (K + 2) = A := ⟨_, rfl⟩
        have a1 : 0 ≤ A := by rw [← hA]; exact Int.emod_nonneg _ (by omega)
        have a2 : A < K + 2 := by rw [← hA]; exact Int.emod_lt_of_pos _ (by omega)
        obtain ⟨x0, x1⟩ := hx0
        have hx3 : x % 3 = 0 ∨ x % 3 = 1 ∨ x % 3 = 2 := by omega
        have fin : ∀ (wr2 : World) (ys : List Int), MS w wr2 bb g K ys (st + cnt A xs.length) → ys.length = xs.length → True := fun _ _ _ _ => trivial
        rcases hx3 with hx3 | hx3 | hx3
        · by_cases hA3 : A < K
          · go_wp2_with fail
            refine (Load_ms_any m A (by omega)).mono ?_
            rintro e w3 ⟨r1, r2, rfl, ys, m3, hl3⟩
            rw [cnt_yes a1 (by have := Hlen.out; omega)] at m3
            have hl3' : ys.length = K.toNat := hl3.trans Hlen.out
            have Hl3 := Lib.hid hl3'
            clear hl3 hl3' m hc1
            go_wp2_with fail
            refine (Steps_ms m3).mono ?_
            rintro e w4 ⟨rfl, rfl⟩
            go_wp2_with fail
            have ct := Top_ms m3
            rw [show (ys.length : Int) = K by have := Hl3.out; omega] at ct
            refine ct.mono ?_
            rintro e w4 ⟨rfl, m4, -⟩
            clear ct m3
            go_wp2
            go_roundw
            case rel => exact ⟨k + 1, g, ys, _, by omega, by go_num, by go_num, m4, Hl3.out, by omega⟩
            case measure => simp [intOf]; omega
          · have hA4 : K ≤ A := by omega
            go_wp2_with fail
            refine (Load_ms_any m A (by omega)).mono ?_
            rintro e w3 ⟨r1, r2, rfl, ys, m3, hl3⟩
            have m3 := m3.eq (show st + cnt A xs.length = st by rw [cnt_no (by have := Hlen.out; omega)]; omega)
            have hl3' : ys.length = K.toNat := hl3.trans Hlen.out
            have Hl3 := Lib.hid hl3'
            clear hl3 hl3' m hc1
            go_wp2_with fail
            refine (Steps_ms m3).mono ?_
            rintro e w4 ⟨rfl, rfl⟩
            go_wp2_with fail
            have ct := Top_ms m3
            rw [show (ys.length : Int) = K by have := Hl3.out; omega] at ct
            refine ct.mono ?_
            rintro e w4 ⟨rfl, m4, -⟩
            clear ct m3
            go_wp2
            go_roundw
            case rel => exact ⟨k + 1, g, ys, _, by omega, by go_num, by go_num, m4, Hl3.out, by omega⟩
            case measure => simp [intOf]; omega
        · by_cases hA3 : A < K
          · go_wp2_with fail
            refine (Store_ms_any m A v (by omega)).mono ?_
            rintro e w3 ⟨r1, rfl, ys, m3, hl3⟩
            rw [cnt_yes a1 (by have := Hlen.out; omega)] at m3
            have hl3' : ys.length = K.toNat := hl3.trans Hlen.out
            have Hl3 := Lib.hid hl3'
            clear hl3 hl3' m hc1
            go_wp2_with fail
            refine (Steps_ms m3).mono ?_
            rintro e w4 ⟨rfl, rfl⟩
            go_wp2_with fail
            have ct := Top_ms m3
            rw [show (ys.length : Int) = K by have := Hl3.out; omega] at ct
            refine ct.mono ?_
            rintro e w4 ⟨rfl, m4, -⟩
            clear ct m3
            go_wp2
            go_roundw
            case rel => exact ⟨k + 1, g, ys, _, by omega, by go_num, by go_num, m4, Hl3.out, by omega⟩
            case measure => simp [intOf]; omega
          · have hA4 : K ≤ A := by omega
            go_wp2_with fail
            refine (Store_ms_any m A v (by omega)).mono ?_
            rintro e w3 ⟨r1, rfl, ys, m3, hl3⟩
            have m3 := m3.eq (show st + cnt A xs.length = st by rw [cnt_no (by have := Hlen.out; omega)]; omega)
            have hl3' : ys.length = K.toNat := hl3.trans Hlen.out
            have Hl3 := Lib.hid hl3'
            clear hl3 hl3' m hc1
            go_wp2_with fail
            refine (Steps_ms m3).mono ?_
            rintro e w4 ⟨rfl, rfl⟩
            go_wp2_with fail
            have ct := Top_ms m3
            rw [show (ys.length : Int) = K by have := Hl3.out; omega] at ct
            refine ct.mono ?_
            rintro e w4 ⟨rfl, m4, -⟩
            clear ct m3
            go_wp2
            go_roundw
            case rel => exact ⟨k + 1, g, ys, _, by omega, by go_num, by go_num, m4, Hl3.out, by omega⟩
            case measure => simp [intOf]; omega
        · by_cases hA3 : A < K
          · go_wp2_with fail
            refine (Swap_ms_any m A v k (by omega)).mono ?_
            rintro e w3 ⟨r1, r2, rfl, ys, m3, hl3⟩
            rw [cnt_yes a1 (by have := Hlen.out; omega)] at m3
            have hl3' : ys.length = K.toNat := hl3.trans Hlen.out
            have Hl3 := Lib.hid hl3'
            clear hl3 hl3' m hc1
            go_wp2_with fail
            refine (Steps_ms m3).mono ?_
            rintro e w4 ⟨rfl, rfl⟩
            go_wp2_with fail
            have ct := Top_ms m3
            rw [show (ys.length : Int) = K by have := Hl3.out; omega] at ct
            refine ct.mono ?_
            rintro e w4 ⟨rfl, m4, -⟩
            clear ct m3
            go_wp2
            go_roundw
            case rel => exact ⟨k + 1, g, ys, _, by omega, by go_num, by go_num, m4, Hl3.out, by omega⟩
            case measure => simp [intOf]; omega
          · have hA4 : K ≤ A := by omega
            go_wp2_with fail
            refine (Swap_ms_any m A v k (by omega)).mono ?_
            rintro e w3 ⟨r1, r2, rfl, ys, m3, hl3⟩
            have m3 := m3.eq (show st + cnt A xs.length = st by rw [cnt_no (by have := Hlen.out; omega)]; omega)
            have hl3' : ys.length = K.toNat := hl3.trans Hlen.out
            have Hl3 := Lib.hid hl3'
            clear hl3 hl3' m hc1
            go_wp2_with fail
            refine (Steps_ms m3).mono ?_
            rintro e w4 ⟨rfl, rfl⟩
            go_wp2_with fail
            have ct := Top_ms m3
            rw [show (ys.length : Int) = K by have := Hl3.out; omega] at ct
            refine ct.mono ?_
            rintro e w4 ⟨rfl, m4, -⟩
            clear ct m3
            go_wp2
            go_roundw
            case rel => exact ⟨k + 1, g, ys, _, by omega, by go_num, by go_num, m4, Hl3.out, by omega⟩
            case measure => simp [intOf]; omega
      · obtain rfl : k = ls.length := by omega
        have B0 := m.B
        go_wp2_with fail
        refine (known2_any _).mono ?_
        rintro e w3 ⟨rfl, hb⟩
        have m3 := m.below hb
        clear m hb
        go_wp2_with fail
        refine (Cells_ms m3).mono ?_
        rintro e w4 ⟨ao1, cap1, rfl, m4, r4, -, -⟩
        clear m3
        go_wp2_with fail
        refine (Copy_ms m4).mono ?_
        rintro e w5 ⟨c, q, rfl, m5, d5, -, -, hb5⟩
        have r5 := r4.below hb5
        clear m4 r4 hb5
        go_wp2_with fail
        refine (Cells_ms d5).mono ?_
        rintro e w6 ⟨ao2, cap2, rfl, -, t6, hb6, -⟩
        have r6 := r5.below hb6
        have m6 := m5.below hb6
        clear m5 r5 hb6 d5
        go_wp2_with fail
        have cc := Same64_any _ _ xs xs _ r6 t6 (by have := Hlen.out; omega)
        rw [decide_eq_true rfl] at cc
        refine cc.mono ?_
        rintro e w7 ⟨rfl, n7, rfl⟩
        have m7 := m6.drewN n7
        clear cc m6 r6 t6
        go_wp2_with fail
        refine (Steps_ms m7).mono ?_
        rintro e w8 ⟨rfl, rfl⟩
        go_wp2
        go_ret
        exact ⟨by first | rfl | (simp; done), m7.B⟩

theorem cellsCounts_any (n v : Int) (l : Value) (ls : List Int) (w : World) (n1 : 0 ≤ n) (n2 : n ≤ 255) (hl : InSlice .u8 w l ls) :
    Calls Try.prog 11 #[.int .u8 n, l, .int .i64 v] w fun e w' => e = .returned (.bool true) ∧ Below w.heap.size w w' :=
  cellsCounts_core n v _ l ls w n1 n2 rfl (by omega) (by omega) hl

theorem Try.resTypes11 : Try.f11.resultTypes = #[4] := by kernel_rfl
theorem cellsCounts_rdu8 : Try.prog.readableRec 5 = true ∧ 5 < Try.prog.types.size := ⟨by kernel_rfl, of_decide_eq_true (by kernel_rfl)⟩
theorem cellsCounts_rdbytes : Try.prog.readableRec 41 = true ∧ 41 < Try.prog.types.size := ⟨by kernel_rfl, of_decide_eq_true (by kernel_rfl)⟩
theorem cellsCounts_rdi64 : Try.prog.readableRec 2 = true ∧ 2 < Try.prog.types.size := ⟨by kernel_rfl, of_decide_eq_true (by kernel_rfl)⟩
set_option maxRecDepth 100000 in
theorem cellsCounts_lifted (os : Os) (started : os.Started) (H : Type) (enc : TypeId × Value → H) :
    ReturnsInHanded {} Try.checked os 11 .any (Rows.cellsCountsSpec.pre6 enc Try.prog Try.f11 Rows.cellsCountsRow.domain false) (Rows.cellsCountsSpec.post enc Try.prog Try.f11 false true false false) := by
  refine law_lifted (C := Try.checked) (T := 4) Try.own started (by kernel_rfl) Try.func11
    (ChangeSpec.witness6 (enc := enc) (C := Try.checked) false ⟨#[], #[.int .u8 0, .slice none 0 0, .int .i64 0], []⟩ 8 (by kernel_rfl) (by kernel_rfl) (by kernel_rfl) (by kernel_rfl))
    Try.laidOut (fun t ht => ?_) Try.resTypes11 Try.underlying4 rfl (fun ds hd => ?_) ?_
  · rw [Try.params11] at ht
    exact (show ∀ t ∈ [5, 41, 2], Try.prog.readableRec t = true ∧ t < Try.prog.types.size from List.forall_mem_cons.2 ⟨cellsCounts_rdu8, List.forall_mem_cons.2 ⟨cellsCounts_rdbytes, List.forall_mem_cons.2 ⟨cellsCounts_rdi64, fun _ h => by cases h⟩⟩⟩) t ht
  · rw [Try.params11] at hd
    match ds, hd with
    | [e0, e1, e2], _ => rfl
  · intro W base args ds p hval0 hA0
    have hval : ∀ (j : Nat) t v, Try.f11.params[j]? = some t → args[j]? = some v → Value.okWide Try.prog W .any base t v := hval0
    have hA : DataW.TrodAll enc Try.prog W 0 (fun _ => true) true Try.f11.params.toList args.toList ds p := hA0
    rw [Try.params11] at hA hval
    obtain ⟨v0, vs0, d0, ds0, p0, q0, hargs, rfl, rfl, h0, r0⟩ := trodAll_cons hA
    obtain ⟨v1, vs1, d1, ds1, p1, q1, rfl, rfl, rfl, h1, r1⟩ := trodAll_cons r0
    obtain ⟨v2, vs2, d2, ds2, p2, q2, rfl, rfl, rfl, h2, r2⟩ := trodAll_cons r1
    obtain ⟨rfl, rfl, rfl⟩ := trodAll_nil r2
    obtain rfl : args = #[v0, v1, v2] := by cases args; simp_all
    obtain ⟨n, rfl, _, _, wn⟩ := open_int Try.underlying5 (hval 0 5 v0 rfl rfl) h0
    have bn := bounds_u8 wn
    obtain ⟨l, sl⟩ := open_inslice (k := .u8) Try.underlying41 Try.underlying5 (by kernel_rfl) (hval 1 41 v1 rfl rfl) h1
    obtain ⟨z, rfl, _, _, wz⟩ := open_int Try.underlying2 (hval 2 2 v2 rfl rfl) h2
    have bz := bounds_i64 wz
    exact cellsCounts_any n z v1 l W bn.1 bn.2 sl

/-- CellsCounts: for every input the call returns true. -/
theorem cellsCounts_said : Rows.CellsCountsSaid :=
  OpenClaim.holds_of_wide 11 Try.f11 rfl rfl rfl rfl rfl rfl rfl ⟨rfl, rfl, rfl, rfl, rfl⟩ rfl rfl rfl rfl rfl (by as_aux_lemma => kernel_rfl) Try.func11 (by as_aux_lemma => kernel_rfl)
    (of_decide_eq_true (by as_aux_lemma => kernel_rfl)) (by unfold Func.isWrapper; first | (rw [if_pos (by decide +kernel)]; kernel_rfl) | (rw [if_neg (by decide +kernel)]; exact ⟨rfl, rfl⟩))
    (fun os started H enc _ => cellsCounts_lifted os started H enc)
#print axioms cellsCounts_said

end Go.Proofs.Ytepkpfnghgocgaa
