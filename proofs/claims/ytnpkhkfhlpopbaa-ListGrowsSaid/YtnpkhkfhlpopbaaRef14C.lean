/- What is wrong: what the reference of layer 14 tells. -/
import Derived.Test.YtnpkhkfhlpopbaaRef14B
namespace Go.Proofs.Ytnpkhkfhlpopbaa
set_option linter.unusedSimpArgs false
set_option linter.unusedVariables false
open Go.RowKit
open Go.ChangeShapes Go.WideShapes Go.ChangeAt

theorem any_no {l : List Int} {p : Int → Bool} (h : ∀ i, i < l.length → p (l.getD i 0) = false) : l.any p = false := by
  rw [List.any_eq_false]
  intro x hx
  obtain ⟨i, hi, e⟩ := List.mem_iff_getElem.1 hx
  have := h i hi
  rw [List.getD_eq_getElem?_getD, List.getElem?_eq_getElem hi, Option.getD_some, e] at this
  rw [this]; decide
theorem any_at {l : List Int} {p : Int → Bool} {i : Nat} (hi : i < l.length) (h : p (l.getD i 0) = true) : l.any p = true := by
  rw [List.any_eq_true]
  refine ⟨_, ?_, h⟩
  rw [List.getD_eq_getElem?_getD, List.getElem?_eq_getElem hi]
  exact List.getElem_mem _
set_option maxRecDepth 100000 in
set_option maxHeartbeats 16000000 in
theorem rSound_f (w : World) (v : Value) (q : Option Nat) (N st : Int) (xs : List Int) (LS : List Int) (OK : Bool) (h : RVal w v q N xs st) (hl : xs.length ≤ 1000) (hR : reachL xs = (LS, OK)) (hLS : LS.length ≤ 2000) :
    Calls Try.prog 49 #[v] w fun e w' => e = .returned (.int .i64 (soundF xs)) ∧ Below w.heap.size w w' := by
  obtain ⟨ao0, cap0, rfl, -, -⟩ := h.open
  have H := Lib.hid (And.intro h hR)
  clear h hR
  go_enter Try.func49, Try.ntmps49
  go_wp2_with fail
  refine (rReach_f _ _ q N st xs LS OK (H.out.1.below (by go_grown)) hl H.out.2).mono ?_
  rintro e w1 ⟨u, rfl, hu, hb1⟩
  have A1 : w1.heap[w.heap.size]? = some (.cells #[.int .i64 N, .slice ao0 xs.length cap0, .int .i64 st] 35 (0, 0)) := (hb1.block w.heap.size (by simp)).trans (heap_alloc_new _ _)
  have B1 : Below w.heap.size w w1 := Below.trans (by go_grown) (hb1.mono (by simp))
  obtain ⟨lo, lcap, rfl⟩ := hu.shape
  have H1 := Lib.hid (And.intro A1 (And.intro B1 hu))
  have z01 : w.heap.size < w1.heap.size := (Array.getElem?_eq_some_iff.1 A1).1
  cases OK
  · have hs : soundF xs = 30 := by unfold soundF; rw [H.out.2, if_pos rfl]
    clear hb1 A1 B1 hu
    go_wp2
    go_ret
    exact ⟨by rw [hs]; rfl, H1.out.2.1⟩
  obtain ⟨c0, c1, c2, -⟩ := blk3 A1
  clear hb1 A1 B1 hu
  go_wp2_with fail
  refine (rRecords_f w1 _ q N st xs (H.out.1.below H1.out.2.1) hl).mono ?_
  rintro e w2 ⟨u2, rfl, hu2, hb2⟩
  obtain ⟨ro, rcap, rfl⟩ := hu2.shape
  obtain ⟨R, hRR⟩ : ∃ R, recsL xs.length = R := ⟨_, rfl⟩
  have hRl : R.length ≤ 199 := by rw [← hRR]; unfold recsL; rw [List.length_map, List.length_range]; have := manyOf_rng hl; omega
  rw [hRR] at hu2
  rw [hRR]
  have A2 := (hb2.block w.heap.size z01).trans H1.out.1
  have hS : soundF xs = if R.any (fun a => decide (recAt xs a 1 = 0 ∧ a ∈ LS)) = true then 33 else if R.any (fun a => decide (recAt xs a 1 = 1 ∧ recAt xs a 0 ≠ -1 ∧ a ∉ LS)) = true then 31 else 0 := by
    unfold soundF; rw [H.out.2, hRR, if_neg (by simp)]
  have HS := Lib.hid hS
  have H2 := Lib.hid (And.intro hb2 (And.intro hu2 A2))
  have z02 : w.heap.size < w2.heap.size := (Array.getElem?_eq_some_iff.1 A2).1
  clear hRR hu2 hb2 A2 hS c0 c1 c2
  go_wp2
  go_loopw [6] (fun k wr => ∃ i : Nat, i ≤ R.length ∧ k = .int .i64 i ∧ Below w2.heap.size w2 wr ∧ ∀ k, k < i → ¬ (recAt xs (R.getD k 0) 1 = 0 ∧ R.getD k 0 ∈ LS)) (fun k _ => R.length - (intOf k).toNat)
  case atStart => exact ⟨0, Nat.zero_le _, rfl, Below.refl _ _, fun k hk => by omega⟩
  case round =>
    obtain ⟨i, hi, rfl, hB, hN⟩ := hrel
    have hA := (hB.block w.heap.size z02).trans H2.out.2.2
    have z0 : w.heap.size < wr.heap.size := (Array.getElem?_eq_some_iff.1 hA).1
    have HN := Lib.hid hN
    have zi : (0 : Int) ≤ (i : Int) := by omega
    have hi9 : (i : Int) ≤ 199 := by omega
    have hR9 : (R.length : Int) ≤ 199 := by omega
    clear hN
    by_cases hlt : i < R.length
    · have hlt' : (i : Int) < (R.length : Int) := by omega
      obtain ⟨lg, lcp, lcur, hls, -, -, -, hlc, -⟩ := (H2.out.2.1.below hB).pos (by omega)
      cases hls
      have hx := hlc i hlt
      obtain ⟨a, haa⟩ : ∃ a, R.getD i 0 = a := ⟨_, rfl⟩
      rw [haa] at hx
      have zg : lg < wr.heap.size := World.block_lt_of_cell? wr _ hx
      have HA := Lib.hid haa
      have c0 := fun (u : World) (hu : Below wr.heap.size wr u) => (hu.cell (p := ⟨w.heap.size, 0, none⟩) z0).trans (blk3 hA).1
      have c1 := fun (u : World) (hu : Below wr.heap.size wr u) => (hu.cell (p := ⟨w.heap.size, 1, none⟩) z0).trans (blk3 hA).2.1
      have c2 := fun (u : World) (hu : Below wr.heap.size wr u) => (hu.cell (p := ⟨w.heap.size, 2, none⟩) z0).trans (blk3 hA).2.2.1
      have hx := fun (u : World) (hu : Below wr.heap.size wr u) => (hu.cell (p := ⟨lg, i, none⟩) zg).trans hx
      have hv : RVal wr (.agg #[.int .i64 N, .slice ao0 xs.length cap0, .int .i64 st]) q N xs st := H.out.1.below (H1.out.2.1.trans ((H2.out.1.trans (hB.mono H2.out.1.size)).mono H1.out.2.1.size))
      have HV := Lib.hid hv
      obtain ⟨y0, y1, y2, y3, y4, t5, hy⟩ : ∃ y0 y1 y2 y3 y4 t5, y0 = recAt xs a 0 ∧ y1 = recAt xs a 1 ∧ y2 = recAt xs a 2 ∧ y3 = recAt xs a 3 ∧ y4 = recAt xs a 4 ∧ t5 = nthIs xs.length a := ⟨_, _, _, _, _, _, rfl, rfl, rfl, rfl, rfl, rfl⟩
      have cS0 : ∀ u : World, Below wr.heap.size wr u → Calls Try.prog 60 #[.agg #[.int .i64 N, .slice ao0 xs.length cap0, .int .i64 st], .int .i64 a] u fun e u' => e = .returned (.tuple #[.agg #[.int .i64 y0, .int .i64 y1, .int .i64 y2, .int .i64 y3, .int .i64 y4], .bool t5]) ∧ Below u.heap.size u u' := fun u hb => (rSee_f (HV.out.below hb) hl a).mono fun e u' ⟨e1, e2⟩ => ⟨by rw [e1, hy.1, hy.2.1, hy.2.2.1, hy.2.2.2.1, hy.2.2.2.2.1, hy.2.2.2.2.2]; rfl, e2⟩
      have cS := Lib.hid cS0
      have HY := Lib.hid hy
      clear hlc haa hv cS0 hy
      go_wp2_with fail
      go_cut [7, 8] from 27 to 35 (fun a9 a10 wx => a10 = .bool t5 ∧ Lies wr y0 y1 y2 y3 y4 a9 wx)
      case first =>
        go_region_held3 (fun wz => Below wr.heap.size wr wz)
          (first | (exact (Below.refl _ _).drew) | (go_split_ands; with_reducible first | assumption | exact bmr (by assumption) hb2 | exact alr (bmr (by assumption) hb2) _ | exact alr (bmr (Below.refl _ _).drew hb2) _ | exact alr (Below.refl _ _) _ | exact (alr (Below.refl _ _) _).drew | exact bmr (alr (Below.refl _ _) _).drew hb2 | exact alr (by assumption) _ | exact stb (by assumption)))
          (first | (
            go_at_call 60
            go_split_ands
            with_reducible refine (cS.out _ (by with_reducible assumption)).mono ?_
            rintro e w2 ⟨rfl, hb2⟩
            first
            | (have F2 : w2.heap[wr.heap.size]? = some (.cells #[.int .i64 0, .int .i64 0, .int .i64 0, .int .i64 0, .int .i64 0] 73 (0, 0)) := by
                 with_reducible exact (hb2.block wr.heap.size (by simp)).trans (alloc_drew_new _ _)
               have f0 := blkF F2 0
               have f1 := blkF F2 1
               have f2 := blkF F2 2
               have f3 := blkF F2 3
               have f4 := blkF F2 4
               obtain ⟨⟨e0, e1, e2, e3, e4⟩, -⟩ := blk5 F2
               have y2' : wr.heap.size < w2.heap.size := (Array.getElem?_eq_some_iff.1 F2).1
               have HX := Lib.hid F2
               clear F2)
            | skip))
        all_goals
          go_wp2_with fail
          go_meet
          case rel => exact ⟨rfl, by first | (have hz : wr.heap.size ≤ w2.heap.size := hb2.size; with_reducible exact lies_a hz (by with_reducible assumption)) | (with_reducible exact lies_b HX.out (by with_reducible assumption))⟩
      case rest =>
        obtain ⟨rfl, r, rfl, hr, hR5, hBx⟩ := hcut
        have A2 : wc.heap[w.heap.size]? = some (.cells #[.int .i64 N, .slice ao0 xs.length cap0, .int .i64 st] 35 (0, 0)) := (hBx.block w.heap.size z0).trans hA
        obtain ⟨⟨e0, e1, e2, e3, e4⟩, zr⟩ := blk5 hR5
        have zlg := hBx.size
        have hx := hx wc hBx
        have hLp : IRow wc (.slice lo LS.length lcap) LS := H1.out.2.2.below (H2.out.1.trans ((hB.trans (hBx.mono hB.size)).mono H2.out.1.size))
        have BC : Below w2.heap.size w2 wc := hB.trans (hBx.mono hB.size)
        have HB := Lib.hid (And.intro hBx (And.intro A2 (And.intro (IRow.slx hLp) BC)))
        clear hR5 hBx A2 e2 e3 e4 hA hB hLp BC c0 c1 c2 cS HV
        by_cases h1 : y1 = 0
        · have h1' : (y1 == 0) = true := beq_iff_eq.2 h1
          have H0 := Lib.hid (HY.out.2.1.symm.trans h1)
          clear h1
          go_wp2_with fail
          refine (Place_any _ LS a _ HB.out.2.2.1 (by omega)).mono ?_
          rintro e w' ⟨rfl, rfl⟩
          by_cases hm : a ∈ LS
          · have hp : 0 ≤ placeOf LS a := (placeOf_mem LS a).2 hm
            have HM := Lib.hid hm
            clear hm
            go_wp2
            go_ret
            have e33 : soundF xs = 33 := by rw [HS.out, if_pos (any_at hlt (by rw [HA.out]; exact decide_eq_true ⟨H0.out, HM.out⟩))]
            exact ⟨by rw [e33]; rfl, H1.out.2.1.trans ((H2.out.1.trans (HB.out.2.2.2.mono H2.out.1.size)).mono H1.out.2.1.size)⟩
          · have hp : placeOf LS a < 0 := by
              have := (placeOf_mem LS a)
              exact Int.not_le.1 (fun h => hm (this.1 h))
            have HM := Lib.hid hm
            clear hm
            go_wp2
            go_roundw
            case rel => exact ⟨i + 1, by omega, by go_num, HB.out.2.2.2, fun k hk => by
              by_cases hki : k = i
              · subst hki; rw [HA.out]; exact fun hh => HM.out hh.2
              · exact HN.out k (by omega)⟩
            case measure => simp [intOf]; omega
        · have h1' : (y1 == 0) = false := beq_eq_false_iff_ne.2 h1
          have H0 := Lib.hid (fun e : recAt xs a 1 = 0 => h1 (HY.out.2.1.trans e))
          clear h1
          go_wp2
          go_roundw
          case rel => exact ⟨i + 1, by omega, by go_num, HB.out.2.2.2, fun k hk => by
            by_cases hki : k = i
            · subst hki; rw [HA.out]; exact fun hh => H0.out hh.1
            · exact HN.out k (by omega)⟩
          case measure => simp [intOf]; omega
    · obtain rfl : i = R.length := by omega
      have e1 : R.any (fun a => decide (recAt xs a 1 = 0 ∧ a ∈ LS)) = false := any_no (fun k hk => decide_eq_false (HN.out k hk))
      have hS : soundF xs = if R.any (fun a => decide (recAt xs a 1 = 1 ∧ recAt xs a 0 ≠ -1 ∧ a ∉ LS)) = true then 31 else 0 := by rw [HS.out, e1, if_neg (by decide)]
      have HQ := Lib.hid hS
      have H3 := Lib.hid hB
      clear HS hS HN e1 hA hB z0 zi hi9 hi hlt
      rename_i wr0
      have HS := Lib.hid HQ.out
      clear HQ
      go_wp2
      go_loopw [9] (fun k wr => ∃ i : Nat, i ≤ R.length ∧ k = .int .i64 i ∧ Below w2.heap.size w2 wr ∧ ∀ k, k < i → ¬ (recAt xs (R.getD k 0) 1 = 1 ∧ recAt xs (R.getD k 0) 0 ≠ -1 ∧ R.getD k 0 ∉ LS)) (fun k _ => R.length - (intOf k).toNat)
      case atStart => exact ⟨0, Nat.zero_le _, rfl, H3.out, fun k hk => by omega⟩
      case round =>
        obtain ⟨i, hi, rfl, hB, hN⟩ := hrel
        have hA := (hB.block w.heap.size z02).trans H2.out.2.2
        have z0 : w.heap.size < wr.heap.size := (Array.getElem?_eq_some_iff.1 hA).1
        have HN := Lib.hid hN
        have zi : (0 : Int) ≤ (i : Int) := by omega
        have hi9 : (i : Int) ≤ 199 := by omega
        clear hN
        by_cases hlt : i < R.length
        · have hlt' : (i : Int) < (R.length : Int) := by omega
          obtain ⟨lg, lcp, lcur, hls, -, -, -, hlc, -⟩ := (H2.out.2.1.below hB).pos (by omega)
          cases hls
          have hx := hlc i hlt
          obtain ⟨a, haa⟩ : ∃ a, R.getD i 0 = a := ⟨_, rfl⟩
          rw [haa] at hx
          have zg : lg < wr.heap.size := World.block_lt_of_cell? wr _ hx
          have HA := Lib.hid haa
          have c0 := fun (u : World) (hu : Below wr.heap.size wr u) => (hu.cell (p := ⟨w.heap.size, 0, none⟩) z0).trans (blk3 hA).1
          have c1 := fun (u : World) (hu : Below wr.heap.size wr u) => (hu.cell (p := ⟨w.heap.size, 1, none⟩) z0).trans (blk3 hA).2.1
          have c2 := fun (u : World) (hu : Below wr.heap.size wr u) => (hu.cell (p := ⟨w.heap.size, 2, none⟩) z0).trans (blk3 hA).2.2.1
          have hx := fun (u : World) (hu : Below wr.heap.size wr u) => (hu.cell (p := ⟨lg, i, none⟩) zg).trans hx
          have hv : RVal wr (.agg #[.int .i64 N, .slice ao0 xs.length cap0, .int .i64 st]) q N xs st := H.out.1.below (H1.out.2.1.trans ((H2.out.1.trans (hB.mono H2.out.1.size)).mono H1.out.2.1.size))
          have HV := Lib.hid hv
          obtain ⟨y0, y1, y2, y3, y4, t5, hy⟩ : ∃ y0 y1 y2 y3 y4 t5, y0 = recAt xs a 0 ∧ y1 = recAt xs a 1 ∧ y2 = recAt xs a 2 ∧ y3 = recAt xs a 3 ∧ y4 = recAt xs a 4 ∧ t5 = nthIs xs.length a := ⟨_, _, _, _, _, _, rfl, rfl, rfl, rfl, rfl, rfl⟩
          have cS0 : ∀ u : World, Below wr.heap.size wr u → Calls Try.prog 60 #[.agg #[.int .i64 N, .slice ao0 xs.length cap0, .int .i64 st], .int .i64 a] u fun e u' => e = .returned (.tuple #[.agg #[.int .i64 y0, .int .i64 y1, .int .i64 y2, .int .i64 y3, .int .i64 y4], .bool t5]) ∧ Below u.heap.size u u' := fun u hb => (rSee_f (HV.out.below hb) hl a).mono fun e u' ⟨e1, e2⟩ => ⟨by rw [e1, hy.1, hy.2.1, hy.2.2.1, hy.2.2.2.1, hy.2.2.2.2.1, hy.2.2.2.2.2]; rfl, e2⟩
          have cS := Lib.hid cS0
          have HY := Lib.hid hy
          clear hlc haa hv cS0 hy
          go_wp2_with fail
          go_cut [10, 11] from 54 to 62 (fun a9 a10 wx => a10 = .bool t5 ∧ Lies wr y0 y1 y2 y3 y4 a9 wx)
          case first =>
            go_region_held3 (fun wz => Below wr.heap.size wr wz)
              (first | (exact (Below.refl _ _).drew) | (go_split_ands; with_reducible first | assumption | exact bmr (by assumption) hb2 | exact alr (bmr (by assumption) hb2) _ | exact alr (bmr (Below.refl _ _).drew hb2) _ | exact alr (Below.refl _ _) _ | exact (alr (Below.refl _ _) _).drew | exact bmr (alr (Below.refl _ _) _).drew hb2 | exact alr (by assumption) _ | exact stb (by assumption)))
              (first | (
                go_at_call 60
                go_split_ands
                with_reducible refine (cS.out _ (by with_reducible assumption)).mono ?_
                rintro e w2 ⟨rfl, hb2⟩
                first
                | (have F2 : w2.heap[wr.heap.size]? = some (.cells #[.int .i64 0, .int .i64 0, .int .i64 0, .int .i64 0, .int .i64 0] 73 (0, 0)) := by
                     with_reducible exact (hb2.block wr.heap.size (by simp)).trans (alloc_drew_new _ _)
                   have f0 := blkF F2 0
                   have f1 := blkF F2 1
                   have f2 := blkF F2 2
                   have f3 := blkF F2 3
                   have f4 := blkF F2 4
                   obtain ⟨⟨e0, e1, e2, e3, e4⟩, -⟩ := blk5 F2
                   have y2' : wr.heap.size < w2.heap.size := (Array.getElem?_eq_some_iff.1 F2).1
                   have HX := Lib.hid F2
                   clear F2)
                | skip))
            all_goals
              go_wp2_with fail
              go_meet
              case rel => exact ⟨rfl, by first | (have hz : wr.heap.size ≤ w2.heap.size := hb2.size; with_reducible exact lies_a hz (by with_reducible assumption)) | (with_reducible exact lies_b HX.out (by with_reducible assumption))⟩
          case rest =>
            obtain ⟨rfl, r, rfl, hr, hR5, hBx⟩ := hcut
            have A2 : wc.heap[w.heap.size]? = some (.cells #[.int .i64 N, .slice ao0 xs.length cap0, .int .i64 st] 35 (0, 0)) := (hBx.block w.heap.size z0).trans hA
            obtain ⟨⟨e0, e1, e2, e3, e4⟩, zr⟩ := blk5 hR5
            have zlg := hBx.size
            have hx := hx wc hBx
            have hLp : IRow wc (.slice lo LS.length lcap) LS := H1.out.2.2.below (H2.out.1.trans ((hB.trans (hBx.mono hB.size)).mono H2.out.1.size))
            have BC : Below w2.heap.size w2 wc := hB.trans (hBx.mono hB.size)
            have HB := Lib.hid (And.intro hBx (And.intro A2 (And.intro (IRow.slx hLp) BC)))
            clear hR5 hBx A2 e2 e3 e4 hA hB hLp BC c0 c1 c2 cS HV
            by_cases h1 : y1 = 1
            · have h1' : (y1 == 1) = true := beq_iff_eq.2 h1
              have H0 := Lib.hid (HY.out.2.1.symm.trans h1)
              clear h1
              by_cases h0 : y0 = -1
              · have h0' : (y0 != -1) = false := by simp [h0]
                have HZ := Lib.hid (HY.out.1.symm.trans h0)
                clear h0
                go_wp2
                go_roundw
                case rel => exact ⟨i + 1, by omega, by go_num, HB.out.2.2.2, fun k hk => by
                  by_cases hki : k = i
                  · subst hki; rw [HA.out]; exact fun hh => hh.2.1 HZ.out
                  · exact HN.out k (by omega)⟩
                case measure => simp [intOf]; omega
              · have h0' : (y0 != -1) = true := by simp [h0]
                have HZ := Lib.hid (fun e : recAt xs a 0 = -1 => h0 (HY.out.1.trans e))
                clear h0
                go_wp2_with fail
                refine (Place_any _ LS a _ HB.out.2.2.1 (by omega)).mono ?_
                rintro e w' ⟨rfl, rfl⟩
                by_cases hm : a ∈ LS
                · have hp : 0 ≤ placeOf LS a := (placeOf_mem LS a).2 hm
                  have HM := Lib.hid hm
                  clear hm
                  go_wp2
                  go_roundw
                  case rel => exact ⟨i + 1, by omega, by go_num, HB.out.2.2.2, fun k hk => by
                    by_cases hki : k = i
                    · subst hki; rw [HA.out]; exact fun hh => hh.2.2 HM.out
                    · exact HN.out k (by omega)⟩
                  case measure => simp [intOf]; omega
                · have hp : placeOf LS a < 0 := by
                    have := (placeOf_mem LS a)
                    exact Int.not_le.1 (fun h => hm (this.1 h))
                  have HM := Lib.hid hm
                  clear hm
                  go_wp2
                  go_ret
                  have e31 : soundF xs = 31 := by rw [HS.out, if_pos (any_at hlt (by rw [HA.out]; exact decide_eq_true ⟨H0.out, HZ.out, HM.out⟩))]
                  exact ⟨by rw [e31]; rfl, H1.out.2.1.trans ((H2.out.1.trans (HB.out.2.2.2.mono H2.out.1.size)).mono H1.out.2.1.size)⟩
            · have h1' : (y1 == 1) = false := beq_eq_false_iff_ne.2 h1
              have H0 := Lib.hid (fun e : recAt xs a 1 = 1 => h1 (HY.out.2.1.trans e))
              clear h1
              go_wp2
              go_roundw
              case rel => exact ⟨i + 1, by omega, by go_num, HB.out.2.2.2, fun k hk => by
                by_cases hki : k = i
                · subst hki; rw [HA.out]; exact fun hh => H0.out hh.1
                · exact HN.out k (by omega)⟩
              case measure => simp [intOf]; omega
        · obtain rfl : i = R.length := by omega
          have e1 : R.any (fun a => decide (recAt xs a 1 = 1 ∧ recAt xs a 0 ≠ -1 ∧ a ∉ LS)) = false := any_no (fun k hk => decide_eq_false (HN.out k hk))
          have e0 : soundF xs = 0 := by rw [HS.out, e1, if_neg (by decide)]
          have H4 := Lib.hid (And.intro e0 hB)
          clear e0 e1 hB hA
          go_wp2
          go_ret
          exact ⟨by rw [H4.out.1]; rfl, H1.out.2.1.trans ((H2.out.1.trans (H4.out.2.mono H2.out.1.size)).mono H1.out.2.1.size)⟩

end Go.Proofs.Ytnpkhkfhlpopbaa
