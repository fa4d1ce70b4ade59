/- Who waits: what the reference of layer 14 tells. -/
import Derived.Test.YtnpkhkfhlpopbaaListH
import Derived.Test.YtnpkhkfhlpopbaaRef14C
namespace Go.Proofs.Ytnpkhkfhlpopbaa
set_option linter.unusedSimpArgs false
set_option linter.unusedVariables false
open Go.RowKit
open Go.ChangeShapes Go.WideShapes Go.ChangeAt

/-- Those of the first i that wait. -/
def waitK (xs R : List Int) (i : Nat) : List Int := (R.take i).filter fun a => decide (0 < recAt xs a 0)
theorem waitK_len (xs R : List Int) (i : Nat) : (waitK xs R i).length ≤ i := by
  unfold waitK
  have h1 := List.length_filter_le (fun a => decide (0 < recAt xs a 0)) (R.take i)
  have h2 : (R.take i).length ≤ i := by rw [List.length_take]; omega
  omega
theorem waitK_succ {xs R : List Int} {i : Nat} (h : i < R.length) : waitK xs R (i + 1) = if decide (0 < recAt xs (R.getD i 0) 0) = true then waitK xs R i ++ [R.getD i 0] else waitK xs R i := by
  unfold waitK
  rw [take_one h, List.filter_append]
  split
  · rename_i hb; rw [List.filter_cons, if_pos hb]; rfl
  · rename_i hb; rw [List.filter_cons, if_neg hb]; simp
theorem waitK_all (xs R : List Int) : waitK xs R R.length = R.filter fun a => decide (0 < recAt xs a 0) := by
  unfold waitK; rw [List.take_length]
set_option maxRecDepth 100000 in
set_option maxHeartbeats 8000000 in
theorem rWaiting_f (w : World) (v : Value) (q : Option Nat) (N st : Int) (xs : List Int) (h : RVal w v q N xs st) (hl : xs.length ≤ 1000) :
    Calls Try.prog 47 #[v] w fun e w' => ∃ u, e = .returned u ∧ IRow w' u ((recsL xs.length).filter fun a => decide (0 < recAt xs a 0)) ∧ Below w.heap.size w w' := by
  obtain ⟨i0, hi, hz0, hz1, hz2⟩ := info_parts Try.infoInt3
  obtain ⟨ao0, cap0, rfl, -, -⟩ := h.open
  have H := Lib.hid h
  clear h
  go_enter Try.func47, Try.ntmps47
  go_wp2_with fail
  refine (rRecords_f _ _ q N st xs (H.out.below (by go_grown)) hl).mono ?_
  rintro e w1 ⟨u, rfl, hu, hb1⟩
  have A1 : w1.heap[w.heap.size]? = some (.cells #[.int .i64 N, .slice ao0 xs.length cap0, .int .i64 st] 35 (0, 0)) := (hb1.block w.heap.size (by simp)).trans (heap_alloc_new _ _)
  have B1 : Below w.heap.size w w1 := Below.trans (by go_grown) (hb1.mono (by simp))
  obtain ⟨R, hRR⟩ : ∃ R, recsL xs.length = R := ⟨_, rfl⟩
  have hRl : R.length ≤ 199 := by rw [← hRR]; unfold recsL; rw [List.length_map, List.length_range]; have := manyOf_rng hl; omega
  have HRR := Lib.hid hRR
  rw [hRR] at hu
  obtain ⟨lo, lcap, rfl⟩ := hu.shape
  have H1 := Lib.hid (And.intro A1 (And.intro B1 hu))
  have z01 : w.heap.size < w1.heap.size := (Array.getElem?_eq_some_iff.1 A1).1
  clear hb1 A1 B1 hu hRR
  go_wp2
  go_loopw [3, 5] (fun l k wr => ∃ (i j : Nat) (ao : Option Addr) (cap : Nat), i ≤ R.length ∧ j = (waitK xs R i).length ∧ l = .slice ao j cap ∧ k = .int .i64 i ∧ IRow wr (.slice ao j cap) (waitK xs R i) ∧ wr.heap[w.heap.size]? = some (.cells #[.int .i64 N, .slice ao0 xs.length cap0, .int .i64 st] 35 (0, 0)) ∧ Below w1.heap.size w1 wr ∧ (∀ b, (Value.slice ao j cap).ownBlock = some b → w1.heap.size ≤ b)) (fun _ k _ => R.length - (intOf k).toNat)
  case atStart => exact ⟨0, 0, none, 0, Nat.zero_le _, rfl, rfl, rfl, IRow.nil _, H1.out.1, Below.refl _ _, fun b e => (by cases e)⟩
  case round =>
    obtain ⟨i, j, ao, cap, hiM, hj, rfl, rfl, hRow, hA, hB, hO⟩ := hrel
    have hjl : j ≤ i := by rw [hj]; exact waitK_len _ _ _
    have z0 : w.heap.size < wr.heap.size := (Array.getElem?_eq_some_iff.1 hA).1
    have HR := Lib.hid (And.intro hRow (And.intro hA (And.intro hB (And.intro hO hj))))
    have hi0 : (0 : Int) ≤ (i : Int) := by omega
    have hi9 : (i : Int) ≤ 199 := by omega
    have hR9 : (R.length : Int) ≤ 199 := by omega
    clear hRow hO hj
    by_cases hlt : i < R.length
    · have hlt' : (i : Int) < (R.length : Int) := by omega
      obtain ⟨lg, lcp, lcur, hls, -, -, -, hlc, -⟩ := (H1.out.2.2.below hB).pos (by omega)
      cases hls
      have hx := hlc i hlt
      obtain ⟨a, haa⟩ : ∃ a, R.getD i 0 = a := ⟨_, rfl⟩
      rw [haa] at hx
      have zg : lg < wr.heap.size := World.block_lt_of_cell? wr _ hx
      have HA := Lib.hid haa
      have c0 := fun (u : World) (hu : Below wr.heap.size wr u) => (hu.cell (p := ⟨w.heap.size, 0, none⟩) z0).trans (blk3 hA).1
      have c1 := fun (u : World) (hu : Below wr.heap.size wr u) => (hu.cell (p := ⟨w.heap.size, 1, none⟩) z0).trans (blk3 hA).2.1
      have c2 := fun (u : World) (hu : Below wr.heap.size wr u) => (hu.cell (p := ⟨w.heap.size, 2, none⟩) z0).trans (blk3 hA).2.2.1
      have hx := fun (u : World) (hu : Below wr.heap.size wr u) => (hu.cell (p := ⟨lg, i, none⟩) zg).trans hx
      have hv : RVal wr (.agg #[.int .i64 N, .slice ao0 xs.length cap0, .int .i64 st]) q N xs st := H.out.below (H1.out.2.1.trans (hB.mono H1.out.2.1.size))
      have HV := Lib.hid hv
      obtain ⟨y0, y1, y2, y3, y4, t5, hy⟩ : ∃ y0 y1 y2 y3 y4 t5, y0 = recAt xs a 0 ∧ y1 = recAt xs a 1 ∧ y2 = recAt xs a 2 ∧ y3 = recAt xs a 3 ∧ y4 = recAt xs a 4 ∧ t5 = nthIs xs.length a := ⟨_, _, _, _, _, _, rfl, rfl, rfl, rfl, rfl, rfl⟩
      have cS0 : ∀ u : World, Below wr.heap.size wr u → Calls Try.prog 60 #[.agg #[.int .i64 N, .slice ao0 xs.length cap0, .int .i64 st], .int .i64 a] u fun e u' => e = .returned (.tuple #[.agg #[.int .i64 y0, .int .i64 y1, .int .i64 y2, .int .i64 y3, .int .i64 y4], .bool t5]) ∧ Below u.heap.size u u' := fun u hb => (rSee_f (HV.out.below hb) hl a).mono fun e u' ⟨e1, e2⟩ => ⟨by rw [e1, hy.1, hy.2.1, hy.2.2.1, hy.2.2.2.1, hy.2.2.2.2.1, hy.2.2.2.2.2]; rfl, e2⟩
      have cS := Lib.hid cS0
      have HY := Lib.hid hy
      clear hlc haa hv cS0 hy
      go_wp2_with fail
      go_cut [6, 7] from 16 to 24 (fun a9 a10 wx => a10 = .bool t5 ∧ Lies wr y0 y1 y2 y3 y4 a9 wx)
      case first =>
        go_region_held3 (fun wz => Below wr.heap.size wr wz)
          (first | (exact (Below.refl _ _).drew) | (go_split_ands; with_reducible first | assumption | exact bmr (by assumption) hb2 | exact alr (bmr (by assumption) hb2) _ | exact alr (bmr (Below.refl _ _).drew hb2) _ | exact alr (Below.refl _ _) _ | exact (alr (Below.refl _ _) _).drew | exact bmr (alr (Below.refl _ _) _).drew hb2 | exact alr (by assumption) _ | exact stb (by assumption)))
          (first | (
            go_at_call 60
            go_split_ands
            with_reducible refine (cS.out _ (by with_reducible assumption)).mono ?_
            rintro e w2 ⟨rfl, hb2⟩
            first
            | (have F2 : w2.heap[wr.heap.size]? = some (.cells #[.int .i64 0, .int .i64 0, .int .i64 0, .int .i64 0, .int .i64 0] 73 (0, 0)) := by
                 with_reducible exact (hb2.block wr.heap.size (by simp)).trans (alloc_drew_new _ _)
               have f0 := blkF F2 0
               have f1 := blkF F2 1
               have f2 := blkF F2 2
               have f3 := blkF F2 3
               have f4 := blkF F2 4
               obtain ⟨⟨e0, e1, e2, e3, e4⟩, -⟩ := blk5 F2
               have y2' : wr.heap.size < w2.heap.size := (Array.getElem?_eq_some_iff.1 F2).1
               have HX := Lib.hid F2
               clear F2)
            | skip))
        all_goals
          go_wp2_with fail
          go_meet
          case rel => exact ⟨rfl, by first | (have hz : wr.heap.size ≤ w2.heap.size := hb2.size; with_reducible exact lies_a hz (by with_reducible assumption)) | (with_reducible exact lies_b HX.out (by with_reducible assumption))⟩
      case rest =>
        obtain ⟨rfl, r, rfl, hr, hR5, hBx⟩ := hcut
        have A2 : wc.heap[w.heap.size]? = some (.cells #[.int .i64 N, .slice ao0 xs.length cap0, .int .i64 st] 35 (0, 0)) := (hBx.block w.heap.size z0).trans hA
        obtain ⟨⟨e0, e1, e2, e3, e4⟩, zr⟩ := blk5 hR5
        have hxx := hx wc hBx
        have hK : waitK xs R (i + 1) = if decide (0 < y0) = true then waitK xs R i ++ [a] else waitK xs R i := by
          rw [waitK_succ hlt, HA.out, ← HY.out.1]
        have HK := Lib.hid hK
        have HB := Lib.hid (And.intro hBx A2)
        have BW := Lib.hid (H1.out.2.1.trans ((hB.trans (hBx.mono hB.size)).mono H1.out.2.1.size))
        clear hr hR5 hBx A2 e1 e2 e3 e4 hK c0 c1 c2 cS HV hx hA hB
        by_cases h0 : 0 < y0
        · have HS := Lib.hid (HK.out.trans (if_pos (decide_eq_true h0)))
          have U : ∀ u : World, Below wc.heap.size wc u → u.ownsRow 0 3 1 (.slice ao j cap) j ((waitK xs R i).map (Value.int .i64)) := fun u hu2 => by
            have := (HR.out.1.below HB.out.1).below hu2
            unfold IRow at this
            rwa [← HR.out.2.2.2.2] at this
          have HU := Lib.hid U
          clear U
          go_wp2_with (at_builtin; refine wpList_append_rows _ rfl _ _ 24 rfl 0 0 3 i0 (.int .i64 0) 1 8 Try.underlying24 hi hz0 hz1 hz2 rfl (by decide) _ _ _ rfl (HU.out _ (by go_grown)) _ 1 _ rfl (irow_lit (vs := [a]) (heap_alloc_new _ _) rfl (by omega)) (fun v hv => (by obtain ⟨q, _, rfl⟩ := List.mem_map.1 hv; rfl)) ?c3 ?c4 ?c5 ?_)
          try case c3 => unfold maxLen; omega
          try case c4 => omega
          try case c5 => exact Nat.zero_le _
          intro v5 w5 own5 gr5 _ loc5
          have hSS : waitK xs R (i + 1) = waitK xs R i ++ [a] := HS.out
          have hl5 : (waitK xs R (i + 1)).length = j + 1 := by rw [hSS, List.length_append, ← HR.out.2.2.2.2]; rfl
          have R5 : IRow w5 v5 (waitK xs R (i + 1)) := IRow.of own5 hl5.symm (by rw [hSS]; simp)
          obtain ⟨ao5, cap5, rfl⟩ := R5.shape
          rw [hl5] at R5
          try rw [hl5] at loc5
          try rw [hl5]
          have z2 := (Array.getElem?_eq_some_iff.1 HB.out.2).1
          have K5 : Kept (fun k => (Value.slice ao j cap).ownBlock = some k) wc w5 := (((Kept.refl _ wc).alloc _)).grown gr5 (fun k e _ => e)
          have A5 := (K5.block w.heap.size z2 (fun e => by have := HR.out.2.2.2.1 _ e; omega)).trans HB.out.2
          have BR : Below w1.heap.size w1 wc := HR.out.2.2.1.trans (HB.out.1.mono HR.out.2.2.1.size)
          have O5 : ∀ b, (Value.slice ao5 (j + 1) cap5).ownBlock = some b → w1.heap.size ≤ b := fun b e => by
            rcases loc5 with h | h
            · exact HR.out.2.2.2.1 b (h ▸ e)
            · rw [e] at h; simp at h; have := BR.size; omega
          have B5 : Below w1.heap.size w1 w5 := BR.trans (K5.below BR.size (fun k hk e => by have := HR.out.2.2.2.1 k e; omega))
          have HZ := Lib.hid (And.intro R5 (And.intro A5 (And.intro B5 (And.intro O5 hl5))))
          clear own5 gr5 loc5 R5 K5 A5 O5 B5 hl5 hSS z2 BR
          go_wp2
          go_roundw
          case rel => exact ⟨i + 1, j + 1, ao5, cap5, by omega, HZ.out.2.2.2.2.symm, rfl, by go_num, HZ.out.1, HZ.out.2.1, HZ.out.2.2.1, HZ.out.2.2.2.1⟩
          case measure => simp [intOf]; omega
        · have HS := Lib.hid (HK.out.trans (if_neg (by rw [decide_eq_false h0]; decide)))
          go_wp2
          go_roundw
          case rel => exact ⟨i + 1, j, ao, cap, by omega, by rw [HS.out]; exact HR.out.2.2.2.2, rfl, by go_num, by rw [HS.out]; exact HR.out.1.below HB.out.1, HB.out.2, HR.out.2.2.1.trans (HB.out.1.mono HR.out.2.2.1.size), HR.out.2.2.2.1⟩
          case measure => simp [intOf]; omega
    · obtain rfl : i = R.length := by omega
      clear hA hB
      go_wp2
      go_ret
      exact ⟨_, rfl, by rw [HRR.out, ← waitK_all]; exact HR.out.1, H1.out.2.1.trans (HR.out.2.2.1.mono H1.out.2.1.size)⟩

end Go.Proofs.Ytnpkhkfhlpopbaa
