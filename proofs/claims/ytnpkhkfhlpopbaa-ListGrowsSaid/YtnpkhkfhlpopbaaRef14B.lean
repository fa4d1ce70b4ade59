/- Who is stale: what the reference of layer 14 tells. -/
import Derived.Test.YtnpkhkfhlpopbaaRef14A
import Derived.Test.YtnpkhkfhlpopbaaBel
namespace Go.Proofs.Ytnpkhkfhlpopbaa
set_option linter.unusedSimpArgs false
set_option linter.unusedVariables false
open Go.RowKit
open Go.ChangeShapes Go.WideShapes Go.ChangeAt

def staleB (xs : List Int) (age a : Int) : Bool := decide (recAt xs a 1 = 1 ∧ recAt xs a 0 = 0 ∧ age < wrap64 (cellAt xs 2 - recAt xs a 2))
theorem take_one {l : List Int} {i : Nat} (h : i < l.length) : l.take (i + 1) = l.take i ++ [l.getD i 0] := by
  rw [List.take_succ_eq_append_getElem h, List.getD_eq_getElem?_getD, List.getElem?_eq_getElem h]; rfl
theorem drop_getD (l : List Int) (i : Nat) : (l.drop 1).getD i 0 = l.getD (i + 1) 0 := by
  rw [List.getD_eq_getElem?_getD, List.getD_eq_getElem?_getD, List.getElem?_drop, Nat.add_comm]
/-- Those of the first i behind the first one that are stale. -/
def staleK (xs LS : List Int) (age : Int) (i : Nat) : List Int := ((LS.drop 1).take i).filter (staleB xs age)
theorem staleK_len (xs LS : List Int) (age : Int) (i : Nat) : (staleK xs LS age i).length ≤ i := by
  unfold staleK
  have h1 := List.length_filter_le (staleB xs age) ((LS.drop 1).take i)
  have h2 : ((LS.drop 1).take i).length ≤ i := by rw [List.length_take]; omega
  omega
theorem staleK_succ {xs LS : List Int} {age : Int} {i : Nat} (h : i + 1 < LS.length) : staleK xs LS age (i + 1) = if staleB xs age (LS.getD (i + 1) 0) = true then staleK xs LS age i ++ [LS.getD (i + 1) 0] else staleK xs LS age i := by
  unfold staleK
  rw [take_one (by rw [List.length_drop]; omega), List.filter_append, drop_getD]
  split
  · rename_i hb; rw [List.filter_cons, if_pos hb]; rfl
  · rename_i hb; rw [List.filter_cons, if_neg hb]; simp
theorem staleK_all (xs LS : List Int) (age : Int) : staleK xs LS age (LS.length - 1) = (LS.drop 1).filter (staleB xs age) := by
  unfold staleK
  rw [List.take_of_length_le (by rw [List.length_drop]; omega)]
set_option maxRecDepth 100000 in
set_option maxHeartbeats 8000000 in
theorem rStale_f (w : World) (v : Value) (q : Option Nat) (N st : Int) (xs : List Int) (age : Int) (LS : List Int) (OK : Bool) (h : RVal w v q N xs st) (hl : xs.length ≤ 1000) (hR : reachL xs = (LS, OK)) (hLS : LS.length ≤ 2000) :
    Calls Try.prog 48 #[v, .int .i64 age] w fun e w' => ∃ u, e = .returned u ∧ IRow w' u (staleL xs age) ∧ Below w.heap.size w w' := by
  obtain ⟨i0, hi, hz0, hz1, hz2⟩ := info_parts Try.infoInt3
  obtain ⟨ao0, cap0, rfl, -, -⟩ := h.open
  have H := Lib.hid (And.intro h hR)
  clear h hR
  go_enter Try.func48, Try.ntmps48
  go_wp2_with fail
  refine (rReach_f _ _ q N st xs LS OK (H.out.1.below (by go_grown)) hl H.out.2).mono ?_
  rintro e w1 ⟨u, rfl, hu, hb1⟩
  have A1 : w1.heap[w.heap.size]? = some (.cells #[.int .i64 N, .slice ao0 xs.length cap0, .int .i64 st] 35 (0, 0)) := (hb1.block w.heap.size (by simp)).trans (heap_alloc_new _ _)
  have B1 : Below w.heap.size w w1 := Below.trans (by go_grown) (hb1.mono (by simp))
  obtain ⟨lo, lcap, rfl⟩ := hu.shape
  have H1 := Lib.hid (And.intro A1 (And.intro B1 hu))
  have z01 : w.heap.size < w1.heap.size := (Array.getElem?_eq_some_iff.1 A1).1
  clear hb1 A1 B1 hu
  go_wp2
  go_loopw [5, 8] (fun l k wr => ∃ (n j : Nat) (ao : Option Addr) (cap : Nat), 1 ≤ n ∧ (n = 1 ∨ n ≤ LS.length) ∧ j = (staleK xs LS age (n - 1)).length ∧ l = .slice ao j cap ∧ k = .int .i64 n ∧ IRow wr (.slice ao j cap) (staleK xs LS age (n - 1)) ∧ wr.heap[w.heap.size]? = some (.cells #[.int .i64 N, .slice ao0 xs.length cap0, .int .i64 st] 35 (0, 0)) ∧ Below w1.heap.size w1 wr ∧ (∀ b, (Value.slice ao j cap).ownBlock = some b → w1.heap.size ≤ b)) (fun _ k _ => LS.length - (intOf k).toNat)
  case atStart => exact ⟨1, 0, none, 0, Nat.le_refl _, .inl rfl, rfl, rfl, rfl, IRow.nil _, H1.out.1, Below.refl _ _, fun b e => (by cases e)⟩
  case round =>
    obtain ⟨n, j, ao, cap, hn1, hnM, hj, rfl, rfl, hRow, hA, hB, hO⟩ := hrel
    have hjl : j ≤ n := by rw [hj]; exact Nat.le_trans (staleK_len _ _ _ _) (by omega)
    have hil : n ≤ 2000 := by omega
    have z0 : w.heap.size < wr.heap.size := (Array.getElem?_eq_some_iff.1 hA).1
    have HR := Lib.hid (And.intro hRow (And.intro hA (And.intro hB (And.intro hO (And.intro hj hnM)))))
    have hi0 : (0 : Int) ≤ (n : Int) := by omega
    by_cases hlt : n < LS.length
    · have hlt' : (n : Int) < (LS.length : Int) := by omega
      have hLS' : (LS.length : Int) ≤ 2000 := by omega
      obtain ⟨lg, lcp, lcur, hls, -, -, -, hlc, -⟩ := (H1.out.2.2.below hB).pos (by omega)
      cases hls
      have hx := hlc n hlt
      obtain ⟨a, haa⟩ : ∃ a, LS.getD n 0 = a := ⟨_, rfl⟩
      rw [haa] at hx
      have zg : lg < wr.heap.size := World.block_lt_of_cell? wr _ hx
      have HA := Lib.hid haa
      have c0 := fun (u : World) (hu : Below wr.heap.size wr u) => (hu.cell (p := ⟨w.heap.size, 0, none⟩) z0).trans (blk3 hA).1
      have c1 := fun (u : World) (hu : Below wr.heap.size wr u) => (hu.cell (p := ⟨w.heap.size, 1, none⟩) z0).trans (blk3 hA).2.1
      have c2 := fun (u : World) (hu : Below wr.heap.size wr u) => (hu.cell (p := ⟨w.heap.size, 2, none⟩) z0).trans (blk3 hA).2.2.1
      have hx := fun (u : World) (hu : Below wr.heap.size wr u) => (hu.cell (p := ⟨lg, n, none⟩) zg).trans hx
      have hv : RVal wr (.agg #[.int .i64 N, .slice ao0 xs.length cap0, .int .i64 st]) q N xs st := H.out.1.below (H1.out.2.1.trans (hB.mono H1.out.2.1.size))
      have HV := Lib.hid hv
      obtain ⟨y0, y1, y2, y3, y4, t5, hy⟩ : ∃ y0 y1 y2 y3 y4 t5, y0 = recAt xs a 0 ∧ y1 = recAt xs a 1 ∧ y2 = recAt xs a 2 ∧ y3 = recAt xs a 3 ∧ y4 = recAt xs a 4 ∧ t5 = nthIs xs.length a := ⟨_, _, _, _, _, _, rfl, rfl, rfl, rfl, rfl, rfl⟩
      have cS0 : ∀ u : World, Below wr.heap.size wr u → Calls Try.prog 60 #[.agg #[.int .i64 N, .slice ao0 xs.length cap0, .int .i64 st], .int .i64 a] u fun e u' => e = .returned (.tuple #[.agg #[.int .i64 y0, .int .i64 y1, .int .i64 y2, .int .i64 y3, .int .i64 y4], .bool t5]) ∧ Below u.heap.size u u' := fun u hb => (rSee_f (HV.out.below hb) hl a).mono fun e u' ⟨e1, e2⟩ => ⟨by rw [e1, hy.1, hy.2.1, hy.2.2.1, hy.2.2.2.1, hy.2.2.2.2.1, hy.2.2.2.2.2]; rfl, e2⟩
      have cS := Lib.hid cS0
      have HY := Lib.hid hy
      clear hRow hA hB hO hj hnM hlc haa hv cS0 hy
      go_wp2_with fail
      go_cut [9, 10] from 22 to 30 (fun a9 a10 wx => a10 = .bool t5 ∧ Lies wr y0 y1 y2 y3 y4 a9 wx)
      case first =>
        go_region_held3 (fun wz => Below wr.heap.size wr wz)
          (first | (exact (Below.refl _ _).drew) | (go_split_ands; with_reducible first | assumption | exact bmr (by assumption) hb2 | exact alr (bmr (by assumption) hb2) _ | exact alr (bmr (Below.refl _ _).drew hb2) _ | exact alr (Below.refl _ _) _ | exact (alr (Below.refl _ _) _).drew | exact bmr (alr (Below.refl _ _) _).drew hb2 | exact alr (by assumption) _ | exact stb (by assumption)))
          (first | (
            go_at_call 60
            go_split_ands
            with_reducible refine (cS.out _ (by with_reducible assumption)).mono ?_
            rintro e w2 ⟨rfl, hb2⟩
            first
            | (have F2 : w2.heap[wr.heap.size]? = some (.cells #[.int .i64 0, .int .i64 0, .int .i64 0, .int .i64 0, .int .i64 0] 73 (0, 0)) := by
                 with_reducible exact (hb2.block wr.heap.size (by simp)).trans (alloc_drew_new _ _)
               have f0 := blkF F2 0
               have f1 := blkF F2 1
               have f2 := blkF F2 2
               have f3 := blkF F2 3
               have f4 := blkF F2 4
               obtain ⟨⟨e0, e1, e2, e3, e4⟩, -⟩ := blk5 F2
               have y2' : wr.heap.size < w2.heap.size := (Array.getElem?_eq_some_iff.1 F2).1
               have HX := Lib.hid F2
               clear F2)
            | skip))
        all_goals
          go_wp2_with fail
          go_meet
          case rel => exact ⟨rfl, by first | (have hz : wr.heap.size ≤ w2.heap.size := hb2.size; with_reducible exact lies_a hz (by with_reducible assumption)) | (with_reducible exact lies_b HX.out (by with_reducible assumption))⟩
      case rest =>
        obtain ⟨rfl, r, rfl, hr, hR5, hBx⟩ := hcut
        have A2 : wc.heap[w.heap.size]? = some (.cells #[.int .i64 N, .slice ao0 xs.length cap0, .int .i64 st] 35 (0, 0)) := (hBx.block w.heap.size z0).trans HR.out.2.1
        obtain ⟨d0, d1, d2, -, -, -, zc⟩ := blk3 A2
        obtain ⟨⟨e0, e1, e2, e3, e4⟩, zr⟩ := blk5 hR5
        replace d0 := Bel.cell zc d0
        replace d1 := Bel.cell zc d1
        replace d2 := Bel.cell zc d2
        replace e0 := Bel.cell zr e0
        replace e1 := Bel.cell zr e1
        replace e2 := Bel.cell zr e2
        obtain ⟨p, hp⟩ : ∃ p, cellAt xs 2 = p := ⟨_, rfl⟩
        have cT : ∀ u : World, Below wc.heap.size wc u → Calls Try.prog 59 #[.agg #[.int .i64 N, .slice ao0 xs.length cap0, .int .i64 st], .int .i64 2] u fun e u' => e = .returned (.int .i64 p) ∧ Below u.heap.size u u' := fun u hu => by rw [← hp]; exact rAt_f (HV.out.below (hBx.trans (hu.mono hBx.size))) 2
        have HT := Lib.hid cT
        have hB : staleB xs age (LS.getD n 0) = decide (y1 = 1 ∧ y0 = 0 ∧ age < wrap64 (p - y2)) := by
          rw [HA.out]; unfold staleB; rw [← HY.out.2.1, ← HY.out.1, ← HY.out.2.2.1, hp]
        have hK : staleK xs LS age n = if staleB xs age (LS.getD n 0) = true then staleK xs LS age (n - 1) ++ [a] else staleK xs LS age (n - 1) := by
          obtain ⟨i, rfl⟩ : ∃ i, n = i + 1 := ⟨n - 1, by omega⟩
          rw [staleK_succ hlt, HA.out]; rfl
        have HK := Lib.hid (And.intro hB hK)
        have HB := Lib.hid (And.intro hBx A2)
        clear hr hR5 hBx A2 zc zr e3 e4 hp cT hB hK c0 c1 c2 z0
        by_cases h1 : y1 = 1
        · by_cases h0 : y0 = 0
          · by_cases h2 : age < wrap64 (p - y2)
            · have hs : staleB xs age (LS.getD n 0) = true := by rw [HK.out.1]; exact decide_eq_true ⟨h1, h0, h2⟩
              have h1' : (y1 == 1) = true := beq_iff_eq.2 h1
              have h0' : (y0 == 0) = true := beq_iff_eq.2 h0
              have HS := Lib.hid (HK.out.2.trans (if_pos hs))
              clear h1 h0 hs
              go_wp2_with fail
              refine wp_region_bel (by kernel_rfl) (by kernel_rfl) wc (Below.refl _ _).drew ?_
              repeat (go_big_quiet_step ((with_reducible refine (HT.out _ (Bel.h _)).mono ?_; rintro e w9 ⟨rfl, hb⟩; exact ⟨rfl, ⟨w9, bmr (Bel.h _) hb⟩, rfl⟩)))
              refine wpQuiet_nil ?_
              rintro ux ⟨⟨u, hu⟩, rfl⟩
              have hxx := hx ux (HB.out.1.trans (hu.mono HB.out.1.size))
              have U : ∀ u : World, Below ux.heap.size ux u → u.ownsRow 0 3 1 (.slice ao j cap) j ((staleK xs LS age (n - 1)).map (Value.int .i64)) := fun u hu2 => by
                have := (HR.out.1.below (HB.out.1.trans (hu.mono HB.out.1.size))).below hu2
                unfold IRow at this
                rwa [← HR.out.2.2.2.2.1] at this
              have HU := Lib.hid U
              clear U hx
              go_wp2_with (at_builtin; refine wpList_append_rows _ rfl _ _ 24 rfl 0 0 3 i0 (.int .i64 0) 1 8 Try.underlying24 hi hz0 hz1 hz2 rfl (by decide) _ _ _ rfl (HU.out _ (by go_grown)) _ 1 _ rfl (irow_lit (vs := [a]) (heap_alloc_new _ _) rfl (by omega)) (fun v hv => (by obtain ⟨q, _, rfl⟩ := List.mem_map.1 hv; rfl)) ?c3 ?c4 ?c5 ?_)
              try case c3 => unfold maxLen; omega
              try case c4 => omega
              try case c5 => exact Nat.zero_le _
              intro v5 w5 own5 gr5 _ loc5
              
              have hSS : staleK xs LS age n = staleK xs LS age (n - 1) ++ [a] := HS.out
              have hl5 : (staleK xs LS age n).length = j + 1 := by rw [hSS, List.length_append, ← HR.out.2.2.2.2.1]; rfl
              have R5 : IRow w5 v5 (staleK xs LS age n) := IRow.of own5 hl5.symm (by rw [hSS]; simp)
              obtain ⟨ao5, cap5, rfl⟩ := R5.shape
              rw [hl5] at R5
              try rw [hl5] at loc5
              try rw [hl5]
              have BU := HB.out.1.trans (hu.mono HB.out.1.size)
              have z2 := (Array.getElem?_eq_some_iff.1 HB.out.2).1
              have AU := (hu.block w.heap.size z2).trans HB.out.2
              have zU : w.heap.size < ux.heap.size := (Array.getElem?_eq_some_iff.1 AU).1
              have K5 : Kept (fun k => (Value.slice ao j cap).ownBlock = some k) ux w5 := (((Kept.refl _ ux).alloc _)).grown gr5 (fun k e _ => e)
              have A5 := (K5.block w.heap.size zU (fun e => by have := HR.out.2.2.2.1 _ e; omega)).trans AU
              have BR : Below w1.heap.size w1 ux := HR.out.2.2.1.trans (BU.mono HR.out.2.2.1.size)
              have O5 : ∀ b, (Value.slice ao5 (j + 1) cap5).ownBlock = some b → w1.heap.size ≤ b := fun b e => by
                rcases loc5 with h | h
                · exact HR.out.2.2.2.1 b (h ▸ e)
                · rw [e] at h; simp at h; have := BR.size; omega
              have B5 : Below w1.heap.size w1 w5 := BR.trans (K5.below BR.size (fun k hk e => by have := HR.out.2.2.2.1 k e; omega))
              have HZ := Lib.hid (And.intro R5 (And.intro A5 (And.intro B5 (And.intro O5 hl5))))
              clear own5 gr5 loc5 R5 K5 A5 O5 B5 hl5 hSS BU z2 AU zU BR
              go_wp2
              go_roundw
              case rel => exact ⟨n + 1, j + 1, ao5, cap5, by omega, .inr (by omega), by rw [Nat.add_sub_cancel]; exact HZ.out.2.2.2.2.symm, rfl, by go_num, by rw [Nat.add_sub_cancel]; exact HZ.out.1, HZ.out.2.1, HZ.out.2.2.1, HZ.out.2.2.2.1⟩
              case measure => simp [intOf]; omega
            · have hs : staleB xs age (LS.getD n 0) = false := by rw [HK.out.1]; exact decide_eq_false (fun h => h2 h.2.2)
              have h1' : (y1 == 1) = true := beq_iff_eq.2 h1
              have h0' : (y0 == 0) = true := beq_iff_eq.2 h0
              have HS := Lib.hid (HK.out.2.trans (if_neg (by rw [hs]; decide)))
              clear h1 h0 hs
              go_wp2_with fail
              refine wp_region_bel (by kernel_rfl) (by kernel_rfl) wc (Below.refl _ _).drew ?_
              repeat (go_big_quiet_step ((with_reducible refine (HT.out _ (Bel.h _)).mono ?_; rintro e w9 ⟨rfl, hb⟩; exact ⟨rfl, ⟨w9, bmr (Bel.h _) hb⟩, rfl⟩)))
              refine wpQuiet_nil ?_
              rintro ux ⟨⟨u, hu⟩, rfl⟩
              go_wp2
              go_roundw
              case rel => exact ⟨n + 1, j, ao, cap, by omega, .inr (by omega), by rw [Nat.add_sub_cancel, HS.out]; exact HR.out.2.2.2.2.1, rfl, by go_num, by rw [Nat.add_sub_cancel, HS.out]; exact HR.out.1.below (HB.out.1.trans (hu.mono HB.out.1.size)), (hu.block w.heap.size (Array.getElem?_eq_some_iff.1 HB.out.2).1).trans HB.out.2, HR.out.2.2.1.trans ((HB.out.1.trans (hu.mono HB.out.1.size)).mono HR.out.2.2.1.size), HR.out.2.2.2.1⟩
              case measure => simp [intOf]; omega
          · have hs : staleB xs age (LS.getD n 0) = false := by rw [HK.out.1]; exact decide_eq_false (fun h => h0 h.2.1)
            have h1' : (y1 == 1) = true := beq_iff_eq.2 h1
            have h0' : (y0 == 0) = false := beq_eq_false_iff_ne.2 h0
            have HS := Lib.hid (HK.out.2.trans (if_neg (by rw [hs]; decide)))
            clear h1 h0 hs
            go_wp2_with fail
            refine wp_region_bel (by kernel_rfl) (by kernel_rfl) wc (Below.refl _ _).drew ?_
            repeat (go_big_quiet_step ((with_reducible refine (HT.out _ (Bel.h _)).mono ?_; rintro e w9 ⟨rfl, hb⟩; exact ⟨rfl, ⟨w9, bmr (Bel.h _) hb⟩, rfl⟩)))
            refine wpQuiet_nil ?_
            rintro ux ⟨⟨u, hu⟩, rfl⟩
            go_wp2
            go_roundw
            case rel => exact ⟨n + 1, j, ao, cap, by omega, .inr (by omega), by rw [Nat.add_sub_cancel, HS.out]; exact HR.out.2.2.2.2.1, rfl, by go_num, by rw [Nat.add_sub_cancel, HS.out]; exact HR.out.1.below (HB.out.1.trans (hu.mono HB.out.1.size)), (hu.block w.heap.size (Array.getElem?_eq_some_iff.1 HB.out.2).1).trans HB.out.2, HR.out.2.2.1.trans ((HB.out.1.trans (hu.mono HB.out.1.size)).mono HR.out.2.2.1.size), HR.out.2.2.2.1⟩
            case measure => simp [intOf]; omega
        · have hs : staleB xs age (LS.getD n 0) = false := by rw [HK.out.1]; exact decide_eq_false (fun h => h1 h.1)
          have h1' : (y1 == 1) = false := beq_eq_false_iff_ne.2 h1
          have HS := Lib.hid (HK.out.2.trans (if_neg (by rw [hs]; decide)))
          clear h1 hs
          go_wp2_with fail
          refine wp_region_bel (by kernel_rfl) (by kernel_rfl) wc (Below.refl _ _).drew ?_
          repeat (go_big_quiet_step ((with_reducible refine (HT.out _ (Bel.h _)).mono ?_; rintro e w9 ⟨rfl, hb⟩; exact ⟨rfl, ⟨w9, bmr (Bel.h _) hb⟩, rfl⟩)))
          refine wpQuiet_nil ?_
          rintro ux ⟨⟨u, hu⟩, rfl⟩
          go_wp2
          go_roundw
          case rel => exact ⟨n + 1, j, ao, cap, by omega, .inr (by omega), by rw [Nat.add_sub_cancel, HS.out]; exact HR.out.2.2.2.2.1, rfl, by go_num, by rw [Nat.add_sub_cancel, HS.out]; exact HR.out.1.below (HB.out.1.trans (hu.mono HB.out.1.size)), (hu.block w.heap.size (Array.getElem?_eq_some_iff.1 HB.out.2).1).trans HB.out.2, HR.out.2.2.1.trans ((HB.out.1.trans (hu.mono HB.out.1.size)).mono HR.out.2.2.1.size), HR.out.2.2.2.1⟩
          case measure => simp [intOf]; omega
    · have hn : n - 1 = LS.length - 1 := by have := HR.out.2.2.2.2.2; omega
      have hSt : staleL xs age = staleK xs LS age (n - 1) := by rw [hn, staleK_all]; unfold staleL; rw [H.out.2]; rfl
      have HS := Lib.hid hSt
      clear hSt hn
      go_wp2
      go_ret
      exact ⟨_, rfl, by rw [HS.out]; exact HR.out.1, H1.out.2.1.trans (HR.out.2.2.1.mono H1.out.2.1.size)⟩

end Go.Proofs.Ytnpkhkfhlpopbaa
