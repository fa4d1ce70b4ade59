/- OwnerRuns: the walk. -/
import Derived.Test.YtcellcjojfbajaaOwRs
import Derived.Test.YtcellcjojfbajaaOwI
import Derived.Test.YtcellcjojfbajaaOwK
import Derived.Test.YtcellcjojfbajaaSame15
import Derived.Deep.RegionHeld3
import Derived.Deep.RegionWith
import Derived.Deep.CutRange
import Derived.BigQuiet
namespace Go.Proofs.Ytcellcjojfbajaa
set_option linter.unusedSimpArgs false
set_option linter.unusedVariables false
open Go.RowKit
open Go.ChangeShapes Go.WideShapes Go.ChangeAt

set_option maxRecDepth 100000 in
set_option maxHeartbeats 16000000 in
theorem ownerRuns_d (c d : Value) (cs ds : List Int) (ok ov : Int) (w : World) (hc : InSlice .u8 w c cs) (hd : InSlice .u8 w d ds) (o1 : 0 ≤ ok) (o2 : ok ≤ 255) (o3 : -2147483648 ≤ ov) (o4 : ov ≤ 2147483647) (h : cs.length + ds.length ≤ 200) : Calls Try.prog 5 #[c, .agg #[.int .u8 ok, .int .i32 ov], d] w fun e w' => e = .returned (.bool true) ∧ Below w.heap.size w w' := by
  have hwo := word_rng o1 o2 o3 o4
  obtain ⟨wo, hw0⟩ : ∃ x, wordOf ok ov = x := ⟨_, rfl⟩
  rw [hw0] at hwo
  have HO := Lib.hid hw0
  obtain ⟨cao, ccap, rfl, cwf, cmax, ccells⟩ := hc
  obtain ⟨dao, dcap, rfl, dwf, dmax, dcells⟩ := hd
  have HC := Lib.hid (And.intro cwf (And.intro cmax ccells))
  have HDD := Lib.hid (And.intro dwf (And.intro dmax dcells))
  clear cwf cmax ccells dwf dmax dcells hw0
  have hi0 : (cs.length : Int) + (ds.length : Int) ≤ 200 := by omega
  have hl1 : (cs.length : Int) ≤ 200 := by omega
  have hl2 : (ds.length : Int) ≤ 200 := by omega
  go_enter Try.func5, Try.ntmps5
  go_wp2_with fail
  generalize hq : w.heap.size = q0
  generalize hW0 : World.alloc _ _ = W0
  have QQ : W0.heap[q0]? = some (.cells #[.int .u8 ok, .int .i32 ov] 23 (0, 0)) := by rw [← hW0]; exact alloc_at hq _
  have B0 : Below w.heap.size w W0 := by rw [← hW0]; go_grown
  have zq : q0 < W0.heap.size := (Array.getElem?_eq_some_iff.1 QQ).1
  clear hW0
  refine (known15_any _).mono ?_
  rintro e w1 ⟨rfl, hb1⟩
  have B1 : Below w.heap.size w w1 := bmore B0 hb1
  have Q1 := (hb1.block q0 zq).trans QQ
  have z1 : q0 < w1.heap.size := Nat.lt_of_lt_of_le zq hb1.size
  clear hb1 B0 QQ zq
  go_wp2_with fail
  refine (Open_ms 3 w1 w1 (Below.refl _ _) (by omega) (by omega)).mono ?_
  rintro e w2 ⟨g0, rfl, m2, hb2⟩
  generalize hb : w1.heap.size = b at m2 hb2 ⊢
  have Q2 := (hb2.block q0 (by omega)).trans Q1
  have z2 : q0 < w2.heap.size := (Array.getElem?_eq_some_iff.1 Q2).1
  have fq : ¬ Foot b g0 q0 := fun e => by
    rcases e with e | e
    · omega
    · have := m2.2.2.1 _ e.symm; omega
  replace m2 := m2.older B1
  go_wp2_with fail
  refine (rOpen_yes 3 w2 (by omega) (by omega)).mono ?_
  rintro e w3 ⟨v3, qq, rfl, V3, hqf, hb3⟩
  obtain ⟨ao3, cap3, rfl, -, -⟩ := V3.open
  have H3 := Lib.hid (And.intro (m2.below hb3) (And.intro V3 (And.intro ((hb3.block q0 z2).trans Q2) (And.intro fq (fun k e => ⟨m2.past k (hqf k e), hqf k e⟩ : ∀ k, qq = some k → ¬ Foot b g0 k ∧ w2.heap.size ≤ k)))))
  have z3 : q0 < w3.heap.size := Nat.lt_of_lt_of_le z2 hb3.size
  have hql : ∀ k, qq = some k → k < w3.heap.size := fun k e => by have := H3.out.2.1; subst e; exact this.lt
  have HQ := Lib.hid hql
  have zb3 : w.heap.size ≤ w2.heap.size := m2.B.size
  have zb4 : w2.heap.size ≤ w3.heap.size := hb3.size
  clear m2 V3 hqf hb3 Q2 fq hql Q1 hb2 B1
  obtain ⟨⟨p0, p1⟩, -⟩ := blk2c H3.out.2.2.1
  go_wp2_with fail
  generalize hr8 : w3.heap.size = r8
  generalize hW4 : World.alloc _ _ = W4
  have A8 : W4.heap[r8]? = some (.cells #[.int .i64 18, .slice ao3 ([0, 0, 0] : List Int).length cap3, .int .i64 1] 47 (0, 0)) := by rw [← hW4]; exact alloc_at hr8 _
  have B4 : Below w3.heap.size w3 W4 := by rw [← hW4]; go_grown
  have z48 : r8 < W4.heap.size := (Array.getElem?_eq_some_iff.1 A8).1
  clear hW4
  refine (oBegin_b W4 1 0 0 0 0 0 0 0 0 0 0 0 ok ov (.slice none 0 0) 0 (fun _ => 0) (Its.zero _ _ _) (by omega) o1 o2 o3 o4 (by decide) (by decide)).mono ?_
  rintro e w5 ⟨bt5, rfl, I5, hb5⟩
  obtain ⟨bo5, bc5, rfl, -⟩ := I5
  rw [show wrap64 (0 + 1) = 1 from by unfold wrap64; omega, HO.out]
  have B5 : Below w3.heap.size w3 w5 := bmore B4 hb5
  have Q5 := (B5.block q0 z3).trans H3.out.2.2.1
  have A85 := (hb5.block r8 z48).trans A8
  have z5 : q0 < w5.heap.size := (Array.getElem?_eq_some_iff.1 Q5).1
  have z58 : r8 < w5.heap.size := (Array.getElem?_eq_some_iff.1 A85).1
  clear p0 p1
  obtain ⟨⟨p0, p1⟩, -⟩ := blk2c Q5
  have H5 := Lib.hid (And.intro B5 (And.intro A85 Q5))
  clear B5 A85 Q5 A8 B4 hb5
  go_wp2_with fail
  generalize hr10 : w5.heap.size = r10
  generalize hW6 : World.alloc _ _ = W6
  have A10 : W6.heap[r10]? = some (.cells #[.int .i64 1, .int .i64 1, .int .i64 0, .int .i64 1, .int .i64 wo, .int .i64 0, .int .i64 0, .int .i64 0, .int .i64 0, .int .i64 0, .int .i64 0, .int .i64 0, .slice bo5 0 bc5] 30 (0, 0)) := by rw [← hW6]; exact alloc_at hr10 _
  have B6 : Below w5.heap.size w5 W6 := by rw [← hW6]; go_grown
  have z610 : r10 < W6.heap.size := (Array.getElem?_eq_some_iff.1 A10).1
  clear hW6
  refine (rBegin15_b W6 1 0 0 0 0 0 0 0 0 0 0 0 ok ov none 0 0 o1 o2 o3 o4 (by decide) (by decide)).mono ?_
  rintro e w7 ⟨rfl, hb7⟩
  rw [show wrap64 (0 + 1) = 1 from by unfold wrap64; omega, HO.out]
  have z710 : r10 < w7.heap.size := Nat.lt_of_lt_of_le z610 hb7.size
  have z67 : W6.heap.size ≤ w7.heap.size := hb7.size
  clear p0 p1
  go_wp2
  generalize hr12 : w7.heap.size = r12
  generalize hW : World.alloc _ _ = W
  have A12 : W.heap[r12]? = some (.cells #[.int .i64 1, .int .i64 1, .int .i64 0, .int .i64 1, .int .i64 wo, .int .i64 0, .int .i64 0, .int .i64 0, .int .i64 0, .int .i64 0, .int .i64 0, .int .i64 0, .slice none 0 0] 30 (0, 0)) := by rw [← hW]; exact alloc_at hr12 _
  have B7 : Below w7.heap.size w7 W := by rw [← hW]; go_grown
  have B5W : Below w5.heap.size w5 W := bmore (bmore B6 hb7) B7
  have B3W : Below w3.heap.size w3 W := bmore H5.out.1 B5W
  have zz := H3.out.1.B.size
  have zlb := H3.out.1.mem.lt
  have z65 := B6.size
  have HS := Lib.hid (show RS w W b g0 [0, 0, 0] 1 qq ao3 cap3 [0, 0, 0] 1 ⟨1, 1, 0, 1, wo, 0, 0, 0, 0, 0, 0, 0⟩ ⟨1, 1, 0, 1, wo, 0, 0, 0, 0, 0, 0, 0⟩ (.slice bo5 0 bc5) r8 r10 r12 q0 (.cells #[.int .u8 ok, .int .i32 ov] 23 (0, 0)) from ⟨H3.out.1.below B3W, H3.out.2.1.below B3W, fun k e => ⟨by have := HQ.out k e; have := (H3.out.2.2.2.2 k e).2; omega, (H3.out.2.2.2.2 k e).1⟩, (B5W.block r8 z58).trans H5.out.2.1, (B7.block r10 z710).trans ((hb7.block r10 z610).trans A10), A12, (B5W.block q0 z5).trans H5.out.2.2,
    H3.out.1.past r8 (by omega), H3.out.1.past r10 (by omega), H3.out.1.past r12 (by omega), H3.out.2.2.2.1, ⟨by omega, by omega, by omega⟩, ⟨by omega, by omega, by omega, by omega, by omega, by omega⟩, ⟨by omega, by omega⟩, by decide, Rg64.zero⟩)
  have HZQ := Lib.hid hq
  clear hr8 hr10 hr12 hW A10 A12 B6 B7 B5W B3W zz zlb z65 z67 z710 z610 z58 z5 z48 z3 z2 z1 zb3 zb4 H3 H5 HQ hb7 hb hq
  go_loopw [14] (fun k wr => ∃ (i : Nat) (X : List Int) (st : Int) (q : Option Nat) (ao : Option Addr) (cap : Nat) (T : Th) (bo : Option Addr) (bc : Nat) (g : Option Nat), i ≤ cs.length ∧ k = .int .i64 i ∧ RS w wr b g X st q ao cap X st T T (.slice bo 0 bc) r8 r10 r12 q0 (.cells #[.int .u8 ok, .int .i32 ov] 23 (0, 0)) ∧ st ≤ 10 + 3 * i) (fun k _ => cs.length - (intOf k).toNat)
  case atStart => exact ⟨0, _, _, _, _, _, _, _, _, _, Nat.zero_le _, rfl, HS.out, by omega⟩
  case round =>
    obtain ⟨i, X, st, q, ao, cap, T, bo, bc, g, hi, rfl, hh, hst⟩ := hrel
    have zi : (0 : Int) ≤ (i : Int) := by omega
    have hi' : (i : Int) ≤ (cs.length : Int) := by omega
    have HR := Lib.hid hh
    clear hh HS
    by_cases hlt : i < cs.length
    · have hlt' : (i : Int) < (cs.length : Int) := by omega
      obtain ⟨cxb, cxo, rfl, zcx, ecx⟩ := HC.out.2.2 (by omega)
      have ccx : wr.cell? ⟨cxb, cxo + i, none⟩ = some (.int .u8 (cs.getD i 0)) := (HR.out.ms.B.cell (p := ⟨cxb, cxo + i, none⟩) zcx).trans (ecx i (by omega))
      have gcx := bounds_u8 (wf_getD HC.out.1 i (by omega))
      obtain ⟨x, hx⟩ : ∃ x, cs.getD i 0 = x := ⟨_, rfl⟩
      rw [hx] at ccx gcx
      obtain ⟨gcx1, gcx2⟩ := gcx
      clear ecx hx
      go_upto_if 71 with fail
      go_cut [15, 16, 17, 18] from 60 to 169 (fun a15 a16 a17 a18 wx => ∃ (X : List Int) (st : Int) (q : Option Nat) (ao : Option Addr) (cap : Nat), RS w wx b g X st q ao cap X st T T (.slice bo 0 bc) r8 r10 r12 q0 (.cells #[.int .u8 ok, .int .i32 ov] 23 (0, 0)) ∧ st ≤ 11 + 3 * i)
      case first =>
        by_cases h4 : x % 4 = 0
        · have h4a : (x % 4 == 0) = true := by simp [h4]
          have h4b : decide (x % 4 = 0) = true := by simp [h4]
          clear h4
          obtain ⟨AT, hAT⟩ : ∃ a, x / 4 % 9 = a := ⟨_, rfl⟩
          obtain ⟨VV, hVV⟩ : ∃ a, x % 16 / 4 - 1 = a := ⟨_, rfl⟩
          have HAT := Lib.hid (And.intro hAT hVV)
          clear hAT hVV
          by_cases hd5 : i < ds.length
          · have hd5' : (i : Int) < (ds.length : Int) := by omega
            obtain ⟨dxb, dxo, rfl, zdx, edx⟩ := HDD.out.2.2 (by omega)
            have cdx : wr.cell? ⟨dxb, dxo + i, none⟩ = some (.int .u8 (ds.getD i 0)) := (HR.out.ms.B.cell (p := ⟨dxb, dxo + i, none⟩) zdx).trans (edx i (by omega))
            have gdx := bounds_u8 (wf_getD HDD.out.1 i (by omega))
            obtain ⟨y, hy⟩ : ∃ x, ds.getD i 0 = x := ⟨_, rfl⟩
            rw [hy] at cdx gdx
            obtain ⟨gdx1, gdx2⟩ := gdx
            clear edx hy
            by_cases h5 : y % 5 = 0
            · have h5a : (y % 5 == 0) = true := by simp [h5]
              have h5b : decide (y % 5 = 0) = true := by simp [h5]
              clear h5
              obtain ⟨⟨p0, p1⟩, zp⟩ := blk2c HR.out.aq
              go_wp2_with fail
              refine (rOp_any ok ov _ o1 o2 o3 o4).mono ?_
              rintro e wB ⟨rfl, hbB⟩
              have HR2 := Lib.hid (HR.out.below hbB)
              clear HR p0 p1 zp hbB ccx cdx
              have HR := HR2
              clear HR2
              rw [HO.out]
              go_wp2_with fail
              rw [HAT.out.1]
              refine (Store_f HR.out.ms AT wo (by omega)).mono ?_
              rintro e w3 ⟨rfl, m3, k3⟩
              have H3 := Lib.hid (HR.out.mem m3 k3 (.inl rfl) (by have := HR.out.s0.1; have := cntAt_rng X AT; omega))
              have c3 := cntAt_rng X AT
              clear m3 k3
              have z38 := H3.out.z8
              obtain ⟨a0, a1, a2, af0, af1, af2, -⟩ := blk3 H3.out.a8
              go_wp2_with fail
              refine (rStore_f H3.out.rv AT wo (by have := H3.out.yl; omega) H3.out.s0.2 (by omega)).mono ?_
              rintro e w4 ⟨v4, q4, rfl, V4, hq4, hb4⟩
              obtain ⟨ao4, cap4, rfl, -, -⟩ := V4.open
              have z48 : r8 < w4.heap.size := Nat.lt_of_lt_of_le z38 hb4.size
              have A8 := (hb4.block r8 z38).trans H3.out.a8
              have H4 := Lib.hid (And.intro V4 (And.intro hq4 (And.intro hb4 A8)))
              clear V4 hq4 hb4 a0 a1 a2 af0 af1 af2
              obtain ⟨a0, a1, a2, af0, af1, af2, -⟩ := blk3 A8
              clear A8
              go_wp2_with fail
              generalize hW5 : World.setCell _ _ _ = W5
              have E8 : W5.heap[r8]? = some (.cells #[.int .i64 18, .slice ao4 (cellSet X AT wo).length cap4, .int .i64 (st + cntAt X AT)] 47 (0, 0)) := by rw [← hW5]; exact set3 H4.out.2.2.2 rfl
              have K8 : Kept (fun k => k = r8) w4 W5 := by rw [← hW5]; exact kept_set3 _ _ _ _ _
              have H5 := H3.out.put8 H4.out.2.2.1 H4.out.1 H4.out.2.1 K8 E8 (by rw [cellSet_len]; exact H3.out.yl) (by have := H3.out.s0.2; omega)
              generalize hW6 : World.alloc _ _ = W6
              have H6 := Lib.hid (H5.below (w1 := W6) (by rw [← hW6]; go_grown))
              clear hW5 E8 K8 H5 hW6 H4 H3
              go_wp2_with fail
              go_meet
              case rel => exact ⟨_, _, _, _, _, H6.out, by omega⟩
            · have h5a : (y % 5 == 0) = false := by simp [h5]
              have h5b : decide (y % 5 = 0) = false := by simp [h5]
              clear h5
              go_wp2_with fail
              rw [HAT.out.1, HAT.out.2]
              refine (Store_f HR.out.ms AT VV (by omega)).mono ?_
              rintro e w3 ⟨rfl, m3, k3⟩
              have H3 := Lib.hid (HR.out.mem m3 k3 (.inl rfl) (by have := HR.out.s0.1; have := cntAt_rng X AT; omega))
              have c3 := cntAt_rng X AT
              clear m3 k3
              have z38 := H3.out.z8
              obtain ⟨a0, a1, a2, af0, af1, af2, -⟩ := blk3 H3.out.a8
              go_wp2_with fail
              refine (rStore_f H3.out.rv AT VV (by have := H3.out.yl; omega) H3.out.s0.2 (by omega)).mono ?_
              rintro e w4 ⟨v4, q4, rfl, V4, hq4, hb4⟩
              obtain ⟨ao4, cap4, rfl, -, -⟩ := V4.open
              have z48 : r8 < w4.heap.size := Nat.lt_of_lt_of_le z38 hb4.size
              have A8 := (hb4.block r8 z38).trans H3.out.a8
              have H4 := Lib.hid (And.intro V4 (And.intro hq4 (And.intro hb4 A8)))
              clear V4 hq4 hb4 a0 a1 a2 af0 af1 af2
              obtain ⟨a0, a1, a2, af0, af1, af2, -⟩ := blk3 A8
              clear A8
              go_wp2_with fail
              generalize hW5 : World.setCell _ _ _ = W5
              have E8 : W5.heap[r8]? = some (.cells #[.int .i64 18, .slice ao4 (cellSet X AT VV).length cap4, .int .i64 (st + cntAt X AT)] 47 (0, 0)) := by rw [← hW5]; exact set3 H4.out.2.2.2 rfl
              have K8 : Kept (fun k => k = r8) w4 W5 := by rw [← hW5]; exact kept_set3 _ _ _ _ _
              have H5 := H3.out.put8 H4.out.2.2.1 H4.out.1 H4.out.2.1 K8 E8 (by rw [cellSet_len]; exact H3.out.yl) (by have := H3.out.s0.2; omega)
              generalize hW6 : World.alloc _ _ = W6
              have H6 := Lib.hid (H5.below (w1 := W6) (by rw [← hW6]; go_grown))
              clear hW5 E8 K8 H5 hW6 H4 H3
              go_wp2_with fail
              go_meet
              case rel => exact ⟨_, _, _, _, _, H6.out, by omega⟩
          · have hd5' : ¬ (i : Int) < (ds.length : Int) := by omega
            have hd5'' : (ds.length : Int) ≤ (i : Int) := by omega
            go_wp2_with fail
            rw [HAT.out.1, HAT.out.2]
            refine (Store_f HR.out.ms AT VV (by omega)).mono ?_
            rintro e w3 ⟨rfl, m3, k3⟩
            have H3 := Lib.hid (HR.out.mem m3 k3 (.inl rfl) (by have := HR.out.s0.1; have := cntAt_rng X AT; omega))
            have c3 := cntAt_rng X AT
            clear m3 k3
            have z38 := H3.out.z8
            obtain ⟨a0, a1, a2, af0, af1, af2, -⟩ := blk3 H3.out.a8
            go_wp2_with fail
            refine (rStore_f H3.out.rv AT VV (by have := H3.out.yl; omega) H3.out.s0.2 (by omega)).mono ?_
            rintro e w4 ⟨v4, q4, rfl, V4, hq4, hb4⟩
            obtain ⟨ao4, cap4, rfl, -, -⟩ := V4.open
            have z48 : r8 < w4.heap.size := Nat.lt_of_lt_of_le z38 hb4.size
            have A8 := (hb4.block r8 z38).trans H3.out.a8
            have H4 := Lib.hid (And.intro V4 (And.intro hq4 (And.intro hb4 A8)))
            clear V4 hq4 hb4 a0 a1 a2 af0 af1 af2
            obtain ⟨a0, a1, a2, af0, af1, af2, -⟩ := blk3 A8
            clear A8
            go_wp2_with fail
            generalize hW5 : World.setCell _ _ _ = W5
            have E8 : W5.heap[r8]? = some (.cells #[.int .i64 18, .slice ao4 (cellSet X AT VV).length cap4, .int .i64 (st + cntAt X AT)] 47 (0, 0)) := by rw [← hW5]; exact set3 H4.out.2.2.2 rfl
            have K8 : Kept (fun k => k = r8) w4 W5 := by rw [← hW5]; exact kept_set3 _ _ _ _ _
            have H5 := H3.out.put8 H4.out.2.2.1 H4.out.1 H4.out.2.1 K8 E8 (by rw [cellSet_len]; exact H3.out.yl) (by have := H3.out.s0.2; omega)
            generalize hW6 : World.alloc _ _ = W6
            have H6 := Lib.hid (H5.below (w1 := W6) (by rw [← hW6]; go_grown))
            clear hW5 E8 K8 H5 hW6 H4 H3
            go_wp2_with fail
            go_meet
            case rel => exact ⟨_, _, _, _, _, H6.out, by omega⟩
        · have h4a : (x % 4 == 0) = false := by simp [h4]
          have h4b : decide (x % 4 = 0) = false := by simp [h4]
          clear h4
          go_wp2_with fail
          go_meet
          case rel => exact ⟨_, _, _, _, _, HR.out, by omega⟩
      case rest =>
        obtain ⟨X, st, q, ao, cap, hh, hst⟩ := hcut
        clear HR ccx
        have HR := Lib.hid hh
        clear hh
        obtain ⟨⟨a0, a1, a2, a3, a4, a5, a6, a7, a8, a9, a10, a11, a12⟩, -⟩ := blk13 HR.out.a10
        have zr10 := HR.out.z10
        go_wp2_with fail
        refine (oStep_f w _ b g 18 st X T (.slice bo 0 bc) 0 (fun _ => 0) HR.out.ms (Its.zero _ _ _) (Nat.zero_le _) HR.out.s0.1 (by omega) HR.out.rg).mono ?_
        rintro e w3 ⟨bt3, g3, he, m3, I3, k3, hg3⟩
        obtain ⟨bo3, bc3, rfl, -⟩ := I3
        have c3 := owC_rng 18 X T
        have rg3 := owT_rg (N := 18) HR.out.rg HR.out.ms.lenk
        obtain ⟨t3, ht3⟩ : ∃ t, owT 18 X T = t := ⟨_, rfl⟩
        obtain ⟨X3, hX3⟩ : ∃ t, owX 18 X T = t := ⟨_, rfl⟩
        obtain ⟨C3, hC3⟩ : ∃ t, owC 18 X T = t := ⟨_, rfl⟩
        obtain ⟨K3, hK3⟩ : ∃ t, owK X T = t := ⟨_, rfl⟩
        obtain ⟨V3, hV3⟩ : ∃ t, owV X T = t := ⟨_, rfl⟩
        obtain ⟨D3, hD3⟩ : ∃ t, decide (T.i1 = 14) = t := ⟨_, rfl⟩
        rw [ht3, hK3, hV3, hD3] at he
        rw [hX3, hC3] at m3
        rw [hC3] at c3
        rw [ht3] at rg3
        have H3 := Lib.hid (HR.out.mem m3 k3 hg3 (by have := HR.out.s0.1; omega))
        have HT := Lib.hid (And.intro ht3 (And.intro hX3 (And.intro hC3 (And.intro hK3 (And.intro hV3 (And.intro hD3 rg3))))))
        have hl3 : (X3.length : Int) ≤ 18 := m3.2.2.2.2.2.2.1
        clear ht3 hX3 hC3 hK3 hV3 hD3 rg3 m3 k3 hg3 a0 a1 a2 a3 a4 a5 a6 a7 a8 a9 a10 a11 a12
        obtain ⟨y0, y1, y2, y3, y4, y5, y6, y7, y8, y9, y10, y11⟩ := t3
        simp only [thV] at he
        subst he
        have z38 := H3.out.z8
        have z310 := H3.out.z10
        have z312 := H3.out.z12
        obtain ⟨a0, a1, a2, af0, af1, af2, -⟩ := blk3 H3.out.a8
        obtain ⟨⟨c0, c1, c2, c3, c4, c5, c6, c7, c8, c9, c10, c11, c12⟩, -⟩ := blk13 H3.out.a12
        go_wp2_with fail
        generalize hr19 : w3.heap.size = r19
        generalize hW4 : World.alloc _ _ = W4
        have A20 : W4.heap[r19]? = some (.cells #[.int .i64 y0, .int .i64 y1, .int .i64 y2, .int .i64 y3, .int .i64 y4, .int .i64 y5, .int .i64 y6, .int .i64 y7, .int .i64 y8, .int .i64 y9, .int .i64 y10, .int .i64 y11, .slice bo3 0 bc3] 30 (0, 0)) ∧ W4.heap[r19 + 1]? = some (.cells #[.int .u8 K3, .int .i32 V3] 25 (0, 0)) := by rw [← hW4]; exact alloc2_at hr19 _ _
        have B4 : Below w3.heap.size w3 W4 := by rw [← hW4]; go_grown
        have z320 : r19 + 1 < W4.heap.size := (Array.getElem?_eq_some_iff.1 A20.2).1
        have n19 : r8 < r19 ∧ r10 < r19 ∧ r12 < r19 := by omega
        have H4 := Lib.hid (And.intro (H3.out.below B4) (And.intro A20 B4))
        clear hW4 B4 A20 hr19 a0 a1 a2 af0 af1 af2 c0 c1 c2 c3 c4 c5 c6 c7 c8 c9 c10 c11 c12
        refine (rStep15_f W4 _ q 18 st X T none 0 0 H4.out.1.rv (by have := H3.out.yl; omega) H3.out.s0.2 (by omega) (by omega) (by omega) H3.out.yl H3.out.rg).mono ?_
        rintro e w5 ⟨v5, q5, he, V5, hq5, hb5⟩
        obtain ⟨ao5, cap5, rfl, -, -⟩ := V5.open
        rw [HT.out.1, HT.out.2.2.2.1, HT.out.2.2.2.2.1, HT.out.2.2.2.2.2.1] at he
        rw [HT.out.2.1, HT.out.2.2.1] at V5
        rw [HT.out.2.1, HT.out.2.2.1] at he
        simp only [thV] at he
        subst he
        have A8 := (hb5.block r8 H4.out.1.z8).trans H4.out.1.a8
        have A10 := (hb5.block r10 H4.out.1.z10).trans H4.out.1.a10
        have A12 := (hb5.block r12 H4.out.1.z12).trans H4.out.1.a12
        have A19 := (hb5.block r19 (by omega)).trans H4.out.2.1.1
        have A20 := (hb5.block (r19 + 1) z320).trans H4.out.2.1.2
        have z58 : r8 < w5.heap.size := (Array.getElem?_eq_some_iff.1 A8).1
        have z510 : r10 < w5.heap.size := (Array.getElem?_eq_some_iff.1 A10).1
        have z512 : r12 < w5.heap.size := (Array.getElem?_eq_some_iff.1 A12).1
        have z519 : r19 < w5.heap.size := (Array.getElem?_eq_some_iff.1 A19).1
        have z520 : r19 + 1 < w5.heap.size := (Array.getElem?_eq_some_iff.1 A20).1
        have H5 := Lib.hid (And.intro hb5 (And.intro V5 (And.intro hq5 (And.intro A8 (And.intro A10 (And.intro A12 (And.intro A20 A19)))))))
        obtain ⟨n810, n812, n1012, -⟩ := H3.out.ne
        clear A8 A10 A12 A19 A20 V5 hq5 hb5
        go_upto_region 22 with fail
        generalize hr22 : w5.heap.size = r22
        generalize hWb : World.alloc _ _ = Wb
        have AA : Wb.heap[r22]? = some (.cells #[.int .i64 18, .slice ao5 X3.length cap5, .int .i64 (st + C3)] 47 (0, 0)) ∧ Wb.heap[r22 + 1]? = some (.cells #[.int .i64 y0, .int .i64 y1, .int .i64 y2, .int .i64 y3, .int .i64 y4, .int .i64 y5, .int .i64 y6, .int .i64 y7, .int .i64 y8, .int .i64 y9, .int .i64 y10, .int .i64 y11, .slice none 0 0] 30 (0, 0)) ∧ Wb.heap[r22 + 1 + 1]? = some (.cells #[.int .u8 K3, .int .i32 V3] 25 (0, 0)) := by
          rw [← hWb, ← hr22]
          exact ⟨(Below.heap_alloc _ _ _ (by simp; try omega)).trans (alloc2_heap0 _ _ _), (Below.heap_alloc _ _ _ (by simp; try omega)).trans (alloc2_heap1 _ _ _), alloc_at (by simp) _⟩
        have Bb : Below w5.heap.size w5 Wb := by rw [← hWb]; go_grown
        have A8 := (Bb.block r8 z58).trans H5.out.2.2.2.1
        have A10 := (Bb.block r10 z510).trans H5.out.2.2.2.2.1
        have A12 := (Bb.block r12 z512).trans H5.out.2.2.2.2.2.1
        have A19 := (Bb.block r19 z519).trans H5.out.2.2.2.2.2.2.2
        have A20 := (Bb.block (r19 + 1) z520).trans H5.out.2.2.2.2.2.2.1
        have zb8 : r8 < Wb.heap.size := (Array.getElem?_eq_some_iff.1 A8).1
        have zb10 : r10 < Wb.heap.size := (Array.getElem?_eq_some_iff.1 A10).1
        have zb12 : r12 < Wb.heap.size := (Array.getElem?_eq_some_iff.1 A12).1
        have zb19 : r19 < Wb.heap.size := (Array.getElem?_eq_some_iff.1 A19).1
        have zb20 : r19 + 1 < Wb.heap.size := (Array.getElem?_eq_some_iff.1 A20).1
        have zb22 : r22 < Wb.heap.size := (Array.getElem?_eq_some_iff.1 AA.1).1
        have zb23 : r22 + 1 < Wb.heap.size := (Array.getElem?_eq_some_iff.1 AA.2.1).1
        have zb24 : r22 + 1 + 1 < Wb.heap.size := (Array.getElem?_eq_some_iff.1 AA.2.2).1
        have n22 : r8 < r22 ∧ r10 < r22 ∧ r12 < r22 ∧ r19 + 1 < r22 := by omega
        have Hb := Lib.hid (And.intro Bb (And.intro A8 (And.intro A10 (And.intro A12 (And.intro A20 AA)))))
        obtain ⟨a0, a1, a2, af0, af1, af2, -⟩ := blk3 A8
        obtain ⟨⟨c0, c1, c2, c3, c4, c5, c6, c7, c8, c9, c10, c11, c12⟩, -⟩ := blk13 A10
        have cf0 := blkF A10 0; have cf1 := blkF A10 1; have cf2 := blkF A10 2; have cf3 := blkF A10 3; have cf4 := blkF A10 4; have cf5 := blkF A10 5; have cf6 := blkF A10 6; have cf7 := blkF A10 7; have cf8 := blkF A10 8; have cf9 := blkF A10 9; have cf10 := blkF A10 10; have cf11 := blkF A10 11; have cf12 := blkF A10 12
        obtain ⟨⟨d0, d1, d2, d3, d4, d5, d6, d7, d8, d9, d10, d11, d12⟩, -⟩ := blk13 A12
        have df0 := blkF A12 0; have df1 := blkF A12 1; have df2 := blkF A12 2; have df3 := blkF A12 3; have df4 := blkF A12 4; have df5 := blkF A12 5; have df6 := blkF A12 6; have df7 := blkF A12 7; have df8 := blkF A12 8; have df9 := blkF A12 9; have df10 := blkF A12 10; have df11 := blkF A12 11; have df12 := blkF A12 12
        obtain ⟨⟨e0, e1, e2, e3, e4, e5, e6, e7, e8, e9, e10, e11, e12⟩, -⟩ := blk13 A19
        obtain ⟨g0, g1, g2, -⟩ := blk3 AA.1
        obtain ⟨⟨h0, h1, h2, h3, h4, h5, h6, h7, h8, h9, h10, h11, h12⟩, -⟩ := blk13 AA.2.1
        clear A8 A10 A12 A19 A20 AA Bb hWb hr22
        go_wp2_with fail
        generalize hWs : World.setCell _ _ _ = W6
        have E := by with_reducible exact upd3 Hb.out.2.2.1 Hb.out.2.2.2.1 Hb.out.2.1 rfl rfl rfl n1012 n810.symm n812.symm _ hWs
        obtain ⟨G10, G12, G8, E4, E5⟩ := E
        have KWb : Kept (fun k => k = r8 ∨ k = r10 ∨ k = r12) Wb W6 := E4.mono (fun k _ e => by omega)
        have KW : Kept (fun k => k = r8 ∨ k = r10 ∨ k = r12) w5 W6 := (keptF Hb.out.1).trans KWb
        have G20 : W6.heap[r19 + 1]? = some (.cells #[.int .u8 K3, .int .i32 V3] 25 (0, 0)) := (KWb.block (r19 + 1) zb20 (by omega)).trans Hb.out.2.2.2.2.1
        have G24 := (KWb.block (r22 + 1 + 1) zb24 (by omega)).trans Hb.out.2.2.2.2.2.2.2
        generalize hr24 : r22 + 1 + 1 = r24 at G24 ⊢
        have HW := Lib.hid (H4.out.1.put (T1 := ⟨y0, y1, y2, y3, y4, y5, y6, y7, y8, y9, y10, y11⟩) (U1 := ⟨y0, y1, y2, y3, y4, y5, y6, y7, y8, y9, y10, y11⟩) H5.out.1 H5.out.2.1 H5.out.2.2.1 KW G8 G10 G12 hl3 (by have := HR.out.s0.1; omega) HT.out.2.2.2.2.2.2)
        have z68 := HW.out.z8
        have z610 := HW.out.z10
        have z612 := HW.out.z12
        have z620 : r19 + 1 < W6.heap.size := (Array.getElem?_eq_some_iff.1 G20).1
        have z624 : r24 < W6.heap.size := (Array.getElem?_eq_some_iff.1 G24).1
        have hlenW : X3.length ≤ 1000000 := by omega
        clear E4 E5 hWs KW KWb G8 G10 G12 hr24 a0 a1 a2 af0 af1 af2 g0 g1 g2 c0 c1 c2 c3 c4 c5 c6 c7 c8 c9 c10 c11 c12 cf0 cf1 cf2 cf3 cf4 cf5 cf6 cf7 cf8 cf9 cf10 cf11 cf12 d0 d1 d2 d3 d4 d5 d6 d7 d8 d9 d10 d11 d12 df0 df1 df2 df3 df4 df5 df6 df7 df8 df9 df10 df11 df12 e0 e1 e2 e3 e4 e5 e6 e7 e8 e9 e10 e11 e12 h0 h1 h2 h3 h4 h5 h6 h7 h8 h9 h10 h11 h12 H5 H4 Hb
        obtain ⟨⟨c0, c1, c2, c3, c4, c5, c6, c7, c8, c9, c10, c11, c12⟩, -⟩ := blk13 HW.out.a10
        obtain ⟨⟨d0, d1, d2, d3, d4, d5, d6, d7, d8, d9, d10, d11, d12⟩, -⟩ := blk13 HW.out.a12
        obtain ⟨a0, a1, a2, -⟩ := blk3 HW.out.a8
        obtain ⟨⟨k0, k1⟩, -⟩ := blk2c G20
        obtain ⟨⟨l0, l1⟩, -⟩ := blk2c G24
        clear G20 G24
        have cu0 := fun (u : World) (hu : Below W6.heap.size W6 u) => (hu.cell (p := ⟨r10, 0, none⟩) z610).trans c0
        have cu1 := fun (u : World) (hu : Below W6.heap.size W6 u) => (hu.cell (p := ⟨r10, 1, none⟩) z610).trans c1
        have cu2 := fun (u : World) (hu : Below W6.heap.size W6 u) => (hu.cell (p := ⟨r10, 2, none⟩) z610).trans c2
        have cu3 := fun (u : World) (hu : Below W6.heap.size W6 u) => (hu.cell (p := ⟨r10, 3, none⟩) z610).trans c3
        have cu4 := fun (u : World) (hu : Below W6.heap.size W6 u) => (hu.cell (p := ⟨r10, 4, none⟩) z610).trans c4
        have cu5 := fun (u : World) (hu : Below W6.heap.size W6 u) => (hu.cell (p := ⟨r10, 5, none⟩) z610).trans c5
        have cu6 := fun (u : World) (hu : Below W6.heap.size W6 u) => (hu.cell (p := ⟨r10, 6, none⟩) z610).trans c6
        have cu7 := fun (u : World) (hu : Below W6.heap.size W6 u) => (hu.cell (p := ⟨r10, 7, none⟩) z610).trans c7
        have cu8 := fun (u : World) (hu : Below W6.heap.size W6 u) => (hu.cell (p := ⟨r10, 8, none⟩) z610).trans c8
        have cu9 := fun (u : World) (hu : Below W6.heap.size W6 u) => (hu.cell (p := ⟨r10, 9, none⟩) z610).trans c9
        have cu10 := fun (u : World) (hu : Below W6.heap.size W6 u) => (hu.cell (p := ⟨r10, 10, none⟩) z610).trans c10
        have cu11 := fun (u : World) (hu : Below W6.heap.size W6 u) => (hu.cell (p := ⟨r10, 11, none⟩) z610).trans c11
        have cu12 := fun (u : World) (hu : Below W6.heap.size W6 u) => (hu.cell (p := ⟨r10, 12, none⟩) z610).trans c12
        have du0 := fun (u : World) (hu : Below W6.heap.size W6 u) => (hu.cell (p := ⟨r12, 0, none⟩) z612).trans d0
        have du1 := fun (u : World) (hu : Below W6.heap.size W6 u) => (hu.cell (p := ⟨r12, 1, none⟩) z612).trans d1
        have du2 := fun (u : World) (hu : Below W6.heap.size W6 u) => (hu.cell (p := ⟨r12, 2, none⟩) z612).trans d2
        have du3 := fun (u : World) (hu : Below W6.heap.size W6 u) => (hu.cell (p := ⟨r12, 3, none⟩) z612).trans d3
        have du4 := fun (u : World) (hu : Below W6.heap.size W6 u) => (hu.cell (p := ⟨r12, 4, none⟩) z612).trans d4
        have du5 := fun (u : World) (hu : Below W6.heap.size W6 u) => (hu.cell (p := ⟨r12, 5, none⟩) z612).trans d5
        have du6 := fun (u : World) (hu : Below W6.heap.size W6 u) => (hu.cell (p := ⟨r12, 6, none⟩) z612).trans d6
        have du7 := fun (u : World) (hu : Below W6.heap.size W6 u) => (hu.cell (p := ⟨r12, 7, none⟩) z612).trans d7
        have du8 := fun (u : World) (hu : Below W6.heap.size W6 u) => (hu.cell (p := ⟨r12, 8, none⟩) z612).trans d8
        have du9 := fun (u : World) (hu : Below W6.heap.size W6 u) => (hu.cell (p := ⟨r12, 9, none⟩) z612).trans d9
        have du10 := fun (u : World) (hu : Below W6.heap.size W6 u) => (hu.cell (p := ⟨r12, 10, none⟩) z612).trans d10
        have du11 := fun (u : World) (hu : Below W6.heap.size W6 u) => (hu.cell (p := ⟨r12, 11, none⟩) z612).trans d11
        have du12 := fun (u : World) (hu : Below W6.heap.size W6 u) => (hu.cell (p := ⟨r12, 12, none⟩) z612).trans d12
        have au0 := fun (u : World) (hu : Below W6.heap.size W6 u) => (hu.cell (p := ⟨r8, 0, none⟩) z68).trans a0
        have au1 := fun (u : World) (hu : Below W6.heap.size W6 u) => (hu.cell (p := ⟨r8, 1, none⟩) z68).trans a1
        have au2 := fun (u : World) (hu : Below W6.heap.size W6 u) => (hu.cell (p := ⟨r8, 2, none⟩) z68).trans a2
        have ku0 := fun (u : World) (hu : Below W6.heap.size W6 u) => (hu.cell (p := ⟨r19 + 1, 0, none⟩) z620).trans k0
        have ku1 := fun (u : World) (hu : Below W6.heap.size W6 u) => (hu.cell (p := ⟨r19 + 1, 1, none⟩) z620).trans k1
        have lu0 := fun (u : World) (hu : Below W6.heap.size W6 u) => (hu.cell (p := ⟨r24, 0, none⟩) z624).trans l0
        have lu1 := fun (u : World) (hu : Below W6.heap.size W6 u) => (hu.cell (p := ⟨r24, 1, none⟩) z624).trans l1
        clear c0 c1 c2 c3 c4 c5 c6 c7 c8 c9 c10 c11 c12 d0 d1 d2 d3 d4 d5 d6 d7 d8 d9 d10 d11 d12 a0 a1 a2 k0 k1 l0 l1
        go_upto_region 25 with fail
        go_cut [152] from 60 to 169 (fun cx wx => cx = .bool false ∧ Below W6.heap.size W6 wx)
        case first =>
          go_region_held3 (fun wz => Below W6.heap.size W6 wz ∧ W6.heap.size ≤ wz.heap.size)
            (first | (exact ⟨(Below.refl _ _).drew, Nat.le_refl _⟩) | (go_split_ands; refine ⟨?_, ?_⟩ <;> first | (with_reducible assumption) | (have := hb.size; omega) | exact Below.trans (by with_reducible assumption) (hb.mono (by omega))))
            (first | (go_at_call 22; go_split_ands; with_reducible refine (Same15_self _ y0 y1 y2 y3 y4 y5 y6 y7 y8 y9 y10 y11 _ _ 0 (fun _ => 0) (Its.zero _ _ _) (Its.zero _ _ _) (Nat.zero_le _)).mono ?_; rintro e w20 ⟨rfl, hb⟩) | (go_at_call 24; go_split_ands; with_reducible refine (Cells_ms (HW.out.ms.below (by with_reducible assumption))).mono ?_; rintro e w22 ⟨ao7, cap7, rfl, -, r7, hb, -⟩) | (go_at_call 23; go_split_ands; with_reducible refine (Same64_self _ _ X3 _ r7 (HW.out.row.below (by with_reducible assumption)) hlenW).mono ?_; rintro e w23 ⟨rfl, hb⟩))
          all_goals
            go_split_ands
            have BZ : Below W6.heap.size W6 w23 := by with_reducible assumption
            go_wp2_with fail
            go_meet
            case rel => exact ⟨rfl, BZ⟩
        case rest =>
          obtain ⟨rfl, hcut⟩ := hcut
          have HX := Lib.hid (HW.out.below hcut)
          have zc8 := HX.out.z8
          have zc10 := HX.out.z10
          have zc12 := HX.out.z12
          have zcq := HX.out.zq
          clear hcut cu0 cu1 cu2 cu3 cu4 cu5 cu6 cu7 cu8 cu9 cu10 cu11 cu12 du0 du1 du2 du3 du4 du5 du6 du7 du8 du9 du10 du11 du12 au0 au1 au2 ku0 ku1 lu0 lu1
          have hCC := HT.out.2.2.1
          have c3b := owC_rng 18 X T
          rw [hCC] at c3b
          clear hCC
          by_cases h0 : y1 = 0
          · subst h0
            obtain ⟨⟨a0, a1, a2, a3, a4, a5, a6, a7, a8, a9, a10, a11, a12⟩, -⟩ := blk13 HX.out.a10
            obtain ⟨⟨p0, p1⟩, -⟩ := blk2c HX.out.aq
            go_wp2_with fail
            refine (oBegin_f _ ⟨y0, 0, y2, y3, y4, y5, y6, y7, y8, y9, y10, y11⟩ ok ov (.slice bo3 0 bc3) 0 (fun _ => 0) (Its.zero _ _ _) (Nat.zero_le _) o1 o2 o3 o4).mono ?_
            rintro e w8 ⟨bt8, he, I8, hb8⟩
            obtain ⟨bo8, bc8, rfl, -⟩ := I8
            obtain ⟨t8, ht8⟩ : ∃ t, begT ok ov ⟨y0, 0, y2, y3, y4, y5, y6, y7, y8, y9, y10, y11⟩ = t := ⟨_, rfl⟩
            have rg8 : Rg64 t8.i2 := by rw [← ht8]; exact HX.out.rg
            rw [ht8, show decide ((⟨y0, 0, y2, y3, y4, y5, y6, y7, y8, y9, y10, y11⟩ : Th).i1 = 0) = true from rfl] at he
            have HT8 := Lib.hid (And.intro ht8 rg8)
            have H8 := Lib.hid (HX.out.below hb8)
            clear ht8 rg8 hb8 a0 a1 a2 a3 a4 a5 a6 a7 a8 a9 a10 a11 a12 p0 p1
            obtain ⟨b0, b1, b2, b3, b4, b5, b6, b7, b8, b9, b10, b11⟩ := t8
            simp only [thV] at he
            subst he
            have zd10 := H8.out.z10
            have zd12 := H8.out.z12
            have zdq := H8.out.zq
            have nd := H8.out.ne
            obtain ⟨-, -, n1, -, n2, n3⟩ := nd
            obtain ⟨⟨a0, a1, a2, a3, a4, a5, a6, a7, a8, a9, a10, a11, a12⟩, -⟩ := blk13 H8.out.a10
            have af0 := blkF H8.out.a10 0; have af1 := blkF H8.out.a10 1; have af2 := blkF H8.out.a10 2; have af3 := blkF H8.out.a10 3; have af4 := blkF H8.out.a10 4; have af5 := blkF H8.out.a10 5; have af6 := blkF H8.out.a10 6; have af7 := blkF H8.out.a10 7; have af8 := blkF H8.out.a10 8; have af9 := blkF H8.out.a10 9; have af10 := blkF H8.out.a10 10; have af11 := blkF H8.out.a10 11; have af12 := blkF H8.out.a10 12
            obtain ⟨⟨c0, c1, c2, c3, c4, c5, c6, c7, c8, c9, c10, c11, c12⟩, -⟩ := blk13 H8.out.a12
            obtain ⟨⟨p0, p1⟩, -⟩ := blk2c H8.out.aq
            go_wp2_with fail
            generalize hW9 : World.setCell _ _ _ = W9
            have E9 : W9.heap[r10]? = some (.cells #[.int .i64 b0, .int .i64 b1, .int .i64 b2, .int .i64 b3, .int .i64 b4, .int .i64 b5, .int .i64 b6, .int .i64 b7, .int .i64 b8, .int .i64 b9, .int .i64 b10, .int .i64 b11, .slice bo8 0 bc8] 30 (0, 0)) := by rw [← hW9]; exact set13 H8.out.a10 rfl
            have K9 : Kept (fun k => k = r10) w8 W9 := by rw [← hW9]; exact kept_set13 _ _ _ _ _ _ _ _ _ _ _ _ _ _ _
            have H9 := H8.out.putT (T1 := ⟨b0, b1, b2, b3, b4, b5, b6, b7, b8, b9, b10, b11⟩) K9 E9 HT8.out.2
            generalize hWA : World.alloc _ _ = WA
            have HA := Lib.hid (H9.below (w1 := WA) (by rw [← hWA]; go_grown))
            clear hW9 E9 K9 H9 hWA a0 a1 a2 a3 a4 a5 a6 a7 a8 a9 a10 a11 a12 af0 af1 af2 af3 af4 af5 af6 af7 af8 af9 af10 af11 af12 c0 c1 c2 c3 c4 c5 c6 c7 c8 c9 c10 c11 c12 p0 p1
            refine (rBegin15_f WA ⟨y0, 0, y2, y3, y4, y5, y6, y7, y8, y9, y10, y11⟩ ok ov none 0 0 o1 o2 o3 o4).mono ?_
            rintro e wB ⟨he, hbB⟩
            rw [HT8.out.1, show decide ((⟨y0, 0, y2, y3, y4, y5, y6, y7, y8, y9, y10, y11⟩ : Th).i1 = 0) = true from rfl] at he
            simp only [thV] at he
            subst he
            have HB := Lib.hid (HA.out.below hbB)
            clear hbB
            have ze12 := HB.out.z12
            obtain ⟨⟨c0, c1, c2, c3, c4, c5, c6, c7, c8, c9, c10, c11, c12⟩, -⟩ := blk13 HB.out.a12
            have cf0 := blkF HB.out.a12 0; have cf1 := blkF HB.out.a12 1; have cf2 := blkF HB.out.a12 2; have cf3 := blkF HB.out.a12 3; have cf4 := blkF HB.out.a12 4; have cf5 := blkF HB.out.a12 5; have cf6 := blkF HB.out.a12 6; have cf7 := blkF HB.out.a12 7; have cf8 := blkF HB.out.a12 8; have cf9 := blkF HB.out.a12 9; have cf10 := blkF HB.out.a12 10; have cf11 := blkF HB.out.a12 11; have cf12 := blkF HB.out.a12 12
            go_wp2_with fail
            generalize hWC : World.setCell _ _ _ = WC
            have EC : WC.heap[r12]? = some (.cells #[.int .i64 b0, .int .i64 b1, .int .i64 b2, .int .i64 b3, .int .i64 b4, .int .i64 b5, .int .i64 b6, .int .i64 b7, .int .i64 b8, .int .i64 b9, .int .i64 b10, .int .i64 b11, .slice none 0 0] 30 (0, 0)) := by rw [← hWC]; exact set13 HB.out.a12 rfl
            have KC : Kept (fun k => k = r12) wB WC := by rw [← hWC]; exact kept_set13 _ _ _ _ _ _ _ _ _ _ _ _ _ _ _
            have HC2 := HB.out.putU (U1 := ⟨b0, b1, b2, b3, b4, b5, b6, b7, b8, b9, b10, b11⟩) KC EC
            generalize hWD : World.alloc _ _ = WD
            have HD := Lib.hid (HC2.below (w1 := WD) (by rw [← hWD]; go_grown))
            clear hWC EC KC HC2 hWD c0 c1 c2 c3 c4 c5 c6 c7 c8 c9 c10 c11 c12 cf0 cf1 cf2 cf3 cf4 cf5 cf6 cf7 cf8 cf9 cf10 cf11 cf12
            go_roundw
            case rel => exact ⟨i + 1, _, _, _, _, _, _, _, _, _, by omega, by go_num, HD.out, by omega⟩
            case measure => simp [intOf]; omega
          · have h0a : (y1 == 0) = false := by simp [h0]
            have h0b : decide (y1 = 0) = false := by simp [h0]
            clear h0
            obtain ⟨⟨a0, a1, a2, a3, a4, a5, a6, a7, a8, a9, a10, a11, a12⟩, -⟩ := blk13 HX.out.a10
            go_wp2_with fail
            go_roundw
            case rel => exact ⟨i + 1, _, _, _, _, _, _, _, _, _, by omega, by go_num, HX.out, by omega⟩
            case measure => simp [intOf]; omega
    · obtain rfl : i = cs.length := by omega
      go_wp2
      go_ret
      exact ⟨rfl, HR.out.ms.B⟩

end Go.Proofs.Ytcellcjojfbajaa
