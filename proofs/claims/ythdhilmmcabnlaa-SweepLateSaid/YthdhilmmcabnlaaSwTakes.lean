/- SweepTakes: the walk. -/
import Derived.Test.YthdhilmmcabnlaaRef14C
import Derived.Test.YthdhilmmcabnlaaSwTwice
import Derived.RegionTactic
import Derived.Deep.CutBlock
namespace Go.Proofs.Ythdhilmmcabnlaa
set_option linter.unusedSimpArgs false
set_option linter.unusedVariables false
open Go.RowKit
open Go.ChangeShapes Go.WideShapes Go.ChangeAt

theorem reachF_len (xs : List Int) : ∀ (f : Nat) (acc : List Int) (a : Int), (reachF xs f acc a).1.length ≤ acc.length + f
  | 0, acc, a => Nat.le_refl _
  | f + 1, acc, a => by
    rw [reachF]
    split
    · exact Nat.le_add_right _ _
    split
    · exact Nat.zero_le _
    split
    · exact Nat.zero_le _
    split
    · exact Nat.zero_le _
    have := reachF_len xs f (acc ++ [a]) (recAt xs a 3)
    rw [List.length_append, List.length_singleton] at this
    omega
theorem reachL_len (xs : List Int) : (reachL xs).1.length ≤ 1002 := by
  have := reachF_len xs 1002 [] (cellAt xs 1)
  unfold reachL
  rw [List.length_nil] at this; omega
theorem staleL_len (xs : List Int) (a : Int) : (staleL xs a).length ≤ 1002 := by
  unfold staleL
  have h1 := List.length_filter_le (fun b => decide (recAt xs b 1 = 1 ∧ recAt xs b 0 = 0 ∧ a < wrap64 (cellAt xs 2 - recAt xs b 2))) ((reachL xs).1.drop 1)
  have h2 := reachL_len xs
  rw [List.length_drop] at h1
  omega
def wantK (O SL : List Int) (i : Nat) : List Int := (O.take i).filter fun x => decide (x ∉ SL)
theorem wantK_succ {O SL : List Int} {i : Nat} (h : i < O.length) : wantK O SL (i + 1) = if O.getD i 0 ∈ SL then wantK O SL i else wantK O SL i ++ [O.getD i 0] := by
  unfold wantK
  rw [take_one h, List.filter_append]
  split
  · rename_i hb; rw [List.filter_cons, if_neg (fun e => (of_decide_eq_true e : O.getD i 0 ∉ SL) hb)]; simp
  · rename_i hb; rw [List.filter_cons, if_pos (decide_eq_true hb)]; rfl
theorem wantK_len (O SL : List Int) (i : Nat) : (wantK O SL i).length ≤ i := by
  unfold wantK
  have h1 := List.length_filter_le (fun x => decide (x ∉ SL)) (O.take i)
  have h2 : (O.take i).length ≤ i := by rw [List.length_take]; omega
  omega
theorem rg_reqN {ds on l : List Int} (hd : ∀ i, 0 ≤ ds.getD i 0 ∧ ds.getD i 0 ≤ 255) (h : RgX l) : ∀ k, RgX (reqN ds on l k)
  | 0 => h
  | k + 1 => by
    have := hd k
    exact rg_set (rg_reqN hd h k) _ _ (by unfold Rg; omega)
theorem in_u8 {ds : List Int} (hwf : ∀ x ∈ ds, (Lit.int .u8 x).wf = true) (i : Nat) : 0 ≤ ds.getD i 0 ∧ ds.getD i 0 ≤ 255 := by
  by_cases h : i < ds.length
  · exact bounds_u8 (wf_getD hwf i h)
  · rw [List.getD_eq_getElem?_getD, List.getElem?_eq_none (by omega)]
    exact ⟨by decide, by decide⟩
theorem IRow.heap3 {w : World} {v : Value} {xs : List Int} {k : Nat} (h : IRow w v xs) (e : v.ownBlock = some k) : ∃ cur, w.heap[k]? = some (.cells cur 3 (0, 0)) := by
  rcases h.2 with ⟨h, -⟩ | ⟨g2, cap2, cur2, h, -, hg2, -⟩
  · rw [h] at e; cases e
  · rw [h] at e
    simp [Value.ownBlock] at e
    subst e
    exact ⟨_, hg2⟩
theorem Row.heap2 {w : World} {v : Value} {xs : List Int} {k : Nat} (h : Row w v xs) (e : v.ownBlock = some k) : ∃ cur, w.heap[k]? = some (.cells cur 2 (0, 0)) := by
  rcases h.2 with ⟨h, -⟩ | ⟨g2, cap2, cur2, h, -, hg2, -⟩
  · rw [h] at e; cases e
  · rw [h] at e
    simp [Value.ownBlock] at e
    subst e
    exact ⟨_, hg2⟩
theorem IRow.foot {W0 w : World} {v : Value} {xs X : List Int} {b : Nat} {g : Option Nat} {N st : Int} (h : IRow w v xs) (hm : MS W0 w b g N X st) : ∀ k, v.ownBlock = some k → ¬ Foot b g k := fun k e hf => by
  obtain ⟨cur, h3⟩ := h.heap3 e
  obtain ⟨v2, hb, hv, hr⟩ := hm.mem
  rcases hf with hf | hf
  · rw [← hf, h3] at hb; simp at hb
  · obtain ⟨cur2, h2⟩ := hr.heap2 (hv.trans hf.symm)
    rw [h3] at h2; simp at h2
set_option maxRecDepth 100000 in
set_option maxHeartbeats 16000000 in
theorem sweepTakes_any (c d : Value) (cs ds : List Int) (many age : Int) (w : World) (hc : InSlice .u8 w c cs) (hd : InSlice .u8 w d ds) (k1 : 0 ≤ many) (k2 : many ≤ 255) (p1 : 0 ≤ age) (p2 : age ≤ 255) :
    Calls Try.prog 4 #[c, .int .u8 many, .int .u8 age, d] w fun e w' => e = .returned (.bool true) ∧ Below w.heap.size w w' := by
  obtain ⟨i0, hi0, hz0, hz1, hz2⟩ := info_parts Try.infoInt3
  obtain ⟨n, hn⟩ : ∃ n, nOf cs = n := ⟨_, rfl⟩
  have hn9 := nOf_rng cs
  rw [hn] at hn9
  obtain ⟨M, hM⟩ : ∃ M : Nat, many % 10 = (M : Int) := ⟨(many % 10).toNat, by omega⟩
  obtain ⟨A, hA⟩ : ∃ A : Nat, age % 60 = (A : Int) := ⟨(age % 60).toNat, by omega⟩
  have hM9 : M ≤ 9 := by omega
  have hA9 : A ≤ 59 := by omega
  obtain ⟨m, hm⟩ : ∃ m, min M n = m := ⟨_, rfl⟩
  have hmn : m ≤ n := by omega
  obtain ⟨O, hO⟩ : ∃ O, (ord cs n).take m = O := ⟨_, rfl⟩
  obtain ⟨X0, hX0⟩ : ∃ X, layN cs O ((List.replicate (3 + 5 * n) 0).set 2 50) m = X := ⟨_, rfl⟩
  have hX0l : X0.length = 3 + 5 * n := by rw [← hX0, ← hO]; exact (lay_all (by omega) (adr_ord cs hmn).1 (adr_ord cs hmn).2 m (Nat.le_refl _)).len
  obtain ⟨ND, hND⟩ : ∃ ND, min m ds.length = ND := ⟨_, rfl⟩
  obtain ⟨X2, hX2⟩ : ∃ X, (reqN ds O X0 ND).set 0 1 = X := ⟨_, rfl⟩
  obtain ⟨hXl, hOl, hR2, X', T, K, f1, f2, f3, f4, f5, f6, f7, f8, f9⟩ := takes_plain cs ds M (A : Int) (by omega) (by omega) (n := n) (by omega) hmn hO hX0 (X2 := X2) (by rw [hND]; exact hX2)
  have hsd : (reqN ds O X0 ND).getD 2 0 = 50 := by
    have hT0 := chain_tab cs hmn
    rw [hO, hX0] at hT0
    have hT1 := reqN_tab (ds := ds) (per_ord cs n) hT0 hmn ND (by omega)
    rw [← ord_adrs cs hmn, hO] at hT1
    exact hT1.pass
  have hP2 : X2.getD 2 0 = 50 := by rw [← hX2, getD_set_at _ _ _ _ (by rw [reqN_len]; omega), if_neg (by omega)]; exact hsd
  have hat : ∀ i, i < O.length → ∃ a : Nat, O.getD i 0 = (a : Int) ∧ 3 ≤ a ∧ a + 5 ≤ 3 + 5 * n := fun i hi => by
    have h1 := (adr_ord cs hmn).2 i (by omega)
    rw [hO] at h1
    exact ⟨_, h1, (adr_ord cs hmn).1.ge i (by omega), (adr_ord cs hmn).1.le i (by omega)⟩
  obtain ⟨bod, capd, rfl, hdwf, hdmax, hdc⟩ := id hd
  have hRX : RgX X2 := by
    rw [← hX2]
    refine rg_set (rg_reqN (in_u8 hdwf) ?_ _) _ _ (by unfold Rg; omega)
    rw [← hX0, ← hO]
    exact rg_layN (fun q => rg_on cs n m q (by omega)) (rg_set (fun x hx => by rw [List.eq_of_mem_replicate hx]; unfold Rg; omega) _ _ (by unfold Rg; omega)) m
  obtain ⟨SL, hSL⟩ : ∃ SL, staleL X2 (A : Int) = SL := ⟨_, rfl⟩
  rw [hSL] at f6 f7
  have hSLl : SL.length ≤ 1002 := by rw [← hSL]; exact staleL_len _ _
  have HP := Lib.hid (show nOf cs = n ∧ min M n = m ∧ (ord cs n).take m = O ∧ layN cs O ((List.replicate (3 + 5 * n) 0).set 2 50) m = X0 ∧ X2.length = 3 + 5 * n ∧ X2.getD 2 0 = 50 ∧ RgX X2 ∧ X0.length = 3 + 5 * n ∧ (reqN ds O X0 ND).set 0 1 = X2 ∧ O.length = m ∧ min m ds.length = ND from ⟨hn, hm, hO, hX0, hXl, hP2, hRX, hX0l, hX2, hOl, hND⟩)
  have HT := Lib.hid (And.intro f1 (And.intro f2 (And.intro f3 (And.intro f6 (And.intro f7 (And.intro f5 f4))))))
  have HE := Lib.hid (And.intro f8 f9)
  have HQ := Lib.hid (And.intro hat (And.intro hSL (And.intro hSLl hdwf)))
  have hl2 : X2.length ≤ 1000 := by omega
  have hl3 : X'.length ≤ 1000 := by omega
  have HL := Lib.hid (show X2.length ≤ 1000 ∧ X'.length ≤ 1000 ∧ X'.length = X2.length ∧ 8 ≤ X2.length ∧ m ≤ 9 from ⟨hl2, hl3, by omega, by omega, by omega⟩)
  have HC := Lib.hid hc
  have HD := Lib.hid hdc
  obtain ⟨bo, cap, rfl, -, -, -⟩ := hc
  have hn9' : (n : Int) ≤ 9 := by omega
  clear hn hm hO hX0 hXl hP2 hRX hX0l hX2 hOl hND hR2 f1 f2 f3 f4 f5 f6 f7 f8 f9 hmn hl2 hl3 hat hsd hdwf hdmax hdc hd hSL hSLl
  go_enter Try.func4, Try.ntmps4
  go_wp2_with fail
  refine (Chain_f _ cs (M : Int) _ n M HC.out (by omega) (by omega) HP.out.1 rfl).mono ?_
  rintro e w1 ⟨v1, v2, rfl, R1, I1, hb1, o1⟩
  rw [HP.out.2.1, HP.out.2.2.1, HP.out.2.2.2.1] at R1
  rw [HP.out.2.1, HP.out.2.2.1] at I1
  obtain ⟨xo, xc, rfl⟩ := R1.shape
  obtain ⟨oo, oc, rfl⟩ := I1.shape
  have hX08 : 8 ≤ X0.length := by have := HP.out.2.2.2.2.2.2.2.1; omega
  obtain ⟨gx, cx, curx, ex, hgx, -, -, -, -⟩ := R1.pos (by omega)
  cases ex
  have zgx : w.heap.size ≤ gx := o1 gx rfl
  have zx : gx < w1.heap.size := (Array.getElem?_eq_some_iff.1 hgx).1
  have hfo : ∀ k, (Value.slice oo O.length oc).ownBlock = some k → k ≠ gx := fun k e hk => by
    obtain ⟨cur, h3⟩ := I1.heap3 e
    rw [hk, hgx] at h3; simp at h3
  have H1 := Lib.hid (And.intro R1 (And.intro I1 (And.intro hb1 (And.intro hfo zgx))))
  clear R1 I1 hb1 o1 hgx hfo
  go_upto_block 0 with fail
  go_cut [11] from 32 to 56 (fun a wx => (∃ i : Nat, a = .int .i64 i) ∧ Row wx (.slice (some ⟨gx, 0, none⟩) X0.length xc) (reqN ds O X0 ND) ∧ Kept (fun b => b = gx) w1 wx)
  case first =>
    go_wp2_with fail
    go_loopw [11] (fun k wr => ∃ i : Nat, i ≤ ND ∧ k = .int .i64 i ∧ Row wr (.slice (some ⟨gx, 0, none⟩) X0.length xc) (reqN ds O X0 i) ∧ Kept (fun b => b = gx) w1 wr) (fun k _ => ND - (intOf k).toNat)
    case atStart => exact ⟨0, Nat.zero_le _, rfl, H1.out.1, Kept.refl _ _⟩
    case round =>
      obtain ⟨i, hi, rfl, hRow, hK⟩ := hrel
      have zi : (0 : Int) ≤ (i : Int) := by omega
      have hm9 : O.length ≤ 9 := by have := HP.out.2.2.2.2.2.2.2.2.2.1; have := HL.out.2.2.2.2; omega
      have hO9 : (O.length : Int) ≤ 9 := by omega
      by_cases hlt : i < ND
      · have hN := HP.out.2.2.2.2.2.2.2.2.2.2
        have hOm := HP.out.2.2.2.2.2.2.2.2.2.1
        have hi1 : i < O.length := by omega
        have hi2 : i < ds.length := by omega
        have hi1' : (i : Int) < (O.length : Int) := by omega
        have hi2' : (i : Int) < (ds.length : Int) := by omega
        obtain ⟨a, ha, ha3, haL⟩ := HQ.out.1 i hi1
        obtain ⟨go, co, curo, eo, -, -, -, hoc, -⟩ := H1.out.2.1.pos (by omega)
        cases eo
        have ho1 := hoc i hi1
        rw [ha] at ho1
        have zo : go < w1.heap.size := World.block_lt_of_cell? w1 _ ho1
        have ho := (hK.cell (p := ⟨go, i, none⟩) zo (show ¬ go = gx from H1.out.2.2.2.1 go rfl)).trans ho1
        obtain ⟨db, off, rfl, zd, hdc⟩ := HD.out (by omega)
        obtain ⟨x, hx⟩ : ∃ x, ds.getD i 0 = x := ⟨_, rfl⟩
        have hxr := in_u8 HQ.out.2.2.2 i
        have hd1 := hdc i hi2
        rw [hx] at hd1 hxr
        have hd := (hK.cell (p := ⟨db, off + i, none⟩) (Nat.lt_of_lt_of_le zd H1.out.2.2.1.size) (show ¬ db = gx by have := H1.out.2.2.2.2; omega)).trans ((H1.out.2.2.1.cell (p := ⟨db, off + i, none⟩) zd).trans hd1)
        obtain ⟨xr0, xr1⟩ := hxr
        have hlen := reqN_len ds O X0 i
        have hX0l := HP.out.2.2.2.2.2.2.2.1
        have haX : a < X0.length := by omega
        have haX' : (a : Int) < (X0.length : Int) := by omega
        obtain ⟨g3, c3, cur3, e3, -, -, -, hxc, hxf⟩ := hRow.pos (by rw [hlen]; omega)
        rw [hlen] at e3
        cases e3
        have hq := hxc a (by rw [hlen]; omega)
        have hqf := hxf a
        have HA := Lib.hid (And.intro ha (And.intro hx (And.intro hRow (And.intro hK hlen))))
        have zgw : gx < wr.heap.size := World.block_lt_of_cell? wr _ hq
        clear hN hOm ha hoc ho1 hdc hx hd1 hlen hX0l hxc hxf hRow hK
        go_wp2_with fail
        go_region
        all_goals
          try go_wp2_with fail
          generalize hwB : World.setCell _ _ _ = wB
          have RB : Row wB (.slice (some ⟨gx, 0, none⟩) X0.length xc) (reqN ds O X0 (i + 1)) := by
            rw [← hwB, reqN, HA.out.1, HA.out.2.1, Int.toNat_natCast]
            first
              | exact HA.out.2.2.1.set rfl a (by rw [HA.out.2.2.2.2]; omega) _
              | exact (HA.out.2.2.1.below (Below.refl _ _).drew).set rfl a (by rw [HA.out.2.2.2.2]; omega) _
          have KB : Kept (fun b => b = gx) w1 wB := by
            rw [← hwB]
            first
              | exact HA.out.2.2.2.1.setCell (p := ⟨gx, a, none⟩) (fun _ => rfl) _
              | exact HA.out.2.2.2.1.drew.setCell (p := ⟨gx, a, none⟩) (fun _ => rfl) _
          have HBB := Lib.hid (And.intro RB KB)
          clear RB KB hwB
          go_roundw
          case rel => exact ⟨i + 1, by omega, by go_num, by first | exact HBB.out.1 | exact HBB.out.1.below (Below.refl _ _).drew, by first | exact HBB.out.2 | exact HBB.out.2.drew⟩
          case measure => simp [intOf]; omega
      · obtain rfl : i = ND := by omega
        have HA := Lib.hid (And.intro hRow hK)
        have hN := HP.out.2.2.2.2.2.2.2.2.2.2
        have hOm := HP.out.2.2.2.2.2.2.2.2.2.1
        clear hRow hK
        by_cases hio : i < O.length
        · have hio' : (i : Int) < (O.length : Int) := by omega
          have hid' : ¬ (i : Int) < (ds.length : Int) := by omega
          have hdl : (ds.length : Int) ≤ 9 := by omega
          clear hN hOm hio
          go_wp2_with fail
          go_meet
          case rel => exact ⟨⟨_, rfl⟩, HA.out.1, HA.out.2⟩
        · have hio' : ¬ (i : Int) < (O.length : Int) := by omega
          clear hN hOm hio
          go_wp2_with fail
          go_meet
          case rel => exact ⟨⟨_, rfl⟩, HA.out.1, HA.out.2⟩
  case rest =>
    obtain ⟨⟨i, rfl⟩, hRow, hK⟩ := hcut
    have hlen := reqN_len ds O X0 ND
    obtain ⟨g3, c3, cur3, e3, -, -, -, hxc, hxf⟩ := hRow.pos (by rw [hlen]; omega)
    rw [hlen] at e3
    cases e3
    have hq := hxc 0 (by rw [hlen]; omega)
    have hqf := hxf 0
    have zgw : gx < wc.heap.size := World.block_lt_of_cell? wc _ hq
    have HA := Lib.hid (And.intro hRow (And.intro hK hlen))
    have hx8' : (8 : Int) ≤ (X0.length : Int) := by omega
    clear hxc hxf hRow hK hlen
    go_wp2_with fail
    generalize hW2 : World.setCell _ _ _ = w2
    have R2 : Row w2 (.slice (some ⟨gx, 0, none⟩) X0.length xc) X2 := by rw [← hW2, ← HP.out.2.2.2.2.2.2.2.2.1]; exact HA.out.1.set rfl 0 (by rw [HA.out.2.2]; omega) _
    have K2 : Kept (fun b => b = gx) w1 w2 := by rw [← hW2]; exact HA.out.2.1.setCell (p := ⟨gx, 0, none⟩) (fun _ => rfl) _
    have O2 : IRow w2 (.slice oo O.length oc) O := H1.out.2.1.kept K2 H1.out.2.2.2.1
    have B2 : Below w.heap.size w w2 := H1.out.2.2.1.trans (K2.below H1.out.2.2.1.size (fun k hk e => by omega))
    have H2 := Lib.hid (And.intro R2 (And.intro O2 B2))
    clear hW2 R2 K2 O2 B2 hq hqf
    refine (Memory13_f _ X2 w2 H2.out.1.sl HL.out.1).mono ?_
    rintro e w3 ⟨mv, b, g, q, rfl, h3, -⟩
    obtain ⟨ao1, cap1, rfl, -, -⟩ := h3.rv.open
    have H3 := Lib.hid h3
    clear h3
    go_wp2_with fail
    generalize hW4 : World.alloc _ _ = W4
    have B4 : Below w3.heap.size w3 W4 := by rw [← hW4]; go_grown
    refine (rStale_f W4 _ q _ _ X2 A (reachL X2).1 (reachL X2).2 (H3.out.rv.below B4) HL.out.1 rfl (by have := reachL_len X2; omega)).mono ?_
    rintro e w5 ⟨u, rfl, hs, hb5⟩
    rw [HQ.out.2.1] at hs
    obtain ⟨so, sc, rfl⟩ := hs.shape
    have B5 : Below w3.heap.size w3 w5 := B4.trans (hb5.mono B4.size)
    have m5 := H3.out.ms.below B5
    have r5 := H2.out.1.below m5.B
    obtain ⟨g3, c3', cur3, e3, -, -, -, hxc, -⟩ := r5.pos (by have := HL.out.2.2.2.1; omega)
    have e02 : X2.length = X0.length := by have h1 := HP.out.2.2.2.2.1; have h2 := HP.out.2.2.2.2.2.2.2.1; omega
    rw [e02] at e3
    cases e3
    have d5 := hxc 2 (by have := HL.out.2.2.2.1; omega)
    rw [HP.out.2.2.2.2.2.1] at d5
    have z5 : gx < w5.heap.size := World.block_lt_of_cell? w5 _ d5
    have H5 := Lib.hid (And.intro hs (And.intro m5 e02))
    clear hW4 B4 hs hb5 B5 m5 r5 hxc e02
    go_wp2_with fail
    clear d5 z5
    refine (all17_f w2 w5 b g _ _ X2 A 50 X' T K H5.out.2.1 (by omega) (by have := HL.out.1; omega) HP.out.2.2.2.2.2.2.1 HT.out.1).mono ?_
    rintro e w6 ⟨bo6, bc6, st6, rfl, m6, s60, s61, rg6, k6⟩
    obtain ⟨t0, t1, t2, t3, t4, t5, t6, t7, t8, t9, t10, t11⟩ := T
    have ht1 : t1 = 11 := HT.out.2.1
    subst ht1
    simp only [thV]
    have S6 := H5.out.1.kept k6 (H5.out.1.foot H5.out.2.1)
    have H6 := Lib.hid (And.intro m6 S6)
    clear m6 k6 S6 s60 s61 rg6
    go_wp2_with fail
    generalize hr15 : w6.heap.size = r15
    generalize hW7 : World.alloc _ _ = W7
    have T7 : W7.heap[r15]? = some (.cells #[.int .i64 t0, .int .i64 11, .int .i64 t2, .int .i64 t3, .int .i64 t4, .int .i64 t5, .int .i64 t6, .int .i64 t7, .int .i64 t8, .int .i64 t9, .int .i64 t10, .int .i64 t11, .slice bo6 0 bc6] 39 (0, 0)) := by rw [← hW7]; exact alloc_at hr15 _
    have B7 : Below w6.heap.size w6 W7 := by rw [← hW7]; go_grown
    refine (Cells_ms (H6.out.1.below B7)).mono ?_
    rintro e w8 ⟨ao8, ccap8, rfl, -, row8, hb8, -⟩
    have B8 := B7.trans (hb8.mono B7.size)
    have T8 := (hb8.block r15 (Array.getElem?_eq_some_iff.1 T7).1).trans T7
    have H8 := Lib.hid (And.intro row8 (And.intro T8 (And.intro (H6.out.1.below B8) (H6.out.2.below B8))))
    clear hr15 hW7 T7 B7 row8 hb8 B8 T8
    go_wp2_with fail
    refine (Memory13_f _ X' w8 H8.out.1.sl HL.out.2.1).mono ?_
    rintro e w9 ⟨mv2, b2, g2, q2, rfl, h9, -⟩
    obtain ⟨ao2, cap2, rfl, -, -⟩ := h9.rv.open
    have H9 := Lib.hid h9
    clear h9
    go_wp2
    generalize hr19 : w9.heap.size = r19
    generalize hW : World.alloc _ _ = W
    have T19 : W.heap[r19]? = some (.cells #[.int .i64 X'.length, .slice ao2 X'.length cap2, .int .i64 (1 + X'.length)] 33 (0, 0)) := by rw [← hW]; exact alloc_at hr19 _
    have B9 : Below w9.heap.size w9 W := by rw [← hW]; go_grown
    have BW : Below w8.heap.size w8 W := H9.out.ms.B.trans (B9.mono H9.out.ms.B.size)
    have T15 := (BW.block r15 (Array.getElem?_eq_some_iff.1 H8.out.2.1).1).trans H8.out.2.1
    have mW := H8.out.2.2.1.below BW
    have HW := Lib.hid (show Row W (.slice ao8 X'.length ccap8) X' ∧ W.heap[r15]? = some (.cells #[.int .i64 t0, .int .i64 11, .int .i64 t2, .int .i64 t3, .int .i64 t4, .int .i64 t5, .int .i64 t6, .int .i64 t7, .int .i64 t8, .int .i64 t9, .int .i64 t10, .int .i64 t11, .slice bo6 0 bc6] 39 (0, 0)) ∧ IRow W (.slice so SL.length sc) SL ∧ IRow W (.slice oo O.length oc) O ∧ W.heap[r19]? = some (.cells #[.int .i64 X'.length, .slice ao2 X'.length cap2, .int .i64 (1 + X'.length)] 33 (0, 0)) ∧ RVal W (.agg #[.int .i64 X'.length, .slice ao2 X'.length cap2, .int .i64 (1 + X'.length)]) q2 X'.length X' (1 + X'.length) ∧ Below w.heap.size w W from
      ⟨H8.out.1.below BW, T15, H8.out.2.2.2.below BW, H2.out.2.1.below mW.B, T19, H9.out.rv.below B9, H2.out.2.2.trans (mW.B.mono H2.out.2.2.size)⟩)
    have z15 : r15 < W.heap.size := (Array.getElem?_eq_some_iff.1 T15).1
    have z19 : r19 < W.heap.size := (Array.getElem?_eq_some_iff.1 T19).1
    clear hr19 hW T19 B9 BW T15 mW H2 H3 H5 H6 H8 H9
    have hm9 : O.length ≤ 9 := by have := HP.out.2.2.2.2.2.2.2.2.2.1; have := HL.out.2.2.2.2; omega
    have hO9 : (O.length : Int) ≤ 9 := by omega
    go_loopw [20, 21] (fun l k wr => ∃ (i j : Nat) (ao : Option Addr) (cap : Nat), i ≤ O.length ∧ j = (wantK O SL i).length ∧ l = .slice ao j cap ∧ k = .int .i64 i ∧ IRow wr (.slice ao j cap) (wantK O SL i) ∧ Below W.heap.size W wr ∧ (∀ b, (Value.slice ao j cap).ownBlock = some b → W.heap.size ≤ b)) (fun _ k _ => O.length - (intOf k).toNat)
    case atStart => exact ⟨0, 0, none, 0, Nat.zero_le _, rfl, rfl, rfl, IRow.nil _, Below.refl _ _, fun b e => (by cases e)⟩
    case round =>
      obtain ⟨i, j, ao, cap, hi, hj, rfl, rfl, hRow, hB, hOw⟩ := hrel
      have zi : (0 : Int) ≤ (i : Int) := by omega
      have hjl : j ≤ i := by rw [hj]; exact wantK_len _ _ _
      have HR := Lib.hid (And.intro hRow (And.intro hB (And.intro hOw hj)))
      have hi9 : (i : Int) ≤ 9 := by omega
      by_cases hlt : i < O.length
      · have hlt' : (i : Int) < (O.length : Int) := by omega
        obtain ⟨a, ha, ha3, haL⟩ := HQ.out.1 i hlt
        obtain ⟨go, co, curo, eo, -, -, -, hoc, -⟩ := (HW.out.2.2.2.1.below hB).pos (by omega)
        cases eo
        have ho := hoc i hlt
        rw [ha] at ho
        have zo : go < wr.heap.size := World.block_lt_of_cell? wr _ ho
        have HA := Lib.hid ha
        have hS := IRow.slx (HW.out.2.2.1.below hB)
        clear hRow hB hOw hj hoc ha
        go_wp2_with fail
        refine (Place_any _ SL a _ hS (by have := HQ.out.2.2.1; omega)).mono ?_
        rintro e w' ⟨rfl, rfl⟩
        clear hS
        by_cases hm : (a : Int) ∈ SL
        · have hp : 0 ≤ placeOf SL (a : Int) := (placeOf_mem SL a).2 hm
          have hK : wantK O SL (i + 1) = wantK O SL i := by rw [wantK_succ hlt, if_pos (by rw [HA.out]; exact hm)]
          have hc := HT.out.2.2.2.2.1 (a : Int) (by rw [← HA.out, List.getD_eq_getElem?_getD, List.getElem?_eq_getElem hlt]; exact List.getElem_mem _) hm
          have hXX := HP.out.2.2.2.2.1
          have hX0 := HP.out.2.2.2.2.2.2.2.1
          have hXe := HL.out.2.2.1
          obtain ⟨gn, cn, curn, en, -, -, -, hnc, -⟩ := (HW.out.1.below HR.out.2.1).pos (by omega)
          cases en
          have hn0 := hnc a (by omega)
          have hn1 := hnc (a + 1) (by omega)
          rw [Int.toNat_natCast] at hc
          rw [hc.1] at hn0
          rw [hc.2] at hn1
          have zn : gn < wr.heap.size := World.block_lt_of_cell? wr _ hn0
          have haX : (a : Int) + 1 < (X'.length : Int) := by omega
          have hne : ((X'.length : Int) != (X0.length : Int)) = false := by simp; omega
          have HK := Lib.hid hK
          clear hm hK hc hXX hX0 hXe hnc
          go_wp2_with fail
          go_roundw
          case rel => exact ⟨i + 1, j, ao, cap, by omega, by rw [HK.out]; exact HR.out.2.2.2, rfl, by go_num, by rw [HK.out]; exact HR.out.1, HR.out.2.1, HR.out.2.2.1⟩
          case measure => simp [intOf]; omega
        · have hp : placeOf SL (a : Int) < 0 := by
            have := (placeOf_mem SL a)
            exact Int.not_le.1 (fun h => hm (this.1 h))
          have hK : wantK O SL (i + 1) = wantK O SL i ++ [(a : Int)] := by rw [wantK_succ hlt, HA.out, if_neg hm]
          have HK := Lib.hid hK
          clear hm hK
          have U : ∀ u : World, Below wr.heap.size wr u → u.ownsRow 0 3 1 (.slice ao j cap) j ((wantK O SL i).map (Value.int .i64)) := fun u hu2 => by
            have := HR.out.1.below hu2
            unfold IRow at this
            rwa [← HR.out.2.2.2] at this
          have HU := Lib.hid U
          clear U
          go_wp2_with (at_builtin; refine wpList_append_rows _ rfl _ _ 28 rfl 0 0 3 i0 (.int .i64 0) 1 8 Try.underlying28 hi0 hz0 hz1 hz2 rfl (by decide) _ _ _ rfl (HU.out _ (by go_grown)) _ 1 _ rfl (irow_lit (vs := [(a : Int)]) (heap_alloc_new _ _) rfl (by omega)) (fun v hv => (by obtain ⟨q, _, rfl⟩ := List.mem_map.1 hv; rfl)) ?c3 ?c4 ?c5 ?_)
          try case c3 => unfold maxLen; omega
          try case c4 => omega
          try case c5 => exact Nat.zero_le _
          intro v5 w5 own5 gr5 _ loc5
          have hl5 : (wantK O SL (i + 1)).length = j + 1 := by rw [HK.out, List.length_append, ← HR.out.2.2.2]; rfl
          have R5 : IRow w5 v5 (wantK O SL (i + 1)) := IRow.of own5 hl5.symm (by rw [HK.out]; simp)
          obtain ⟨ao5, cap5, rfl⟩ := R5.shape
          rw [hl5] at R5
          try rw [hl5] at loc5
          try rw [hl5]
          have K5 : Kept (fun k => (Value.slice ao j cap).ownBlock = some k) wr w5 := (((Kept.refl _ wr).alloc _)).grown gr5 (fun k e _ => e)
          have O5 : ∀ b, (Value.slice ao5 (j + 1) cap5).ownBlock = some b → W.heap.size ≤ b := fun b e => by
            rcases loc5 with h | h
            · exact HR.out.2.2.1 b (h ▸ e)
            · rw [e] at h; simp at h; have := HR.out.2.1.size; omega
          have B5 : Below W.heap.size W w5 := HR.out.2.1.trans (K5.below HR.out.2.1.size (fun k hk e => by have := HR.out.2.2.1 k e; omega))
          have HZ := Lib.hid (And.intro R5 (And.intro B5 (And.intro O5 hl5)))
          clear own5 gr5 loc5 R5 K5 O5 B5 hl5
          go_wp2
          go_roundw
          case rel => exact ⟨i + 1, j + 1, ao5, cap5, by omega, HZ.out.2.2.2.symm, rfl, by go_num, HZ.out.1, HZ.out.2.1, HZ.out.2.2.1⟩
          case measure => simp [intOf]; omega
      · obtain rfl : i = O.length := by omega
        have hwant : wantK O SL O.length = O.filter fun x => decide (x ∉ SL) := by unfold wantK; rw [List.take_of_length_le (Nat.le_refl _)]
        have A19 := (hB.block r19 z19).trans HW.out.2.2.2.2.1
        obtain ⟨c0, c1, c2, -⟩ := blk3 A19
        have y19 : r19 < wr.heap.size := (Array.getElem?_eq_some_iff.1 A19).1
        have HWa := Lib.hid hwant
        have HB := Lib.hid (And.intro hB A19)
        clear hRow hB hOw hj hwant A19
        go_wp2_with fail
        clear c0 c1 c2 y19
        refine (rReach_f wr _ q2 _ _ X' (O.filter fun x => decide (x ∉ SL)) true (HW.out.2.2.2.2.2.1.below HB.out.1) HL.out.2.1 HT.out.2.2.2.1).mono ?_
        rintro e w20 ⟨u, rfl, hx, hb20⟩
        rw [← HWa.out] at hx
        have hwr := HR.out.1.below hb20
        have B20 := HB.out.1.trans (hb20.mono HB.out.1.size)
        obtain ⟨xo5, xc5, rfl⟩ := hx.shape
        have H20 := Lib.hid (And.intro (IRow.slx hx) (And.intro (IRow.slx hwr) B20))
        clear hx hwr hb20 B20
        go_wp2_with fail
        refine (known17_any _).mono ?_
        rintro e w21 ⟨rfl, hb21⟩
        have B21 := bmore H20.out.2.2 hb21
        have T15 := (B21.block r15 z15).trans HW.out.2.1
        have c15 : w21.cell? ⟨r15, 1, none⟩ = some (.int .i64 11) := by simp [World.cell?, T15]
        have y15 : r15 < w21.heap.size := (Array.getElem?_eq_some_iff.1 T15).1
        have H21 := Lib.hid (And.intro B21 hb21)
        clear B21 hb21 T15
        go_wp2_with fail
        refine (Ints_self _ _ (wantK O SL O.length) _ (H20.out.1.below H21.out.2) (H20.out.2.1.below H21.out.2) (by have := wantK_len O SL O.length; omega)).mono ?_
        rintro e w22 ⟨rfl, hb22⟩
        clear c15 y15
        have B22 := bmore H21.out.1 hb22
        obtain ⟨gn, cn, curn, en, -, -, -, hnc, -⟩ := (HW.out.1.below B22).pos (by have h1 := HL.out.2.2.1; have h2 := HL.out.2.2.2.1; omega)
        cases en
        have hn0 := hnc 0 (by have h1 := HL.out.2.2.1; have h2 := HL.out.2.2.2.1; omega)
        rw [HT.out.2.2.2.2.2.1] at hn0
        have A19 := (B22.block r19 z19).trans HW.out.2.2.2.2.1
        obtain ⟨c0, c1, c2, -⟩ := blk3 A19
        have y19 : r19 < w22.heap.size := (Array.getElem?_eq_some_iff.1 A19).1
        have yn : gn < w22.heap.size := World.block_lt_of_cell? w22 _ hn0
        have hX8 : (8 : Int) ≤ (X'.length : Int) := by have h1 := HL.out.2.2.1; have h2 := HL.out.2.2.2.1; omega
        have H22 := Lib.hid B22
        clear hnc B22 A19
        go_wp2_with fail
        clear c0 c1 c2 y19 hn0
        refine (rStale_f w22 _ q2 _ _ X' A (reachL X').1 (reachL X').2 (HW.out.2.2.2.2.2.1.below H22.out) HL.out.2.1 rfl (by have := reachL_len X'; omega)).mono ?_
        rintro e w23 ⟨u, rfl, hs, hb23⟩
        rw [HE.out.1] at hs
        obtain ⟨so3, sc3, rfl⟩ := hs.shape
        rw [List.length_nil]
        have B23 := bmore H22.out hb23
        have A19 := (B23.block r19 z19).trans HW.out.2.2.2.2.1
        obtain ⟨c0, c1, c2, -⟩ := blk3 A19
        have y19 : r19 < w23.heap.size := (Array.getElem?_eq_some_iff.1 A19).1
        have H23 := Lib.hid B23
        clear B23 A19 hs hb23
        go_wp2_with fail
        clear c0 c1 c2 y19
        refine (rSound_f w23 _ q2 _ _ X' (reachL X').1 (reachL X').2 (HW.out.2.2.2.2.2.1.below H23.out) HL.out.2.1 rfl (by have := reachL_len X'; omega)).mono ?_
        rintro e w24 ⟨rfl, hb24⟩
        rw [HE.out.2]
        have BZ := HW.out.2.2.2.2.2.2.trans ((bmore H23.out hb24).mono HW.out.2.2.2.2.2.2.size)
        have hK3 : (K : Int) ≤ 7 * (O.length : Int) + 3 := by have h1 := HT.out.2.2.1; have h2 := HP.out.2.2.2.2.2.2.2.2.2.1; omega
        clear hb24
        go_wp2
        go_ret
        exact ⟨by first | rfl | (simp; done), BZ⟩

end Go.Proofs.Ythdhilmmcabnlaa
