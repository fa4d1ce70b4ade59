/- A record that is asked while it is looked at: plain Lean. -/
import Derived.Test.YthdhilmmcabnlaaSwTab
namespace Go.Proofs.Ythdhilmmcabnlaa
set_option linter.unusedSimpArgs false
set_option linter.unusedVariables false
open Go.RowKit
/-- The cells, and whether the swap told yes, behind at most f steps more; ahead of the step j the swap is tried. -/
def lateK (j : Nat) (a w : Int) : Nat → List Int → Th → Nat → Bool → List Int × Bool
  | 0, xs, _, _, sw => (xs, sw)
  | f + 1, xs, t, n, sw => if 40 ≤ t.i1 ∧ t.i1 ≤ 48 then (if n = j then lateK j a w f (swX (cellSwap xs a 0 w) t) (swT (cellSwap xs a 0 w) 10 t) (n + 1) (swapIs xs a 0) else lateK j a w f (swX xs t) (swT xs 10 t) (n + 1) sw) else (xs, sw)
theorem lateK_end {j : Nat} {a w : Int} {f : Nat} {xs : List Int} {t : Th} {n : Nat} {sw : Bool} (h : ¬ (40 ≤ t.i1 ∧ t.i1 ≤ 48)) : lateK j a w f xs t n sw = (xs, sw) := by
  cases f
  · rfl
  · exact if_neg h
theorem lateK_hit {j : Nat} {a w : Int} {f : Nat} {xs : List Int} {t : Th} {n : Nat} {sw : Bool} (h : 40 ≤ t.i1 ∧ t.i1 ≤ 48) (hn : n = j) : lateK j a w (f + 1) xs t n sw = lateK j a w f (swX (cellSwap xs a 0 w) t) (swT (cellSwap xs a 0 w) 10 t) (n + 1) (swapIs xs a 0) := by
  rw [lateK, if_pos h, if_pos hn]
theorem lateK_pass {j : Nat} {a w : Int} {f : Nat} {xs : List Int} {t : Th} {n : Nat} {sw : Bool} (h : 40 ≤ t.i1 ∧ t.i1 ≤ 48) (hn : n ≠ j) : lateK j a w (f + 1) xs t n sw = lateK j a w f (swX xs t) (swT xs 10 t) (n + 1) sw := by
  rw [lateK, if_pos h, if_neg hn]
theorem lateK_after {j : Nat} {a w : Int} {sw : Bool} : ∀ (f : Nat) (xs : List Int) (t : Th) (n : Nat), j < n → lateK j a w f xs t n sw = ((allK 10 f xs t n).1, sw)
  | 0, _, _, _, _ => rfl
  | f + 1, xs, t, n, h => by
    by_cases ht : 40 ≤ t.i1 ∧ t.i1 ≤ 48
    · rw [lateK_pass ht (by omega), allK_go ht]
      exact lateK_after f _ _ _ (by omega)
    · rw [lateK_end ht, allK_end ht]
theorem lateK_at {j : Nat} {a w : Int} {f : Nat} {xs : List Int} {t : Th} {n : Nat} {sw : Bool} (h : 40 ≤ t.i1 ∧ t.i1 ≤ 48) (hn : n = j) : lateK j a w (f + 1) xs t n sw = ((allK 10 (f + 1) (cellSwap xs a 0 w) t n).1, swapIs xs a 0) := by
  rw [lateK_hit h hn, lateK_after f _ _ _ (by omega), allK_go h]
/-- Ages are set to 0. -/
def zeroN (on l : List Int) : Nat → List Int
  | 0 => l
  | k + 1 => (zeroN on l k).set ((on.getD k 0).toNat + 2) 0
theorem zeroN_len (on l : List Int) : ∀ k, (zeroN on l k).length = l.length
  | 0 => rfl
  | k + 1 => by rw [zeroN, List.length_set, zeroN_len on l k]
def zeroF (F : Nat → Nat → Int) (k : Nat) (q j : Nat) : Int := if q < k ∧ j = 2 then 0 else F q j
theorem zeroN_tab {A : Nat → Nat} {n m : Nat} {X : List Int} {lock head pass : Int} {F : Nat → Nat → Int} (hP : Per A n) (h : Tab A n X lock head pass F) (hm : m ≤ n) : ∀ k, k ≤ m → Tab A n (zeroN (adrs A (List.range m)) X k) lock head pass (zeroF F k)
  | 0, _ => h.congr (fun q j _ _ => by unfold zeroF; rw [if_neg (by omega)])
  | k + 1, hk => by
    have ih := zeroN_tab hP h hm k (by omega)
    rw [zeroN, adrs_getD (by omega), Int.toNat_natCast]
    refine (ih.set hP (q := k) (j := 2) (by omega) (by omega) _).congr (fun q j hq hj => ?_)
    unfold upd zeroF
    by_cases h1 : q = k ∧ j = 2
    · obtain ⟨rfl, rfl⟩ := h1
      rw [if_pos ⟨rfl, rfl⟩, if_pos ⟨by omega, rfl⟩]
    · rw [if_neg h1]
      by_cases h2 : q < k ∧ j = 2
      · rw [if_pos h2, if_pos ⟨by omega, h2.2⟩]
      · rw [if_neg h2, if_neg (by omega)]
/-- The first steps behind the head, at a record that is active and old. -/
theorem steps_look {A : Nat → Nat} {n : Nat} {X : List Int} {lock head : Int} {F : Nat → Nat → Int} (hn : n ≤ 9) (hP : Per A n) (hT : Tab A n X lock head 50 F) (h1 : 1 < n) (e3 : F 0 3 = (A 1 : Int)) (e1 : F 1 1 = 1) (e2 : F 1 2 = 0) :
    (swT X 10 ⟨0, 41, 0, 0, 0, (A 0 : Int), 0, (A 0 : Int), 0, 0, 50, 0⟩ = ⟨0, 42, 0, 0, 0, (A 1 : Int), (A 1 : Int), (A 0 : Int), 0, 0, 50, 0⟩ ∧ swX X ⟨0, 41, 0, 0, 0, (A 0 : Int), 0, (A 0 : Int), 0, 0, 50, 0⟩ = X) ∧
    (swT X 10 ⟨0, 42, 0, 0, 0, (A 1 : Int), (A 1 : Int), (A 0 : Int), 0, 0, 50, 0⟩ = ⟨0, 43, 0, 0, 0, 1, (A 1 : Int), (A 0 : Int), 0, 0, 50, 0⟩ ∧ swX X ⟨0, 42, 0, 0, 0, (A 1 : Int), (A 1 : Int), (A 0 : Int), 0, 0, 50, 0⟩ = X) ∧
    (swT X 10 ⟨0, 43, 0, 0, 0, 1, (A 1 : Int), (A 0 : Int), 0, 0, 50, 0⟩ = ⟨0, 44, 0, 0, 0, 0, (A 1 : Int), (A 0 : Int), 0, 0, 50, 0⟩ ∧ swX X ⟨0, 43, 0, 0, 0, 1, (A 1 : Int), (A 0 : Int), 0, 0, 50, 0⟩ = X) := by
  have hl := hP.lt h1 (j := 0) (by omega)
  have v3 : cellAt X (wrap64 ((A 0 : Int) + 3)) = (A 1 : Int) := (hT.cell hP (by omega) (show 0 < n by omega) (j := 3) (by omega)).trans e3
  have v1 : cellAt X (wrap64 ((A 1 : Int) + 1)) = 1 := (hT.cell hP (by omega) h1 (j := 1) (by omega)).trans e1
  have v2 : cellAt X (wrap64 ((A 1 : Int) + 2)) = 0 := (hT.cell hP (by omega) h1 (j := 2) (by omega)).trans e2
  have hz : ¬ A 1 = 0 := by omega
  have hw : wrap64 50 = 50 := by unfold wrap64; omega
  refine ⟨⟨by simp [swT, swA, v3, hz], by simp [swX]⟩, ⟨by simp [swT, swA, v1], by simp [swX]⟩, ⟨by simp [swT, swA, v2, hw], by simp [swX]⟩⟩
theorem place_head {A : Nat → Nat} {ks : List Nat} {q : Nat} : placeOf (adrs A (q :: ks)) (A q : Int) = 0 := by simp [adrs, placeOf]
theorem late_plain (cs : List Int) (w : Int) (hw : 0 < w) (j : Nat) (j1 : 1 ≤ j) (j6 : j ≤ 6) {n m : Nat} {O X0 X : List Int} (hn : n ≤ 9) (hm : m ≤ n) (h2 : 2 ≤ m) (hO : (ord cs n).take m = O) (hX0 : layN cs O ((List.replicate (3 + 5 * n) 0).set 2 50) m = X0) (hX : zeroN O X0 m = X) :
    X.length = 3 + 5 * n ∧ ∃ XS SW L, lateK j (O.getD 1 0) w 200 X ⟨0, 40, 0, 0, 0, 0, 0, 0, 0, 0, 50, 0⟩ 0 false = (XS, SW) ∧ SW = decide (j ≤ 4) ∧ XS.length = 3 + 5 * n ∧ reachL XS = (L, true) ∧ L.length ≤ 20 ∧ placeOf L (O.getD 0 0) = 0 ∧ decide (0 ≤ placeOf L (O.getD 1 0)) = decide (j ≤ 4) := by
  have hP := per_ord cs n
  obtain ⟨A, hA⟩ : ∃ A, ordA cs n = A := ⟨_, rfl⟩
  have hOA := ord_adrs cs hm
  rw [hO, hA] at hOA
  have hT0 := chain_tab cs hm
  rw [hO, hX0, hA] at hT0
  rw [hA] at hP
  obtain ⟨head, hhd⟩ : ∃ h, (if m = 0 then 0 else (A 0 : Int)) = h := ⟨_, rfl⟩
  have hh0 : head = (A 0 : Int) := by rw [← hhd, if_neg (by omega)]
  rw [hhd] at hT0
  have hT := zeroN_tab hP hT0 hm m (Nat.le_refl _)
  rw [← hOA, hX] at hT
  obtain ⟨F, hF⟩ : ∃ F, zeroF (layF A (ageV cs) m) m = F := ⟨_, rfl⟩
  rw [hF] at hT
  have hF2 : ∀ q, q < m → F q 2 = 0 := fun q hq => by rw [← hF]; unfold zeroF; rw [if_pos ⟨hq, rfl⟩]
  have hFj : ∀ q j, j ≠ 2 → F q j = layF A (ageV cs) m q j := fun q j hj => by rw [← hF]; unfold zeroF; rw [if_neg (by omega)]
  have hF0 : ∀ q, q < m → F q 0 = 0 := fun q hq => by rw [hFj q 0 (by omega)]; unfold layF; rw [if_pos hq, if_neg (by omega), if_neg (by omega), if_neg (by omega)]
  have hF1 : ∀ q, q < m → F q 1 = 1 := fun q hq => by rw [hFj q 1 (by omega)]; unfold layF; rw [if_pos hq, if_pos rfl]
  have hF3 : ∀ q, q < m → F q 3 = if q + 1 < m then (A (q + 1) : Int) else 0 := fun q hq => by rw [hFj q 3 (by omega)]; unfold layF; rw [if_pos hq, if_neg (by omega), if_neg (by omega), if_pos rfl]
  have hO0 : O.getD 0 0 = (A 0 : Int) := by rw [hOA]; exact adrs_getD (by omega)
  have hO1 : O.getD 1 0 = (A 1 : Int) := by rw [hOA]; exact adrs_getD (by omega)
  have h1n : 1 < n := by omega
  have hl0 := hP.lt (show 0 < n by omega) (j := 0) (by omega)
  have hl1 := hP.lt h1n (j := 0) (by omega)
  have hc : Chn A F (F 0 3) (List.range' 1 (m - 1)) := by
    have := chn_range hF3 (m - 1) 1 (by omega)
    rwa [hF3 0 (by omega)]
  have hks : ∀ q ∈ List.range' 1 (m - 1), q < n ∧ q < m ∧ 1 ≤ q := fun q hq => by
    have := List.mem_range'_1.1 hq; omega
  have hnd : (0 :: List.range' 1 (m - 1)).Nodup := List.nodup_cons.2 ⟨fun h => by have := (hks 0 h).2.2; omega, List.nodup_range'⟩
  have hlen : (List.range' 1 (m - 1)).length = m - 1 := List.length_range'
  have hv : cellAt X 1 = (A 0 : Int) := by
    have := cellAt_nat X 1 (by rw [hT.len]; omega)
    exact this.trans (hT.head.trans hh0)
  -- the request, asked in time
  have hf0 : X.getD (A 1) 0 = 0 := (hT.fld 1 h1n 0 (by omega)).trans (hF0 1 (by omega))
  have hs1 : swapIs X (A 1 : Int) 0 = true := swapIs_hit (by omega) (by rw [hT.len]; omega) (by rw [Int.toNat_natCast, hf0])
  have hX1 : cellSwap X (A 1 : Int) 0 w = X.set (A 1 + 0) w := by
    unfold cellSwap
    rw [hs1, if_pos rfl, cellSet_yes (by omega) (by rw [hT.len]; omega), Int.toNat_natCast]; rfl
  have hT1 := hT.set hP h1n (j := 0) (by omega) w
  obtain ⟨X1, hX1e⟩ : ∃ X1, X.set (A 1 + 0) w = X1 := ⟨_, rfl⟩
  rw [hX1e] at hT1 hX1
  obtain ⟨F1, hF1e⟩ : ∃ F1, upd F 1 0 w = F1 := ⟨_, rfl⟩
  rw [hF1e] at hT1
  have g0 : F1 1 0 = w := by rw [← hF1e, upd_at]
  have gj : ∀ q j, j ≠ 0 → F1 q j = F q j := fun q j hj => by rw [← hF1e, upd_ne _ _ _ _ (.inr hj)]
  obtain ⟨⟨a1, a2⟩, ⟨a3, a4⟩, a5, a6⟩ := steps_look hn hP hT h1n (by rw [hF3 0 (by omega), if_pos (by omega)]) (hF1 1 (by omega)) (hF2 1 (by omega))
  obtain ⟨⟨b1, b2⟩, ⟨b3, b4⟩, b5, b6⟩ := steps_look hn hP hT1 h1n (by rw [gj 0 3 (by omega), hF3 0 (by omega), if_pos (by omega)]) (by rw [gj 1 1 (by omega)]; exact hF1 1 (by omega)) (by rw [gj 1 2 (by omega)]; exact hF2 1 (by omega))
  have e0 : swT X 10 ⟨0, 40, 0, 0, 0, 0, 0, 0, 0, 0, 50, 0⟩ = ⟨0, 41, 0, 0, 0, (A 0 : Int), 0, (A 0 : Int), 0, 0, 50, 0⟩ := by simp [swT, swA, hv, (show ¬ A 0 = 0 by omega)]
  have e0x : swX X ⟨0, 40, 0, 0, 0, 0, 0, 0, 0, 0, 50, 0⟩ = X := by simp [swX]
  refine ⟨hT.len, ?_⟩
  rw [hO0, hO1, lateK_pass (by simp) (by omega), e0, e0x]
  by_cases he : j ≤ 4
  · have hres : lateK j (A 1 : Int) w 199 X ⟨0, 41, 0, 0, 0, (A 0 : Int), 0, (A 0 : Int), 0, 0, 50, 0⟩ (0 + 1) false = ((allK 10 199 X1 ⟨0, 41, 0, 0, 0, (A 0 : Int), 0, (A 0 : Int), 0, 0, 50, 0⟩ 1).1, true) := by
      rcases (by omega : j = 1 ∨ j = 2 ∨ j = 3 ∨ j = 4) with rfl | rfl | rfl | rfl
      · rw [lateK_at (by simp) rfl, hX1, hs1]
      · rw [lateK_pass (by simp) (by omega), a1, a2, lateK_at (by simp) rfl, hX1, hs1, allK_go (f := 198) (by simp), b1, b2]
      · rw [lateK_pass (by simp) (by omega), a1, a2, lateK_pass (by simp) (by omega), a3, a4, lateK_at (by simp) rfl, hX1, hs1, allK_go (f := 198) (by simp), b1, b2, allK_go (f := 197) (by simp), b3, b4]
      · rw [lateK_pass (by simp) (by omega), a1, a2, lateK_pass (by simp) (by omega), a3, a4, lateK_pass (by simp) (by omega), a5, a6, lateK_at (by simp) rfl, hX1, hs1, allK_go (f := 198) (by simp), b1, b2, allK_go (f := 197) (by simp), b3, b4, allK_go (f := 196) (by simp), b5, b6]
    obtain ⟨XS, T, K, G, r1, r2, r3, r4, r5⟩ := sweep_from (a := 10) (by omega) (by omega) (by omega) hP (List.range' 1 (m - 1)) 0 199 1 X1 F1 ⟨0, 41, 0, 0, 0, (A 0 : Int), 0, (A 0 : Int), 0, 0, 50, 0⟩ hT1 (by omega) (fun q hq => (hks q hq).1) hnd (by rw [gj 0 3 (by omega)]; exact hc.congr (fun q hq => (gj q 3 (by omega)).symm)) (fun q hq => by rw [gj q 1 (by omega)]; exact hF1 q (hks q hq).2.1) (fun q hq => by rw [gj q 2 (by omega), hF2 q (hks q hq).2.1]; omega) (by rw [hlen]; omega) rfl rfl rfl
    have hkf : ∀ q ∈ 0 :: (List.range' 1 (m - 1)).filter (fun q => !old 10 F1 q), q < n := fun q hq => by
      rcases List.mem_cons.1 hq with rfl | h
      · omega
      · exact (hks q (List.mem_filter.1 h).1).1
    have hndf : (0 :: (List.range' 1 (m - 1)).filter (fun q => !old 10 F1 q)).Nodup := List.nodup_cons.2 ⟨fun h => by have := (hks 0 (List.mem_filter.1 h).1).2.2; omega, (List.nodup_range').filter _⟩
    have hlf : (0 :: (List.range' 1 (m - 1)).filter (fun q => !old 10 F1 q)).length ≤ 20 := by
      have := List.length_filter_le (fun q => !old 10 F1 q) (List.range' 1 (m - 1))
      rw [List.length_cons]; omega
    have hR := reach_tab hP r4 (by omega) (ks := 0 :: (List.range' 1 (m - 1)).filter (fun q => !old 10 F1 q)) ⟨hh0, r5.chn⟩ hkf hndf (by omega)
    refine ⟨XS, true, _, by rw [hres, r1], (decide_eq_true he).symm, r4.len, hR, by rw [adrs_len]; exact hlf, place_head, ?_⟩
    rw [decide_eq_true he, decide_eq_true]
    refine (placeOf_mem _ _).2 ((adrs_mem hP hkf h1n).2 (List.mem_cons_of_mem _ (List.mem_filter.2 ⟨List.mem_range'_1.2 (by omega), ?_⟩)))
    rw [show old 10 F1 1 = false from decide_eq_false (fun h => by rw [g0] at h; omega)]; rfl
  · have hs0 : cellSwap X (A 1 : Int) 0 (-1) = X.set (A 1 + 0) (-1) := by
      unfold cellSwap
      rw [hs1, if_pos rfl, cellSet_yes (by omega) (by rw [hT.len]; omega), Int.toNat_natCast]; rfl
    have hT5 := hT.set hP h1n (j := 0) (by omega) (-1)
    obtain ⟨X5, hX5e⟩ : ∃ X5, X.set (A 1 + 0) (-1) = X5 := ⟨_, rfl⟩
    rw [hX5e] at hT5 hs0
    have hf5 : X5.getD (A 1) 0 = -1 := (hT5.fld 1 h1n 0 (by omega)).trans (upd_at _ _ _ _)
    have hs5 : swapIs X5 (A 1 : Int) 0 = false := swapIs_miss (by rw [Int.toNat_natCast, hf5]; omega)
    have hc5 : cellSwap X5 (A 1 : Int) 0 w = X5 := by unfold cellSwap; rw [hs5]; rfl
    have e4 : swT X 10 ⟨0, 44, 0, 0, 0, 0, (A 1 : Int), (A 0 : Int), 0, 0, 50, 0⟩ = ⟨0, 45, 0, 0, 0, 0, (A 1 : Int), (A 0 : Int), 0, 0, 50, 0⟩ := by simp [swT, hs1]
    have e4x : swX X ⟨0, 44, 0, 0, 0, 0, (A 1 : Int), (A 0 : Int), 0, 0, 50, 0⟩ = X5 := by simp [swX, hs0]
    obtain ⟨v5, hv5⟩ : ∃ v5, cellAt X5 (wrap64 ((A 1 : Int) + 3)) = v5 := ⟨_, rfl⟩
    have e5 : swT X5 10 ⟨0, 45, 0, 0, 0, 0, (A 1 : Int), (A 0 : Int), 0, 0, 50, 0⟩ = ⟨0, 46, 0, 0, 0, v5, (A 1 : Int), (A 0 : Int), 0, 0, 50, 0⟩ := by simp [swT, swA, hv5]
    have e5x : swX X5 ⟨0, 45, 0, 0, 0, 0, (A 1 : Int), (A 0 : Int), 0, 0, 50, 0⟩ = X5 := by simp [swX]
    have hres : lateK j (A 1 : Int) w 199 X ⟨0, 41, 0, 0, 0, (A 0 : Int), 0, (A 0 : Int), 0, 0, 50, 0⟩ (0 + 1) false = ((allK 10 199 X ⟨0, 41, 0, 0, 0, (A 0 : Int), 0, (A 0 : Int), 0, 0, 50, 0⟩ 1).1, false) := by
      rw [lateK_pass (by simp) (by omega), a1, a2, lateK_pass (by simp) (by omega), a3, a4, lateK_pass (by simp) (by omega), a5, a6, lateK_pass (by simp) (by omega), e4, e4x, allK_go (f := 198) (by simp), a1, a2, allK_go (f := 197) (by simp), a3, a4, allK_go (f := 196) (by simp), a5, a6, allK_go (f := 195) (by simp), e4, e4x]
      rcases (by omega : j = 5 ∨ j = 6) with rfl | rfl
      · rw [lateK_at (by simp) rfl, hc5, hs5]
      · rw [lateK_pass (by simp) (by omega), e5, e5x, lateK_at (by simp) rfl, hc5, hs5, allK_go (f := 194) (by simp), e5, e5x]
    obtain ⟨XS, T, K, G, r1, r2, r3, r4, r5⟩ := sweep_from (a := 10) (by omega) (by omega) (by omega) hP (List.range' 1 (m - 1)) 0 199 1 X F ⟨0, 41, 0, 0, 0, (A 0 : Int), 0, (A 0 : Int), 0, 0, 50, 0⟩ hT (by omega) (fun q hq => (hks q hq).1) hnd hc (fun q hq => hF1 q (hks q hq).2.1) (fun q hq => by rw [hF2 q (hks q hq).2.1]; omega) (by rw [hlen]; omega) rfl rfl rfl
    have hkf : ∀ q ∈ 0 :: (List.range' 1 (m - 1)).filter (fun q => !old 10 F q), q < n := fun q hq => by
      rcases List.mem_cons.1 hq with rfl | h
      · omega
      · exact (hks q (List.mem_filter.1 h).1).1
    have hndf : (0 :: (List.range' 1 (m - 1)).filter (fun q => !old 10 F q)).Nodup := List.nodup_cons.2 ⟨fun h => by have := (hks 0 (List.mem_filter.1 h).1).2.2; omega, (List.nodup_range').filter _⟩
    have hlf : (0 :: (List.range' 1 (m - 1)).filter (fun q => !old 10 F q)).length ≤ 20 := by
      have := List.length_filter_le (fun q => !old 10 F q) (List.range' 1 (m - 1))
      rw [List.length_cons]; omega
    have hR := reach_tab hP r4 (by omega) (ks := 0 :: (List.range' 1 (m - 1)).filter (fun q => !old 10 F q)) ⟨hh0, r5.chn⟩ hkf hndf (by omega)
    refine ⟨XS, false, _, by rw [hres, r1], (decide_eq_false he).symm, r4.len, hR, by rw [adrs_len]; exact hlf, place_head, ?_⟩
    rw [decide_eq_false he, decide_eq_false]
    intro hp
    have hm := (adrs_mem hP hkf h1n).1 ((placeOf_mem _ _).1 hp)
    rcases List.mem_cons.1 hm with h | h
    · omega
    · have := (List.mem_filter.1 h).2
      rw [show old 10 F 1 = true from decide_eq_true ⟨hF0 1 (by omega), by rw [hF2 1 (by omega)]; omega⟩] at this
      cases this

end Go.Proofs.Ythdhilmmcabnlaa
