/- A list whose records are none too old is swept, and stays: plain Lean. -/
import Derived.Test.YthdhilmmcabnlaaTabP
import Derived.Test.YthdhilmmcabnlaaAll17
namespace Go.Proofs.Ythdhilmmcabnlaa
set_option linter.unusedSimpArgs false
set_option linter.unusedVariables false
open Go.RowKit

theorem lay_last {A : Nat → Nat} {V : Nat → Int} {L m : Nat} {X : List Int} (hA : Adr A L m) (h : Lay A V L m X) (hm : 0 < m) : X.getD (A (m - 1) + 3) 0 = 0 := by
  have g := hA.mod (m - 1) (by omega)
  have g3 := hA.ge (m - 1) (by omega)
  refine h.rest _ (by omega) (fun q hq => ?_) (fun q hq e => ?_)
  · have := hA.mod q hq; omega
  · have := hA.inj (m - 1) q (by omega) (by omega) (by omega); omega
/-- From a record that stays on: all stay, and LOCK is free. -/
theorem none_from {A : Nat → Nat} {V : Nat → Int} {L m : Nat} {X : List Int} (hL : L ≤ 1000) (hA : Adr A L m) (h : Lay A V L m X) (hV : ∀ q, q < m → 0 ≤ V q ∧ V q ≤ 59) :
    ∀ (d q f n : Nat) (t : Th), q + d + 1 = m → 3 * d + 2 ≤ f → t.i1 = 41 → t.i7 = A q → t.i10 = 50 → ∃ T K, allK 60 f X t n = (X.set 0 0, T, K) ∧ T.i1 = 11 ∧ K ≤ n + 3 * d + 2
  | 0, q, f, n, t, hq, hf, h1, h7, h10 => by
    obtain ⟨f, rfl⟩ : ∃ g, f = g + 2 := ⟨f - 2, by omega⟩
    have hqm : q = m - 1 := by omega
    have hle := hA.le q (by omega)
    have hv : cellAt X (wrap64 (t.i7 + 3)) = 0 := by
      rw [h7, show ((A q : Int) + 3) = ((A q + 3 : Nat) : Int) by omega, wrap_nat _ (by omega), cellAt_nat X _ (by rw [h.len]; omega), hqm]
      exact lay_last hA h (by omega)
    have e1 : swT X 60 t = { t with i1 := 48, i5 := 0 } := by simp [swT, swA, h1, hv]
    have e2 : swX X t = X := by simp [swX, h1]
    rw [allK_go (by omega), e1, e2, allK_go (by simp)]
    have e3 : swX X { t with i1 := 48, i5 := 0 } = X.set 0 0 := by
      simp only [swX]
      rw [if_neg (by decide), if_neg (by decide), if_neg (by decide), if_pos trivial, cellSet_yes (by omega) (by rw [h.len]; omega)]
      rfl
    have e4 : swT X 60 { t with i1 := 48, i5 := 0 } = { t with i1 := 11, i5 := 0 } := by simp [swT]
    rw [e3, e4, allK_end (by simp)]
    exact ⟨_, _, rfl, rfl, by omega⟩
  | d + 1, q, f, n, t, hq, hf, h1, h7, h10 => by
    obtain ⟨f, rfl⟩ : ∃ g, f = g + 3 := ⟨f - 3, by omega⟩
    have hle := hA.le q (by omega)
    have hle1 := hA.le (q + 1) (by omega)
    have hg1 := hA.ge (q + 1) (by omega)
    have hv : cellAt X (wrap64 (t.i7 + 3)) = A (q + 1) := by
      rw [h7, show ((A q : Int) + 3) = ((A q + 3 : Nat) : Int) by omega, wrap_nat _ (by omega), cellAt_nat X _ (by rw [h.len]; omega)]
      exact h.next q (by omega)
    have hv1 : cellAt X (wrap64 ((A (q + 1) : Int) + 1)) = 1 := by
      rw [show ((A (q + 1) : Int) + 1) = ((A (q + 1) + 1 : Nat) : Int) by omega, wrap_nat _ (by omega), cellAt_nat X _ (by rw [h.len]; omega)]
      exact h.act (q + 1) (by omega)
    have hv2 : cellAt X (wrap64 ((A (q + 1) : Int) + 2)) = V (q + 1) := by
      rw [show ((A (q + 1) : Int) + 2) = ((A (q + 1) + 2 : Nat) : Int) by omega, wrap_nat _ (by omega), cellAt_nat X _ (by rw [h.len]; omega)]
      exact h.age (q + 1) (by omega)
    have hz : ¬ (A (q + 1) : Int) = 0 := by omega
    have hV1 := hV (q + 1) (by omega)
    have hw : wrap64 (50 - V (q + 1)) ≤ 60 := by unfold wrap64; omega
    have e1 : swT X 60 t = { t with i1 := 42, i5 := (A (q + 1) : Int), i6 := (A (q + 1) : Int) } := by simp [swT, swA, h1, hv, (show ¬ A (q + 1) = 0 by omega)]
    have e2 : swX X t = X := by simp [swX, h1]
    rw [show f + 3 = (f + 2) + 1 from rfl, allK_go (by omega), e1, e2]
    have e3 : swT X 60 { t with i1 := 42, i5 := (A (q + 1) : Int), i6 := (A (q + 1) : Int) } = { t with i1 := 43, i5 := 1, i6 := (A (q + 1) : Int) } := by simp [swT, swA, hv1]
    have e4 : swX X { t with i1 := 42, i5 := (A (q + 1) : Int), i6 := (A (q + 1) : Int) } = X := by simp [swX]
    rw [allK_go (by simp), e3, e4]
    have e5 : swT X 60 { t with i1 := 43, i5 := 1, i6 := (A (q + 1) : Int) } = { t with i1 := 41, i5 := V (q + 1), i6 := (A (q + 1) : Int), i7 := (A (q + 1) : Int) } := by simp [swT, swA, hv2, h10, hw]
    have e6 : swX X { t with i1 := 43, i5 := 1, i6 := (A (q + 1) : Int) } = X := by simp [swX]
    rw [allK_go (by simp), e5, e6]
    obtain ⟨T, K, hK, hT, hKn⟩ := none_from hL hA h hV d (q + 1) f (n + 1 + 1 + 1) { t with i1 := 41, i5 := V (q + 1), i6 := (A (q + 1) : Int), i7 := (A (q + 1) : Int) } (by omega) (by omega) rfl rfl h10
    exact ⟨T, K, hK, hT, by omega⟩
theorem none_all {A : Nat → Nat} {V : Nat → Int} {L m : Nat} {X : List Int} (hL : L ≤ 1000) (hL3 : 3 ≤ L) (hm : m ≤ 9) (hA : Adr A L m) (h : Lay A V L m X) (hV : ∀ q, q < m → 0 ≤ V q ∧ V q ≤ 59) :
    ∃ T K, allK 60 200 X ⟨0, 40, 0, 0, 0, 0, 0, 0, 0, 0, 50, 0⟩ 0 = (X.set 0 0, T, K) ∧ T.i1 = 11 := by
  have hv : cellAt X 1 = if m = 0 then 0 else (A 0 : Int) := by
    have := cellAt_nat X 1 (by rw [h.len]; omega)
    rw [show ((1 : Nat) : Int) = 1 from rfl] at this
    rw [this]; exact h.head
  rw [allK_go (by simp)]
  have e2 : swX X ⟨0, 40, 0, 0, 0, 0, 0, 0, 0, 0, 50, 0⟩ = X := by simp [swX]
  by_cases h0 : m = 0
  · rw [if_pos h0] at hv
    have e1 : swT X 60 ⟨0, 40, 0, 0, 0, 0, 0, 0, 0, 0, 50, 0⟩ = ⟨0, 48, 0, 0, 0, 0, 0, 0, 0, 0, 50, 0⟩ := by simp [swT, swA, hv]
    rw [e1, e2, allK_go (by simp)]
    have e3 : swX X ⟨0, 48, 0, 0, 0, 0, 0, 0, 0, 0, 50, 0⟩ = X.set 0 0 := by
      simp only [swX]
      rw [if_neg (by decide), if_neg (by decide), if_neg (by decide), if_pos trivial, cellSet_yes (by omega) (by rw [h.len]; omega)]
      rfl
    have e4 : swT X 60 ⟨0, 48, 0, 0, 0, 0, 0, 0, 0, 0, 50, 0⟩ = ⟨0, 11, 0, 0, 0, 0, 0, 0, 0, 0, 50, 0⟩ := by simp [swT]
    rw [e3, e4, allK_end (by simp)]
    exact ⟨_, _, rfl, rfl⟩
  · rw [if_neg h0] at hv
    have g := hA.ge 0 (by omega)
    have hz : ¬ (A 0 : Int) = 0 := by omega
    have e1 : swT X 60 ⟨0, 40, 0, 0, 0, 0, 0, 0, 0, 0, 50, 0⟩ = ⟨0, 41, 0, 0, 0, (A 0 : Int), 0, (A 0 : Int), 0, 0, 50, 0⟩ := by simp [swT, swA, hv, (show ¬ A 0 = 0 by omega)]
    rw [e1, e2]
    obtain ⟨T, K, hK, hT, _⟩ := none_from hL hA h hV (m - 1) 0 199 1 ⟨0, 41, 0, 0, 0, (A 0 : Int), 0, (A 0 : Int), 0, 0, 50, 0⟩ (by omega) (by omega) rfl rfl rfl
    exact ⟨T, K, hK, hT⟩

theorem set_same {X : List Int} (h : X.getD 0 0 = 0) : X.set 0 0 = X := by
  cases X with
  | nil => rfl
  | cons x xs => simp at h; simp [h]
theorem reach_from {A : Nat → Nat} {V : Nat → Int} {L m n : Nat} {X on : List Int} (hL : L = 3 + 5 * n) (hn : n ≤ 9) (hA : Adr A L m) (h : Lay A V L m X) (hol : on.length = m) (hon : ∀ q, q < m → on.getD q 0 = (A q : Int)) :
    ∀ (d q f : Nat), q + d = m → d + 1 ≤ f → reachF X f (on.take q) (if q < m then (A q : Int) else 0) = (on, true)
  | 0, q, f, hq, hf => by
    obtain ⟨f, rfl⟩ : ∃ g, f = g + 1 := ⟨f - 1, by omega⟩
    rw [if_neg (by omega), reachF, if_pos rfl, List.take_of_length_le (by omega)]
  | d + 1, q, f, hq, hf => by
    obtain ⟨f, rfl⟩ : ∃ g, f = g + 1 := ⟨f - 1, by omega⟩
    have hqm : q < m := by omega
    have g1 := hA.ge q hqm
    have g2 := hA.mod q hqm
    have g3 := hA.le q hqm
    have hnth : nthIs X.length (A q : Int) = true := by
      unfold nthIs
      rw [h.len]
      refine decide_eq_true ⟨by omega, by omega, ?_⟩
      unfold manyOf
      omega
    have hnm : (A q : Int) ∉ on.take q := fun hm => by
      obtain ⟨r, hr, e⟩ := List.mem_iff_getElem.1 hm
      rw [List.length_take] at hr
      have er : on.getD r 0 = (A r : Int) := hon r (by omega)
      rw [List.getElem_take] at e
      rw [List.getD_eq_getElem?_getD, List.getElem?_eq_getElem (by omega)] at er
      have e' : on[r]'(by omega) = (A r : Int) := er
      rw [e] at e'
      have := hA.inj q r hqm (by omega) (by omega)
      omega
    rw [if_pos hqm, reachF, if_neg (by omega), if_neg (by omega), if_neg (by rw [hnth]; decide), if_neg hnm]
    have hrec : recAt X (A q : Int) 3 = (if q + 1 < m then (A (q + 1) : Int) else 0) := by
      unfold recAt
      rw [if_pos hnth, Int.toNat_natCast]
      by_cases hl : q + 1 < m
      · rw [if_pos hl]; exact h.next q hl
      · rw [if_neg hl]
        have hqq : q = m - 1 := by omega
        rw [hqq]; exact lay_last hA h (by omega)
    have htk : on.take q ++ [(A q : Int)] = on.take (q + 1) := by
      rw [List.take_succ_eq_append_getElem (by omega)]
      congr 2
      have er := hon q hqm
      rw [List.getD_eq_getElem?_getD, List.getElem?_eq_getElem (by omega)] at er
      exact er.symm
    rw [hrec, htk]
    exact reach_from hL hn hA h hol hon d (q + 1) f (by omega) (by omega)
theorem reach_all {A : Nat → Nat} {V : Nat → Int} {L m n : Nat} {X on : List Int} (hL : L = 3 + 5 * n) (hn : n ≤ 9) (hm : m ≤ 9) (hA : Adr A L m) (h : Lay A V L m X) (hol : on.length = m) (hon : ∀ q, q < m → on.getD q 0 = (A q : Int)) : reachL X = (on, true) := by
  have hv : cellAt X 1 = if 0 < m then (A 0 : Int) else 0 := by
    have := cellAt_nat X 1 (by rw [h.len]; omega)
    rw [show ((1 : Nat) : Int) = 1 from rfl] at this
    rw [this, h.head]
    by_cases h0 : m = 0
    · rw [if_pos h0, if_neg (by omega)]
    · rw [if_neg h0, if_pos (by omega)]
  unfold reachL
  rw [hv]
  have := reach_from hL hn hA h hol hon m 0 1002 (by omega) (by omega)
  rw [List.take_zero] at this
  exact this
theorem none_two (pass : Int) : ∃ T, allK 1 200 [5, 0, pass] ⟨0, 40, 0, 0, 0, 0, 0, 0, 0, 0, pass, 0⟩ 0 = ([0, 0, pass], T, 2) ∧ T.i1 = 11 := by
  have hv : cellAt [5, 0, pass] 1 = 0 := by simp [cellAt]
  have e1 : swT [5, 0, pass] 1 ⟨0, 40, 0, 0, 0, 0, 0, 0, 0, 0, pass, 0⟩ = ⟨0, 48, 0, 0, 0, 0, 0, 0, 0, 0, pass, 0⟩ := by simp [swT, swA, hv]
  have e2 : swX [5, 0, pass] ⟨0, 40, 0, 0, 0, 0, 0, 0, 0, 0, pass, 0⟩ = [5, 0, pass] := by simp [swX]
  have e3 : swX [5, 0, pass] ⟨0, 48, 0, 0, 0, 0, 0, 0, 0, 0, pass, 0⟩ = [0, 0, pass] := by simp [swX, cellSet]
  have e4 : swT [5, 0, pass] 1 ⟨0, 48, 0, 0, 0, 0, 0, 0, 0, 0, pass, 0⟩ = ⟨0, 11, 0, 0, 0, 0, 0, 0, 0, 0, pass, 0⟩ := by simp [swT]
  rw [allK_go (by simp), e1, e2, allK_go (by simp), e3, e4, allK_end (by simp)]
  exact ⟨_, rfl, rfl⟩

end Go.Proofs.Ythdhilmmcabnlaa
