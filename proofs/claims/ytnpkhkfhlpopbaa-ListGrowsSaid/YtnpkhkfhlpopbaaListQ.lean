/- What is wrong with a list of which one cell is another: plain Lean. -/
import Derived.Test.YtnpkhkfhlpopbaaListP
namespace Go.Proofs.Ytnpkhkfhlpopbaa
set_option linter.unusedSimpArgs false
set_option linter.unusedVariables false
open Go.RowKit
theorem layF_1 {A : Nat → Nat} {V : Nat → Int} {m q : Nat} (h : q < m) : layF A V m q 1 = 1 := by unfold layF; rw [if_pos h, if_pos rfl]
theorem layF_0 (A : Nat → Nat) (V : Nat → Int) (m q : Nat) : layF A V m q 0 = 0 := by
  unfold layF
  split
  · rw [if_neg (by decide), if_neg (by decide), if_neg (by decide)]
  · rfl
theorem layF_2 {A : Nat → Nat} {V : Nat → Int} {m q : Nat} (h : q < m) : layF A V m q 2 = V q := by unfold layF; rw [if_pos h, if_neg (by decide), if_pos rfl]
theorem layF_3 {A : Nat → Nat} {V : Nat → Int} {m q : Nat} (h : q < m) : layF A V m q 3 = if q + 1 < m then (A (q + 1) : Int) else 0 := by unfold layF; rw [if_pos h, if_neg (by decide), if_neg (by decide), if_pos rfl]
theorem layF_off {A : Nat → Nat} {V : Nat → Int} {m q : Nat} (h : ¬ q < m) (j : Nat) : layF A V m q j = 0 := by unfold layF; rw [if_neg h]
theorem range_lt {m n : Nat} (h : m ≤ n) : ∀ q ∈ List.range m, q < n := fun q hq => by have := List.mem_range.1 hq; omega
theorem chn_layF {A : Nat → Nat} {V : Nat → Int} {m : Nat} {G : Nat → Nat → Int} (h : ∀ q, q < m → G q 3 = layF A V m q 3) : Chn A G (if m = 0 then 0 else (A 0 : Int)) (List.range m) := chn_lay (fun q hq => by rw [h q hq, layF_3 hq])
theorem wrong_all (cs : List Int) {n m k : Nat} (hm : m ≤ n) (hn : n ≤ 190) (hk : k < m) {X : List Int} (hX : layN cs ((ord cs n).take m) ((List.replicate (3 + 5 * n) 0).set 2 50) m = X) :
    soundF (X.set (ordA cs n k + 1) 0) = 33 ∧ soundF (X.set (ordA cs n (m - 1) + 3) (ordA cs n k : Int)) = 30 ∧ soundF (X.set (ordA cs n k + 3) ((ordA cs n k : Int) + 1)) = 30 ∧ soundF (X.set 1 0) = 31 ∧
      soundF ((X.set 1 0).set (ordA cs n 0) (-1)) = if 1 < m then 31 else 0 := by
  have hP := per_ord cs n
  have hT := chain_tab cs hm
  rw [hX, if_neg (by omega)] at hT
  have hks := range_lt hm
  have hF3 : ∀ q, q + 1 < m → layF (ordA cs n) (ageV cs) m q 3 = (ordA cs n (q + 1) : Int) := fun q hq => by rw [layF_3 (by omega), if_pos hq]
  refine ⟨?_, ?_, ?_, ?_, ?_⟩
  · have hT1 := hT.set hP (show k < n by omega) (show 1 < 5 by omega) 0
    have hc : Chn (ordA cs n) (upd (layF (ordA cs n) (ageV cs) m) k 1 0) (if m = 0 then 0 else (ordA cs n 0 : Int)) (List.range m) := chn_layF (V := ageV cs) (fun q _ => upd_ne _ _ _ _ (.inr (by decide)))
    rw [if_neg (by omega)] at hc
    exact sound33 hP hT1 hks (reach_tab hP hT1 hn hc hks List.nodup_range (by rw [List.length_range]; omega)) (List.mem_range.2 hk) (upd_at _ _ _ _)
  · have hT2 := hT.set hP (show m - 1 < n by omega) (show 3 < 5 by omega) (ordA cs n k : Int)
    exact sound30 (reach_round hP hT2 hn hm (by omega) hk rfl (fun q hq => by rw [upd_ne _ _ _ _ (.inl (by omega)), hF3 q hq]) (upd_at _ _ _ _))
  · have hT3 := hT.set hP (show k < n by omega) (show 3 < 5 by omega) ((ordA cs n k : Int) + 1)
    exact sound30 (reach_off hP hT3 hn (e := k + 1) (k := k) (by omega) (by omega) (by omega) rfl (fun q hq => by rw [upd_ne _ _ _ _ (.inl (by omega)), hF3 q (by omega)]) (upd_at _ _ _ _))
  · have hT4 := hT.setHead hP 0
    have hr : reachL (X.set 1 0) = (adrs (ordA cs n) [], true) := reach_tab hP hT4 hn (show Chn _ _ 0 [] from rfl) (fun q h => by cases h) List.nodup_nil (by simp)
    exact sound31 hP hT4 (fun q h => by cases h) hr (fun q h => by cases h) (show 0 < n by omega) (by simp) (layF_1 (by omega)) (by rw [layF_0]; decide)
  · have hT5 := (hT.setHead hP 0).set hP (show 0 < n by omega) (show 0 < 5 by omega) (-1)
    have hr : reachL ((X.set 1 0).set (ordA cs n 0 + 0) (-1)) = (adrs (ordA cs n) [], true) := reach_tab hP hT5 hn (show Chn _ _ 0 [] from rfl) (fun q h => by cases h) List.nodup_nil (by simp)
    rw [Nat.add_zero] at hr hT5
    by_cases h1 : 1 < m
    · rw [if_pos h1]
      exact sound31 hP hT5 (fun q h => by cases h) hr (fun q h => by cases h) (show 1 < n by omega) (by simp) (by rw [upd_ne _ _ _ _ (.inl (by decide))]; exact layF_1 h1) (by rw [upd_ne _ _ _ _ (.inl (by decide)), layF_0]; decide)
    · rw [if_neg h1]
      refine sound_tab hP hT5 (fun q h => by cases h) hr (fun q h => by cases h) (fun q hq e1 e2 => ?_)
      rw [upd_ne _ _ _ _ (.inr (by decide))] at e1
      by_cases hq0 : q = 0
      · subst hq0; rw [upd_at] at e2; exact absurd rfl e2
      · rw [layF_off (by omega)] at e1; exact absurd e1 (by decide)

end Go.Proofs.Ytnpkhkfhlpopbaa
