/- Who is stale on a list of which one record waits: plain Lean. -/
import Derived.Test.YtnpkhkfhlpopbaaListQ
namespace Go.Proofs.Ytnpkhkfhlpopbaa
set_option linter.unusedSimpArgs false
set_option linter.unusedVariables false
open Go.RowKit
theorem mem_drop1 {m j : Nat} : j ∈ (List.range m).drop 1 ↔ 0 < j ∧ j < m := by
  cases m with
  | zero => simp
  | succ d =>
    rw [List.range_succ_eq_map, List.drop_one, List.tail_cons, List.mem_map]
    constructor
    · rintro ⟨i, hi, rfl⟩; have := List.mem_range.1 hi; omega
    · rintro ⟨h1, h2⟩; exact ⟨j - 1, List.mem_range.2 (by omega), by show (j - 1) + 1 = j; omega⟩
theorem stale_all (cs : List Int) {n m k : Nat} (hm : m ≤ n) (hn : n ≤ 190) (hk : k < m) {X : List Int} (hX : layN cs ((ord cs n).take m) ((List.replicate (3 + 5 * n) 0).set 2 50) m = X) (wv a : Int) :
    (∀ j, j < m → (X.set (ordA cs n k) wv).getD (ordA cs n j + 2) 0 = ageV cs j) ∧
    (∀ j, j < m → ((ordA cs n j : Int) ∈ staleL (X.set (ordA cs n k) wv) a ↔ a < 50 - ageV cs j ∧ 0 < j ∧ (j ≠ k ∨ wv = 0))) ∧
    (staleL (X.set (ordA cs n k) wv) a).length < m ∧
    ((recsL (X.set (ordA cs n k) wv).length).filter fun r => decide (0 < recAt (X.set (ordA cs n k) wv) r 0)) = if 0 < wv then [(ordA cs n k : Int)] else [] := by
  have hP := per_ord cs n
  have hT := chain_tab cs hm
  rw [hX] at hT
  have hks := range_lt hm
  have hT1 := hT.set hP (show k < n by omega) (show 0 < 5 by omega) wv
  rw [Nat.add_zero] at hT1
  have hc : Chn (ordA cs n) (upd (layF (ordA cs n) (ageV cs) m) k 0 wv) (if m = 0 then 0 else (ordA cs n 0 : Int)) (List.range m) := chn_layF (V := ageV cs) (fun q _ => upd_ne _ _ _ _ (.inr (by decide)))
  have hr := reach_tab hP hT1 hn hc hks List.nodup_range (by rw [List.length_range]; omega)
  have hs := stale_tab hP hT1 hks hr a
  have f1 : ∀ q, upd (layF (ordA cs n) (ageV cs) m) k 0 wv q 1 = layF (ordA cs n) (ageV cs) m q 1 := fun q => upd_ne _ _ _ _ (.inr (by decide))
  have f2 : ∀ q, upd (layF (ordA cs n) (ageV cs) m) k 0 wv q 2 = layF (ordA cs n) (ageV cs) m q 2 := fun q => upd_ne _ _ _ _ (.inr (by decide))
  have f0 : ∀ q, upd (layF (ordA cs n) (ageV cs) m) k 0 wv q 0 = if q = k then wv else 0 := fun q => by
    by_cases h : q = k
    · subst h; rw [upd_at, if_pos rfl]
    · rw [upd_ne _ _ _ _ (.inl h), layF_0, if_neg h]
  have hsub : ∀ q ∈ (List.range m).drop 1, q < n := fun q hq => by have := mem_drop1.1 hq; omega
  refine ⟨fun j hj => ?_, fun j hj => ?_, ?_, ?_⟩
  · rw [hT1.fld j (by omega) 2 (by omega), f2, layF_2 hj]
  · rw [hs, adrs_mem hP (fun q hq => hsub q (List.mem_filter.1 hq).1) (by omega), List.mem_filter, mem_drop1, decide_eq_true_iff, f0, f1, f2, layF_1 hj, layF_2 hj]
    have hv := ageV_rng cs j
    have hw : wrap64 (50 - ageV cs j) = 50 - ageV cs j := by unfold wrap64; omega
    rw [hw]
    by_cases h : j = k
    · subst h
      rw [if_pos rfl]
      constructor
      · rintro ⟨⟨h1, _⟩, _, h2, h3⟩; exact ⟨h3, h1, .inr h2⟩
      · rintro ⟨h1, h2, h3⟩
        rcases h3 with h3 | h3
        · exact absurd rfl h3
        · exact ⟨⟨h2, hj⟩, rfl, h3, h1⟩
    · rw [if_neg h]
      constructor
      · rintro ⟨⟨h1, _⟩, _, _, h3⟩; exact ⟨h3, h1, .inl h⟩
      · rintro ⟨h1, h2, _⟩; exact ⟨⟨h2, hj⟩, rfl, rfl, h1⟩
  · rw [hs, adrs_len]
    refine Nat.lt_of_le_of_lt (List.length_filter_le _ _) ?_
    rw [List.length_drop, List.length_range]; omega
  · by_cases h : 0 < wv
    · rw [if_pos h]
      exact wait_one hP hT1 (show k < n by omega) (by rw [f0, if_pos rfl]; exact h) (fun q hq hne => by rw [f0, if_neg hne]; exact Int.le_refl _)
    · rw [if_neg h]
      refine wait_none hP hT1 (fun q hq => ?_)
      rw [f0]
      split
      · omega
      · exact Int.le_refl _

end Go.Proofs.Ytnpkhkfhlpopbaa
