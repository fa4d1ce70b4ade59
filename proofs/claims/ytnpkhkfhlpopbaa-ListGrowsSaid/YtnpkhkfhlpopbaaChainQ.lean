/- What stands in the cells that Chain lays: plain Lean. -/
import Derived.Test.YtnpkhkfhlpopbaaChainP
namespace Go.Proofs.Ytnpkhkfhlpopbaa
set_option linter.unusedSimpArgs false
set_option linter.unusedVariables false
open Go.RowKit

theorem getD_set_at (l : List Int) (i p : Nat) (v : Int) (hi : i < l.length) : (l.set i v).getD p 0 = if i = p then v else l.getD p 0 := by
  rw [List.getD_eq_getElem?_getD, List.getD_eq_getElem?_getD, List.getElem?_set]
  by_cases h : i = p
  · subst h; rw [if_pos rfl, if_pos rfl, if_pos hi]; rfl
  · rw [if_neg h, if_neg h]
/-- Records that hang together: their addresses A, their ages V; the first k are laid. -/
structure Lay (A : Nat → Nat) (V : Nat → Int) (L k : Nat) (l : List Int) : Prop where
  len : l.length = L
  zero : l.getD 0 0 = 0
  head : l.getD 1 0 = if k = 0 then 0 else (A 0 : Int)
  pass : l.getD 2 0 = 50
  act : ∀ q, q < k → l.getD (A q + 1) 0 = 1
  age : ∀ q, q < k → l.getD (A q + 2) 0 = V q
  next : ∀ q, q + 1 < k → l.getD (A q + 3) 0 = A (q + 1)
  rest : ∀ p, 3 ≤ p → (∀ q, q < k → p ≠ A q + 1 ∧ p ≠ A q + 2) → (∀ q, q + 1 < k → p ≠ A q + 3) → l.getD p 0 = 0
/-- Addresses of records: apart, and in the cells. -/
structure Adr (A : Nat → Nat) (L m : Nat) : Prop where
  ge : ∀ q, q < m → 3 ≤ A q
  mod : ∀ q, q < m → A q % 5 = 3
  le : ∀ q, q < m → A q + 5 ≤ L
  inj : ∀ q r, q < m → r < m → A q = A r → q = r
def ageV (cs : List Int) (q : Nat) : Int := if q < cs.length then cs.getD q 0 % 60 else 0
theorem lay_zero (A : Nat → Nat) (V : Nat → Int) (L : Nat) (hL : 3 ≤ L) : Lay A V L 0 ((List.replicate L 0).set 2 50) := by
  have hr : ∀ p, (List.replicate L (0 : Int)).getD p 0 = 0 := fun p => by
    rw [List.getD_eq_getElem?_getD, List.getElem?_replicate]
    split <;> rfl
  have hs : ∀ p, ((List.replicate L (0 : Int)).set 2 50).getD p 0 = if 2 = p then 50 else 0 := fun p => by
    rw [getD_set_at _ _ _ _ (by simp; omega), hr]
  refine ⟨by simp, by rw [hs, if_neg (by omega)], by rw [hs, if_neg (by omega), if_pos rfl], by rw [hs, if_pos rfl], fun q h => by omega, fun q h => by omega, fun q h => by omega, fun p h _ _ => by rw [hs, if_neg (by omega)]⟩
theorem lay_step {A : Nat → Nat} {L m k : Nat} {cs on l : List Int} (hA : Adr A L m) (hk : k < m) (hon : ∀ q, q < m → on.getD q 0 = (A q : Int)) (h : Lay A (ageV cs) L k l) : Lay A (ageV cs) L (k + 1) (layStep cs on l k) := by
  have g1 := hA.ge k hk
  have g2 := hA.mod k hk
  have g3 := hA.le k hk
  have hlen := h.len
  -- the first store
  obtain ⟨i1, hi1, hi1L⟩ : ∃ i, i = (if k = 0 then 1 else A (k - 1) + 3) ∧ i < L := by
    refine ⟨_, rfl, ?_⟩
    split
    · omega
    · have := hA.le (k - 1) (by omega); omega
  have e : layStep cs on l k = (let l2 := (l.set i1 (A k : Int)).set (A k + 1) 1; if k < cs.length then l2.set (A k + 2) (cs.getD k 0 % 60) else l2) := by
    unfold layStep
    rw [hon k hk]
    by_cases h0 : k = 0
    · subst h0
      simp only [if_true] at hi1
      subst hi1
      simp
    · have hb := hon (k - 1) (by omega)
      rw [if_neg h0] at hi1
      subst hi1
      simp only [hb, Int.toNat_natCast, if_neg h0]
  have l2len : ((l.set i1 (A k : Int)).set (A k + 1) 1).length = L := by simp [hlen]
  -- what stands where
  have hg : ∀ p, (layStep cs on l k).getD p 0 = if p = A k + 2 ∧ k < cs.length then cs.getD k 0 % 60 else if p = A k + 1 then 1 else if p = i1 then (A k : Int) else l.getD p 0 := fun p => by
    rw [e]
    simp only []
    have b2 : ((l.set i1 (A k : Int)).set (A k + 1) 1).getD p 0 = if p = A k + 1 then 1 else if p = i1 then (A k : Int) else l.getD p 0 := by
      rw [getD_set_at _ _ _ _ (by simp [hlen]; omega), getD_set_at _ _ _ _ (by omega)]
      by_cases c1 : A k + 1 = p
      · rw [if_pos c1, if_pos c1.symm]
      · rw [if_neg c1, if_neg (show ¬ p = A k + 1 from fun h => c1 h.symm)]
        by_cases c2 : i1 = p
        · rw [if_pos c2, if_pos c2.symm]
        · rw [if_neg c2, if_neg (show ¬ p = i1 from fun h => c2 h.symm)]
    by_cases hc : k < cs.length
    · rw [if_pos hc, getD_set_at _ _ _ _ (by rw [l2len]; omega)]
      by_cases c : A k + 2 = p
      · rw [if_pos c, if_pos ⟨c.symm, hc⟩]
      · rw [if_neg c, if_neg (fun h => c h.1.symm), b2]
    · rw [if_neg hc, if_neg (fun h => hc h.2), b2]
  have hi1r : i1 = 1 ∧ k = 0 ∨ (0 < k ∧ i1 = A (k - 1) + 3 ∧ A (k - 1) % 5 = 3 ∧ 3 ≤ A (k - 1)) := by
    by_cases h0 : k = 0
    · exact .inl ⟨by rw [hi1, if_pos h0], h0⟩
    · exact .inr ⟨by omega, by rw [hi1, if_neg h0], hA.mod (k - 1) (by omega), hA.ge (k - 1) (by omega)⟩
  refine ⟨by rw [layStep_len]; exact hlen, ?_, ?_, ?_, ?_, ?_, ?_, ?_⟩
  · rw [hg, if_neg (by omega), if_neg (by omega), if_neg (by omega)]; exact h.zero
  · by_cases h0 : k = 0
    · have h1 : 1 = i1 := by rw [hi1, if_pos h0]
      rw [hg, if_neg (by omega), if_neg (by omega), if_pos h1, if_neg (by omega), h0]
    · have h1 : ¬ 1 = i1 := by rw [hi1, if_neg h0]; omega
      rw [hg, if_neg (by omega), if_neg (by omega), if_neg h1, h.head, if_neg h0, if_neg (by omega)]
  · rw [hg, if_neg (by omega), if_neg (by omega), if_neg (by omega)]; exact h.pass
  · intro q hq
    by_cases hqk : q = k
    · subst hqk; rw [hg, if_neg (by omega), if_pos rfl]
    · have m1 := hA.mod q (by omega)
      have n1 : A q ≠ A k := fun hh => hqk (hA.inj q k (by omega) hk hh)
      rw [hg, if_neg (by omega), if_neg (by omega), if_neg (by omega)]; exact h.act q (by omega)
  · intro q hq
    by_cases hqk : q = k
    · subst hqk
      rw [hg]
      by_cases hc : q < cs.length
      · rw [if_pos ⟨rfl, hc⟩, ageV, if_pos hc]
      · rw [if_neg (fun hh => hc hh.2), if_neg (by omega), if_neg (by omega), ageV, if_neg hc]
        refine h.rest _ (by omega) (fun r hr => ?_) (fun r hr => ?_)
        · have m1 := hA.mod r (by omega)
          have n1 : A r ≠ A q := fun hh => by have := hA.inj r q (by omega) hk hh; omega
          omega
        · have m1 := hA.mod r (by omega); omega
    · have m1 := hA.mod q (by omega)
      have n1 : A q ≠ A k := fun hh => hqk (hA.inj q k (by omega) hk hh)
      rw [hg, if_neg (by omega), if_neg (by omega), if_neg (by omega)]; exact h.age q (by omega)
  · intro q hq
    have m1 := hA.mod q (by omega)
    have n1 : A q ≠ A k := fun hh => by have := hA.inj q k (by omega) hk hh; omega
    by_cases hqk : q + 1 = k
    · have hq1 : q = k - 1 := by omega
      rw [hg, if_neg (by omega), if_neg (by omega), if_pos (by rw [hq1]; omega), hqk]
    · have n2 : A q ≠ A (k - 1) := fun hh => by have := hA.inj q (k - 1) (by omega) (by omega) hh; omega
      rw [hg, if_neg (by omega), if_neg (by omega), if_neg (by omega)]; exact h.next q (by omega)
  · intro p hp h1 h2
    have hk1 := h1 k (by omega)
    rw [hg, if_neg (fun hh => hk1.2 hh.1), if_neg hk1.1, if_neg ?_]
    · exact h.rest p hp (fun q hq => h1 q (by omega)) (fun q hq => h2 q (by omega))
    · rcases hi1r with ⟨e1, _⟩ | ⟨h0, e1, _⟩
      · omega
      · rw [e1]
        have := h2 (k - 1) (by omega)
        exact this
theorem lay_all {A : Nat → Nat} {L m : Nat} {cs on : List Int} (hL : 3 ≤ L) (hA : Adr A L m) (hon : ∀ q, q < m → on.getD q 0 = (A q : Int)) : ∀ k, k ≤ m → Lay A (ageV cs) L k (layN cs on ((List.replicate L 0).set 2 50) k)
  | 0, _ => lay_zero A _ L hL
  | k + 1, h => lay_step hA (by omega) hon (lay_all hL hA hon k (by omega))

end Go.Proofs.Ytnpkhkfhlpopbaa
