/- A list that grows at its head, and from which one goes: plain Lean. -/
import Derived.Test.YtnpkhkfhlpopbaaListQ
namespace Go.Proofs.Ytnpkhkfhlpopbaa
set_option linter.unusedSimpArgs false
set_option linter.unusedVariables false
open Go.RowKit
theorem chn_erase {A : Nat → Nat} {F G : Nat → Nat → Int} : ∀ (ks : List Nat) (v : Int) (k p r : Nat), Chn A F v ks → ks.Nodup → ks[k]? = some p → ks[k + 1]? = some r → G p 3 = F r 3 → (∀ q ∈ ks, q ≠ p → G q 3 = F q 3) → Chn A G v (ks.eraseIdx (k + 1))
  | [], v, k, p, r, _, _, h, _, _, _ => by simp at h
  | [q], v, k, p, r, _, _, _, h, _, _ => by simp at h
  | q :: q2 :: ks, v, 0, p, r, hc, hnd, hp, hr, h1, h2 => by
    obtain rfl : q = p := by simpa using hp
    obtain rfl : q2 = r := by simpa using hr
    obtain ⟨hv, hv2, hc2⟩ := hc
    refine ⟨hv, ?_⟩
    rw [h1]
    refine hc2.congr (fun x hx => (h2 x (by simp [hx]) (fun e => ?_)).symm)
    have := (List.nodup_cons.1 hnd).1
    exact this (by rw [e] at hx; simp [hx])
  | q :: q2 :: ks, v, k + 1, p, r, hc, hnd, hp, hr, h1, h2 => by
    obtain ⟨hv, hc2⟩ := hc
    have hp' : (q2 :: ks)[k]? = some p := by simpa using hp
    have hr' : (q2 :: ks)[k + 1]? = some r := by simpa using hr
    have hqp : q ≠ p := fun e => (List.nodup_cons.1 hnd).1 (e ▸ List.mem_of_getElem? hp')
    show Chn A G v (q :: (q2 :: ks).eraseIdx (k + 1))
    refine ⟨hv, ?_⟩
    rw [h2 q (by simp) hqp]
    exact chn_erase (q2 :: ks) _ k p r hc2 (List.nodup_cons.1 hnd).2 hp' hr' h1 (fun x hx => h2 x (List.mem_cons_of_mem _ hx))
/-- Cells whose list is these records, all active, and nobody else's is who is active and not closed. -/
def Grown (A : Nat → Nat) (n : Nat) (X ALL : List Int) : Prop := ∃ (head : Int) (F : Nat → Nat → Int) (ks : List Nat), Tab A n X 0 head 50 F ∧ Chn A F head ks ∧ (∀ q ∈ ks, q < n) ∧ ks.Nodup ∧ (∀ q ∈ ks, F q 1 ≠ 0) ∧ (∀ q, q < n → F q 1 = 1 → F q 0 ≠ -1 → q ∈ ks) ∧ ALL = adrs A ks
section
variable {A : Nat → Nat} {n : Nat} {X ALL : List Int}
theorem nodup_len : ∀ {n : Nat} {ks : List Nat}, (∀ q ∈ ks, q < n) → ks.Nodup → ks.length ≤ n
  | 0, ks, h, _ => by
    cases ks with
    | nil => exact Nat.le_refl _
    | cons x xs => exact absurd (h x (by simp)) (by omega)
  | n + 1, ks, h, hn => by
    by_cases hm : n ∈ ks
    · have h1 := nodup_len (n := n) (ks := ks.erase n) (fun q hq => by
        have h2 := h q (List.mem_of_mem_erase hq)
        have h3 := (hn.mem_erase_iff.1 hq).1
        omega) (hn.erase n)
      rw [List.length_erase_of_mem hm] at h1
      omega
    · have h1 := nodup_len (n := n) (ks := ks) (fun q hq => by
        have h2 := h q hq
        have h3 : q ≠ n := fun e => hm (e ▸ hq)
        omega) hn
      omega
theorem Grown.len (h : Grown A n X ALL) : X.length = 3 + 5 * n := by obtain ⟨_, _, _, hT, _⟩ := h; exact hT.len
theorem Grown.short (h : Grown A n X ALL) : ALL.length ≤ n := by
  obtain ⟨_, _, ks, hT, _, h1, h2, _, _, rfl⟩ := h
  rw [adrs_len]; exact nodup_len h1 h2
theorem Grown.told (hP : Per A n) (hn : n ≤ 190) (h : Grown A n X ALL) : reachL X = (ALL, true) ∧ soundF X = 0 := by
  have hl := h.short
  obtain ⟨_, _, ks, hT, hc, h1, h2, h3, h4, rfl⟩ := h
  rw [adrs_len] at hl
  have hr := reach_tab hP hT hn hc h1 h2 (by omega)
  exact ⟨hr, sound_tab hP hT h1 hr h3 h4⟩
theorem adrs_at {ks : List Nat} {j : Nat} (h : j < ks.length) : (adrs A ks).getD j 0 = (A ks[j] : Int) := by
  unfold adrs
  rw [List.getD_eq_getElem?_getD, List.getElem?_map, List.getElem?_eq_getElem h]; rfl
theorem Grown.at (hP : Per A n) (h : Grown A n X ALL) {j : Nat} (hj : j < ALL.length) : ∃ p : Nat, ALL.getD j 0 = (p : Int) ∧ 3 ≤ p ∧ p + 5 ≤ X.length := by
  have hl := h.len
  obtain ⟨_, _, ks, hT, hc, h1, h2, h3, h4, rfl⟩ := h
  rw [adrs_len] at hj
  have := hP.lt (h1 _ (List.getElem_mem hj)) (show 4 < 5 by omega)
  exact ⟨A ks[j], adrs_at hj, by omega, by omega⟩
theorem Grown.drop (hP : Per A n) (h : Grown A n X ALL) {k p r : Nat} (hk : k + 1 < ALL.length) (hp : ALL.getD k 0 = (p : Int)) (hr : ALL.getD (k + 1) 0 = (r : Int)) :
    Grown A n ((X.set r (-1)).set (p + 3) (X.getD (r + 3) 0)) (ALL.take (k + 1) ++ ALL.drop (k + 1 + 1)) ∧ Grown A n (((X.set r (-1)).set (p + 3) (X.getD (r + 3) 0)).set (r + 1) 0) (ALL.take (k + 1) ++ ALL.drop (k + 1 + 1)) := by
  obtain ⟨head, F, ks, hT, hc, h1, h2, h3, h4, rfl⟩ := h
  rw [adrs_len] at hk
  rw [adrs_at (by omega)] at hp hr
  obtain ⟨x, hx⟩ : ∃ x, ks[k] = x := ⟨_, rfl⟩
  obtain ⟨y, hy⟩ : ∃ y, ks[k + 1] = y := ⟨_, rfl⟩
  rw [hx] at hp
  rw [hy] at hr
  have ex : ks[k]? = some x := by rw [List.getElem?_eq_getElem (by omega), hx]
  have ey : ks[k + 1]? = some y := by rw [List.getElem?_eq_getElem hk, hy]
  have hxn : x < n := h1 x (List.mem_of_getElem? ex)
  have hyn : y < n := h1 y (List.mem_of_getElem? ey)
  have hxy : x ≠ y := fun e => by
    have := (List.pairwise_iff_getElem.1 h2) k (k + 1) (by omega) hk (by omega)
    rw [hx, hy] at this; exact this e
  obtain rfl : p = A x := by omega
  obtain rfl : r = A y := by omega
  have T1 := hT.set hP hyn (show 0 < 5 by omega) (-1)
  rw [Nat.add_zero] at T1
  have T2 := T1.set hP hxn (show 3 < 5 by omega) (X.getD (A y + 3) 0)
  have T3 := T2.set hP hyn (show 1 < 5 by omega) 0
  have e3 : X.getD (A y + 3) 0 = F y 3 := hT.fld y hyn 3 (by omega)
  have hE : adrs A ks = adrs A ks := rfl
  have hL : (adrs A ks).take (k + 1) ++ (adrs A ks).drop (k + 1 + 1) = adrs A (ks.eraseIdx (k + 1)) := by
    rw [List.eraseIdx_eq_take_drop_succ]; unfold adrs; rw [List.map_append, List.map_take, List.map_drop]
  have hsub : ∀ q ∈ ks.eraseIdx (k + 1), q ∈ ks := fun q hq => List.mem_of_mem_eraseIdx hq
  have hyo : ∀ q ∈ ks.eraseIdx (k + 1), q ≠ y := fun q hq e => by
    subst e
    obtain ⟨i, hi, he⟩ := List.mem_eraseIdx_iff_getElem.1 hq
    obtain ⟨hik, he⟩ := he
    have h5 := List.pairwise_iff_getElem.1 h2
    rcases Nat.lt_or_gt_of_ne hik with h | h
    · exact h5 i (k + 1) hi hk h (he.trans hy.symm)
    · exact h5 (k + 1) i hk hi h (hy.trans he.symm)
  have hin : ∀ q ∈ ks, q ≠ y → q ∈ ks.eraseIdx (k + 1) := fun q hq hne => by
    obtain ⟨i, hi, he⟩ := List.mem_iff_getElem.1 hq
    exact List.mem_eraseIdx_iff_getElem.2 ⟨i, hi, fun e => hne (by subst e; exact he.symm.trans hy), he⟩
  have hnd : (ks.eraseIdx (k + 1)).Nodup := h2.sublist (List.eraseIdx_sublist ks (k + 1))
  have C2 : Chn A (upd (upd F y 0 (-1)) x 3 (X.getD (A y + 3) 0)) head (ks.eraseIdx (k + 1)) :=
    chn_erase ks head k x y hc h2 ex ey (by rw [upd_at, e3]) (fun q hq hne => by rw [upd_ne _ _ _ _ (.inl hne), upd_ne _ _ _ _ (.inr (by decide))])
  have a1 : ∀ q, upd (upd F y 0 (-1)) x 3 (X.getD (A y + 3) 0) q 1 = F q 1 := fun q => by rw [upd_ne _ _ _ _ (.inr (by decide)), upd_ne _ _ _ _ (.inr (by decide))]
  have a0 : ∀ q, upd (upd F y 0 (-1)) x 3 (X.getD (A y + 3) 0) q 0 ≠ -1 → q ≠ y ∧ F q 0 ≠ -1 := fun q h => by
    rw [upd_ne _ _ _ _ (.inr (by decide))] at h
    by_cases e : q = y
    · subst e; rw [upd_at] at h; exact absurd rfl h
    · rw [upd_ne _ _ _ _ (.inl e)] at h; exact ⟨e, h⟩
  rw [hL]
  refine ⟨⟨head, _, _, T2, C2, fun q hq => h1 q (hsub q hq), hnd, fun q hq => by rw [a1]; exact h3 q (hsub q hq), fun q hq e1 e2 => ?_, rfl⟩, ⟨head, _, _, T3, ?_, fun q hq => h1 q (hsub q hq), hnd, fun q hq => ?_, fun q hq e1 e2 => ?_, rfl⟩⟩
  · rw [a1] at e1
    obtain ⟨h5, h6⟩ := a0 q e2
    exact hin q (h4 q hq e1 h6) h5
  · exact C2.congr (fun q hq => (upd_ne _ _ _ _ (.inr (by decide))).symm)
  · rw [upd_ne _ _ _ _ (.inl (hyo q hq)), a1]; exact h3 q (hsub q hq)
  · by_cases e : q = y
    · subst e; rw [upd_at] at e1; exact absurd e1 (by decide)
    · rw [upd_ne _ _ _ _ (.inl e), a1] at e1
      rw [upd_ne _ _ _ _ (.inl e)] at e2
      obtain ⟨h5, h6⟩ := a0 q e2
      exact hin q (h4 q hq e1 h6) h5
end
theorem grown_lay (cs : List Int) {n m : Nat} (hm : m ≤ n) {X : List Int} (hX : layN cs ((ord cs n).take m) ((List.replicate (3 + 5 * n) 0).set 2 50) m = X) : Grown (ordA cs n) n X ((ord cs n).take m) := by
  have hT := chain_tab cs hm
  rw [hX] at hT
  exact ⟨_, _, List.range m, hT, chn_layF (V := ageV cs) (fun q _ => rfl), range_lt hm, List.nodup_range, fun q hq => by rw [layF_1 (List.mem_range.1 hq)]; decide, fun q hq e1 _ => by
    by_cases h : q < m
    · exact List.mem_range.2 h
    · rw [layF_off h] at e1; exact absurd e1 (by decide), ord_adrs cs hm⟩
theorem grown_push (cs : List Int) {n m i : Nat} (hm : m ≤ n) {X : List Int} (hX : layN cs ((ord cs n).take m) ((List.replicate (3 + 5 * n) 0).set 2 50) m = X) (hi : i < n) (hno : ((3 + 5 * i : Nat) : Int) ∉ (ord cs n).take m) :
    Grown (ordA cs n) n (((X.set (3 + 5 * i + 3) (X.getD 1 0)).set (3 + 5 * i + 1) 2).set 1 ((3 + 5 * i : Nat) : Int)) (((3 + 5 * i : Nat) : Int) :: (ord cs n).take m) := by
  have hP := per_ord cs n
  have hT := chain_tab cs hm
  rw [hX] at hT
  obtain ⟨q, hq, e⟩ := hP.onto i hi
  rw [← e] at hno ⊢
  rw [ord_adrs cs hm] at hno ⊢
  have hqm : ¬ q < m := fun h => hno ((adrs_mem hP (range_lt hm) hq).2 (List.mem_range.2 h))
  have T1 := hT.set hP hq (show 3 < 5 by omega) (X.getD 1 0)
  have T2 := T1.set hP hq (show 1 < 5 by omega) 2
  have T3 := T2.setHead hP (ordA cs n q : Int)
  refine ⟨_, _, q :: List.range m, T3, ⟨rfl, ?_⟩, fun x hx => ?_, List.nodup_cons.2 ⟨fun h => hqm (List.mem_range.1 h), List.nodup_range⟩, fun x hx => ?_, fun x hx e1 e2 => ?_, rfl⟩
  · rw [upd_ne _ _ _ _ (.inr (by decide)), upd_at, hT.head]
    exact chn_layF (V := ageV cs) (fun x hx => by rw [upd_ne _ _ _ _ (.inr (by decide)), upd_ne _ _ _ _ (.inl (by omega))])
  · rcases List.mem_cons.1 hx with h | h
    · exact h ▸ hq
    · exact range_lt hm x h
  · rcases List.mem_cons.1 hx with h | h
    · subst h; rw [upd_at]; decide
    · have := List.mem_range.1 h
      rw [upd_ne _ _ _ _ (.inl (by omega)), upd_ne _ _ _ _ (.inr (by decide)), layF_1 this]; decide
  · by_cases h : x = q
    · subst h; simp
    · rw [upd_ne _ _ _ _ (.inl h), upd_ne _ _ _ _ (.inr (by decide))] at e1
      by_cases hxm : x < m
      · exact List.mem_cons_of_mem _ (List.mem_range.2 hxm)
      · rw [layF_off hxm] at e1; exact absurd e1 (by decide)

end Go.Proofs.Ytnpkhkfhlpopbaa
