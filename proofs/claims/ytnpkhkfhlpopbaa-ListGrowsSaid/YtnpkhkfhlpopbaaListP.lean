/- What a list laid as a table tells: who waits, where it goes wrong, what is not sound: plain Lean. -/
import Derived.Test.YtnpkhkfhlpopbaaTabP
namespace Go.Proofs.Ytnpkhkfhlpopbaa
set_option linter.unusedSimpArgs false
set_option linter.unusedVariables false
open Go.RowKit
theorem recsL_at {A : Nat → Nat} {n : Nat} (hP : Per A n) {q : Nat} (hq : q < n) : (A q : Int) ∈ recsL (3 + 5 * n) := by
  obtain ⟨i, hi, e⟩ := hP.at_ q hq
  unfold recsL
  rw [manyOf_tab, Int.toNat_natCast, e]
  exact List.mem_map.2 ⟨i, List.mem_range.2 hi, by omega⟩
theorem recsL_nodup (n : Nat) : (recsL n).Nodup := by
  unfold recsL
  refine List.pairwise_map.2 (List.nodup_range.imp ?_)
  intro a b h e
  exact h (by omega)
theorem filter_one {p : Int → Bool} {a : Int} : ∀ {l : List Int}, l.Nodup → a ∈ l → (∀ x ∈ l, p x = true ↔ x = a) → l.filter p = [a]
  | [], _, h, _ => by cases h
  | x :: l, hn, ha, hp => by
    obtain ⟨hx, hn⟩ := List.nodup_cons.1 hn
    by_cases e : x = a
    · subst e
      rw [List.filter_cons, if_pos ((hp x (by simp)).2 rfl), List.filter_eq_nil_iff.2 (fun y hy h => hx ((hp y (List.mem_cons_of_mem _ hy)).1 h ▸ hy))]
    · rw [List.filter_cons, if_neg (fun h => e ((hp x (by simp)).1 h))]
      refine filter_one hn ?_ (fun y hy => hp y (by simp [hy]))
      rcases List.mem_cons.1 ha with h | h
      · exact absurd h.symm e
      · exact h
section
variable {A : Nat → Nat} {n : Nat} {X : List Int} {lock head pass : Int} {F : Nat → Nat → Int}
theorem wait_none (hP : Per A n) (hT : Tab A n X lock head pass F) (h : ∀ q, q < n → F q 0 ≤ 0) : ((recsL X.length).filter fun a => decide (0 < recAt X a 0)) = [] := by
  rw [List.filter_eq_nil_iff]
  intro a ha hd
  rw [hT.len] at ha
  obtain ⟨i, hi, rfl⟩ := recsL_mem ha
  obtain ⟨q, hq, e⟩ := hP.onto i hi
  rw [← e] at hd
  have hd := of_decide_eq_true hd
  rw [hT.recf hP hq (by omega)] at hd
  have := h q hq
  omega
theorem wait_one (hP : Per A n) (hT : Tab A n X lock head pass F) {k : Nat} (hk : k < n) (h0 : 0 < F k 0) (h : ∀ q, q < n → q ≠ k → F q 0 ≤ 0) : ((recsL X.length).filter fun a => decide (0 < recAt X a 0)) = [(A k : Int)] := by
  refine filter_one (recsL_nodup _) (by rw [hT.len]; exact recsL_at hP hk) (fun x hx => ?_)
  rw [hT.len] at hx
  obtain ⟨i, hi, rfl⟩ := recsL_mem hx
  obtain ⟨q, hq, e⟩ := hP.onto i hi
  rw [← e]
  constructor
  · intro hd
    have hd := of_decide_eq_true hd
    rw [hT.recf hP hq (by omega)] at hd
    by_cases hqk : q = k
    · rw [hqk]
    · have := h q hq hqk; omega
  · intro he
    have : q = k := hP.inj q k hq hk (by omega)
    subst this
    exact decide_eq_true (by rw [hT.recf hP hq (by omega)]; exact h0)
/-- From a number on these records hang together, and behind them stands u. -/
def ChT (A : Nat → Nat) (F : Nat → Nat → Int) : Int → List Nat → Int → Prop
  | v, [], u => v = u
  | v, q :: ks, u => v = (A q : Int) ∧ ChT A F (F q 3) ks u
theorem reach_pre (hP : Per A n) (hT : Tab A n X lock head pass F) (hn : n ≤ 190) :
    ∀ (ks js : List Nat) (v u : Int) (f : Nat), ChT A F v ks u → (∀ q ∈ ks, q < n) → (∀ q ∈ js, q < n) → (js ++ ks).Nodup → reachF X (f + ks.length) (adrs A js) v = reachF X f (adrs A (js ++ ks)) u
  | [], js, v, u, f, hc, _, _, _ => by
    have hv : v = u := hc
    rw [List.append_nil, hv]; rfl
  | q :: ks, js, v, u, f, hc, hks, hjs, hnd => by
    obtain ⟨hv, hc2⟩ := hc
    have hq := hks q (by simp)
    have hl := hP.lt hq (j := 0) (by omega)
    have hnm : v ∉ adrs A js := by
      rw [hv, adrs_mem hP hjs hq]
      intro hm
      exact (List.nodup_append.1 hnd).2.2 q hm q (by simp) rfl
    have hap : adrs A js ++ [v] = adrs A (js ++ [q]) := by unfold adrs; rw [List.map_append, hv]; rfl
    rw [show f + (q :: ks).length = (f + ks.length) + 1 from by simp; omega, reachF, if_neg (by omega), if_neg (by omega), if_neg (by rw [hv, hT.nth hP hq]; decide), if_neg hnm, hap, hv, hT.recf hP hq (by omega)]
    have := reach_pre hP hT hn ks (js ++ [q]) (F q 3) u f hc2 (fun r hr => hks r (by simp [hr])) (fun r hr => by
      rcases List.mem_append.1 hr with h | h
      · exact hjs r h
      · simp at h; exact h ▸ hq) (by simpa using hnd)
    rw [this]; simp
theorem cht_range {e : Nat} (hF : ∀ q, q + 1 < e → F q 3 = (A (q + 1) : Int)) : ∀ d q, q + (d + 1) = e → ChT A F (A q : Int) (List.range' q (d + 1)) (F (e - 1) 3)
  | 0, q, h => by
    obtain rfl : q = e - 1 := by omega
    exact ⟨rfl, rfl⟩
  | d + 1, q, h => by
    refine ⟨rfl, ?_⟩
    rw [hF q (by omega)]
    exact cht_range hF d (q + 1) (by omega)
/-- The first e records hang together; behind them stands u. -/
theorem reach_to (hP : Per A n) (hT : Tab A n X lock head pass F) (hn : n ≤ 190) {e : Nat} (he : e ≤ n) (h0 : 0 < e) (hh : head = (A 0 : Int)) (hF : ∀ q, q + 1 < e → F q 3 = (A (q + 1) : Int)) :
    reachL X = reachF X (1002 - e) (adrs A (List.range e)) (F (e - 1) 3) := by
  unfold reachL
  have hv : cellAt X 1 = head := (cellAt_nat X 1 (by rw [hT.len]; omega)).trans hT.head
  obtain ⟨d, rfl⟩ : ∃ d, e = d + 1 := ⟨e - 1, by omega⟩
  have hc := cht_range (A := A) hF d 0 (by omega)
  have := reach_pre hP hT hn (List.range' 0 (d + 1)) [] head _ (1002 - (d + 1)) (by rw [hh]; exact hc) (fun q hq => by have := List.mem_range'.1 hq; omega) (fun q h => by cases h) (by rw [List.nil_append]; exact List.nodup_range')
  rw [List.length_range', List.nil_append, ← List.range_eq_range', show 1002 - (d + 1) + (d + 1) = 1002 by omega] at this
  rw [hv]
  exact this
/-- Behind the first e records stands one of them: the list comes round. -/
theorem reach_round (hP : Per A n) (hT : Tab A n X lock head pass F) (hn : n ≤ 190) {e k : Nat} (he : e ≤ n) (h0 : 0 < e) (hk : k < e) (hh : head = (A 0 : Int)) (hF : ∀ q, q + 1 < e → F q 3 = (A (q + 1) : Int)) (hu : F (e - 1) 3 = (A k : Int)) : (reachL X).2 = false := by
  rw [reach_to hP hT hn he h0 hh hF, hu]
  have hl := hP.lt (show k < n by omega) (j := 0) (by omega)
  rw [show 1002 - e = (1001 - e) + 1 by omega, reachF, if_neg (by omega), if_neg (by omega), if_neg (by rw [hT.nth hP (by omega)]; decide), if_pos]
  exact (adrs_mem hP (fun q hq => by have := List.mem_range.1 hq; omega) (by omega)).2 (List.mem_range.2 hk)
/-- Behind the first e records stands what is no record. -/
theorem reach_off (hP : Per A n) (hT : Tab A n X lock head pass F) (hn : n ≤ 190) {e k : Nat} (he : e ≤ n) (h0 : 0 < e) (hk : k < n) (hh : head = (A 0 : Int)) (hF : ∀ q, q + 1 < e → F q 3 = (A (q + 1) : Int)) (hu : F (e - 1) 3 = (A k : Int) + 1) : (reachL X).2 = false := by
  rw [reach_to hP hT hn he h0 hh hF, hu]
  have hl := hP.lt hk (j := 1) (by omega)
  obtain ⟨i, _, hi⟩ := hP.at_ k hk
  have hno : nthIs X.length ((A k : Int) + 1) = false := by
    unfold nthIs
    rw [hT.len, manyOf_tab]
    exact decide_eq_false (fun h => by omega)
  rw [show 1002 - e = (1001 - e) + 1 by omega, reachF, if_neg (by omega), if_neg (by omega), if_pos hno]
theorem sound30 {X : List Int} (h : (reachL X).2 = false) : soundF X = 30 := by unfold soundF; rw [if_pos h]
theorem sound33 (hP : Per A n) (hT : Tab A n X lock head pass F) {ks : List Nat} (hks : ∀ q ∈ ks, q < n) (hr : reachL X = (adrs A ks, true)) {k : Nat} (hk : k ∈ ks) (h1 : F k 1 = 0) : soundF X = 33 := by
  unfold soundF
  rw [hr, if_neg (by simp), if_pos]
  rw [List.any_eq_true, hT.len]
  refine ⟨_, recsL_at hP (hks k hk), decide_eq_true ⟨by rw [hT.recf hP (hks k hk) (by omega)]; exact h1, (adrs_mem hP hks (hks k hk)).2 hk⟩⟩
theorem sound31 (hP : Per A n) (hT : Tab A n X lock head pass F) {ks : List Nat} (hks : ∀ q ∈ ks, q < n) (hr : reachL X = (adrs A ks, true)) (h0 : ∀ q, q ∈ ks → F q 1 ≠ 0) {k : Nat} (hk : k < n) (hkk : k ∉ ks) (h1 : F k 1 = 1) (h2 : F k 0 ≠ -1) : soundF X = 31 := by
  unfold soundF
  rw [hr, if_neg (by simp), if_neg, if_pos]
  · rw [List.any_eq_true, hT.len]
    refine ⟨_, recsL_at hP hk, decide_eq_true ⟨by rw [hT.recf hP hk (by omega)]; exact h1, by rw [hT.recf hP hk (by omega)]; exact h2, fun h => hkk ((adrs_mem hP hks hk).1 h)⟩⟩
  · rw [List.any_eq_true]
    rintro ⟨a, ha, he⟩
    rw [hT.len] at ha
    obtain ⟨i, hi, rfl⟩ := recsL_mem ha
    obtain ⟨q, hq, e⟩ := hP.onto i hi
    rw [← e] at he
    have he := of_decide_eq_true he
    rw [hT.recf hP hq (by omega), adrs_mem hP hks hq] at he
    exact h0 q he.2 he.1
end
/-- What Chain lays: the list is told whole, all is sound, nobody waits. -/
theorem chain_all (cs : List Int) {n m : Nat} (hm : m ≤ n) (hn : n ≤ 190) {X : List Int} (hX : layN cs ((ord cs n).take m) ((List.replicate (3 + 5 * n) 0).set 2 50) m = X) :
    X.length = 3 + 5 * n ∧ reachL X = ((ord cs n).take m, true) ∧ soundF X = 0 ∧ ((recsL X.length).filter fun a => decide (0 < recAt X a 0)) = [] := by
  have hP := per_ord cs n
  have hT := chain_tab cs hm
  rw [hX] at hT
  have hks : ∀ q ∈ List.range m, q < n := fun q hq => by have := List.mem_range.1 hq; omega
  have hc : Chn (ordA cs n) (layF (ordA cs n) (ageV cs) m) (if m = 0 then 0 else (ordA cs n 0 : Int)) (List.range m) := chn_lay (fun q hq => by unfold layF; rw [if_pos hq, if_neg (by decide), if_neg (by decide), if_pos rfl])
  have hr := reach_tab hP hT hn hc hks List.nodup_range (by rw [List.length_range]; omega)
  refine ⟨hT.len, by rw [hr, ord_adrs cs hm], sound_tab hP hT hks hr (fun q hq => ?_) (fun q hq h1 _ => ?_), wait_none hP hT (fun q hq => ?_)⟩
  · have := List.mem_range.1 hq
    unfold layF; rw [if_pos this, if_pos rfl]; decide
  · unfold layF at h1
    by_cases h : q < m
    · exact List.mem_range.2 h
    · rw [if_neg h] at h1; exact absurd h1 (by decide)
  · unfold layF
    split
    · rw [if_neg (by decide), if_neg (by decide), if_neg (by decide)]; exact Int.le_refl _
    · exact Int.le_refl _

end Go.Proofs.Ytnpkhkfhlpopbaa
