/- Cells of records as a table; records that hang together: plain Lean. -/
import Derived.Test.YtnpkhkfhlpopbaaChainQ
import Derived.Test.YtnpkhkfhlpopbaaReach14
namespace Go.Proofs.Ytnpkhkfhlpopbaa
set_option linter.unusedSimpArgs false
set_option linter.unusedVariables false
open Go.RowKit

theorem cellAt_nat (X : List Int) (a : Nat) (h : a < X.length) : cellAt X (a : Int) = X.getD a 0 := by
  rw [cellAt_yes (by omega) (by omega), Int.toNat_natCast]
theorem wrap_nat (a : Nat) (h : a ≤ 1000000) : wrap64 (a : Int) = a := by unfold wrap64; omega
theorem adr_ord (cs : List Int) {n m : Nat} (h : m ≤ n) : Adr (fun q => ((ord cs n).getD q 0).toNat) (3 + 5 * n) m ∧ ∀ q, q < m → ((ord cs n).take m).getD q 0 = ((((ord cs n).getD q 0).toNat : Nat) : Int) := by
  have hat : ∀ q, q < m → ∃ j : Nat, j < n ∧ (ord cs n).getD q 0 = 3 + 5 * (j : Int) := fun q hq => by
    have hm : (ord cs n).getD q 0 ∈ ord cs n := by
      rw [List.getD_eq_getElem?_getD, List.getElem?_eq_getElem (by rw [ord_len]; omega)]
      exact List.getElem_mem _
    exact (ord_mem cs n _).1 hm
  refine ⟨⟨fun q hq => ?_, fun q hq => ?_, fun q hq => ?_, fun q r hq hr e => ?_⟩, fun q hq => ?_⟩
  · obtain ⟨j, _, e⟩ := hat q hq; simp only [e]; omega
  · obtain ⟨j, _, e⟩ := hat q hq; simp only [e]; omega
  · obtain ⟨j, _, e⟩ := hat q hq; simp only [e]; omega
  · obtain ⟨j, _, e1⟩ := hat q hq
    obtain ⟨j', _, e2⟩ := hat r hr
    simp only [e1, e2] at e
    have hjj : j = j' := by omega
    have hnd := List.pairwise_iff_getElem.1 (ord_nodup cs n)
    have h1 : (ord cs n)[q]'(by rw [ord_len]; omega) = 3 + 5 * (j : Int) := by rw [List.getD_eq_getElem?_getD, List.getElem?_eq_getElem (by rw [ord_len]; omega)] at e1; exact e1
    have h2 : (ord cs n)[r]'(by rw [ord_len]; omega) = 3 + 5 * (j' : Int) := by rw [List.getD_eq_getElem?_getD, List.getElem?_eq_getElem (by rw [ord_len]; omega)] at e2; exact e2
    rcases Nat.lt_trichotomy q r with hlt | heq | hgt
    · exact absurd (h1.trans (show 3 + 5 * (j : Int) = _ from by rw [hjj]; exact h2.symm)) (hnd q r _ _ hlt)
    · exact heq
    · exact absurd (h2.trans (show 3 + 5 * (j' : Int) = _ from by rw [← hjj]; exact h1.symm)) (hnd r q _ _ hgt)
  · obtain ⟨j, _, e⟩ := hat q hq
    rw [take_getD hq, e]; omega
theorem ageV_rng (cs : List Int) (q : Nat) : 0 ≤ ageV cs q ∧ ageV cs q ≤ 59 := by
  unfold ageV
  split <;> omega

/-- The n records' places: a turn of 3, 8, 13 .. -/
structure Per (A : Nat → Nat) (n : Nat) : Prop where
  at_ : ∀ q, q < n → ∃ i, i < n ∧ A q = 3 + 5 * i
  inj : ∀ q r, q < n → r < n → A q = A r → q = r
  onto : ∀ i, i < n → ∃ q, q < n ∧ A q = 3 + 5 * i
/-- Cells as a table: field j of record q is F q j. -/
structure Tab (A : Nat → Nat) (n : Nat) (X : List Int) (lock head pass : Int) (F : Nat → Nat → Int) : Prop where
  len : X.length = 3 + 5 * n
  lock : X.getD 0 0 = lock
  head : X.getD 1 0 = head
  pass : X.getD 2 0 = pass
  fld : ∀ q, q < n → ∀ j, j < 5 → X.getD (A q + j) 0 = F q j
def upd (F : Nat → Nat → Int) (q j : Nat) (v : Int) : Nat → Nat → Int := fun q' j' => if q' = q ∧ j' = j then v else F q' j'
theorem upd_at (F : Nat → Nat → Int) (q j : Nat) (v : Int) : upd F q j v q j = v := if_pos ⟨rfl, rfl⟩
theorem upd_ne (F : Nat → Nat → Int) (q j : Nat) (v : Int) {q' j' : Nat} (h : q' ≠ q ∨ j' ≠ j) : upd F q j v q' j' = F q' j' := if_neg (fun e => by rcases h with h | h; exact h e.1; exact h e.2)
theorem Per.eq {A : Nat → Nat} {n q r j i : Nat} (hP : Per A n) (hq : q < n) (hr : r < n) (hj : j < 5) (hi : i < 5) (e : A q + j = A r + i) : q = r ∧ j = i := by
  obtain ⟨a, _, ha⟩ := hP.at_ q hq
  obtain ⟨b, _, hb⟩ := hP.at_ r hr
  have : a = b := by omega
  subst this
  exact ⟨hP.inj q r hq hr (by omega), by omega⟩
theorem Per.lt {A : Nat → Nat} {n q j : Nat} (hP : Per A n) (hq : q < n) (hj : j < 5) : A q + j < 3 + 5 * n ∧ 3 ≤ A q := by
  obtain ⟨a, _, ha⟩ := hP.at_ q hq
  omega
theorem Tab.set {A : Nat → Nat} {n : Nat} {X : List Int} {lock head pass : Int} {F : Nat → Nat → Int} (hP : Per A n) (h : Tab A n X lock head pass F) {q j : Nat} (hq : q < n) (hj : j < 5) (v : Int) : Tab A n (X.set (A q + j) v) lock head pass (upd F q j v) := by
  have hl := hP.lt hq hj
  have hs : ∀ p, (X.set (A q + j) v).getD p 0 = if A q + j = p then v else X.getD p 0 := fun p => getD_set_at _ _ _ _ (by rw [h.len]; omega)
  refine ⟨by rw [List.length_set]; exact h.len, by rw [hs, if_neg (by omega)]; exact h.lock, by rw [hs, if_neg (by omega)]; exact h.head, by rw [hs, if_neg (by omega)]; exact h.pass, fun r hr i hi => ?_⟩
  rw [hs]
  by_cases e : A q + j = A r + i
  · obtain ⟨rfl, rfl⟩ := hP.eq hq hr hj hi e
    rw [if_pos rfl, upd_at]
  · rw [if_neg e, upd_ne, h.fld r hr i hi]
    by_cases e1 : r = q
    · right; rintro rfl; exact e (by rw [e1])
    · exact .inl e1
theorem Tab.setLock {A : Nat → Nat} {n : Nat} {X : List Int} {lock head pass : Int} {F : Nat → Nat → Int} (hP : Per A n) (h : Tab A n X lock head pass F) (v : Int) : Tab A n (X.set 0 v) v head pass F := by
  have hs : ∀ p, (X.set 0 v).getD p 0 = if 0 = p then v else X.getD p 0 := fun p => getD_set_at _ _ _ _ (by rw [h.len]; omega)
  refine ⟨by rw [List.length_set]; exact h.len, by rw [hs, if_pos rfl], by rw [hs, if_neg (by omega)]; exact h.head, by rw [hs, if_neg (by omega)]; exact h.pass, fun r hr i hi => ?_⟩
  have := hP.lt hr hi
  rw [hs, if_neg (by omega), h.fld r hr i hi]
theorem Tab.setHead {A : Nat → Nat} {n : Nat} {X : List Int} {lock head pass : Int} {F : Nat → Nat → Int} (hP : Per A n) (h : Tab A n X lock head pass F) (v : Int) : Tab A n (X.set 1 v) lock v pass F := by
  have hs : ∀ p, (X.set 1 v).getD p 0 = if 1 = p then v else X.getD p 0 := fun p => getD_set_at _ _ _ _ (by rw [h.len]; omega)
  refine ⟨by rw [List.length_set]; exact h.len, by rw [hs, if_neg (by omega)]; exact h.lock, by rw [hs, if_pos rfl], by rw [hs, if_neg (by omega)]; exact h.pass, fun r hr i hi => ?_⟩
  have := hP.lt hr hi
  rw [hs, if_neg (by omega), h.fld r hr i hi]
theorem Tab.congr {A : Nat → Nat} {n : Nat} {X : List Int} {lock head pass : Int} {F G : Nat → Nat → Int} (h : Tab A n X lock head pass F) (e : ∀ q j, q < n → j < 5 → F q j = G q j) : Tab A n X lock head pass G :=
  ⟨h.len, h.lock, h.head, h.pass, fun q hq j hj => by rw [h.fld q hq j hj, e q j hq hj]⟩
/-- The cells are known by the table. -/
theorem Tab.ext {A : Nat → Nat} {n : Nat} {X Y : List Int} {lock head pass : Int} {F : Nat → Nat → Int} (hP : Per A n) (h : Tab A n X lock head pass F) (k : Tab A n Y lock head pass F) : X = Y := by
  have hg : ∀ p, p < 3 + 5 * n → X.getD p 0 = Y.getD p 0 := fun p hp => by
    by_cases h3 : p < 3
    · rcases (by omega : p = 0 ∨ p = 1 ∨ p = 2) with rfl | rfl | rfl
      · rw [h.lock, k.lock]
      · rw [h.head, k.head]
      · rw [h.pass, k.pass]
    · obtain ⟨q, hq, e⟩ := hP.onto ((p - 3) / 5) (by omega)
      have e2 : p = A q + (p - 3) % 5 := by omega
      rw [e2, h.fld q hq _ (by omega), k.fld q hq _ (by omega)]
  refine List.ext_getElem (by rw [h.len, k.len]) (fun p h1 h2 => ?_)
  have := hg p (by rw [← h.len]; exact h1)
  rwa [List.getD_eq_getElem?_getD, List.getD_eq_getElem?_getD, List.getElem?_eq_getElem h1, List.getElem?_eq_getElem h2] at this
theorem Tab.cell {A : Nat → Nat} {n : Nat} {X : List Int} {lock head pass : Int} {F : Nat → Nat → Int} (hP : Per A n) (h : Tab A n X lock head pass F) (hn : n ≤ 1000) {q j : Nat} (hq : q < n) (hj : j < 5) : cellAt X (wrap64 ((A q : Int) + (j : Int))) = F q j := by
  have hl := hP.lt hq hj
  rw [show ((A q : Int) + (j : Int)) = ((A q + j : Nat) : Int) by omega, wrap_nat _ (by omega), cellAt_nat X _ (by rw [h.len]; omega)]
  exact h.fld q hq j hj
theorem Tab.put {A : Nat → Nat} {n : Nat} {X : List Int} {lock head pass : Int} {F : Nat → Nat → Int} (hP : Per A n) (h : Tab A n X lock head pass F) (hn : n ≤ 1000) {q j : Nat} (hq : q < n) (hj : j < 5) (v : Int) : Tab A n (cellSet X (wrap64 ((A q : Int) + (j : Int))) v) lock head pass (upd F q j v) := by
  have hl := hP.lt hq hj
  rw [show ((A q : Int) + (j : Int)) = ((A q + j : Nat) : Int) by omega, wrap_nat _ (by omega), cellSet_yes (by omega) (by rw [h.len]; omega), Int.toNat_natCast]
  exact h.set hP hq hj v
/-- From a cell's number on these records hang together, and there it ends. -/
def Chn (A : Nat → Nat) (F : Nat → Nat → Int) : Int → List Nat → Prop
  | v, [] => v = 0
  | v, q :: ks => v = (A q : Int) ∧ Chn A F (F q 3) ks
theorem Chn.congr {A : Nat → Nat} {F G : Nat → Nat → Int} : ∀ {ks : List Nat} {v : Int}, Chn A F v ks → (∀ q ∈ ks, F q 3 = G q 3) → Chn A G v ks
  | [], _, h, _ => h
  | q :: ks, v, ⟨h1, h2⟩, e => ⟨h1, by rw [← e q (by simp)]; exact h2.congr (fun r hr => e r (by simp [hr]))⟩

/-- Who is stale, as the reference tells it. -/
def staleL (xs : List Int) (age : Int) : List Int := ((reachL xs).1.drop 1).filter fun a => decide (recAt xs a 1 = 1 ∧ recAt xs a 0 = 0 ∧ age < wrap64 (cellAt xs 2 - recAt xs a 2))
def recsL (n : Nat) : List Int := (List.range (manyOf n).toNat).map fun k : Nat => 3 + 5 * (k : Int)
def soundF (xs : List Int) : Int :=
  if (reachL xs).2 = false then 30
  else if (recsL xs.length).any (fun a => decide (recAt xs a 1 = 0 ∧ a ∈ (reachL xs).1)) = true then 33
  else if (recsL xs.length).any (fun a => decide (recAt xs a 1 = 1 ∧ recAt xs a 0 ≠ -1 ∧ a ∉ (reachL xs).1)) = true then 31
  else 0
theorem manyOf_tab (n : Nat) : manyOf (3 + 5 * n) = n := by unfold manyOf; omega
theorem Tab.nth {A : Nat → Nat} {n : Nat} {X : List Int} {lock head pass : Int} {F : Nat → Nat → Int} (hP : Per A n) (h : Tab A n X lock head pass F) {q : Nat} (hq : q < n) : nthIs X.length (A q : Int) = true := by
  obtain ⟨i, hi, e⟩ := hP.at_ q hq
  unfold nthIs
  rw [h.len, manyOf_tab]
  exact decide_eq_true ⟨by omega, by omega, by omega⟩
theorem Tab.recf {A : Nat → Nat} {n : Nat} {X : List Int} {lock head pass : Int} {F : Nat → Nat → Int} (hP : Per A n) (h : Tab A n X lock head pass F) {q j : Nat} (hq : q < n) (hj : j < 5) : recAt X (A q : Int) j = F q j := by
  unfold recAt
  rw [if_pos (h.nth hP hq), Int.toNat_natCast]
  exact h.fld q hq j hj
def adrs (A : Nat → Nat) (ks : List Nat) : List Int := ks.map fun q => (A q : Int)
theorem adrs_mem {A : Nat → Nat} {n : Nat} (hP : Per A n) {ks : List Nat} (hks : ∀ q ∈ ks, q < n) {q : Nat} (hq : q < n) : (A q : Int) ∈ adrs A ks ↔ q ∈ ks := by
  unfold adrs
  rw [List.mem_map]
  constructor
  · rintro ⟨r, hr, e⟩
    have := hP.inj r q (hks r hr) hq (by omega)
    exact this ▸ hr
  · exact fun h => ⟨q, h, rfl⟩
theorem reach_chn {A : Nat → Nat} {n : Nat} {X : List Int} {lock head pass : Int} {F : Nat → Nat → Int} (hP : Per A n) (hT : Tab A n X lock head pass F) (hn : n ≤ 190) :
    ∀ (ks js : List Nat) (v : Int) (f : Nat), Chn A F v ks → (∀ q ∈ ks, q < n) → (∀ q ∈ js, q < n) → (js ++ ks).Nodup → ks.length + 1 ≤ f → reachF X f (adrs A js) v = (adrs A (js ++ ks), true)
  | [], js, v, f, hc, _, _, _, hf => by
    obtain ⟨f, rfl⟩ : ∃ g, f = g + 1 := ⟨f - 1, by simp at hf; omega⟩
    have hv : v = 0 := hc
    rw [reachF, if_pos hv, List.append_nil]
  | q :: ks, js, v, f, hc, hks, hjs, hnd, hf => by
    obtain ⟨f, rfl⟩ : ∃ g, f = g + 1 := ⟨f - 1, by simp at hf; omega⟩
    obtain ⟨hv, hc2⟩ := hc
    have hq := hks q (by simp)
    have hl := hP.lt hq (j := 0) (by omega)
    have hnm : v ∉ adrs A js := by
      rw [hv, adrs_mem hP hjs hq]
      intro hm
      have := (List.nodup_append.1 hnd).2.2 q hm q (by simp)
      exact this rfl
    have hap : adrs A js ++ [v] = adrs A (js ++ [q]) := by unfold adrs; rw [List.map_append, hv]; rfl
    rw [reachF, if_neg (by omega), if_neg (by omega), if_neg (by rw [hv, hT.nth hP hq]; decide), if_neg hnm, hap, hv, hT.recf hP hq (by omega)]
    have := reach_chn hP hT hn ks (js ++ [q]) (F q 3) f hc2 (fun r hr => hks r (by simp [hr])) (fun r hr => by
      rcases List.mem_append.1 hr with h | h
      · exact hjs r h
      · simp at h; exact h ▸ hq) (by simpa using hnd) (by simp at hf; omega)
    rw [this]; simp
theorem reach_tab {A : Nat → Nat} {n : Nat} {X : List Int} {lock head pass : Int} {F : Nat → Nat → Int} (hP : Per A n) (hT : Tab A n X lock head pass F) (hn : n ≤ 190) {ks : List Nat} (hc : Chn A F head ks) (hks : ∀ q ∈ ks, q < n) (hnd : ks.Nodup) (hl : ks.length ≤ 1000) : reachL X = (adrs A ks, true) := by
  unfold reachL
  have hv : cellAt X 1 = head := by
    have := cellAt_nat X 1 (by rw [hT.len]; omega)
    exact this.trans hT.head
  rw [hv]
  have := reach_chn hP hT hn ks [] head 1002 hc hks (fun q h => by cases h) (by simpa using hnd) (by omega)
  rw [List.nil_append] at this
  exact this
theorem stale_tab {A : Nat → Nat} {n : Nat} {X : List Int} {lock head pass : Int} {F : Nat → Nat → Int} (hP : Per A n) (hT : Tab A n X lock head pass F) {ks : List Nat} (hks : ∀ q ∈ ks, q < n) (hr : reachL X = (adrs A ks, true)) (a : Int) :
    staleL X a = adrs A ((ks.drop 1).filter fun q => decide (F q 1 = 1 ∧ F q 0 = 0 ∧ a < wrap64 (pass - F q 2))) := by
  unfold staleL
  have hv : cellAt X 2 = pass := by
    have := cellAt_nat X 2 (by rw [hT.len]; omega)
    exact this.trans hT.pass
  rw [hr, hv]
  show (List.drop 1 (adrs A ks)).filter _ = _
  unfold adrs
  rw [← List.map_drop, List.filter_map]
  congr 1
  refine List.filter_congr (fun q hq => ?_)
  have hqn := hks q (List.mem_of_mem_drop hq)
  simp only [Function.comp, hT.recf hP hqn (show 0 < 5 by omega), hT.recf hP hqn (show 1 < 5 by omega), hT.recf hP hqn (show 2 < 5 by omega)]
theorem recsL_mem {n : Nat} {a : Int} (h : a ∈ recsL (3 + 5 * n)) : ∃ i, i < n ∧ a = ((3 + 5 * i : Nat) : Int) := by
  unfold recsL at h
  rw [manyOf_tab, Int.toNat_natCast] at h
  obtain ⟨i, hi, e⟩ := List.mem_map.1 h
  exact ⟨i, List.mem_range.1 hi, by omega⟩
theorem sound_tab {A : Nat → Nat} {n : Nat} {X : List Int} {lock head pass : Int} {F : Nat → Nat → Int} (hP : Per A n) (hT : Tab A n X lock head pass F) {ks : List Nat} (hks : ∀ q ∈ ks, q < n) (hr : reachL X = (adrs A ks, true))
    (h0 : ∀ q, q ∈ ks → F q 1 ≠ 0) (h1 : ∀ q, q < n → F q 1 = 1 → F q 0 ≠ -1 → q ∈ ks) : soundF X = 0 := by
  unfold soundF
  rw [hr, if_neg (by simp), if_neg, if_neg]
  · rw [List.any_eq_true]
    rintro ⟨a, ha, he⟩
    rw [hT.len] at ha
    obtain ⟨i, hi, rfl⟩ := recsL_mem ha
    obtain ⟨q, hq, e⟩ := hP.onto i hi
    rw [← e] at he
    have he := of_decide_eq_true he
    rw [hT.recf hP hq (by omega), hT.recf hP hq (by omega), adrs_mem hP hks hq] at he
    exact he.2.2 (h1 q hq he.1 he.2.1)
  · rw [List.any_eq_true]
    rintro ⟨a, ha, he⟩
    rw [hT.len] at ha
    obtain ⟨i, hi, rfl⟩ := recsL_mem ha
    obtain ⟨q, hq, e⟩ := hP.onto i hi
    rw [← e] at he
    have he := of_decide_eq_true he
    rw [hT.recf hP hq (by omega), adrs_mem hP hks hq] at he
    exact h0 q he.2 he.1
/-- The places of the records that Chain lays, in their order. -/
def ordA (cs : List Int) (n q : Nat) : Nat := ((ord cs n).getD q 0).toNat
theorem per_ord (cs : List Int) (n : Nat) : Per (ordA cs n) n := by
  have ha := (adr_ord cs (Nat.le_refl n)).1
  have hat : ∀ q, q < n → ∃ j : Nat, j < n ∧ ordA cs n q = 3 + 5 * j := fun q hq => by
    have hm : (ord cs n).getD q 0 ∈ ord cs n := by
      rw [List.getD_eq_getElem?_getD, List.getElem?_eq_getElem (by rw [ord_len]; omega)]
      exact List.getElem_mem _
    obtain ⟨j, h1, h2⟩ := (ord_mem cs n _).1 hm
    exact ⟨j, h1, by unfold ordA; rw [h2]; omega⟩
  refine ⟨hat, fun q r hq hr e => ha.inj q r hq hr e, fun i hi => ?_⟩
  obtain ⟨q, hq, e⟩ := List.mem_iff_getElem.1 ((ord_mem cs n (3 + 5 * (i : Int))).2 ⟨i, hi, rfl⟩)
  rw [ord_len] at hq
  refine ⟨q, hq, ?_⟩
  unfold ordA
  rw [List.getD_eq_getElem?_getD, List.getElem?_eq_getElem (by rw [ord_len]; omega), Option.getD_some, e]
  omega
/-- The table that Chain lays: the first m records hang together. -/
def layF (A : Nat → Nat) (V : Nat → Int) (m : Nat) (q j : Nat) : Int :=
  if q < m then (if j = 1 then 1 else if j = 2 then V q else if j = 3 then (if q + 1 < m then (A (q + 1) : Int) else 0) else 0) else 0
theorem tab_lay {A : Nat → Nat} {V : Nat → Int} {n m : Nat} {X : List Int} (hP : Per A n) (hm : m ≤ n) (h : Lay A V (3 + 5 * n) m X) : Tab A n X 0 (if m = 0 then 0 else (A 0 : Int)) 50 (layF A V m) := by
  refine ⟨h.len, h.zero, h.head, h.pass, fun q hq j hj => ?_⟩
  have hl := hP.lt hq hj
  have hz : (∀ r, r < m → A q + j ≠ A r + 1 ∧ A q + j ≠ A r + 2) → (∀ r, r + 1 < m → A q + j ≠ A r + 3) → X.getD (A q + j) 0 = 0 := h.rest _ (by omega)
  have eq5 : ∀ r, r < m → ∀ i, i < 5 → A q + j = A r + i → q = r ∧ j = i := fun r hr i hi e => hP.eq hq (by omega) hj hi e
  unfold layF
  by_cases hqm : q < m
  · rw [if_pos hqm]
    by_cases j1 : j = 1
    · subst j1; rw [if_pos rfl]; exact h.act q hqm
    rw [if_neg j1]
    by_cases j2 : j = 2
    · subst j2; rw [if_pos rfl]; exact h.age q hqm
    rw [if_neg j2]
    by_cases j3 : j = 3
    · subst j3
      rw [if_pos rfl]
      by_cases hl : q + 1 < m
      · rw [if_pos hl]; exact h.next q hl
      · rw [if_neg hl]
        refine hz (fun r hr => ⟨fun e => ?_, fun e => ?_⟩) (fun r hr e => ?_)
        · have := eq5 r hr 1 (by omega) e; omega
        · have := eq5 r hr 2 (by omega) e; omega
        · have := eq5 r (by omega) 3 (by omega) e; omega
    rw [if_neg j3]
    refine hz (fun r hr => ⟨fun e => ?_, fun e => ?_⟩) (fun r hr e => ?_)
    · have := eq5 r hr 1 (by omega) e; omega
    · have := eq5 r hr 2 (by omega) e; omega
    · have := eq5 r (by omega) 3 (by omega) e; omega
  · rw [if_neg hqm]
    refine hz (fun r hr => ⟨fun e => ?_, fun e => ?_⟩) (fun r hr e => ?_)
    · have := eq5 r hr 1 (by omega) e; omega
    · have := eq5 r hr 2 (by omega) e; omega
    · have := eq5 r (by omega) 3 (by omega) e; omega
theorem chn_range {A : Nat → Nat} {F : Nat → Nat → Int} {m : Nat} (hF : ∀ q, q < m → F q 3 = if q + 1 < m then (A (q + 1) : Int) else 0) : ∀ d q, q + d = m → Chn A F (if q < m then (A q : Int) else 0) (List.range' q d)
  | 0, q, h => by rw [if_neg (by omega)]; rfl
  | d + 1, q, h => by
    rw [if_pos (by omega)]
    refine ⟨rfl, ?_⟩
    rw [hF q (by omega)]
    exact chn_range hF d (q + 1) (by omega)
theorem chn_lay {A : Nat → Nat} {F : Nat → Nat → Int} {m : Nat} (hF : ∀ q, q < m → F q 3 = if q + 1 < m then (A (q + 1) : Int) else 0) : Chn A F (if m = 0 then 0 else (A 0 : Int)) (List.range m) := by
  have := chn_range hF m 0 (by omega)
  rw [List.range_eq_range']
  by_cases h : m = 0
  · rw [if_pos h]; rw [if_neg (by omega)] at this; exact this
  · rw [if_neg h]; rw [if_pos (by omega)] at this; exact this
theorem adrs_filter {A : Nat → Nat} (ks : List Nat) (p : Int → Bool) : (adrs A ks).filter p = adrs A (ks.filter fun q => p (A q : Int)) := by
  unfold adrs
  rw [List.filter_map]; rfl
theorem adrs_len (A : Nat → Nat) (ks : List Nat) : (adrs A ks).length = ks.length := by unfold adrs; simp
theorem ord_adrs (cs : List Int) {n m : Nat} (h : m ≤ n) : (ord cs n).take m = adrs (ordA cs n) (List.range m) := by
  unfold adrs
  refine List.ext_getElem (by rw [List.length_map, List.length_take, ord_len, List.length_range]; omega) (fun q h1 h2 => ?_)
  rw [List.length_take, ord_len] at h1
  obtain ⟨j, _, e⟩ := (ord_mem cs n _).1 (List.getElem_mem (show q < (ord cs n).length by rw [ord_len]; omega))
  rw [List.getElem_map, List.getElem_range, List.getElem_take]
  unfold ordA
  rw [List.getD_eq_getElem?_getD, List.getElem?_eq_getElem (by rw [ord_len]; omega), Option.getD_some, e]
  omega
/-- The cells that Chain lays, as a table. -/
theorem chain_tab (cs : List Int) {n m : Nat} (hm : m ≤ n) : Tab (ordA cs n) n (layN cs ((ord cs n).take m) ((List.replicate (3 + 5 * n) 0).set 2 50) m) 0 (if m = 0 then 0 else (ordA cs n 0 : Int)) 50 (layF (ordA cs n) (ageV cs) m) := by
  obtain ⟨hA, hon⟩ := adr_ord cs hm
  exact tab_lay (per_ord cs n) hm (lay_all (by omega) hA hon m (Nat.le_refl _))
theorem adrs_getD {A : Nat → Nat} {m q : Nat} (h : q < m) : (adrs A (List.range m)).getD q 0 = (A q : Int) := by
  unfold adrs
  rw [List.getD_eq_getElem?_getD, List.getElem?_eq_getElem (by simpa using h), List.getElem_map, List.getElem_range]; rfl

end Go.Proofs.Ytnpkhkfhlpopbaa
