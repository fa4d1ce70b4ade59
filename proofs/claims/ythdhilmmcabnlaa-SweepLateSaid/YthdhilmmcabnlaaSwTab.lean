/- What a sweep leaves of a list: plain Lean. -/
import Derived.Test.YthdhilmmcabnlaaSwNoneB
namespace Go.Proofs.Ythdhilmmcabnlaa
set_option linter.unusedSimpArgs false
set_option linter.unusedVariables false
open Go.RowKit
/-- Who may go: no request, and older than may be. -/
def old (a : Int) (F : Nat → Nat → Int) (q : Nat) : Bool := decide (F q 0 = 0 ∧ a < 50 - F q 2)
theorem wrap_sub (v : Int) (h0 : 0 ≤ v) (h1 : v ≤ 59) : wrap64 (50 - v) = 50 - v := by unfold wrap64; omega
/-- What a sweep from record p on leaves. -/
structure Swept (A : Nat → Nat) (a : Int) (p : Nat) (ks : List Nat) (F G : Nat → Nat → Int) : Prop where
  off : ∀ q, q ∉ p :: ks → ∀ j, G q j = F q j
  me : ∀ j, j ≠ 3 → G p j = F p j
  gone : ∀ q ∈ ks, old a F q = true → G q 0 = -1 ∧ G q 1 = 0
  stay : ∀ q ∈ ks, old a F q = false → G q 0 = F q 0 ∧ G q 1 = F q 1
  age : ∀ q ∈ ks, G q 2 = F q 2
  chn : Chn A G (G p 3) (ks.filter fun q => !old a F q)
  none : (∀ q ∈ ks, old a F q = false) → ∀ q j, G q j = F q j
theorem sweep_from {A : Nat → Nat} {n : Nat} {a head lock : Int} (hn : n ≤ 100) (ha : -1000 ≤ a) (ha2 : a ≤ 1000) (hP : Per A n) :
    ∀ (ks : List Nat) (p f c : Nat) (X : List Int) (F : Nat → Nat → Int) (t : Th), Tab A n X lock head 50 F → p < n → (∀ q ∈ ks, q < n) → (p :: ks).Nodup → Chn A F (F p 3) ks → (∀ q ∈ ks, F q 1 = 1) → (∀ q ∈ ks, 0 ≤ F q 2 ∧ F q 2 ≤ 59) →
      7 * ks.length + 2 ≤ f → t.i1 = 41 → t.i7 = A p → t.i10 = 50 →
      ∃ X' T K G, allK a f X t c = (X', T, K) ∧ T.i1 = 11 ∧ K ≤ c + 7 * ks.length + 2 ∧ Tab A n X' 0 head 50 G ∧ Swept A a p ks F G
  | [], p, f, c, X, F, t, hT, hp, hks, hnd, hc, hact, hage, hf, h1, h7, h10 => by
    obtain ⟨f, rfl⟩ : ∃ g, f = g + 2 := ⟨f - 2, by simp at hf; omega⟩
    have hc' : F p 3 = 0 := hc
    have hv : cellAt X (wrap64 (t.i7 + 3)) = 0 := by
      have := hT.cell hP (by omega) hp (j := 3) (by omega)
      rw [h7]; exact this.trans hc'
    have e1 : swT X a t = { t with i1 := 48, i5 := 0 } := by simp [swT, swA, h1, hv]
    have e2 : swX X t = X := by simp [swX, h1]
    rw [allK_go (by omega), e1, e2, allK_go (by simp)]
    have e3 : swX X { t with i1 := 48, i5 := 0 } = X.set 0 0 := by
      simp only [swX]
      rw [if_neg (by decide), if_neg (by decide), if_neg (by decide), if_pos trivial, cellSet_yes (by omega) (by rw [hT.len]; omega)]
      rfl
    have e4 : swT X a { t with i1 := 48, i5 := 0 } = { t with i1 := 11, i5 := 0 } := by simp [swT]
    rw [e3, e4, allK_end (by simp)]
    exact ⟨_, _, _, F, rfl, rfl, by simp, hT.setLock hP 0, ⟨fun _ _ _ => rfl, fun _ _ => rfl, fun q h => (by cases h), fun q h => (by cases h), fun q h => (by cases h), hc', fun _ _ _ => rfl⟩⟩
  | q :: ks, p, f, c, X, F, t, hT, hp, hks, hnd, hc, hact, hage, hf, h1, h7, h10 => by
    simp only [List.length_cons] at hf
    have hq : q < n := hks q (by simp)
    have hnd2 : (q :: ks).Nodup := (List.nodup_cons.1 hnd).2
    have hpq : p ≠ q := fun e => (List.nodup_cons.1 hnd).1 (by simp [e])
    have hpks : p ∉ ks := fun e => (List.nodup_cons.1 hnd).1 (by simp [e])
    have hqks : q ∉ ks := (List.nodup_cons.1 hnd2).1
    have hnd3 : (p :: ks).Nodup := List.nodup_cons.2 ⟨hpks, (List.nodup_cons.1 hnd2).2⟩
    obtain ⟨hc1, hc2⟩ := hc
    have hA3 := hP.lt hq (j := 0) (by omega)
    have hv : cellAt X (wrap64 (t.i7 + 3)) = A q := by
      have := hT.cell hP (by omega) hp (j := 3) (by omega)
      rw [h7]; exact this.trans hc1
    have hv1 : cellAt X (wrap64 ((A q : Int) + 1)) = 1 := (hT.cell hP (by omega) hq (j := 1) (by omega)).trans (hact q (by simp))
    have hv2 : cellAt X (wrap64 ((A q : Int) + 2)) = F q 2 := hT.cell hP (by omega) hq (j := 2) (by omega)
    have hz : ¬ A q = 0 := by omega
    have hV := hage q (by simp)
    have hw := wrap_sub (F q 2) hV.1 hV.2
    have e1 : swT X a t = { t with i1 := 42, i5 := (A q : Int), i6 := (A q : Int) } := by simp [swT, swA, h1, hv, hz]
    have e2 : swX X t = X := by simp [swX, h1]
    obtain ⟨f, rfl⟩ : ∃ g, f = g + 7 := ⟨f - 7, by omega⟩
    rw [allK_go (by omega), e1, e2]
    have e3 : swT X a { t with i1 := 42, i5 := (A q : Int), i6 := (A q : Int) } = { t with i1 := 43, i5 := 1, i6 := (A q : Int) } := by simp [swT, swA, hv1]
    have e4 : swX X { t with i1 := 42, i5 := (A q : Int), i6 := (A q : Int) } = X := by simp [swX]
    rw [allK_go (by simp), e3, e4]
    have e6 : swX X { t with i1 := 43, i5 := 1, i6 := (A q : Int) } = X := by simp [swX]
    have lift : ∀ G, old a F q = false → Swept A a q ks F G → Swept A a p (q :: ks) F G := fun G hold h => by
      refine ⟨fun r hr j => h.off r (fun hh => hr (by simp at hh ⊢; exact .inr hh)) j, fun j hj => h.off p (by simp [hpq, hpks]) j, fun r hr hr2 => ?_, fun r hr hr2 => ?_, fun r hr => ?_, ?_, fun hall => h.none (fun r hr => hall r (by simp [hr]))⟩
      · rcases List.mem_cons.1 hr with rfl | hr
        · rw [hold] at hr2; cases hr2
        · exact h.gone r hr hr2
      · rcases List.mem_cons.1 hr with rfl | hr
        · exact ⟨h.me 0 (by omega), h.me 1 (by omega)⟩
        · exact h.stay r hr hr2
      · rcases List.mem_cons.1 hr with rfl | hr
        · exact h.me 2 (by omega)
        · exact h.age r hr
      · rw [h.off p (by simp [hpq, hpks]) 3, List.filter_cons, if_pos (by rw [hold]; rfl)]
        exact ⟨hc1, h.chn⟩
    by_cases hfr : 50 - F q 2 ≤ a
    · have e5 : swT X a { t with i1 := 43, i5 := 1, i6 := (A q : Int) } = { t with i1 := 41, i5 := F q 2, i6 := (A q : Int), i7 := (A q : Int) } := by simp [swT, swA, hv2, h10, hw, hfr]
      rw [allK_go (by simp), e5, e6]
      have hold : old a F q = false := decide_eq_false (by omega)
      obtain ⟨X', T, K, G, r1, r2, r3, r4, r5⟩ := sweep_from hn ha ha2 hP ks q (f + 4) (c + 1 + 1 + 1) X F { t with i1 := 41, i5 := F q 2, i6 := (A q : Int), i7 := (A q : Int) } hT hq (fun r hr => hks r (by simp [hr])) hnd2 hc2 (fun r hr => hact r (by simp [hr])) (fun r hr => hage r (by simp [hr])) (by omega) rfl rfl h10
      exact ⟨X', T, K, G, r1, r2, by rw [List.length_cons]; omega, r4, lift G hold r5⟩
    · have e5 : swT X a { t with i1 := 43, i5 := 1, i6 := (A q : Int) } = { t with i1 := 44, i5 := F q 2, i6 := (A q : Int) } := by simp [swT, swA, hv2, h10, hw, hfr]
      rw [allK_go (by simp), e5, e6]
      have hf0 : X.getD (A q) 0 = F q 0 := hT.fld q hq 0 (by omega)
      by_cases hreq : F q 0 = 0
      · have hold : old a F q = true := decide_eq_true ⟨hreq, by omega⟩
        have hs : swapIs X (A q : Int) 0 = true := swapIs_hit (by omega) (by rw [hT.len]; omega) (by rw [Int.toNat_natCast, hf0, hreq])
        have e7 : swT X a { t with i1 := 44, i5 := F q 2, i6 := (A q : Int) } = { t with i1 := 45, i5 := F q 2, i6 := (A q : Int) } := by simp [swT, hs]
        have e8 : swX X { t with i1 := 44, i5 := F q 2, i6 := (A q : Int) } = X.set (A q + 0) (-1) := by
          simp only [swX, if_pos trivial, cellSwap, hs]
          rw [cellSet_yes (by omega) (by rw [hT.len]; omega), Int.toNat_natCast]; rfl
        rw [allK_go (by simp), e7, e8]
        have hT1 := hT.set hP hq (j := 0) (by omega) (-1)
        generalize hX1 : X.set (A q + 0) (-1) = X1 at hT1
        have hv3 : cellAt X1 (wrap64 ((A q : Int) + 3)) = F q 3 := (hT1.cell hP (by omega) hq (j := 3) (by omega)).trans (upd_ne _ _ _ _ (.inr (by omega)))
        have e9 : swT X1 a { t with i1 := 45, i5 := F q 2, i6 := (A q : Int) } = { t with i1 := 46, i5 := F q 3, i6 := (A q : Int) } := by simp [swT, swA, hv3]
        have e10 : swX X1 { t with i1 := 45, i5 := F q 2, i6 := (A q : Int) } = X1 := by simp [swX]
        rw [allK_go (by simp), e9, e10]
        have hT2 := hT1.put hP (by omega) hp (j := 3) (by omega) (F q 3)
        generalize hX2 : cellSet X1 (wrap64 ((A p : Int) + ((3 : Nat) : Int))) (F q 3) = X2 at hT2
        have e11 : swX X1 { t with i1 := 46, i5 := F q 3, i6 := (A q : Int) } = X2 := by rw [← hX2]; simp [swX, h7]
        have e12 : swT X1 a { t with i1 := 46, i5 := F q 3, i6 := (A q : Int) } = { t with i1 := 47, i5 := F q 3, i6 := (A q : Int) } := by simp [swT]
        rw [allK_go (by simp), e11, e12]
        have hT3 := hT2.put hP (by omega) hq (j := 1) (by omega) 0
        generalize hX3 : cellSet X2 (wrap64 ((A q : Int) + ((1 : Nat) : Int))) 0 = X3 at hT3
        have e13 : swX X2 { t with i1 := 47, i5 := F q 3, i6 := (A q : Int) } = X3 := by rw [← hX3]; simp [swX]
        have e14 : swT X2 a { t with i1 := 47, i5 := F q 3, i6 := (A q : Int) } = { t with i1 := 41, i5 := F q 3, i6 := (A q : Int) } := by simp [swT]
        rw [allK_go (by simp), e13, e14]
        obtain ⟨F3, hF3⟩ : ∃ F3, upd (upd (upd F q 0 (-1)) p 3 (F q 3)) q 1 0 = F3 := ⟨_, rfl⟩
        rw [hF3] at hT3
        have g1 : ∀ r, r ≠ q → ∀ j, (r ≠ p ∨ j ≠ 3) → F3 r j = F r j := fun r hr j hj => by
          rw [← hF3, upd_ne _ _ _ _ (.inl hr), upd_ne _ _ _ _ hj, upd_ne _ _ _ _ (.inl hr)]
        have g2 : F3 p 3 = F q 3 := by rw [← hF3, upd_ne _ _ _ _ (.inl hpq), upd_at]
        have g3 : F3 q 0 = -1 := by rw [← hF3, upd_ne _ _ _ _ (.inr (by omega)), upd_ne _ _ _ _ (.inl (Ne.symm hpq)), upd_at]
        have g4 : F3 q 1 = 0 := by rw [← hF3, upd_at]
        have g5 : F3 q 2 = F q 2 := by rw [← hF3, upd_ne _ _ _ _ (.inr (by omega)), upd_ne _ _ _ _ (.inl (Ne.symm hpq)), upd_ne _ _ _ _ (.inr (by omega))]
        have gk : ∀ r ∈ ks, ∀ j, F3 r j = F r j := fun r hr j => g1 r (fun e => hqks (e ▸ hr)) j (.inl (fun e => hpks (e ▸ hr)))
        have ho : ∀ r ∈ ks, old a F3 r = old a F r := fun r hr => by unfold old; rw [gk r hr, gk r hr]
        obtain ⟨X', T, K, G, r1, r2, r3, r4, r5⟩ := sweep_from hn ha ha2 hP ks p f (c + 1 + 1 + 1 + 1 + 1 + 1 + 1) X3 F3 { t with i1 := 41, i5 := F q 3, i6 := (A q : Int) } hT3 hp (fun r hr => hks r (by simp [hr])) hnd3 (by rw [g2]; exact hc2.congr (fun r hr => (gk r hr 3).symm)) (fun r hr => by rw [gk r hr]; exact hact r (by simp [hr])) (fun r hr => by rw [gk r hr]; exact hage r (by simp [hr])) (by omega) rfl h7 h10
        have hqp : q ∉ p :: ks := by simp [hqks, Ne.symm hpq]
        refine ⟨X', T, K, G, r1, r2, by rw [List.length_cons]; omega, r4, ⟨fun r hr j => ?_, fun j hj => ?_, fun r hr hr2 => ?_, fun r hr hr2 => ?_, fun r hr => ?_, ?_, fun hall => ?_⟩⟩
        · simp only [List.mem_cons, not_or] at hr
          rw [r5.off r (by simp [hr.1, hr.2.2]) j, g1 r hr.2.1 j (.inl hr.1)]
        · rw [r5.me j hj, g1 p hpq j (.inr hj)]
        · rcases List.mem_cons.1 hr with rfl | hr
          · exact ⟨(r5.off r hqp 0).trans g3, (r5.off r hqp 1).trans g4⟩
          · exact r5.gone r hr (by rw [ho r hr]; exact hr2)
        · rcases List.mem_cons.1 hr with rfl | hr
          · rw [hold] at hr2; cases hr2
          · have := r5.stay r hr (by rw [ho r hr]; exact hr2)
            rw [gk r hr, gk r hr] at this; exact this
        · rcases List.mem_cons.1 hr with rfl | hr
          · exact (r5.off r hqp 2).trans g5
          · exact (r5.age r hr).trans (gk r hr 2)
        · rw [List.filter_cons, if_neg (by rw [hold]; decide)]
          have := r5.chn
          rw [List.filter_congr (fun r hr => by rw [ho r hr])] at this
          exact this
        · have := hall q (by simp)
          rw [hold] at this; cases this
      · have hold : old a F q = false := decide_eq_false (fun h => hreq h.1)
        have hs : swapIs X (A q : Int) 0 = false := swapIs_miss (by rw [Int.toNat_natCast, hf0]; exact hreq)
        have e7 : swT X a { t with i1 := 44, i5 := F q 2, i6 := (A q : Int) } = { t with i1 := 41, i5 := F q 2, i6 := (A q : Int), i7 := (A q : Int) } := by simp [swT, hs]
        have e8 : swX X { t with i1 := 44, i5 := F q 2, i6 := (A q : Int) } = X := by simp [swX, cellSwap, hs]
        rw [allK_go (by simp), e7, e8]
        obtain ⟨X', T, K, G, r1, r2, r3, r4, r5⟩ := sweep_from hn ha ha2 hP ks q (f + 3) (c + 1 + 1 + 1 + 1) X F { t with i1 := 41, i5 := F q 2, i6 := (A q : Int), i7 := (A q : Int) } hT hq (fun r hr => hks r (by simp [hr])) hnd2 hc2 (fun r hr => hact r (by simp [hr])) (fun r hr => hage r (by simp [hr])) (by omega) rfl rfl h10
        exact ⟨X', T, K, G, r1, r2, by rw [List.length_cons]; omega, r4, lift G hold r5⟩
/-- What a sweep leaves of a list. -/
def keeps (a : Int) (F : Nat → Nat → Int) : List Nat → List Nat
  | [] => []
  | p :: ks => p :: ks.filter fun q => !old a F q
structure SweptL (A : Nat → Nat) (a head : Int) (ks : List Nat) (F G : Nat → Nat → Int) : Prop where
  chn : Chn A G head (keeps a F ks)
  off : ∀ q, q ∉ ks → ∀ j, G q j = F q j
  gone : ∀ q ∈ ks.drop 1, old a F q = true → G q 0 = -1 ∧ G q 1 = 0
  stay : ∀ q ∈ keeps a F ks, G q 0 = F q 0 ∧ G q 1 = F q 1
  age : ∀ q, G q 2 = F q 2
  none : (∀ q ∈ ks.drop 1, old a F q = false) → ∀ q j, G q j = F q j
theorem sweep_all {A : Nat → Nat} {n : Nat} {a head lock : Int} (hn : n ≤ 20) (ha : -1000 ≤ a) (ha2 : a ≤ 1000) (hP : Per A n) {ks : List Nat} {X : List Int} {F : Nat → Nat → Int} (hT : Tab A n X lock head 50 F) (hks : ∀ q ∈ ks, q < n) (hnd : ks.Nodup) (hkl : ks.length ≤ 20) (hc : Chn A F head ks)
    (hact : ∀ q ∈ ks, F q 1 = 1) (hage : ∀ q ∈ ks, 0 ≤ F q 2 ∧ F q 2 ≤ 59) :
    ∃ X' T K G, allK a 200 X ⟨0, 40, 0, 0, 0, 0, 0, 0, 0, 0, 50, 0⟩ 0 = (X', T, K) ∧ T.i1 = 11 ∧ K ≤ 7 * ks.length + 3 ∧ Tab A n X' 0 head 50 G ∧ SweptL A a head ks F G := by
  have hv : cellAt X 1 = head := by
    have := cellAt_nat X 1 (by rw [hT.len]; omega)
    exact this.trans hT.head
  rw [allK_go (by simp)]
  have e2 : swX X ⟨0, 40, 0, 0, 0, 0, 0, 0, 0, 0, 50, 0⟩ = X := by simp [swX]
  cases ks with
  | nil =>
    have hh : head = 0 := hc
    have e1 : swT X a ⟨0, 40, 0, 0, 0, 0, 0, 0, 0, 0, 50, 0⟩ = ⟨0, 48, 0, 0, 0, 0, 0, 0, 0, 0, 50, 0⟩ := by simp [swT, swA, hv, hh]
    rw [e1, e2, allK_go (by simp)]
    have e3 : swX X ⟨0, 48, 0, 0, 0, 0, 0, 0, 0, 0, 50, 0⟩ = X.set 0 0 := by
      simp only [swX]
      rw [if_neg (by decide), if_neg (by decide), if_neg (by decide), if_pos trivial, cellSet_yes (by omega) (by rw [hT.len]; omega)]
      rfl
    have e4 : swT X a ⟨0, 48, 0, 0, 0, 0, 0, 0, 0, 0, 50, 0⟩ = ⟨0, 11, 0, 0, 0, 0, 0, 0, 0, 0, 50, 0⟩ := by simp [swT]
    rw [e3, e4, allK_end (by simp)]
    exact ⟨_, _, _, F, rfl, rfl, by simp, hT.setLock hP 0, ⟨hc, fun _ _ _ => rfl, fun q h => (by cases h), fun q h => (by cases h), fun q => rfl, fun _ _ _ => rfl⟩⟩
  | cons p ks =>
    obtain ⟨hh, hc2⟩ := hc
    have hp := hks p (by simp)
    have hl := hP.lt hp (j := 0) (by omega)
    have e1 : swT X a ⟨0, 40, 0, 0, 0, 0, 0, 0, 0, 0, 50, 0⟩ = ⟨0, 41, 0, 0, 0, (A p : Int), 0, (A p : Int), 0, 0, 50, 0⟩ := by simp [swT, swA, hv, hh, (show ¬ A p = 0 by omega)]
    rw [e1, e2]
    rw [List.length_cons] at hkl
    obtain ⟨X', T, K, G, r1, r2, r3, r4, r5⟩ := sweep_from (by omega) ha ha2 hP ks p 199 1 X F ⟨0, 41, 0, 0, 0, (A p : Int), 0, (A p : Int), 0, 0, 50, 0⟩ hT hp (fun q hq => hks q (by simp [hq])) hnd hc2 (fun q hq => hact q (by simp [hq])) (fun q hq => hage q (by simp [hq])) (by omega) rfl rfl rfl
    refine ⟨X', T, K, G, r1, r2, by rw [List.length_cons]; omega, r4, ⟨⟨hh, r5.chn⟩, r5.off, r5.gone, fun q hq => ?_, fun q => ?_, r5.none⟩⟩
    · rcases List.mem_cons.1 hq with rfl | hq
      · exact ⟨r5.me 0 (by omega), r5.me 1 (by omega)⟩
      · have := List.mem_filter.1 hq
        exact r5.stay q this.1 (by simpa using this.2)
    · by_cases h1 : q ∈ ks
      · exact r5.age q h1
      · by_cases h2 : q = p
        · subst h2; exact r5.me 2 (by omega)
        · exact r5.off q (by simp [h1, h2]) 2

theorem keeps_filter {a : Int} {F : Nat → Nat → Int} : ∀ {ks : List Nat}, ks.Nodup → keeps a F ks = ks.filter fun q => decide (q ∉ (ks.drop 1).filter (old a F))
  | [], _ => rfl
  | p :: ks, h => by
    have hp := (List.nodup_cons.1 h).1
    show p :: ks.filter (fun q => !old a F q) = _
    rw [List.filter_cons, if_pos (by simp [hp])]
    congr 1
    refine List.filter_congr (fun q hq => ?_)
    show _ = decide (q ∉ ks.filter (old a F))
    simp only [List.mem_filter, hq, true_and]
    cases old a F q <;> rfl
theorem keeps_sub {a : Int} {F : Nat → Nat → Int} {ks : List Nat} : ∀ q ∈ keeps a F ks, q ∈ ks := fun q hq => by
  cases ks with
  | nil => exact hq
  | cons p ks =>
    rcases List.mem_cons.1 hq with rfl | h
    · simp
    · exact List.mem_cons_of_mem _ (List.mem_filter.1 h).1
theorem keeps_nodup {a : Int} {F : Nat → Nat → Int} {ks : List Nat} (h : ks.Nodup) : (keeps a F ks).Nodup := by
  rw [keeps_filter h]
  exact h.filter _
theorem keeps_len (a : Int) (F : Nat → Nat → Int) (ks : List Nat) : (keeps a F ks).length ≤ ks.length := by
  cases ks with
  | nil => exact Nat.le_refl _
  | cons p ks => simp only [keeps, List.length_cons]; have := List.length_filter_le (fun q => !old a F q) ks; omega
theorem keeps_drop {a : Int} {F : Nat → Nat → Int} {ks : List Nat} : ∀ q ∈ (keeps a F ks).drop 1, q ∈ ks.drop 1 ∧ old a F q = false := fun q hq => by
  cases ks with
  | nil => cases hq
  | cons p ks =>
    have h : q ∈ ks.filter fun q => !old a F q := hq
    have h2 := List.mem_filter.1 h
    exact ⟨h2.1, by simpa using h2.2⟩
theorem keeps_or {a : Int} {F : Nat → Nat → Int} {ks : List Nat} : ∀ q ∈ ks, q ∈ keeps a F ks ∨ (q ∈ ks.drop 1 ∧ old a F q = true) := fun q hq => by
  cases ks with
  | nil => cases hq
  | cons p ks =>
    rcases List.mem_cons.1 hq with rfl | h
    · exact .inl (by simp [keeps])
    · cases ho : old a F q
      · exact .inl (List.mem_cons_of_mem _ (List.mem_filter.2 ⟨h, by rw [ho]; rfl⟩))
      · exact .inr ⟨h, rfl⟩
/-- Requests are laid, as numbers say. -/
def reqN (ds on l : List Int) : Nat → List Int
  | 0 => l
  | k + 1 => (reqN ds on l k).set (on.getD k 0).toNat (ds.getD k 0 % 3 * 5)
theorem reqN_len (ds on l : List Int) : ∀ k, (reqN ds on l k).length = l.length
  | 0 => rfl
  | k + 1 => by rw [reqN, List.length_set, reqN_len ds on l k]
def reqF (ds : List Int) (F : Nat → Nat → Int) (k : Nat) (q j : Nat) : Int := if q < k ∧ j = 0 then ds.getD q 0 % 3 * 5 else F q j
theorem reqN_tab {A : Nat → Nat} {n m : Nat} {X : List Int} {lock head pass : Int} {F : Nat → Nat → Int} {ds : List Int} (hP : Per A n) (h : Tab A n X lock head pass F) (hm : m ≤ n) : ∀ k, k ≤ m → Tab A n (reqN ds (adrs A (List.range m)) X k) lock head pass (reqF ds F k)
  | 0, _ => h.congr (fun q j _ _ => by unfold reqF; rw [if_neg (by omega)])
  | k + 1, hk => by
    have ih := reqN_tab hP h hm (ds := ds) k (by omega)
    rw [reqN, adrs_getD (by omega), Int.toNat_natCast]
    refine (ih.set hP (q := k) (j := 0) (by omega) (by omega) _).congr (fun q j hq hj => ?_)
    unfold upd reqF
    by_cases h1 : q = k ∧ j = 0
    · obtain ⟨rfl, rfl⟩ := h1
      rw [if_pos ⟨rfl, rfl⟩, if_pos ⟨by omega, rfl⟩]
    · rw [if_neg h1]
      by_cases h2 : q < k ∧ j = 0
      · rw [if_pos h2, if_pos ⟨by omega, h2.2⟩]
      · rw [if_neg h2, if_neg (by omega)]
theorem takes_plain (cs ds : List Int) (M : Nat) (a : Int) (a0 : 0 ≤ a) (a1 : a ≤ 59) {n m : Nat} {O X0 X2 : List Int} (hn : n ≤ 9) (hm : m ≤ n) (hO : (ord cs n).take m = O) (hX : layN cs O ((List.replicate (3 + 5 * n) 0).set 2 50) m = X0) (hX2 : (reqN ds O X0 (min m ds.length)).set 0 1 = X2) :
    X2.length = 3 + 5 * n ∧ O.length = m ∧ (reachL X2).2 = true ∧ ∃ X' T K, allK a 200 X2 ⟨0, 40, 0, 0, 0, 0, 0, 0, 0, 0, 50, 0⟩ 0 = (X', T, K) ∧ T.i1 = 11 ∧ K ≤ 7 * m + 3 ∧ X'.length = 3 + 5 * n ∧ X'.getD 0 0 = 0 ∧
      reachL X' = (O.filter fun x => decide (x ∉ staleL X2 a), true) ∧ (∀ x ∈ O, x ∈ staleL X2 a → X'.getD x.toNat 0 = -1 ∧ X'.getD (x.toNat + 1) 0 = 0) ∧ staleL X' a = [] ∧ soundF X' = 0 := by
  have hP := per_ord cs n
  obtain ⟨A, hA⟩ : ∃ A, ordA cs n = A := ⟨_, rfl⟩
  have hOA := ord_adrs cs hm
  rw [hO, hA] at hOA
  have hT0 := chain_tab cs hm
  rw [hO, hX, hA] at hT0
  rw [hA] at hP
  have hT1 := reqN_tab (ds := ds) hP hT0 hm (min m ds.length) (by omega)
  rw [← hOA] at hT1
  have hT2 := hT1.setLock hP 1
  rw [hX2] at hT2
  obtain ⟨head, hhd⟩ : ∃ h, (if m = 0 then 0 else (A 0 : Int)) = h := ⟨_, rfl⟩
  obtain ⟨F, hF⟩ : ∃ F, reqF ds (layF A (ageV cs) m) (min m ds.length) = F := ⟨_, rfl⟩
  have hFj : ∀ q j, j ≠ 0 → F q j = layF A (ageV cs) m q j := fun q j hj => by rw [← hF]; unfold reqF; rw [if_neg (by omega)]
  have hc : Chn A F head (List.range m) := by
    rw [← hhd]
    refine chn_lay (fun q hq => ?_)
    rw [hFj q 3 (by omega)]
    unfold layF
    rw [if_pos hq, if_neg (by omega), if_neg (by omega), if_pos rfl]
  have hact : ∀ q ∈ List.range m, F q 1 = 1 := fun q hq => by
    rw [hFj q 1 (by omega)]; unfold layF; rw [if_pos (List.mem_range.1 hq), if_pos rfl]
  have hoff : ∀ q, m ≤ q → F q 1 = 0 := fun q hq => by
    rw [hFj q 1 (by omega)]; unfold layF; rw [if_neg (by omega)]
  have hage : ∀ q ∈ List.range m, 0 ≤ F q 2 ∧ F q 2 ≤ 59 := fun q hq => by
    rw [hFj q 2 (by omega)]; unfold layF; rw [if_pos (List.mem_range.1 hq), if_neg (by omega), if_pos rfl]; exact ageV_rng cs q
  rw [hhd, hF] at hT2
  have hks : ∀ q ∈ List.range m, q < n := fun q hq => by have := List.mem_range.1 hq; omega
  have hnd : (List.range m).Nodup := List.nodup_range
  have hR := reach_tab hP hT2 (by omega) hc hks hnd (by rw [List.length_range]; omega)
  have hS : staleL X2 a = adrs A (((List.range m).drop 1).filter (old a F)) := by
    rw [stale_tab hP hT2 hks hR]
    congr 1
    refine List.filter_congr (fun q hq => ?_)
    have h1 := List.mem_of_mem_drop hq
    have h2 := hage q h1
    unfold old
    rw [hact q h1, wrap_sub _ h2.1 h2.2]
    simp
  obtain ⟨X', T, K, G, r1, r2, r3, r4, r5⟩ := sweep_all (a := a) (lock := 1) (by omega) (by omega) (by omega) hP hT2 hks hnd (by rw [List.length_range]; omega) hc hact hage
  have hks' : ∀ q ∈ keeps a F (List.range m), q < n := fun q hq => hks q (keeps_sub q hq)
  have hR' := reach_tab hP r4 (by omega) r5.chn hks' (keeps_nodup hnd) (by have := keeps_len a F (List.range m); rw [List.length_range] at this; omega)
  refine ⟨hT2.len, by rw [hOA, adrs_len, List.length_range], by rw [hR], X', T, K, r1, r2, by rw [List.length_range] at r3; exact r3, r4.len, r4.lock, ?_, ?_, ?_, ?_⟩
  · rw [hR', keeps_filter hnd, hOA, adrs_filter, hS]
    refine congrArg (fun z => (adrs A z, true)) (List.filter_congr (fun q hq => ?_))
    rw [decide_eq_decide]
    refine not_congr ?_
    rw [adrs_mem hP (fun r hr => hks r (List.mem_of_mem_drop (List.mem_filter.1 hr).1)) (hks q hq)]
  · intro x hx hxs
    rw [hS] at hxs
    obtain ⟨q, hq, rfl⟩ := List.mem_map.1 hxs
    have hq2 := List.mem_filter.1 hq
    have hg := r5.gone q hq2.1 hq2.2
    have hqn := hks q (List.mem_of_mem_drop hq2.1)
    rw [Int.toNat_natCast]
    exact ⟨(r4.fld q hqn 0 (by omega)).trans hg.1, (r4.fld q hqn 1 (by omega)).trans hg.2⟩
  · rw [stale_tab hP r4 hks' hR', List.filter_eq_nil_iff.2]
    · rfl
    · intro q hq he
      have he := of_decide_eq_true he
      have hk := keeps_drop q hq
      have hqr := List.mem_of_mem_drop hk.1
      have hst := r5.stay q (List.mem_of_mem_drop hq)
      have h2 := hage q hqr
      rw [hst.1, r5.age q, wrap_sub _ h2.1 h2.2] at he
      have ho := hk.2
      unfold old at ho
      exact of_decide_eq_false ho ⟨he.2.1, he.2.2⟩
  · refine sound_tab hP r4 hks' hR' (fun q hq => ?_) (fun q hqn h1 h0 => ?_)
    · rw [(r5.stay q hq).2, hact q (keeps_sub q hq)]; omega
    · by_cases hqm : q < m
      · rcases keeps_or (a := a) (F := F) q (List.mem_range.2 hqm) with h | ⟨h, ho⟩
        · exact h
        · have := (r5.gone q h ho).2; omega
      · have := r5.off q (fun h => hqm (List.mem_range.1 h)) 1
        rw [hoff q (by omega)] at this; omega
theorem keeps_mono {a b : Int} (h : a ≤ b) {F : Nat → Nat → Int} {ks : List Nat} : ∀ q ∈ keeps a F ks, q ∈ keeps b F ks := fun q hq => by
  cases ks with
  | nil => exact hq
  | cons p ks =>
    rcases List.mem_cons.1 hq with rfl | hq
    · simp [keeps]
    · have h2 := List.mem_filter.1 hq
      refine List.mem_cons_of_mem _ (List.mem_filter.2 ⟨h2.1, ?_⟩)
      have ho : old a F q = false := by simpa using h2.2
      have : old b F q = false := by
        unfold old at ho ⊢
        refine decide_eq_false (fun hh => of_decide_eq_false ho ⟨hh.1, by omega⟩)
      rw [this]; rfl
theorem twice_plain (cs : List Int) (a b : Int) (a0 : 0 ≤ a) (hab : a ≤ b) (b1 : b ≤ 200) {n m : Nat} {O X0 : List Int} (hn : n ≤ 9) (hm : m ≤ n) (hO : (ord cs n).take m = O) (hX : layN cs O ((List.replicate (3 + 5 * n) 0).set 2 50) m = X0) :
    X0.length = 3 + 5 * n ∧ X0.getD 2 0 = 50 ∧ ∃ X1 T1 K1 Y T2 K2 T3 K3 L1 L2, allK a 200 X0 ⟨0, 40, 0, 0, 0, 0, 0, 0, 0, 0, 50, 0⟩ 0 = (X1, T1, K1) ∧ X1.length = 3 + 5 * n ∧ allK a 200 X1 ⟨0, 40, 0, 0, 0, 0, 0, 0, 0, 0, 50, 0⟩ 0 = (X1, T2, K2) ∧
      allK b 200 X0 ⟨0, 40, 0, 0, 0, 0, 0, 0, 0, 0, 50, 0⟩ 0 = (Y, T3, K3) ∧ Y.length = 3 + 5 * n ∧ reachL X1 = (L1, true) ∧ reachL Y = (L2, true) ∧ (∀ x ∈ L1, x ∈ L2) ∧ L1.length ≤ L2.length ∧ L2.length ≤ 9 := by
  have hP := per_ord cs n
  obtain ⟨A, hA⟩ : ∃ A, ordA cs n = A := ⟨_, rfl⟩
  have hOA := ord_adrs cs hm
  rw [hO, hA] at hOA
  have hT0 := chain_tab cs hm
  rw [hO, hX, hA] at hT0
  rw [hA] at hP
  obtain ⟨head, hhd⟩ : ∃ h, (if m = 0 then 0 else (A 0 : Int)) = h := ⟨_, rfl⟩
  obtain ⟨F, hF⟩ : ∃ F, layF A (ageV cs) m = F := ⟨_, rfl⟩
  have hc : Chn A F head (List.range m) := by
    rw [← hhd]
    refine chn_lay (fun q hq => ?_)
    rw [← hF]
    unfold layF
    rw [if_pos hq, if_neg (by omega), if_neg (by omega), if_pos rfl]
  have hact : ∀ q ∈ List.range m, F q 1 = 1 := fun q hq => by
    rw [← hF]; unfold layF; rw [if_pos (List.mem_range.1 hq), if_pos rfl]
  have hage : ∀ q ∈ List.range m, 0 ≤ F q 2 ∧ F q 2 ≤ 59 := fun q hq => by
    rw [← hF]; unfold layF; rw [if_pos (List.mem_range.1 hq), if_neg (by omega), if_pos rfl]; exact ageV_rng cs q
  rw [hhd, hF] at hT0
  have hks : ∀ q ∈ List.range m, q < n := fun q hq => by have := List.mem_range.1 hq; omega
  have hnd : (List.range m).Nodup := List.nodup_range
  have hlm : (List.range m).length ≤ 20 := by rw [List.length_range]; omega
  obtain ⟨X1, T1, K1, G, p1, -, -, p4, p5⟩ := sweep_all (by omega) (by omega) (by omega) hP hT0 hks hnd hlm hc hact hage (a := a)
  obtain ⟨Y, T3, K3, H, q1, -, -, q4, q5⟩ := sweep_all (by omega) (by omega) (by omega) hP hT0 hks hnd hlm hc hact hage (a := b)
  have hksa : ∀ q ∈ keeps a F (List.range m), q < n := fun q hq => hks q (keeps_sub q hq)
  have hksb : ∀ q ∈ keeps b F (List.range m), q < n := fun q hq => hks q (keeps_sub q hq)
  have hla := keeps_len a F (List.range m)
  have hlb := keeps_len b F (List.range m)
  rw [List.length_range] at hla hlb
  have hRa := reach_tab hP p4 (by omega) p5.chn hksa (keeps_nodup hnd) (by omega)
  have hRb := reach_tab hP q4 (by omega) q5.chn hksb (keeps_nodup hnd) (by omega)
  obtain ⟨X2, T2, K2, G2, r1, -, -, r4, r5⟩ := sweep_all (by omega) (by omega) (by omega) hP p4 hksa (keeps_nodup hnd) (by omega) p5.chn (fun q hq => by rw [(p5.stay q hq).2]; exact hact q (keeps_sub q hq)) (fun q hq => by rw [p5.age]; exact hage q (keeps_sub q hq)) (a := a)
  have hG : ∀ q j, G2 q j = G q j := r5.none (fun q hq => by
    have hk := keeps_drop q hq
    have hst := p5.stay q (List.mem_of_mem_drop hq)
    have := hk.2
    unfold old at this ⊢
    rw [hst.1, p5.age]; exact this)
  have hXX : X2 = X1 := (r4.congr (fun q j _ _ => hG q j)).ext hP p4
  rw [hXX] at r1
  have hsub := keeps_mono hab (F := F) (ks := List.range m)
  refine ⟨hT0.len, hT0.pass, X1, T1, K1, Y, T2, K2, T3, K3, _, _, p1, p4.len, r1, q1, q4.len, hRa, hRb, fun x hx => ?_, ?_, ?_⟩
  · obtain ⟨q, hq, rfl⟩ := List.mem_map.1 hx
    exact List.mem_map.2 ⟨q, hsub q hq, rfl⟩
  · rw [adrs_len, adrs_len]
    exact (keeps_nodup hnd).length_le_of_subset (fun q hq => hsub q hq)
  · rw [adrs_len]; omega

end Go.Proofs.Ythdhilmmcabnlaa
