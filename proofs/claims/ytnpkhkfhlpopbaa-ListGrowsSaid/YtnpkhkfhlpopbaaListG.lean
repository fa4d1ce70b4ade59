/- Reach of package list. -/
import Derived.Test.YtnpkhkfhlpopbaaListF
namespace Go.Proofs.Ytnpkhkfhlpopbaa
set_option linter.unusedSimpArgs false
set_option linter.unusedVariables false
open Go.RowKit
open Go.ChangeShapes Go.WideShapes Go.ChangeAt

theorem reachF_chn (X : List Int) (hl : X.length ≤ 1000) : ∀ (f : Nat) (acc acc2 : List Int) (a : Int), (∀ x, x ∈ acc ↔ x ∈ acc2) →
    reachF X f acc a = if ∀ p ∈ chnF X f acc2 a, p.2 = true then (acc ++ (chnF X f acc2 a).map (·.1), true) else ([], false)
  | 0, acc, acc2, a, _ => by simp [reachF, chnF]
  | f + 1, acc, acc2, a, h => by
    obtain ⟨L, hL⟩ : ∃ L, chnF X (f + 1) acc2 a = L := ⟨_, rfl⟩
    rw [hL]
    simp only [chnF] at hL
    simp only [reachF]
    by_cases h0 : a = 0
    · rw [if_pos h0] at hL
      subst hL
      rw [if_pos h0, if_pos (by simp)]; simp
    · rw [if_neg h0] at hL
      rw [if_neg h0]
      by_cases hn : nthIs X.length a = true
      · have hr := nthIs_rng hl hn
        rw [if_neg (by omega), if_neg (by rw [hn]; decide)]
        by_cases hm : a ∈ acc
        · rw [if_neg (fun h2 => h2.2 ((h a).1 hm))] at hL
          subst hL
          rw [if_pos hm, if_neg (by simp)]
        · rw [if_pos ⟨hn, fun h2 => hm ((h a).2 h2)⟩] at hL
          subst hL
          rw [if_neg hm]
          rw [reachF_chn X hl f (acc ++ [a]) (a :: acc2) (recAt X a 3) (fun x => by rw [List.mem_append, List.mem_singleton, List.mem_cons, h x]; exact or_comm)]
          by_cases hc : ∀ p ∈ chnF X f (a :: acc2) (recAt X a 3), p.2 = true
          · rw [if_pos hc, if_pos (fun p hp => (List.mem_cons.1 hp).elim (fun e => by rw [e]) (hc p))]
            simp
          · rw [if_neg hc, if_neg (fun h2 => hc fun p hp => h2 p (List.mem_cons_of_mem _ hp))]
      · have hn' : nthIs X.length a = false := by simpa using hn
        rw [if_neg (fun h2 => hn h2.1)] at hL
        subst hL
        rw [if_neg (show ¬ ∀ p ∈ [(a, false)], p.2 = true by simp)]
        split
        · rfl
        · simp
theorem reachC_eq (X : List Int) (hl : X.length ≤ 1000) : reachC X = reachL X := by
  unfold reachL reachC chnL
  rw [reachF_chn X hl 1002 [] [] (cellAt X 1) (fun _ => Iff.rfl)]
  rw [List.nil_append]
set_option maxRecDepth 100000 in
theorem Reach_f (W0 w : World) (b : Nat) (g : Option Nat) (N st : Int) (X : List Int) (h : MS W0 w b g N X st) :
    Calls Try.prog 15 #[.pointer (some ⟨b, 0, none⟩)] w fun e w' => ∃ u, e = .returned (.tuple #[u, .bool (reachL X).2]) ∧ IRow w' u (reachL X).1 ∧ (∀ k, u.ownBlock = some k → w.heap.size ≤ k) ∧ Below w.heap.size w w' := by
  have hl := h.len
  rw [← reachC_eq X hl]
  go_enter Try.func15, Try.ntmps15
  go_wp2_with fail
  refine (look_f W0 w b g N st X h).mono ?_
  rintro e w1 ⟨ao, cap, M, rfl, row1, map1, hb1⟩
  go_wp2_with fail
  refine (reachV_f w1 ao cap M X hl row1.sl map1).mono ?_
  rintro e w2 ⟨u, rfl, hi, ho, hb2⟩
  go_wp2
  refine bodyPost_ret (v := .tuple #[u, .bool (reachC X).2]) (by simp [results, Try.results15, go_sem]) rfl ?_
  exact ⟨u, rfl, hi, fun k e => Nat.le_trans hb1.size (ho k e), hb1.trans (hb2.mono hb1.size)⟩

end Go.Proofs.Ytnpkhkfhlpopbaa
