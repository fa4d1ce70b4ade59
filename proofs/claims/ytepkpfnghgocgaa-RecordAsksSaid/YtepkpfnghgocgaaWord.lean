/- The contracts of package word and of the references of layer 1: each call returns the word, or what the word tells, for numbers in their kinds' ranges. -/
import Derived.Test.YtepkpfnghgocgaaBase
import Derived.WalkKit
import Derived.WalkSpells
import Derived.WalkLawsBesides
import Derived.Handy
namespace Go.Proofs.Ytepkpfnghgocgaa
set_option linter.unusedSimpArgs false
set_option linter.unusedVariables false
open Go.RowKit

def wordOf (k v : Int) : Int := (v + 2147483648) * 256 + k + 1
def wis (n : Int) : Bool := decide (1 ≤ n ∧ n ≤ 1099511627776)
def wk (n : Int) : Int := if 1 ≤ n ∧ n ≤ 1099511627776 then (n - 1) % 256 else 0
def wv (n : Int) : Int := if 1 ≤ n ∧ n ≤ 1099511627776 then (n - 1) / 256 - 2147483648 else 0

theorem wis_yes {n : Int} (h1 : 1 ≤ n) (h2 : n ≤ 1099511627776) : wis n = true := by simp [wis, h1, h2]
theorem wk_yes {n : Int} (h1 : 1 ≤ n) (h2 : n ≤ 1099511627776) : wk n = (n - 1) % 256 := by simp [wk, h1, h2]
theorem wv_yes {n : Int} (h1 : 1 ≤ n) (h2 : n ≤ 1099511627776) : wv n = (n - 1) / 256 - 2147483648 := by simp [wv, h1, h2]
theorem wis_no {n : Int} (h : n < 1 ∨ 1099511627776 < n) : wis n = false := by simp only [wis, decide_eq_false_iff_not]; omega
theorem wk_no {n : Int} (h : n < 1 ∨ 1099511627776 < n) : wk n = 0 := by simp only [wk]; rw [if_neg (by omega)]
theorem wv_no {n : Int} (h : n < 1 ∨ 1099511627776 < n) : wv n = 0 := by simp only [wv]; rw [if_neg (by omega)]
theorem wk_rng (n : Int) : 0 ≤ wk n ∧ wk n ≤ 255 := by unfold wk; split <;> omega
theorem wv_rng (n : Int) : -2147483648 ≤ wv n ∧ wv n ≤ 2147483647 := by unfold wv; split <;> omega
theorem word_rng {k v : Int} (h1 : 0 ≤ k) (h2 : k ≤ 255) (h3 : -2147483648 ≤ v) (h4 : v ≤ 2147483647) : 1 ≤ wordOf k v ∧ wordOf k v ≤ 1099511627776 := by unfold wordOf; omega
theorem wk_word {k v : Int} (h1 : 0 ≤ k) (h2 : k ≤ 255) (h3 : -2147483648 ≤ v) (h4 : v ≤ 2147483647) : wk (wordOf k v) = k := by
  have := word_rng h1 h2 h3 h4
  rw [wk_yes this.1 this.2]; unfold wordOf; omega
theorem wv_word {k v : Int} (h1 : 0 ≤ k) (h2 : k ≤ 255) (h3 : -2147483648 ≤ v) (h4 : v ≤ 2147483647) : wv (wordOf k v) = v := by
  have := word_rng h1 h2 h3 h4
  rw [wv_yes this.1 this.2]; unfold wordOf; omega
theorem word_of {n : Int} (h1 : 1 ≤ n) (h2 : n ≤ 1099511627776) : wordOf (wk n) (wv n) = n := by
  rw [wk_yes h1 h2, wv_yes h1 h2]; unfold wordOf; omega

set_option maxHeartbeats 400000 in
theorem pack_any (k v : Int) (w : World) (h1 : 0 ≤ k) (h2 : k ≤ 255) (h3 : -2147483648 ≤ v) (h4 : v ≤ 2147483647) :
    Calls Try.prog 45 #[.int .u8 k, .int .i32 v] w fun e w' => e = .returned (.int .i64 (wordOf k v)) ∧ w = w' := by
  go_enter Try.func45, Try.ntmps45
  go_wp2
  go_ret
  exact ⟨rfl, rfl⟩

set_option maxHeartbeats 400000 in
theorem wOp_any (k v : Int) (w : World) (h1 : 0 ≤ k) (h2 : k ≤ 255) (h3 : -2147483648 ≤ v) (h4 : v ≤ 2147483647) :
    Calls Try.prog 33 #[.agg #[.int .u8 k, .int .i32 v]] w fun e w' => e = .returned (.int .i64 (wordOf k v)) ∧ Below w.heap.size w w' := by
  go_enter Try.func33, Try.ntmps33
  go_wp2_with (go_at_call 45; refine (pack_any _ _ _ h1 h2 h3 h4).mono ?_; rintro e w' ⟨rfl, rfl⟩)
  go_ret
  exact ⟨rfl, by go_grown⟩

set_option maxHeartbeats 400000 in
theorem wRes_any (k v : Int) (w : World) (h1 : 0 ≤ k) (h2 : k ≤ 255) (h3 : -2147483648 ≤ v) (h4 : v ≤ 2147483647) :
    Calls Try.prog 32 #[.agg #[.int .u8 k, .int .i32 v]] w fun e w' => e = .returned (.int .i64 (wordOf k v)) ∧ Below w.heap.size w w' := by
  go_enter Try.func32, Try.ntmps32
  go_wp2_with (go_at_call 45; refine (pack_any _ _ _ h1 h2 h3 h4).mono ?_; rintro e w' ⟨rfl, rfl⟩)
  go_ret
  exact ⟨rfl, by go_grown⟩

set_option maxHeartbeats 400000 in
theorem unpackRes_any (n : Int) (w : World) :
    Calls Try.prog 58 #[.int .i64 n, .func (.func 59) #[] #[]] w fun e w' => e = .returned (.tuple #[.agg #[.int .u8 (wk n), .int .i32 (wv n)], .bool (wis n)]) ∧ Below w.heap.size w w' := by
  by_cases h : 1 ≤ n ∧ n ≤ 1099511627776
  · rw [wk_yes h.1 h.2, wv_yes h.1 h.2, wis_yes h.1 h.2]
    obtain ⟨h1, h2⟩ := h
    go_enter Try.func58, Try.ntmps58
    go_wp2
    go_returns
    exact ⟨rfl, by go_grown⟩
  · have h' : n < 1 ∨ 1099511627776 < n := by omega
    rw [wk_no h', wv_no h', wis_no h']
    clear h
    rcases h' with h | h
    all_goals
      go_enter Try.func58, Try.ntmps58
      go_wp2
      go_returns
      exact ⟨rfl, by go_grown⟩

set_option maxHeartbeats 400000 in
theorem wOfRes_any (n : Int) (w : World) :
    Calls Try.prog 46 #[.int .i64 n] w fun e w' => e = .returned (.tuple #[.agg #[.int .u8 (wk n), .int .i32 (wv n)], .bool (wis n)]) ∧ Below w.heap.size w w' := by
  go_enter Try.func46, Try.ntmps46
  go_wp2_with fail
  refine (unpackRes_any _ _).mono ?_
  rintro e w1 ⟨rfl, hb⟩
  obtain ⟨hc, hf⟩ := bcell hb
  go_wp2
  refine bodyPost_ret (v := .tuple #[.agg #[.int .u8 (wk n), .int .i32 (wv n)], .bool (wis n)]) (by simp [results, Try.results46, go_sem, hc]) rfl ⟨rfl, ?_⟩
  exact (((Below.refl _ _).alloc (Nat.le_refl _) _).trans (hb.mono (by simp))).setCell (by simp) _ |>.setCell (by simp) _

set_option maxHeartbeats 400000 in
theorem wAsks_any (n : Int) (w : World) :
    Calls Try.prog 47 #[.int .i64 n] w fun e w' => e = .returned (.bool (decide (0 < n))) ∧ w = w' := by
  go_enter Try.func47, Try.ntmps47
  go_wp2
  go_ret
  exact ⟨rfl, rfl⟩


end Go.Proofs.Ytepkpfnghgocgaa
