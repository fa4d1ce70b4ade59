/- The contracts of package word and of the references of layer 1: each call returns the word, or what the word tells, for numbers in their kinds' ranges. -/
import Derived.Test.YtcellcjojfbajaaBase
import Derived.WalkKit
import Derived.WalkSpells
import Derived.WalkLawsBesides
import Derived.Handy
namespace Go.Proofs.Ytcellcjojfbajaa
set_option linter.unusedSimpArgs false
set_option linter.unusedVariables false
open Go.RowKit

def wordOf (k v : Int) : Int := (v + 2147483648) * 256 + k + 1
def wis (n : Int) : Bool := decide (1 ≤ n ∧ n ≤ 1099511627776)
def wk (n : Int) : Int := if 1 ≤ n ∧ n ≤ 1099511627776 then (n - 1) % 256 else 0
def wv (n : Int) : Int := if 1 ≤ n ∧ n ≤ 1099511627776 then (n - 1) / 256 - 2147483648 else 0

theorem wis_yes {n : Int} (h1 : 1 ≤ n) (h2 : n ≤ 1099511627776) : wis n = true := by simp [wis, h1, h2]
theorem wk_yes {n : Int} (h1 : 1 ≤ n) (h2 : n ≤ 1099511627776) : wk n = (n - 1) % 256 := by simp [wk, h1, h2]
theorem wv_yes {n : Int} (h1 : 1 ≤ n) (h2 : n ≤ 1099511627776) : wv n = (n - 1) / 256 - 2147483648 := by simp [wv, h1, h2]
theorem wis_no {n : Int} (h : n < 1 ∨ 1099511627776 < n) : wis n = false := by simp only [wis, decide_eq_false_iff_not]; omega
theorem wk_no {n : Int} (h : n < 1 ∨ 1099511627776 < n) : wk n = 0 := by simp only [wk]; rw [if_neg (by omega)]
theorem wv_no {n : Int} (h : n < 1 ∨ 1099511627776 < n) : wv n = 0 := by simp only [wv]; rw [if_neg (by omega)]
theorem wk_rng (n : Int) : 0 ≤ wk n ∧ wk n ≤ 255 := by unfold wk; split <;> omega
theorem wv_rng (n : Int) : -2147483648 ≤ wv n ∧ wv n ≤ 2147483647 := by unfold wv; split <;> omega
theorem word_rng {k v : Int} (h1 : 0 ≤ k) (h2 : k ≤ 255) (h3 : -2147483648 ≤ v) (h4 : v ≤ 2147483647) : 1 ≤ wordOf k v ∧ wordOf k v ≤ 1099511627776 := by unfold wordOf; omega
theorem wk_word {k v : Int} (h1 : 0 ≤ k) (h2 : k ≤ 255) (h3 : -2147483648 ≤ v) (h4 : v ≤ 2147483647) : wk (wordOf k v) = k := by
  have := word_rng h1 h2 h3 h4
  rw [wk_yes this.1 this.2]; unfold wordOf; omega
theorem wv_word {k v : Int} (h1 : 0 ≤ k) (h2 : k ≤ 255) (h3 : -2147483648 ≤ v) (h4 : v ≤ 2147483647) : wv (wordOf k v) = v := by
  have := word_rng h1 h2 h3 h4
  rw [wv_yes this.1 this.2]; unfold wordOf; omega
theorem word_of {n : Int} (h1 : 1 ≤ n) (h2 : n ≤ 1099511627776) : wordOf (wk n) (wv n) = n := by
  rw [wk_yes h1 h2, wv_yes h1 h2]; unfold wordOf; omega

set_option maxHeartbeats 400000 in
theorem pack_any (k v : Int) (w : World) (h1 : 0 ≤ k) (h2 : k ≤ 255) (h3 : -2147483648 ≤ v) (h4 : v ≤ 2147483647) :
    Calls Try.prog 53 #[.int .u8 k, .int .i32 v] w fun e w' => e = .returned (.int .i64 (wordOf k v)) ∧ w = w' := by
  go_enter Try.func53, Try.ntmps53
  go_wp2
  go_ret
  exact ⟨rfl, rfl⟩

set_option maxHeartbeats 400000 in
theorem wOp_any (k v : Int) (w : World) (h1 : 0 ≤ k) (h2 : k ≤ 255) (h3 : -2147483648 ≤ v) (h4 : v ≤ 2147483647) :
    Calls Try.prog 35 #[.agg #[.int .u8 k, .int .i32 v]] w fun e w' => e = .returned (.int .i64 (wordOf k v)) ∧ Below w.heap.size w w' := by
  go_enter Try.func35, Try.ntmps35
  go_wp2_with (go_at_call 53; refine (pack_any _ _ _ h1 h2 h3 h4).mono ?_; rintro e w' ⟨rfl, rfl⟩)
  go_ret
  exact ⟨rfl, by go_grown⟩

set_option maxHeartbeats 400000 in
theorem rOp_any (k v : Int) (w : World) (h1 : 0 ≤ k) (h2 : k ≤ 255) (h3 : -2147483648 ≤ v) (h4 : v ≤ 2147483647) :
    Calls Try.prog 19 #[.agg #[.int .u8 k, .int .i32 v]] w fun e w' => e = .returned (.int .i64 (wordOf k v)) ∧ Below w.heap.size w w' := by
  go_enter Try.func19, Try.ntmps19
  go_wp2
  go_ret
  exact ⟨ret_int (by unfold wordOf; omega), by go_grown⟩

set_option maxHeartbeats 400000 in
theorem rRes_any (k v : Int) (w : World) (h1 : 0 ≤ k) (h2 : k ≤ 255) (h3 : -2147483648 ≤ v) (h4 : v ≤ 2147483647) :
    Calls Try.prog 14 #[.agg #[.int .u8 k, .int .i32 v]] w fun e w' => e = .returned (.int .i64 (wordOf k v)) ∧ Below w.heap.size w w' := by
  go_enter Try.func14, Try.ntmps14
  go_wp2
  go_ret
  exact ⟨ret_int (by unfold wordOf; omega), by go_grown⟩

set_option maxHeartbeats 400000 in
theorem unpackRes_any (n : Int) (w : World) :
    Calls Try.prog 79 #[.int .i64 n, .func (.func 80) #[] #[]] w fun e w' => e = .returned (.tuple #[.agg #[.int .u8 (wk n), .int .i32 (wv n)], .bool (wis n)]) ∧ Below w.heap.size w w' := by
  by_cases h : 1 ≤ n ∧ n ≤ 1099511627776
  · rw [wk_yes h.1 h.2, wv_yes h.1 h.2, wis_yes h.1 h.2]
    obtain ⟨h1, h2⟩ := h
    go_enter Try.func79, Try.ntmps79
    go_wp2
    go_returns
    exact ⟨rfl, by go_grown⟩
  · have h' : n < 1 ∨ 1099511627776 < n := by omega
    rw [wk_no h', wv_no h', wis_no h']
    clear h
    rcases h' with h | h
    all_goals
      go_enter Try.func79, Try.ntmps79
      go_wp2
      go_returns
      exact ⟨rfl, by go_grown⟩

set_option maxHeartbeats 400000 in
theorem wOfRes_any (n : Int) (w : World) :
    Calls Try.prog 76 #[.int .i64 n] w fun e w' => e = .returned (.tuple #[.agg #[.int .u8 (wk n), .int .i32 (wv n)], .bool (wis n)]) ∧ Below w.heap.size w w' := by
  go_enter Try.func76, Try.ntmps76
  go_wp2_with fail
  refine (unpackRes_any _ _).mono ?_
  rintro e w1 ⟨rfl, hb⟩
  obtain ⟨hc, hf⟩ := bcell hb
  go_wp2
  refine bodyPost_ret (v := .tuple #[.agg #[.int .u8 (wk n), .int .i32 (wv n)], .bool (wis n)]) (by simp [results, Try.results76, go_sem, hc]) rfl ⟨rfl, ?_⟩
  exact (((Below.refl _ _).alloc (Nat.le_refl _) _).trans (hb.mono (by simp))).setCell (by simp) _ |>.setCell (by simp) _

set_option maxHeartbeats 400000 in
theorem rOfOp_any (n : Int) (w : World) :
    Calls Try.prog 70 #[.int .i64 n] w fun e w' => e = .returned (.tuple #[.agg #[.int .u8 (wk n), .int .i32 (wv n)], .bool (wis n)]) ∧ Below w.heap.size w w' := by
  by_cases h : 1 ≤ n ∧ n ≤ 1099511627776
  · rw [wk_yes h.1 h.2, wv_yes h.1 h.2, wis_yes h.1 h.2]
    obtain ⟨h1, h2⟩ := h
    go_enter Try.func70, Try.ntmps70
    go_wp2
    go_returns
    exact ⟨rfl, by go_grown⟩
  · have h' : n < 1 ∨ 1099511627776 < n := by omega
    rw [wk_no h', wv_no h', wis_no h']
    clear h
    rcases h' with h | h
    all_goals
      go_enter Try.func70, Try.ntmps70
      go_wp2
      go_returns
      exact ⟨rfl, by go_grown⟩

set_option maxHeartbeats 400000 in
theorem rOfRes_any (n : Int) (w : World) :
    Calls Try.prog 49 #[.int .i64 n] w fun e w' => e = .returned (.tuple #[.agg #[.int .u8 (wk n), .int .i32 (wv n)], .bool (wis n)]) ∧ Below w.heap.size w w' := by
  go_enter Try.func49, Try.ntmps49
  go_wp2_with fail
  refine (rOfOp_any _ _).mono ?_
  rintro e w1 ⟨rfl, hb⟩
  obtain ⟨hc, hf⟩ := bcell hb
  have hz : w.heap.size < w1.heap.size := by have := hb.size; simp at this; omega
  go_wp2
  refine bodyPost_ret (v := .tuple #[.agg #[.int .u8 (wk n), .int .i32 (wv n)], .bool (wis n)]) (by simp [results, Try.results49, go_sem, hc, hz]) rfl ⟨rfl, ?_⟩
  exact (((((Below.refl _ _).alloc (Nat.le_refl _) _).trans (hb.mono (by simp))).setCell (by simp) _).setCell (by simp) _).alloc (by simp; omega) _


end Go.Proofs.Ytcellcjojfbajaa
