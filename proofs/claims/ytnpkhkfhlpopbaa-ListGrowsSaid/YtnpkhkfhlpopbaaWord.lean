/- The contracts of package word and of the references of layer 1: each call returns the word, or what the word tells, for numbers in their kinds' ranges. -/
import Derived.Test.YtnpkhkfhlpopbaaBase
import Derived.WalkKit
import Derived.WalkSpells
import Derived.WalkLawsBesides
import Derived.Handy
namespace Go.Proofs.Ytnpkhkfhlpopbaa
set_option linter.unusedSimpArgs false
set_option linter.unusedVariables false
open Go.RowKit

def wordOf (k v : Int) : Int := (v + 2147483648) * 256 + k + 1
def wis (n : Int) : Bool := decide (1 ≤ n ∧ n ≤ 1099511627776)
def wk (n : Int) : Int := if 1 ≤ n ∧ n ≤ 1099511627776 then (n - 1) % 256 else 0
def wv (n : Int) : Int := if 1 ≤ n ∧ n ≤ 1099511627776 then (n - 1) / 256 - 2147483648 else 0

theorem wis_yes {n : Int} (h1 : 1 ≤ n) (h2 : n ≤ 1099511627776) : wis n = true := by simp [wis, h1, h2]
theorem wk_yes {n : Int} (h1 : 1 ≤ n) (h2 : n ≤ 1099511627776) : wk n = (n - 1) % 256 := by simp [wk, h1, h2]
theorem wv_yes {n : Int} (h1 : 1 ≤ n) (h2 : n ≤ 1099511627776) : wv n = (n - 1) / 256 - 2147483648 := by simp [wv, h1, h2]
theorem wis_no {n : Int} (h : n < 1 ∨ 1099511627776 < n) : wis n = false := by simp only [wis, decide_eq_false_iff_not]; omega
theorem wk_no {n : Int} (h : n < 1 ∨ 1099511627776 < n) : wk n = 0 := by simp only [wk]; rw [if_neg (by omega)]
theorem wv_no {n : Int} (h : n < 1 ∨ 1099511627776 < n) : wv n = 0 := by simp only [wv]; rw [if_neg (by omega)]
theorem wk_rng (n : Int) : 0 ≤ wk n ∧ wk n ≤ 255 := by unfold wk; split <;> omega
theorem wv_rng (n : Int) : -2147483648 ≤ wv n ∧ wv n ≤ 2147483647 := by unfold wv; split <;> omega
theorem word_rng {k v : Int} (h1 : 0 ≤ k) (h2 : k ≤ 255) (h3 : -2147483648 ≤ v) (h4 : v ≤ 2147483647) : 1 ≤ wordOf k v ∧ wordOf k v ≤ 1099511627776 := by unfold wordOf; omega
theorem wk_word {k v : Int} (h1 : 0 ≤ k) (h2 : k ≤ 255) (h3 : -2147483648 ≤ v) (h4 : v ≤ 2147483647) : wk (wordOf k v) = k := by
  have := word_rng h1 h2 h3 h4
  rw [wk_yes this.1 this.2]; unfold wordOf; omega
theorem wv_word {k v : Int} (h1 : 0 ≤ k) (h2 : k ≤ 255) (h3 : -2147483648 ≤ v) (h4 : v ≤ 2147483647) : wv (wordOf k v) = v := by
  have := word_rng h1 h2 h3 h4
  rw [wv_yes this.1 this.2]; unfold wordOf; omega
theorem word_of {n : Int} (h1 : 1 ≤ n) (h2 : n ≤ 1099511627776) : wordOf (wk n) (wv n) = n := by
  rw [wk_yes h1 h2, wv_yes h1 h2]; unfold wordOf; omega

set_option maxHeartbeats 400000 in
theorem wAsks_any (n : Int) (w : World) :
    Calls Try.prog 58 #[.int .i64 n] w fun e w' => e = .returned (.bool (decide (0 < n))) ∧ w = w' := by
  go_enter Try.func58, Try.ntmps58
  go_wp2
  go_ret
  exact ⟨rfl, rfl⟩


end Go.Proofs.Ytnpkhkfhlpopbaa
