/- The chapter's example of layer 1 and the comparison of one number with the reference: both return true. -/
import Derived.Test.YtomiibhdafcmhaaWord
namespace Go.Proofs.Ytomiibhdafcmhaa
open Go.RowKit

set_option maxHeartbeats 1000000 in
theorem known1_any (w : World) :
    Calls Try.prog 8 #[] w fun e w' => e = .returned (.bool true) ∧ Below w.heap.size w w' := by
  go_enter Try.func8, Try.ntmps8
  go_wp2
  go_ret
  exact ⟨rfl, by go_grown⟩

set_option maxHeartbeats 2000000 in
theorem asks1_yes (n : Int) (w : World) (h1 : 1 ≤ n) (h2 : n ≤ 1099511627776) :
    Calls Try.prog 14 #[.int .i64 n] w fun e w' => e = .returned (.bool true) ∧ Below w.heap.size w w' := by
  go_enter Try.func14, Try.ntmps14
  go_wp2
  go_ret
  exact ⟨ret_bool (by simp), by go_grown⟩

set_option maxHeartbeats 2000000 in
theorem asks1_low (n : Int) (w : World) (h : n < 1) :
    Calls Try.prog 14 #[.int .i64 n] w fun e w' => e = .returned (.bool true) ∧ Below w.heap.size w w' := by
  go_enter Try.func14, Try.ntmps14
  go_wp2
  go_ret
  exact ⟨ret_bool (by simp), by go_grown⟩

set_option maxHeartbeats 2000000 in
theorem asks1_high (n : Int) (w : World) (h : 1099511627776 < n) :
    Calls Try.prog 14 #[.int .i64 n] w fun e w' => e = .returned (.bool true) ∧ Below w.heap.size w w' := by
  go_enter Try.func14, Try.ntmps14
  go_wp2
  go_ret
  exact ⟨ret_bool (by simp), by go_grown⟩

theorem asks1_any (n : Int) (w : World) :
    Calls Try.prog 14 #[.int .i64 n] w fun e w' => e = .returned (.bool true) ∧ Below w.heap.size w w' := by
  by_cases h1 : n < 1
  · exact asks1_low n w h1
  · by_cases h2 : n ≤ 1099511627776
    · exact asks1_yes n w (by omega) h2
    · exact asks1_high n w (by omega)
end Go.Proofs.Ytomiibhdafcmhaa
