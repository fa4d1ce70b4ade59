/- The places of package owner; who asks. -/
import Derived.Test.YtcellcjojfbajaaOwBa
import Derived.Test.YtcellcjojfbajaaOwBb
import Derived.Test.YtcellcjojfbajaaOwBc
import Derived.Test.YtcellcjojfbajaaThr2
import Derived.Deep.Cut
import Derived.Laws.EntriesVeiled
namespace Go.Proofs.Ytcellcjojfbajaa
set_option linter.unusedSimpArgs false
set_option linter.unusedVariables false
open Go.RowKit
open Go.ChangeShapes Go.WideShapes Go.ChangeAt

set_option maxRecDepth 100000 in
set_option maxHeartbeats 4000000 in
theorem oPlaces_any (w : World) (x : Nat) :
    Calls Try.prog 37 #[.pointer (some ⟨x, 0, none⟩)] w fun e w' => e = .returned (.agg #[.nilFunc, .func (.func 54) #[.pointer (some ⟨x, 0, none⟩)] #[], .func (.func 55) #[.pointer (some ⟨x, 0, none⟩)] #[], .func (.func 56) #[.pointer (some ⟨x, 0, none⟩)] #[], .func (.func 57) #[.pointer (some ⟨x, 0, none⟩)] #[], .func (.func 58) #[.pointer (some ⟨x, 0, none⟩)] #[], .func (.func 59) #[.pointer (some ⟨x, 0, none⟩)] #[], .func (.func 60) #[.pointer (some ⟨x, 0, none⟩)] #[], .func (.func 61) #[.pointer (some ⟨x, 0, none⟩)] #[], .func (.func 62) #[.pointer (some ⟨x, 0, none⟩)] #[], .func (.func 63) #[.pointer (some ⟨x, 0, none⟩)] #[], .func (.func 64) #[.pointer (some ⟨x, 0, none⟩)] #[], .func (.func 65) #[.pointer (some ⟨x, 0, none⟩)] #[], .func (.func 66) #[.pointer (some ⟨x, 0, none⟩)] #[], .func (.func 67) #[.pointer (some ⟨x, 0, none⟩)] #[], .func (.func 68) #[.pointer (some ⟨x, 0, none⟩)] #[], .func (.func 69) #[.pointer (some ⟨x, 0, none⟩)] #[]]) ∧ Below w.heap.size w w' := by
  have q1 : ∀ (a : Addr) (fn : Fn) (xs ys : Array Value) (u : World), (store a (.func fn xs ys)).run Try.prog u = stored Try.prog u a (.func fn xs ys) .plain := fun a fn xs ys u => run_store Try.prog u a _ .plain rfl
  have q2 : ∀ (a : Addr) (u : World), (store a .nilFunc).run Try.prog u = stored Try.prog u a .nilFunc .plain := fun a u => run_store Try.prog u a _ .plain rfl
  go_enter Try.func37, Try.ntmps37
  go_wp2
  refine bodyPost_ret (v := .agg #[.nilFunc, .func (.func 54) #[.pointer (some ⟨x, 0, none⟩)] #[], .func (.func 55) #[.pointer (some ⟨x, 0, none⟩)] #[], .func (.func 56) #[.pointer (some ⟨x, 0, none⟩)] #[], .func (.func 57) #[.pointer (some ⟨x, 0, none⟩)] #[], .func (.func 58) #[.pointer (some ⟨x, 0, none⟩)] #[], .func (.func 59) #[.pointer (some ⟨x, 0, none⟩)] #[], .func (.func 60) #[.pointer (some ⟨x, 0, none⟩)] #[], .func (.func 61) #[.pointer (some ⟨x, 0, none⟩)] #[], .func (.func 62) #[.pointer (some ⟨x, 0, none⟩)] #[], .func (.func 63) #[.pointer (some ⟨x, 0, none⟩)] #[], .func (.func 64) #[.pointer (some ⟨x, 0, none⟩)] #[], .func (.func 65) #[.pointer (some ⟨x, 0, none⟩)] #[], .func (.func 66) #[.pointer (some ⟨x, 0, none⟩)] #[], .func (.func 67) #[.pointer (some ⟨x, 0, none⟩)] #[], .func (.func 68) #[.pointer (some ⟨x, 0, none⟩)] #[], .func (.func 69) #[.pointer (some ⟨x, 0, none⟩)] #[]]) (by simp [results, Try.results37, go_sem]) rfl ⟨rfl, ?_⟩
  go_grown

end Go.Proofs.Ytcellcjojfbajaa
