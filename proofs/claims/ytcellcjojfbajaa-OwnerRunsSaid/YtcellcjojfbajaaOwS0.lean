/- Small facts for the steps of who asks. -/
import Derived.Test.YtcellcjojfbajaaRef15
import Derived.Test.YtcellcjojfbajaaRef15L
import Derived.Test.YtcellcjojfbajaaOwI
import Derived.Test.YtcellcjojfbajaaOwK
import Derived.Test.YtcellcjojfbajaaSame15
import Derived.Test.YtcellcjojfbajaaRecMem
import Derived.Test.YtcellcjojfbajaaRecCells
import Derived.Deep.RegionHeld3
import Derived.Deep.RegionWith
import Derived.BigQuiet
namespace Go.Proofs.Ytcellcjojfbajaa
set_option linter.unusedSimpArgs false
set_option linter.unusedVariables false
open Go.RowKit
open Go.ChangeShapes Go.WideShapes Go.ChangeAt

theorem bmore {W a b : World} (h1 : Below W.heap.size W a) (h2 : Below a.heap.size a b) : Below W.heap.size W b := h1.trans (h2.mono h1.size)
theorem Same64_self (u v : Value) (xs : List Int) (w : World) (hu : Row w u xs) (hv : Row w v xs) (n1 : xs.length ≤ 1000000) :
    Calls Try.prog 23 #[u, v] w fun e w' => e = .returned (.bool true) ∧ Below w.heap.size w w' :=
  (Same64_any u v xs xs w hu hv n1).mono fun e w' ⟨h1, n, h2⟩ => ⟨by rw [h1, decide_eq_true rfl], h2 ▸ below_drewN (Below.refl _ _) n⟩

end Go.Proofs.Ytcellcjojfbajaa
