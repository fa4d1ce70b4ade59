/- The contract of Copy at a memory: a new memory of the same cells. -/
import Derived.Test.YtnpkhkfhlpopbaaCellsB
namespace Go.Proofs.Ytnpkhkfhlpopbaa
set_option linter.unusedSimpArgs false
set_option linter.unusedVariables false
open Go.RowKit

end Go.Proofs.Ytnpkhkfhlpopbaa
