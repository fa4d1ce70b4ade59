/- The contract of Copy at a memory: a new memory of the same cells. -/
import Derived.Test.YthdhilmmcabnlaaCellsB
namespace Go.Proofs.Ythdhilmmcabnlaa
set_option linter.unusedSimpArgs false
set_option linter.unusedVariables false
open Go.RowKit

end Go.Proofs.Ythdhilmmcabnlaa
