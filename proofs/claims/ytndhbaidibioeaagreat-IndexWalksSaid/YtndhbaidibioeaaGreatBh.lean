/- What a deletion tells, and leaves.
   No condition: these are laws of plain functions. -/
import Derived.Test.YtndhbaidibioeaaGreatBg
namespace Go.Proofs.YtndhbaidibioeaaGreat.V
open Go
set_option linter.unusedVariables false
set_option linter.unusedSimpArgs false
set_option maxRecDepth 100000

end Go.Proofs.YtndhbaidibioeaaGreat.V
