/- What a map has at a key.
   No condition: these are laws of plain functions. -/
import Derived.Test.YtfgoccdjbgecfaaHq
namespace Go.Proofs.Ytfgoccdjbgecfaa.V
open Go
set_option linter.unusedVariables false
set_option linter.unusedSimpArgs false

end Go.Proofs.Ytfgoccdjbgecfaa.V
