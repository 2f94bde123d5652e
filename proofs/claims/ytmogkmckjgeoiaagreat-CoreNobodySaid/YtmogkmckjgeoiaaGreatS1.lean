/- The environment of this seat.
   No condition. -/
import Derived.Test.YtmogkmckjgeoiaaGreatV23
import Derived.Test.YtmogkmckjgeoiaaGreatProg
namespace Go.Proofs.YtmogkmckjgeoiaaGreat.V
open Go
set_option maxRecDepth 100000
set_option linter.unusedVariables false
noncomputable def E1 : Env := env1N Tryz.prog [(23, [.str, .str]), (34, [.int .i64, .int .i64, .int .i64])] []
theorem E1_ok : SideOK E1 := env1N_ok (n := 262) (by kernel_rfl) (by kernel_rfl) (by kernel_rfl) (by kernel_rfl) (by kernel_rfl)
theorem E1_fr : FramedE E1 := env1N_framed _ _ _
end Go.Proofs.YtmogkmckjgeoiaaGreat.V
