/- The environment of this seat.
   No condition. -/
import Derived.Test.YtndhbaidibioeaaV23
import Derived.Test.YtndhbaidibioeaaProg
namespace Go.Proofs.Ytndhbaidibioeaa.V
open Go
set_option maxRecDepth 100000
set_option linter.unusedVariables false
noncomputable def E1 : Env := env1N Try.prog [(155, [.int .i64, .bool])] []
theorem E1_ok : SideOK E1 := env1N_ok (n := 139) (by kernel_rfl) (by kernel_rfl) (by kernel_rfl) (by kernel_rfl) (by kernel_rfl)
theorem E1_fr : FramedE E1 := env1N_framed _ _ _
end Go.Proofs.Ytndhbaidibioeaa.V
