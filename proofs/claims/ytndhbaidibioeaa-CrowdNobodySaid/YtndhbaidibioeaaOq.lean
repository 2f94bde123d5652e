/- What the laws of this seat are given.
   No condition: these are laws of this program. -/
import Derived.Test.YtndhbaidibioeaaPT
import Derived.WalkKit
import Derived.ProofKit
import Derived.OpenShut
import Derived.ShutString
import Derived.ChangeOld
import Derived.Below
import Derived.SizedLaws
namespace Go.Proofs.Ytndhbaidibioeaa.V
open Go
set_option linter.unusedVariables false
set_option linter.unusedSimpArgs false
set_option maxRecDepth 100000
theorem u_3 : Try.prog.underlying 3 = some (.int .i64) := by kernel_rfl
theorem co_3 : Try.prog.cellsOf 3 = 1 := by kernel_rfl
theorem u_4 : Try.prog.underlying 4 = some (.bool) := by kernel_rfl
theorem co_4 : Try.prog.cellsOf 4 = 1 := by kernel_rfl
section
variable {H : Type} {enc : TypeId × Value → H} {W : World} {spare : Nat → Bool} {held : Bool}

end
end Go.Proofs.Ytndhbaidibioeaa.V
