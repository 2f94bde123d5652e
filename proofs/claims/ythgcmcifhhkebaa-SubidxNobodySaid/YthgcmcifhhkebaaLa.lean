/- What SubidxNobody runs.
   No condition: these are laws of the clean machine and of this program. -/
import Derived.Test.YthgcmcifhhkebaaOq
namespace Go.Proofs.Ythgcmcifhhkebaa.V
open Go
set_option linter.unusedVariables false
set_option linter.unusedSimpArgs false
set_option maxRecDepth 100000
theorem run_SubidxNobody (W : World) (x0 : Timpostref11_Sub) (x1 : ByteArray) : okR (run EE 100000 8 [.agg #[.int .i64 x0.Id, .int .i64 x0.Rev, .string x0.R.From, .string x0.R.To], .string x1] (heap0 W)) = true := by kernel_rfl
end Go.Proofs.Ythgcmcifhhkebaa.V
