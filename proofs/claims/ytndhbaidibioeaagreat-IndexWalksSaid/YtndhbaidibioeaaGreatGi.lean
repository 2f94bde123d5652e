/- Calls run to their ends; keys; the document's answer.
   No condition: these are laws of plain functions. -/
import Derived.Test.YtndhbaidibioeaaGreatBh
namespace Go.Proofs.YtndhbaidibioeaaGreat.V
open Go
set_option linter.unusedVariables false
set_option linter.unusedSimpArgs false
set_option maxRecDepth 100000

/-! ### Runs -/
theorem step_some {n : Nat} {T T2 : Obst_Tree} {M M2 : Omem_Mem} {C C2 : Obst_Call} {x : Clo} {o : Option Clo} (h : F_step n T M C x .u = some (o, T2, M2, C2)) :
    F_bst_Call_Step n T M ⟨C.told_Ok, C.told_Key, C.told_Val, C.told_Err, some x⟩ = some (o.isNone, T2, M2, ⟨C2.told_Ok, C2.told_Key, C2.told_Val, C2.told_Err, o⟩) := by
  unfold F_bst_Call_Step
  rw [if_neg (by simp)]
  simp only [Option.bind_some]
  rw [h]
  rfl
end Go.Proofs.YtndhbaidibioeaaGreat.V
