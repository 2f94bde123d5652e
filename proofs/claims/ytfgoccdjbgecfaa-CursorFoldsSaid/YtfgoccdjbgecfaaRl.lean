/- Each key's last event, as the document has it, and as the program has it.
   No condition: these are laws of plain functions. -/
import Derived.Test.YtfgoccdjbgecfaaCq
namespace Go.Proofs.Ytfgoccdjbgecfaa.V
open Go
set_option linter.unusedVariables false
set_option linter.unusedSimpArgs false

theorem flat_gat : ∀ (l : List (List TEvent)), (gat l).flatten = l.flatten
  | [] => rfl
  | z :: l => by
    unfold gat
    rw [List.filter_cons]
    cases z with
    | nil => rw [if_neg (by simp)]; exact flat_gat l
    | cons a z => rw [if_pos (by rw [decide_eq_true_iff, List.length_cons]; omega), List.flatten_cons, List.flatten_cons]; rw [show (List.filter (fun z => decide ((z.length : Int) > 0)) l).flatten = l.flatten from flat_gat l]
/-! ### What the document tells -/
end Go.Proofs.Ytfgoccdjbgecfaa.V
