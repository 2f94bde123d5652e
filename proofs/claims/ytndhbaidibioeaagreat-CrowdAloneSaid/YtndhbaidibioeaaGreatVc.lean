/- A row's tail cleared; a row copied.
   No condition: these are laws of the clean machine. -/
import Derived.Test.YtndhbaidibioeaaGreatVk
namespace Go.Proofs.YtndhbaidibioeaaGreat.V
open Go
set_option linter.unusedVariables false
set_option linter.unusedSimpArgs false
section
variable {X : Cx} {st : List It} {l : L} {segs : List (List Blk)} {h0 : Heap}
variable {r : Array Oper} {os : List Oper} {ty ty2 : TypeId} {pos pos2 : String} {aft aft2 : Array Edge}
end
def cloneL {α : Type} (B : Nat) (xs : List α) : Option (List α) := appL B ([] : List α) xs
theorem cloneL_some {α : Type} {B : Nat} {xs ys : List α} (h : cloneL B xs = some ys) : roomy (([] : List α).length + xs.length) B = true ∧ ys = xs := by
 obtain ⟨h1, h2⟩ := appL_some h
 exact ⟨h1, h2⟩
end Go.Proofs.YtndhbaidibioeaaGreat.V
