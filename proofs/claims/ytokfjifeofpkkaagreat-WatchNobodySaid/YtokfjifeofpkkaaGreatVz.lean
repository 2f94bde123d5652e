/- Rows that are shut.
   No condition: these are laws of the clean machine. -/
import Derived.Test.YtokfjifeofpkkaaGreatVq
namespace Go.Proofs.YtokfjifeofpkkaaGreat.V
open Go
set_option linter.unusedVariables false
set_option linter.unusedSimpArgs false
section
variable {X : Cx} {st : List It} {l : L} {h0 : Heap} {segs pieces rest : List (List Blk)}
end
theorem nd1 {s : List Blk} {r : List (List Blk)} (c : ∀ e ∈ s, e.o ≠ .dead) (k : ∀ e ∈ r.flatten, e.o ≠ .dead) : ∀ e ∈ (s :: r : List (List Blk)).flatten, e.o ≠ .dead := by
 intro e he
 rw [List.flatten_cons] at he
 rcases List.mem_append.mp he with q | q
 ·
  exact c e q
 ·
  exact k e q
section
variable {E : Env} {nt : Nat} {res : List ResultVar} {hh h0 : Heap} {Q : Value → List (List Blk) → Heap → Prop} {st : List It} {l : L} {segs S rest : List (List Blk)} {vs : List Value}
end
section
variable {X : Cx} {st : List It} {l : L} {h0 : Heap} {segs F rest : List (List Blk)}
variable {r : Array Oper} {q : Bool} {os : List Oper} {d x : Nat} {ty : TypeId} {pos : String} {aft : Array Edge}
end
end Go.Proofs.YtokfjifeofpkkaaGreat.V
