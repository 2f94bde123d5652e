/- A row's tail cleared; a row copied.
   No condition: these are laws of the clean machine. -/
import Derived.Test.YtokfjifeofpkkaaGreatVk
namespace Go.Proofs.YtokfjifeofpkkaaGreat.V
open Go
set_option linter.unusedVariables false
set_option linter.unusedSimpArgs false
section
variable {X : Cx} {st : List It} {l : L} {segs : List (List Blk)} {h0 : Heap}
variable {r : Array Oper} {os : List Oper} {ty ty2 : TypeId} {pos pos2 : String} {aft aft2 : Array Edge}
end
end Go.Proofs.YtokfjifeofpkkaaGreat.V
