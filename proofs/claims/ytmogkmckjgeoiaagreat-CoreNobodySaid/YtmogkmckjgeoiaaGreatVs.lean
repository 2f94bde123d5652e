/- Calls that sort, or strike what is there twice, told by the library's own contracts.
   Conditions: of the program: its bodies are those of the contracts (closed facts, by the kernel). -/
import Derived.Test.YtmogkmckjgeoiaaGreatV23
import Derived.Shelf.Sort.Plain
import Derived.Shelf.Slices.In.SortNone
import Derived.Shelf.Slices.CompactS
namespace Go.Proofs.YtmogkmckjgeoiaaGreat.V
open Go
set_option linter.unusedVariables false
set_option linter.unusedSimpArgs false
set_option linter.unusedSectionVars false
section
variable {α : Type} [Inhabited α]
structure Cell (enc : α → Value) (dec : Value → Option α) : Prop where
 one : ∀ x, cellOk (enc x) = true
 pl : ∀ x, plainN 4 (enc x) = true
 dec : ∀ v x, dec v = some x → v = enc x
end
end Go.Proofs.YtmogkmckjgeoiaaGreat.V
