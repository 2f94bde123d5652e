/- The environment of this seat, with what closed calls tell.
   No condition. -/
import Derived.Test.YtmogkmckjgeoiaaGreatS1
import Derived.Test.YtmogkmckjgeoiaaGreatKa
namespace Go.Proofs.YtmogkmckjgeoiaaGreat.V
open Go
set_option maxRecDepth 100000
set_option linter.unusedVariables false
noncomputable def EE : Env := envK E1 [(4, .bool true)]
def okT (r : Option (Value × Heap)) : Bool := match r with | some (.bool b, _) => b | _ => false
theorem okT_of : ∀ r : Option (Value × Heap), okT r = true → (match r with | some (u, _) => u = .bool true | none => False)
 | some (.bool true, _), _ => rfl
theorem awake4 : okT (run E1 100000 4 [] heapE) = true := by
 obtain ⟨h, e⟩ := st_awake4
 rw [e]; rfl
theorem EE_ok : SideOK EE := envK_ok E1_ok (by
 intro p hp
 simp only [List.mem_cons, List.not_mem_nil, or_false] at hp
 subst hp; exact ⟨rfl, 100000, okT_of _ awake4⟩)
theorem EE_fr : FramedE EE := envK_framed E1_fr _
end Go.Proofs.YtmogkmckjgeoiaaGreat.V
