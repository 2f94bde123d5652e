/- The environment of this seat, with what closed calls tell.
   No condition. -/
import Derived.Test.YtokfjifeofpkkaaGreatS1
import Derived.Test.YtokfjifeofpkkaaGreatKa
namespace Go.Proofs.YtokfjifeofpkkaaGreat.V
open Go
set_option maxRecDepth 100000
set_option linter.unusedVariables false
noncomputable def EE : Env := envK E2 [(4, .bool true)]
def okT (r : Option (Value × Heap)) : Bool := match r with | some (.bool b, _) => b | _ => false
theorem okT_of : ∀ r : Option (Value × Heap), okT r = true → (match r with | some (u, _) => u = .bool true | none => False)
 | some (.bool true, _), _ => rfl
theorem awake4 : okT (run E2 100000 4 [] heapE) = true := by
 obtain ⟨h, e⟩ := st_awake4
 rw [e]; rfl
theorem known1 {E : Env} {k n : Nat} (h : okT (run E n k [] heapE) = true) : ∀ p ∈ [((k, .bool true) : Nat × Value)], plainN 4 p.2 = true ∧ ∃ n, (match run E n p.1 [] heapE with | some (u, _) => u = p.2 | none => False) := by
 intro p hp
 simp only [List.mem_cons, List.not_mem_nil, or_false] at hp
 subst hp
 exact ⟨rfl, n, okT_of _ h⟩
theorem EE_ok : SideOK EE := envK_ok E2_ok (known1 awake4)
theorem EE_fr : FramedE EE := envK_framed E2_fr _
end Go.Proofs.YtokfjifeofpkkaaGreat.V
