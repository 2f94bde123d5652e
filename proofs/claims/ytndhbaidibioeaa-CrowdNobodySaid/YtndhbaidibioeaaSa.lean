/- The environment of this seat, with what closed calls tell.
   No condition. -/
import Derived.Test.YtndhbaidibioeaaS1
import Derived.Test.YtndhbaidibioeaaKd
namespace Go.Proofs.Ytndhbaidibioeaa.V
open Go
set_option maxRecDepth 100000
set_option linter.unusedVariables false
noncomputable def EE : Env := envK E1 [(26, .bool true)]
theorem awake26 : okT (run E1 100000 26 [] heapE) = true := by
  obtain ⟨h, e⟩ := st_awake26
  rw [e]; rfl
theorem known1 {E : Env} {k n : Nat} (h : okT (run E n k [] heapE) = true) : ∀ p ∈ [((k, .bool true) : Nat × Value)], plainN 4 p.2 = true ∧ ∃ n, (match run E n p.1 [] heapE with | some (u, _) => u = p.2 | none => False) := by
  intro p hp
  simp only [List.mem_cons, List.not_mem_nil, or_false] at hp
  subst hp
  exact ⟨rfl, n, okT_of _ h⟩
theorem EE_ok : SideOK EE := envK_ok E1_ok (known1 awake26)
theorem EE_fr : FramedE EE := envK_framed E1_fr _
end Go.Proofs.Ytndhbaidibioeaa.V
