/- The environment of this seat.
   No condition. -/
import Derived.Test.YtndhbaidibioeaaGreatV23
import Derived.Test.YtndhbaidibioeaaGreatProg
namespace Go.Proofs.YtndhbaidibioeaaGreat.V
open Go
set_option maxRecDepth 100000
set_option linter.unusedVariables false
noncomputable def E1 : Env := env1N Tryz.prog [(56, [.str, .str, .int .i64])] []
theorem E1_ok : SideOK E1 := env1N_ok (n := 180) (by kernel_rfl) (by kernel_rfl) (by kernel_rfl) (by kernel_rfl) (by kernel_rfl)
theorem E1_fr : FramedE E1 := env1N_framed _ _ _
noncomputable def EE : Env := envK E1 [(9, .bool true)]
def okT (r : Option (Value × Heap)) : Bool := match r with | some (.bool b, _) => b | _ => false
theorem okT_of : ∀ r : Option (Value × Heap), okT r = true → (match r with | some (u, _) => u = .bool true | none => False)
 | some (.bool true, _), _ => rfl
theorem awake9 : okT (run E1 100000 9 [] heapE) = true := by kernel_rfl
theorem EE_ok : SideOK EE := envK_ok E1_ok (by
 intro p hp
 simp only [List.mem_cons, List.not_mem_nil, or_false] at hp
 subst hp; exact ⟨rfl, 100000, okT_of _ awake9⟩)
theorem EE_fr : FramedE EE := envK_framed E1_fr _
end Go.Proofs.YtndhbaidibioeaaGreat.V
