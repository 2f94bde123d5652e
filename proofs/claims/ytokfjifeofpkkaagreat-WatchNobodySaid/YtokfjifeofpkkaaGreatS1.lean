/- The environment of this seat.
   No condition. -/
import Derived.Test.YtokfjifeofpkkaaGreatTp
import Derived.Test.YtokfjifeofpkkaaGreatVu
import Derived.Test.YtokfjifeofpkkaaGreatV23
import Derived.Test.YtokfjifeofpkkaaGreatProg
namespace Go.Proofs.YtokfjifeofpkkaaGreat.V
open Go
set_option maxRecDepth 100000
set_option linter.unusedVariables false
noncomputable def E1 : Env := env1N Tryz.prog [(23, [.str, .str])] []
theorem E1_ok : SideOK E1 := env1N_ok (n := 324) (by kernel_rfl) (by kernel_rfl) (by kernel_rfl) (by kernel_rfl) (by kernel_rfl)
theorem E1_fr : FramedE E1 := env1N_framed _ _ _
noncomputable def E2 : Env := envP E1 [(28, putP)]
theorem E2_prs : ∀ p ∈ [((28, putP) : Nat × (List Value → Heap → Option (Value × Heap)))], Framed (fun _ => p.2) := by
 intro p hp
 simp only [List.mem_cons, List.not_mem_nil, or_false] at hp
 subst hp
 ·
  exact putP_framed
theorem E2_fr : FramedE E2 := envP_framed E1_fr E2_prs
theorem E2_ok : SideOK E2 := envP_ok E1_ok E2_prs (by
 intro p hp
 simp only [List.mem_cons, List.not_mem_nil, or_false] at hp
 subst hp
 ·
  exact putP_ok)
end Go.Proofs.YtokfjifeofpkkaaGreat.V
