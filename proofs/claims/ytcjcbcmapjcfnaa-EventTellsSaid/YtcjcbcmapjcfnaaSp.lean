/- The environment of this seat, with what the library tells of its own calls.
   No condition. -/
import Derived.Test.YtcjcbcmapjcfnaaSg
import Derived.Test.YtcjcbcmapjcfnaaSh
import Derived.Test.YtcjcbcmapjcfnaaChecked
namespace Go.Proofs.Ytcjcbcmapjcfnaa.V
open Go
set_option maxRecDepth 100000
set_option linter.unusedVariables false
noncomputable def EE : Env := envP EK [(37, shrinkP 3 EK 37), (38, insP 3 40 44 EK 38)]
theorem EE_prs : ∀ p ∈ [((37, shrinkP 3 EK 37) : Nat × (List Value → Heap → Option (Value × Heap))), ((38, insP 3 40 44 EK 38) : Nat × (List Value → Heap → Option (Value × Heap)))], Framed (fun _ => p.2) := by
  intro p hp
  simp only [List.mem_cons, List.not_mem_nil, or_false] at hp
  rcases hp with rfl | rfl
  · exact shrinkP_framed _ EK_fr _
  · exact insP_framed EK_fr _
theorem EE_fr : FramedE EE := envP_framed EK_fr EE_prs
theorem EE_ok : SideOK EE := envP_ok EK_ok EE_prs (by
  intro p hp
  simp only [List.mem_cons, List.not_mem_nil, or_false] at hp
  rcases hp with rfl | rfl
  · exact shrinkP_ok _ EK_ok _
  · exact insP_ok EK_ok insRun_38)
end Go.Proofs.Ytcjcbcmapjcfnaa.V
