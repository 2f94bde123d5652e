/- The environment of this seat.
   No condition. -/
import Derived.Test.YtpfdandpmpmbiaaH3
import Derived.Test.YtpfdandpmpmbiaaK2
import Derived.Test.YtpfdandpmpmbiaaV23
import Derived.Test.YtpfdandpmpmbiaaProg
namespace Go.Proofs.Ytpfdandpmpmbiaa.V
open Go
set_option maxRecDepth 100000
set_option linter.unusedVariables false
noncomputable def E1 : Env := env1N Try.prog [(33, [.str, .str]), (45, [.str, .str, .bool]), (47, [.str, .str, .int .i64]), (71, [.int .i64, .int .i64, .int .i64]), (108, [.int .i64, .str, .str, .bool])] [55]
theorem E1_ok : SideOK E1 := env1N_ok (n := 150) (by kernel_rfl) (by kernel_rfl) (by kernel_rfl) (by kernel_rfl) (by kernel_rfl)
theorem E1_fr : FramedE E1 := env1N_framed _ _ _
noncomputable def E2 : Env := envP E1 [(55, atP E1), (53, keysP), (65, cloneP)]
theorem E2_prs : ∀ p ∈ [((55, atP E1) : Nat × (List Value → Heap → Option (Value × Heap))), ((53, keysP) : Nat × (List Value → Heap → Option (Value × Heap))), ((65, cloneP) : Nat × (List Value → Heap → Option (Value × Heap)))], Framed (fun _ => p.2) := by
  intro p hp
  simp only [List.mem_cons, List.not_mem_nil, or_false] at hp
  rcases hp with rfl | rfl | rfl
  · exact atP_framed E1
  · exact keysP_framed
  · exact cloneP_framed
theorem E2_fr : FramedE E2 := envP_framed E1_fr E2_prs
theorem E2_ok : SideOK E2 := envP_ok E1_ok E2_prs (by
  intro p hp
  simp only [List.mem_cons, List.not_mem_nil, or_false] at hp
  rcases hp with rfl | rfl | rfl
  · exact atP_ok rfl
  · exact keysP_ok
  · exact cloneP_ok)
noncomputable def EK : Env := envK E2 [(14, .bool true), (27, .bool true), (31, .bool true), (40, .bool true)]
def okT (r : Option (Value × Heap)) : Bool := match r with | some (.bool b, _) => b | _ => false
theorem okT_of : ∀ r : Option (Value × Heap), okT r = true → (match r with | some (u, _) => u = .bool true | none => False)
  | some (.bool true, _), _ => rfl
theorem awake14 : okT (run E2 100000 14 [] heapE) = true := by kernel_rfl
theorem awake27 : okT (run E2 100000 27 [] heapE) = true := by kernel_rfl
theorem awake31 : okT (run E2 100000 31 [] heapE) = true := by kernel_rfl
theorem awake40 : okT (run E2 100000 40 [] heapE) = true := by kernel_rfl
theorem EK_ok : SideOK EK := envK_ok E2_ok (by
  intro p hp
  simp only [List.mem_cons, List.not_mem_nil, or_false] at hp
  rcases hp with hp | hp | hp | hp
  · subst hp; exact ⟨rfl, 100000, okT_of _ awake14⟩
  · subst hp; exact ⟨rfl, 100000, okT_of _ awake27⟩
  · subst hp; exact ⟨rfl, 100000, okT_of _ awake31⟩
  · subst hp; exact ⟨rfl, 100000, okT_of _ awake40⟩)
theorem EK_fr : FramedE EK := envK_framed E2_fr _
end Go.Proofs.Ytpfdandpmpmbiaa.V
