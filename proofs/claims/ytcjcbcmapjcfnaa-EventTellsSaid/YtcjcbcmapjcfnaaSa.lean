/- The environment of this seat.
   No condition. -/
import Derived.Test.YtcjcbcmapjcfnaaE5
import Derived.Test.YtcjcbcmapjcfnaaV23
import Derived.Test.YtcjcbcmapjcfnaaProg
namespace Go.Proofs.Ytcjcbcmapjcfnaa.V
open Go
set_option maxRecDepth 100000
set_option linter.unusedVariables false
noncomputable def E1 : Env := env1N Try.prog [(40, [.int .i64, .str, .str, .bool]), (44, [.str, .str, .int .i64])] []
theorem E1_ok : SideOK E1 := env1N_ok (n := 87) (by kernel_rfl) (by kernel_rfl) (by kernel_rfl) (by kernel_rfl) (by kernel_rfl)
theorem E1_fr : FramedE E1 := env1N_framed _ _ _
def okU (r : Option (Value × Heap)) : Bool := match r with | some (.tuple ⟨[]⟩, _) => true | _ => false
theorem okU_of : ∀ r : Option (Value × Heap), okU r = true → (match r with | some (u, _) => u = .tuple #[] | none => False)
  | some (.tuple ⟨[]⟩, _), _ => rfl
theorem nil44 (W : World) : Calls Try.prog 44 #[.slice none 0 0, .func (.func 32) #[] #[]] W fun e w' => e = .returned (.tuple #[]) ∧ RowKit.Below W.heap.size W w' :=
  closed_call (E := E1) E1_ok (args := [.slice none 0 0, .func (.func 32) #[] #[]]) (n := 1000) (fun β => .cons (.sliceNil _ _) (.cons (.func _ .nil .nil) .nil)) rfl (okU_of _ (by kernel_rfl)) W
noncomputable def E2 : Env := envP E1 [(30, sortedP)]
theorem E2_prs : ∀ p ∈ [((30, sortedP) : Nat × (List Value → Heap → Option (Value × Heap)))], Framed (fun _ => p.2) := by
  intro p hp
  simp only [List.mem_cons, List.not_mem_nil, or_false] at hp
  subst hp
  · exact sortedP_framed
theorem E2_fr : FramedE E2 := envP_framed E1_fr E2_prs
theorem E2_ok : SideOK E2 := envP_ok E1_ok E2_prs (by
  intro p hp
  simp only [List.mem_cons, List.not_mem_nil, or_false] at hp
  subst hp
  · exact sortedP_ok nil44)
noncomputable def EK : Env := envK E2 [(9, .bool true)]
def okT (r : Option (Value × Heap)) : Bool := match r with | some (.bool b, _) => b | _ => false
theorem okT_of : ∀ r : Option (Value × Heap), okT r = true → (match r with | some (u, _) => u = .bool true | none => False)
  | some (.bool true, _), _ => rfl
theorem awake9 : okT (run E2 100000 9 [] heapE) = true := by kernel_rfl
theorem EK_ok : SideOK EK := envK_ok E2_ok (by
  intro p hp
  simp only [List.mem_cons, List.not_mem_nil, or_false] at hp
  subst hp; exact ⟨rfl, 100000, okT_of _ awake9⟩)
theorem EK_fr : FramedE EK := envK_framed E2_fr _
end Go.Proofs.Ytcjcbcmapjcfnaa.V
