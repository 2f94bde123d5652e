/- The environment of this seat.
   No condition. -/
import Derived.Test.YtndhbaidibioeaaV23
import Derived.Test.YtndhbaidibioeaaProg
namespace Go.Proofs.Ytndhbaidibioeaa.V
open Go
set_option maxRecDepth 100000
set_option linter.unusedVariables false
theorem all_cat {f : Nat → Bool} {a k m : Nat} (h1 : (List.range' a k).all f = true) (h2 : (List.range' (a + k) m).all f = true) : (List.range' a (k + m)).all f = true := by
  rw [← List.range'_append_1, List.all_append, h1, h2]; rfl
noncomputable def E1 : Env := env1N Try.prog [(155, [.int .i64, .bool])] []
noncomputable def lx (g : Nat) : Bool := ([] : List Nat).any (Nat.beq g) || lexAt Try.prog g
theorem E1_a : [((155, [.int .i64, .bool]) : Nat × List CK)].all (fun p => flatT Try.prog p.1 p.2) = true := by kernel_rfl
theorem E1_b : (List.range 139).all (nameAt Try.prog) = true := by kernel_rfl
theorem lx_0 : (List.range' 0 53).all lx = true := by kernel_rfl
theorem lx_53 : (List.range' 53 53).all lx = true := by kernel_rfl
theorem lx_106 : (List.range' 106 33).all lx = true := by kernel_rfl
theorem E1_c : (List.range 139).all (fun g => ([] : List Nat).any (Nat.beq g) || lexAt Try.prog g) = true := by
  have h : (List.range' 0 139).all lx = true := all_cat (lx_0) (all_cat (lx_53) (lx_106))
  rw [List.range_eq_range']; exact h
theorem E1_ok : SideOK E1 := env1N_ok (n := 139) (by kernel_rfl) E1_a E1_b (by kernel_rfl) E1_c
theorem E1_fr : FramedE E1 := env1N_framed _ _ _
def okT (r : Option (Value × Heap)) : Bool := match r with | some (.bool b, _) => b | _ => false
theorem okT_of : ∀ r : Option (Value × Heap), okT r = true → (match r with | some (u, _) => u = .bool true | none => False)
  | some (.bool true, _), _ => rfl
end Go.Proofs.Ytndhbaidibioeaa.V
