/- The environment of this seat.
   No condition. -/
import Derived.Test.YtaieciabjlegkaaGreatV23
import Derived.Test.YtaieciabjlegkaaGreatProg
namespace Go.Proofs.YtaieciabjlegkaaGreat.V
open Go
set_option maxRecDepth 100000
set_option linter.unusedVariables false
theorem all_cat {f : Nat → Bool} {a k m : Nat} (h1 : (List.range' a k).all f = true) (h2 : (List.range' (a + k) m).all f = true) : (List.range' a (k + m)).all f = true := by
  rw [← List.range'_append_1, List.all_append, h1, h2]; rfl
noncomputable def E1 : Env := env1N Tryz.prog [(35, [.int .i64, .int .i64, .int .i64]), (42, [.str, .str]), (294, [.int .i64, .str, .str, .bool]), (303, [.str, .str, .int .i64])] []
noncomputable def lx (g : Nat) : Bool := ([] : List Nat).any (Nat.beq g) || lexAt Tryz.prog g
theorem E1_a : [((35, [.int .i64, .int .i64, .int .i64]) : Nat × List CK), ((42, [.str, .str]) : Nat × List CK), ((294, [.int .i64, .str, .str, .bool]) : Nat × List CK), ((303, [.str, .str, .int .i64]) : Nat × List CK)].all (fun p => flatT Tryz.prog p.1 p.2) = true := by kernel_rfl
theorem E1_b : (List.range 424).all (nameAt Tryz.prog) = true := by kernel_rfl
theorem lx_0 : (List.range' 0 53).all lx = true := by kernel_rfl
theorem lx_53 : (List.range' 53 53).all lx = true := by kernel_rfl
theorem lx_106 : (List.range' 106 53).all lx = true := by kernel_rfl
theorem lx_159 : (List.range' 159 53).all lx = true := by kernel_rfl
theorem lx_212 : (List.range' 212 53).all lx = true := by kernel_rfl
theorem lx_265 : (List.range' 265 53).all lx = true := by kernel_rfl
theorem lx_318 : (List.range' 318 53).all lx = true := by kernel_rfl
theorem lx_371 : (List.range' 371 53).all lx = true := by kernel_rfl
theorem E1_c : (List.range 424).all (fun g => ([] : List Nat).any (Nat.beq g) || lexAt Tryz.prog g) = true := by
  have h : (List.range' 0 424).all lx = true := all_cat (lx_0) (all_cat (lx_53) (all_cat (lx_106) (all_cat (lx_159) (all_cat (lx_212) (all_cat (lx_265) (all_cat (lx_318) (lx_371)))))))
  rw [List.range_eq_range']; exact h
theorem E1_ok : SideOK E1 := env1N_ok (n := 424) (by kernel_rfl) E1_a E1_b (by kernel_rfl) E1_c
theorem E1_fr : FramedE E1 := env1N_framed _ _ _
def okT (r : Option (Value × Heap)) : Bool := match r with | some (.bool b, _) => b | _ => false
theorem okT_of : ∀ r : Option (Value × Heap), okT r = true → (match r with | some (u, _) => u = .bool true | none => False)
  | some (.bool true, _), _ => rfl
end Go.Proofs.YtaieciabjlegkaaGreat.V
