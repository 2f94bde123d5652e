/- What CrowdNobody runs.
   No condition: these are laws of the clean machine and of this program. -/
import Derived.Test.YtndhbaidibioeaaOq
namespace Go.Proofs.Ytndhbaidibioeaa.V
open Go
set_option linter.unusedVariables false
set_option linter.unusedSimpArgs false
set_option maxRecDepth 100000
theorem run_n0 (b : Nat → Nat → Option Value) (m : Nat) (k : Nat) : okR (run EE 100000 6 [.int .i64 (.negSucc m), .int .i64 (.negSucc k)] ⟨b, 0, 0, .nil⟩) = true := by kernel_rfl
theorem run_n1 (b : Nat → Nat → Option Value) (m : Nat) (k : Nat) : okR (run EE 100000 6 [.int .i64 (.negSucc m), .int .i64 (.ofNat k)] ⟨b, 0, 0, .nil⟩) = true := by kernel_rfl
theorem run_z0 (b : Nat → Nat → Option Value)  (k : Nat) : okR (run EE 100000 6 [.int .i64 (.ofNat 0), .int .i64 (.negSucc k)] ⟨b, 0, 0, .nil⟩) = true := by kernel_rfl
theorem run_z1 (b : Nat → Nat → Option Value)  (k : Nat) : okR (run EE 100000 6 [.int .i64 (.ofNat 0), .int .i64 (.ofNat k)] ⟨b, 0, 0, .nil⟩) = true := by kernel_rfl
theorem run_h0 (b : Nat → Nat → Option Value)  (k : Nat) : okR (run EE 100000 6 [.int .i64 (.ofNat 9), .int .i64 (.negSucc k)] ⟨b, 0, 0, .nil⟩) = true := by kernel_rfl
theorem run_h1 (b : Nat → Nat → Option Value)  (k : Nat) : okR (run EE 100000 6 [.int .i64 (.ofNat 9), .int .i64 (.ofNat k)] ⟨b, 0, 0, .nil⟩) = true := by kernel_rfl
theorem run_g0 (b : Nat → Nat → Option Value) (m : Nat) (k : Nat) : okR (run EE 100000 6 [.int .i64 (.ofNat (m + 10)), .int .i64 (.negSucc k)] ⟨b, 0, 0, .nil⟩) = true := by kernel_rfl
theorem run_g1 (b : Nat → Nat → Option Value) (m : Nat) (k : Nat) : okR (run EE 100000 6 [.int .i64 (.ofNat (m + 10)), .int .i64 (.ofNat k)] ⟨b, 0, 0, .nil⟩) = true := by kernel_rfl
theorem run4_1 (b : Nat → Nat → Option Value) (m : Nat) : okR (run EE 100000 6 [.int .i64 (.ofNat 1), .int .i64 (.negSucc m)] ⟨b, 0, 0, .nil⟩) = true := by kernel_rfl
theorem run5_1 (b : Nat → Nat → Option Value) (m : Nat) : okR (run EE 100000 6 [.int .i64 (.ofNat 1), .int .i64 (.ofNat (m + 8))] ⟨b, 0, 0, .nil⟩) = true := by kernel_rfl
theorem run6_1 (b : Nat → Nat → Option Value) : (List.range 8).all (fun a => okR (run EE 100000 6 [.int .i64 (.ofNat 1), .int .i64 (.ofNat a)] ⟨b, 0, 0, .nil⟩)) = true := by kernel_rfl
theorem run4_2 (b : Nat → Nat → Option Value) (m : Nat) : okR (run EE 100000 6 [.int .i64 (.ofNat 2), .int .i64 (.negSucc m)] ⟨b, 0, 0, .nil⟩) = true := by kernel_rfl
theorem run5_2 (b : Nat → Nat → Option Value) (m : Nat) : okR (run EE 100000 6 [.int .i64 (.ofNat 2), .int .i64 (.ofNat (m + 8))] ⟨b, 0, 0, .nil⟩) = true := by kernel_rfl
theorem run6_2 (b : Nat → Nat → Option Value) : (List.range 8).all (fun a => okR (run EE 100000 6 [.int .i64 (.ofNat 2), .int .i64 (.ofNat a)] ⟨b, 0, 0, .nil⟩)) = true := by kernel_rfl
theorem run4_3 (b : Nat → Nat → Option Value) (m : Nat) : okR (run EE 100000 6 [.int .i64 (.ofNat 3), .int .i64 (.negSucc m)] ⟨b, 0, 0, .nil⟩) = true := by kernel_rfl
theorem run5_3 (b : Nat → Nat → Option Value) (m : Nat) : okR (run EE 100000 6 [.int .i64 (.ofNat 3), .int .i64 (.ofNat (m + 8))] ⟨b, 0, 0, .nil⟩) = true := by kernel_rfl
theorem run6_3 (b : Nat → Nat → Option Value) : (List.range 8).all (fun a => okR (run EE 100000 6 [.int .i64 (.ofNat 3), .int .i64 (.ofNat a)] ⟨b, 0, 0, .nil⟩)) = true := by kernel_rfl
theorem run4_4 (b : Nat → Nat → Option Value) (m : Nat) : okR (run EE 100000 6 [.int .i64 (.ofNat 4), .int .i64 (.negSucc m)] ⟨b, 0, 0, .nil⟩) = true := by kernel_rfl
theorem run5_4 (b : Nat → Nat → Option Value) (m : Nat) : okR (run EE 100000 6 [.int .i64 (.ofNat 4), .int .i64 (.ofNat (m + 8))] ⟨b, 0, 0, .nil⟩) = true := by kernel_rfl
theorem run6_4 (b : Nat → Nat → Option Value) : (List.range 8).all (fun a => okR (run EE 100000 6 [.int .i64 (.ofNat 4), .int .i64 (.ofNat a)] ⟨b, 0, 0, .nil⟩)) = true := by kernel_rfl
theorem run4_5 (b : Nat → Nat → Option Value) (m : Nat) : okR (run EE 100000 6 [.int .i64 (.ofNat 5), .int .i64 (.negSucc m)] ⟨b, 0, 0, .nil⟩) = true := by kernel_rfl
theorem run5_5 (b : Nat → Nat → Option Value) (m : Nat) : okR (run EE 100000 6 [.int .i64 (.ofNat 5), .int .i64 (.ofNat (m + 8))] ⟨b, 0, 0, .nil⟩) = true := by kernel_rfl
theorem run6_5 (b : Nat → Nat → Option Value) : (List.range 8).all (fun a => okR (run EE 100000 6 [.int .i64 (.ofNat 5), .int .i64 (.ofNat a)] ⟨b, 0, 0, .nil⟩)) = true := by kernel_rfl
theorem run4_6 (b : Nat → Nat → Option Value) (m : Nat) : okR (run EE 100000 6 [.int .i64 (.ofNat 6), .int .i64 (.negSucc m)] ⟨b, 0, 0, .nil⟩) = true := by kernel_rfl
theorem run5_6 (b : Nat → Nat → Option Value) (m : Nat) : okR (run EE 100000 6 [.int .i64 (.ofNat 6), .int .i64 (.ofNat (m + 8))] ⟨b, 0, 0, .nil⟩) = true := by kernel_rfl
theorem run6_6 (b : Nat → Nat → Option Value) : (List.range 8).all (fun a => okR (run EE 100000 6 [.int .i64 (.ofNat 6), .int .i64 (.ofNat a)] ⟨b, 0, 0, .nil⟩)) = true := by kernel_rfl
theorem run4_7 (b : Nat → Nat → Option Value) (m : Nat) : okR (run EE 100000 6 [.int .i64 (.ofNat 7), .int .i64 (.negSucc m)] ⟨b, 0, 0, .nil⟩) = true := by kernel_rfl
theorem run5_7 (b : Nat → Nat → Option Value) (m : Nat) : okR (run EE 100000 6 [.int .i64 (.ofNat 7), .int .i64 (.ofNat (m + 8))] ⟨b, 0, 0, .nil⟩) = true := by kernel_rfl
theorem run6_7 (b : Nat → Nat → Option Value) : (List.range 8).all (fun a => okR (run EE 100000 6 [.int .i64 (.ofNat 7), .int .i64 (.ofNat a)] ⟨b, 0, 0, .nil⟩)) = true := by kernel_rfl
theorem run4_8 (b : Nat → Nat → Option Value) (m : Nat) : okR (run EE 100000 6 [.int .i64 (.ofNat 8), .int .i64 (.negSucc m)] ⟨b, 0, 0, .nil⟩) = true := by kernel_rfl
theorem run5_8 (b : Nat → Nat → Option Value) (m : Nat) : okR (run EE 100000 6 [.int .i64 (.ofNat 8), .int .i64 (.ofNat (m + 8))] ⟨b, 0, 0, .nil⟩) = true := by kernel_rfl
theorem run6_8 (b : Nat → Nat → Option Value) : (List.range 8).all (fun a => okR (run EE 100000 6 [.int .i64 (.ofNat 8), .int .i64 (.ofNat a)] ⟨b, 0, 0, .nil⟩)) = true := by kernel_rfl
theorem run_any (b : Nat → Nat → Option Value) (x0 x1 : Int) : okR (run EE 100000 6 [.int .i64 (x0), .int .i64 (x1)] ⟨b, 0, 0, .nil⟩) = true := by
  cases x0 with
  | negSucc m => cases x1 with
    | negSucc k => exact run_n0 b m k
    | ofNat k => exact run_n1 b m k
  | ofNat n =>
    by_cases h : n < 10
    · have hn : n = 0 ∨ n = 9 ∨ n = 1 ∨ n = 2 ∨ n = 3 ∨ n = 4 ∨ n = 5 ∨ n = 6 ∨ n = 7 ∨ n = 8 := by omega
      have key : ∀ t : Nat, (∀ m, okR (run EE 100000 6 [.int .i64 (.ofNat t), .int .i64 (.negSucc m)] ⟨b, 0, 0, .nil⟩) = true) → (∀ m, okR (run EE 100000 6 [.int .i64 (.ofNat t), .int .i64 (.ofNat (m + 8))] ⟨b, 0, 0, .nil⟩) = true) → (List.range 8).all (fun a => okR (run EE 100000 6 [.int .i64 (.ofNat t), .int .i64 (.ofNat a)] ⟨b, 0, 0, .nil⟩)) = true → okR (run EE 100000 6 [.int .i64 (.ofNat t), .int .i64 (x1)] ⟨b, 0, 0, .nil⟩) = true := by
        intro t h1 h2 h3
        cases x1 with
        | negSucc m => exact h1 m
        | ofNat a =>
          by_cases q : a < 8
          · exact List.all_eq_true.mp h3 a (List.mem_range.mpr q)
          · obtain ⟨m, rfl⟩ : ∃ m, a = m + 8 := ⟨a - 8, by omega⟩
            exact h2 m
      rcases hn with rfl | rfl | rfl | rfl | rfl | rfl | rfl | rfl | rfl | rfl
      · cases x1 with
        | negSucc k => exact run_z0 b k
        | ofNat k => exact run_z1 b k
      · cases x1 with
        | negSucc k => exact run_h0 b k
        | ofNat k => exact run_h1 b k
      · exact key 1 (run4_1 b) (run5_1 b) (run6_1 b)
      · exact key 2 (run4_2 b) (run5_2 b) (run6_2 b)
      · exact key 3 (run4_3 b) (run5_3 b) (run6_3 b)
      · exact key 4 (run4_4 b) (run5_4 b) (run6_4 b)
      · exact key 5 (run4_5 b) (run5_5 b) (run6_5 b)
      · exact key 6 (run4_6 b) (run5_6 b) (run6_6 b)
      · exact key 7 (run4_7 b) (run5_7 b) (run6_7 b)
      · exact key 8 (run4_8 b) (run5_8 b) (run6_8 b)
    · obtain ⟨m, rfl⟩ : ∃ m, n = m + 10 := ⟨n - 10, by omega⟩
      cases x1 with
      | negSucc k => exact run_g0 b m k
      | ofNat k => exact run_g1 b m k
theorem run_CrowdNobody (W : World) (x0 x1 : Int) : okR (run EE 100000 6 [.int .i64 x0, .int .i64 x1] (heap0 W)) = true := run_any _ _ _
end Go.Proofs.Ytndhbaidibioeaa.V
