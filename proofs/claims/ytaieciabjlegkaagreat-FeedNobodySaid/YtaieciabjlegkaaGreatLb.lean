/- What FeedNobody runs.
   No condition: these are laws of the clean machine and of this program. -/
import Derived.Test.YtaieciabjlegkaaGreatOq
namespace Go.Proofs.YtaieciabjlegkaaGreat.V
open Go
set_option linter.unusedVariables false
set_option linter.unusedSimpArgs false
set_option maxRecDepth 100000
theorem run0 (b : Nat → Nat → Option Value) (x1 : Int) (m : Nat) : okR (run EE 100000 14 [.int .i64 (.negSucc m), .int .i64 x1] ⟨b, 0, 0, .nil⟩) = true := by kernel_rfl
theorem run1 (b : Nat → Nat → Option Value) (x1 : Int) : okR (run EE 100000 14 [.int .i64 (.ofNat 0), .int .i64 x1] ⟨b, 0, 0, .nil⟩) = true := by kernel_rfl
theorem run2 (b : Nat → Nat → Option Value) (x1 : Int) : okR (run EE 100000 14 [.int .i64 (.ofNat 9), .int .i64 x1] ⟨b, 0, 0, .nil⟩) = true := by kernel_rfl
theorem run3 (b : Nat → Nat → Option Value) (x1 : Int) (m : Nat) : okR (run EE 100000 14 [.int .i64 (.ofNat (m + 10)), .int .i64 x1] ⟨b, 0, 0, .nil⟩) = true := by kernel_rfl
theorem run4_1 (b : Nat → Nat → Option Value) (x1 : Int) : okR (run EE 100000 14 [.int .i64 (.ofNat 1), .int .i64 x1] ⟨b, 0, 0, .nil⟩) = true := by kernel_rfl
theorem run4_2 (b : Nat → Nat → Option Value) (x1 : Int) : okR (run EE 100000 14 [.int .i64 (.ofNat 2), .int .i64 x1] ⟨b, 0, 0, .nil⟩) = true := by kernel_rfl
theorem run4_3 (b : Nat → Nat → Option Value) (x1 : Int) : okR (run EE 100000 14 [.int .i64 (.ofNat 3), .int .i64 x1] ⟨b, 0, 0, .nil⟩) = true := by kernel_rfl
theorem run4_4 (b : Nat → Nat → Option Value) (x1 : Int) : okR (run EE 100000 14 [.int .i64 (.ofNat 4), .int .i64 x1] ⟨b, 0, 0, .nil⟩) = true := by kernel_rfl
theorem run4_5 (b : Nat → Nat → Option Value) (x1 : Int) : okR (run EE 100000 14 [.int .i64 (.ofNat 5), .int .i64 x1] ⟨b, 0, 0, .nil⟩) = true := by kernel_rfl
theorem run4_6 (b : Nat → Nat → Option Value) (x1 : Int) : okR (run EE 100000 14 [.int .i64 (.ofNat 6), .int .i64 x1] ⟨b, 0, 0, .nil⟩) = true := by kernel_rfl
theorem run4_7 (b : Nat → Nat → Option Value) (x1 : Int) : okR (run EE 100000 14 [.int .i64 (.ofNat 7), .int .i64 x1] ⟨b, 0, 0, .nil⟩) = true := by kernel_rfl
theorem run4_8 (b : Nat → Nat → Option Value) (x1 : Int) : okR (run EE 100000 14 [.int .i64 (.ofNat 8), .int .i64 x1] ⟨b, 0, 0, .nil⟩) = true := by kernel_rfl
theorem run_any (b : Nat → Nat → Option Value) (x0 x1 : Int) : okR (run EE 100000 14 [.int .i64 x0, .int .i64 x1] ⟨b, 0, 0, .nil⟩) = true := by
  cases x0 with
  | negSucc m => exact run0 b x1 m
  | ofNat n =>
    by_cases h : n < 10
    · have hn : n = 0 ∨ n = 9 ∨ n = 1 ∨ n = 2 ∨ n = 3 ∨ n = 4 ∨ n = 5 ∨ n = 6 ∨ n = 7 ∨ n = 8 := by omega
      rcases hn with rfl | rfl | rfl | rfl | rfl | rfl | rfl | rfl | rfl | rfl
      · exact run1 b x1
      · exact run2 b x1
      · exact run4_1 b x1
      · exact run4_2 b x1
      · exact run4_3 b x1
      · exact run4_4 b x1
      · exact run4_5 b x1
      · exact run4_6 b x1
      · exact run4_7 b x1
      · exact run4_8 b x1
    · obtain ⟨m, rfl⟩ : ∃ m, n = m + 10 := ⟨n - 10, by omega⟩
      exact run3 b x1 m
theorem run_FeedNobody (W : World) (x0 x1 : Int) : okR (run EE 100000 14 [.int .i64 x0, .int .i64 x1] (heap0 W)) = true := run_any _ _ _
end Go.Proofs.YtaieciabjlegkaaGreat.V
