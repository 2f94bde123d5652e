/- What CallsNobody runs.
   No condition: these are laws of the clean machine and of this program. -/
import Derived.Test.YtaieciabjlegkaaGreatOq
namespace Go.Proofs.YtaieciabjlegkaaGreat.V
open Go
set_option linter.unusedVariables false
set_option linter.unusedSimpArgs false
set_option maxRecDepth 100000
theorem run0 (b : Nat → Nat → Option Value) (x1 : Int) (c0 c1 c2 c3 c4 c5 c6 : Value) (m : Nat) : okR (run EE 100000 6 [.int .i64 (.negSucc m), .int .i64 x1, .agg #[c0, c1, c2, c3, c4, c5, c6]] ⟨b, 0, 0, .nil⟩) = true := by kernel_rfl
theorem run1 (b : Nat → Nat → Option Value) (x1 : Int) (c0 c1 c2 c3 c4 c5 c6 : Value) : okR (run EE 100000 6 [.int .i64 (.ofNat 0), .int .i64 x1, .agg #[c0, c1, c2, c3, c4, c5, c6]] ⟨b, 0, 0, .nil⟩) = true := by kernel_rfl
theorem run2 (b : Nat → Nat → Option Value) (x1 : Int) (c0 c1 c2 c3 c4 c5 c6 : Value) : okR (run EE 100000 6 [.int .i64 (.ofNat 9), .int .i64 x1, .agg #[c0, c1, c2, c3, c4, c5, c6]] ⟨b, 0, 0, .nil⟩) = true := by kernel_rfl
theorem run3 (b : Nat → Nat → Option Value) (x1 : Int) (c0 c1 c2 c3 c4 c5 c6 : Value) (m : Nat) : okR (run EE 100000 6 [.int .i64 (.ofNat (m + 10)), .int .i64 x1, .agg #[c0, c1, c2, c3, c4, c5, c6]] ⟨b, 0, 0, .nil⟩) = true := by kernel_rfl
theorem run4_1 (b : Nat → Nat → Option Value) (c0 c1 c2 c3 c4 c5 c6 : Value) (m : Nat) : okR (run EE 100000 6 [.int .i64 (.ofNat 1), .int .i64 (.negSucc m), .agg #[c0, c1, c2, c3, c4, c5, c6]] ⟨b, 0, 0, .nil⟩) = true := by kernel_rfl
theorem run5_1 (b : Nat → Nat → Option Value) (c0 c1 c2 c3 c4 c5 c6 : Value) (m : Nat) : okR (run EE 100000 6 [.int .i64 (.ofNat 1), .int .i64 (.ofNat (m + 8)), .agg #[c0, c1, c2, c3, c4, c5, c6]] ⟨b, 0, 0, .nil⟩) = true := by kernel_rfl
theorem run6_1 (b : Nat → Nat → Option Value) (c0 c1 c2 c3 c4 c5 c6 : Value) : (List.range 8).all (fun a => okR (run EE 100000 6 [.int .i64 (.ofNat 1), .int .i64 (.ofNat a), .agg #[c0, c1, c2, c3, c4, c5, c6]] ⟨b, 0, 0, .nil⟩)) = true := by kernel_rfl
theorem run4_2 (b : Nat → Nat → Option Value) (c0 c1 c2 c3 c4 c5 c6 : Value) (m : Nat) : okR (run EE 100000 6 [.int .i64 (.ofNat 2), .int .i64 (.negSucc m), .agg #[c0, c1, c2, c3, c4, c5, c6]] ⟨b, 0, 0, .nil⟩) = true := by kernel_rfl
theorem run5_2 (b : Nat → Nat → Option Value) (c0 c1 c2 c3 c4 c5 c6 : Value) (m : Nat) : okR (run EE 100000 6 [.int .i64 (.ofNat 2), .int .i64 (.ofNat (m + 8)), .agg #[c0, c1, c2, c3, c4, c5, c6]] ⟨b, 0, 0, .nil⟩) = true := by kernel_rfl
theorem run6_2 (b : Nat → Nat → Option Value) (c0 c1 c2 c3 c4 c5 c6 : Value) : (List.range 8).all (fun a => okR (run EE 100000 6 [.int .i64 (.ofNat 2), .int .i64 (.ofNat a), .agg #[c0, c1, c2, c3, c4, c5, c6]] ⟨b, 0, 0, .nil⟩)) = true := by kernel_rfl
theorem run4_3 (b : Nat → Nat → Option Value) (c0 c1 c2 c3 c4 c5 c6 : Value) (m : Nat) : okR (run EE 100000 6 [.int .i64 (.ofNat 3), .int .i64 (.negSucc m), .agg #[c0, c1, c2, c3, c4, c5, c6]] ⟨b, 0, 0, .nil⟩) = true := by kernel_rfl
theorem run5_3 (b : Nat → Nat → Option Value) (c0 c1 c2 c3 c4 c5 c6 : Value) (m : Nat) : okR (run EE 100000 6 [.int .i64 (.ofNat 3), .int .i64 (.ofNat (m + 8)), .agg #[c0, c1, c2, c3, c4, c5, c6]] ⟨b, 0, 0, .nil⟩) = true := by kernel_rfl
theorem run6_3 (b : Nat → Nat → Option Value) (c0 c1 c2 c3 c4 c5 c6 : Value) : (List.range 8).all (fun a => okR (run EE 100000 6 [.int .i64 (.ofNat 3), .int .i64 (.ofNat a), .agg #[c0, c1, c2, c3, c4, c5, c6]] ⟨b, 0, 0, .nil⟩)) = true := by kernel_rfl
theorem run4_4 (b : Nat → Nat → Option Value) (c0 c1 c2 c3 c4 c5 c6 : Value) (m : Nat) : okR (run EE 100000 6 [.int .i64 (.ofNat 4), .int .i64 (.negSucc m), .agg #[c0, c1, c2, c3, c4, c5, c6]] ⟨b, 0, 0, .nil⟩) = true := by kernel_rfl
theorem run5_4 (b : Nat → Nat → Option Value) (c0 c1 c2 c3 c4 c5 c6 : Value) (m : Nat) : okR (run EE 100000 6 [.int .i64 (.ofNat 4), .int .i64 (.ofNat (m + 8)), .agg #[c0, c1, c2, c3, c4, c5, c6]] ⟨b, 0, 0, .nil⟩) = true := by kernel_rfl
theorem run6_4 (b : Nat → Nat → Option Value) (c0 c1 c2 c3 c4 c5 c6 : Value) : (List.range 8).all (fun a => okR (run EE 100000 6 [.int .i64 (.ofNat 4), .int .i64 (.ofNat a), .agg #[c0, c1, c2, c3, c4, c5, c6]] ⟨b, 0, 0, .nil⟩)) = true := by kernel_rfl
theorem run4_5 (b : Nat → Nat → Option Value) (c0 c1 c2 c3 c4 c5 c6 : Value) (m : Nat) : okR (run EE 100000 6 [.int .i64 (.ofNat 5), .int .i64 (.negSucc m), .agg #[c0, c1, c2, c3, c4, c5, c6]] ⟨b, 0, 0, .nil⟩) = true := by kernel_rfl
theorem run5_5 (b : Nat → Nat → Option Value) (c0 c1 c2 c3 c4 c5 c6 : Value) (m : Nat) : okR (run EE 100000 6 [.int .i64 (.ofNat 5), .int .i64 (.ofNat (m + 8)), .agg #[c0, c1, c2, c3, c4, c5, c6]] ⟨b, 0, 0, .nil⟩) = true := by kernel_rfl
theorem run6_5 (b : Nat → Nat → Option Value) (c0 c1 c2 c3 c4 c5 c6 : Value) : (List.range 8).all (fun a => okR (run EE 100000 6 [.int .i64 (.ofNat 5), .int .i64 (.ofNat a), .agg #[c0, c1, c2, c3, c4, c5, c6]] ⟨b, 0, 0, .nil⟩)) = true := by kernel_rfl
theorem run4_6 (b : Nat → Nat → Option Value) (c0 c1 c2 c3 c4 c5 c6 : Value) (m : Nat) : okR (run EE 100000 6 [.int .i64 (.ofNat 6), .int .i64 (.negSucc m), .agg #[c0, c1, c2, c3, c4, c5, c6]] ⟨b, 0, 0, .nil⟩) = true := by kernel_rfl
theorem run5_6 (b : Nat → Nat → Option Value) (c0 c1 c2 c3 c4 c5 c6 : Value) (m : Nat) : okR (run EE 100000 6 [.int .i64 (.ofNat 6), .int .i64 (.ofNat (m + 8)), .agg #[c0, c1, c2, c3, c4, c5, c6]] ⟨b, 0, 0, .nil⟩) = true := by kernel_rfl
theorem run6_6 (b : Nat → Nat → Option Value) (c0 c1 c2 c3 c4 c5 c6 : Value) : (List.range 8).all (fun a => okR (run EE 100000 6 [.int .i64 (.ofNat 6), .int .i64 (.ofNat a), .agg #[c0, c1, c2, c3, c4, c5, c6]] ⟨b, 0, 0, .nil⟩)) = true := by kernel_rfl
theorem run4_7 (b : Nat → Nat → Option Value) (c0 c1 c2 c3 c4 c5 c6 : Value) (m : Nat) : okR (run EE 100000 6 [.int .i64 (.ofNat 7), .int .i64 (.negSucc m), .agg #[c0, c1, c2, c3, c4, c5, c6]] ⟨b, 0, 0, .nil⟩) = true := by kernel_rfl
theorem run5_7 (b : Nat → Nat → Option Value) (c0 c1 c2 c3 c4 c5 c6 : Value) (m : Nat) : okR (run EE 100000 6 [.int .i64 (.ofNat 7), .int .i64 (.ofNat (m + 8)), .agg #[c0, c1, c2, c3, c4, c5, c6]] ⟨b, 0, 0, .nil⟩) = true := by kernel_rfl
theorem run6_7 (b : Nat → Nat → Option Value) (c0 c1 c2 c3 c4 c5 c6 : Value) : (List.range 8).all (fun a => okR (run EE 100000 6 [.int .i64 (.ofNat 7), .int .i64 (.ofNat a), .agg #[c0, c1, c2, c3, c4, c5, c6]] ⟨b, 0, 0, .nil⟩)) = true := by kernel_rfl
theorem run4_8 (b : Nat → Nat → Option Value) (c0 c1 c2 c3 c4 c5 c6 : Value) (m : Nat) : okR (run EE 100000 6 [.int .i64 (.ofNat 8), .int .i64 (.negSucc m), .agg #[c0, c1, c2, c3, c4, c5, c6]] ⟨b, 0, 0, .nil⟩) = true := by kernel_rfl
theorem run5_8 (b : Nat → Nat → Option Value) (c0 c1 c2 c3 c4 c5 c6 : Value) (m : Nat) : okR (run EE 100000 6 [.int .i64 (.ofNat 8), .int .i64 (.ofNat (m + 8)), .agg #[c0, c1, c2, c3, c4, c5, c6]] ⟨b, 0, 0, .nil⟩) = true := by kernel_rfl
theorem run6_8 (b : Nat → Nat → Option Value) (c0 c1 c2 c3 c4 c5 c6 : Value) : (List.range 8).all (fun a => okR (run EE 100000 6 [.int .i64 (.ofNat 8), .int .i64 (.ofNat a), .agg #[c0, c1, c2, c3, c4, c5, c6]] ⟨b, 0, 0, .nil⟩)) = true := by kernel_rfl
theorem run_any (b : Nat → Nat → Option Value) (x0 x1 : Int) (c0 c1 c2 c3 c4 c5 c6 : Value) : okR (run EE 100000 6 [.int .i64 x0, .int .i64 x1, .agg #[c0, c1, c2, c3, c4, c5, c6]] ⟨b, 0, 0, .nil⟩) = true := by
  cases x0 with
  | negSucc m => exact run0 b x1 c0 c1 c2 c3 c4 c5 c6 m
  | ofNat n =>
    by_cases h : n < 10
    · have hn : n = 0 ∨ n = 9 ∨ n = 1 ∨ n = 2 ∨ n = 3 ∨ n = 4 ∨ n = 5 ∨ n = 6 ∨ n = 7 ∨ n = 8 := by omega
      have key : ∀ t : Nat, (∀ m, okR (run EE 100000 6 [.int .i64 (.ofNat t), .int .i64 (.negSucc m), .agg #[c0, c1, c2, c3, c4, c5, c6]] ⟨b, 0, 0, .nil⟩) = true) → (∀ m, okR (run EE 100000 6 [.int .i64 (.ofNat t), .int .i64 (.ofNat (m + 8)), .agg #[c0, c1, c2, c3, c4, c5, c6]] ⟨b, 0, 0, .nil⟩) = true) → (List.range 8).all (fun a => okR (run EE 100000 6 [.int .i64 (.ofNat t), .int .i64 (.ofNat a), .agg #[c0, c1, c2, c3, c4, c5, c6]] ⟨b, 0, 0, .nil⟩)) = true → okR (run EE 100000 6 [.int .i64 (.ofNat t), .int .i64 x1, .agg #[c0, c1, c2, c3, c4, c5, c6]] ⟨b, 0, 0, .nil⟩) = true := by
        intro t h1 h2 h3
        cases x1 with
        | negSucc m => exact h1 m
        | ofNat a =>
          by_cases q : a < 8
          · exact List.all_eq_true.mp h3 a (List.mem_range.mpr q)
          · obtain ⟨m, rfl⟩ : ∃ m, a = m + 8 := ⟨a - 8, by omega⟩
            exact h2 m
      rcases hn with rfl | rfl | rfl | rfl | rfl | rfl | rfl | rfl | rfl | rfl
      · exact run1 b x1 c0 c1 c2 c3 c4 c5 c6
      · exact run2 b x1 c0 c1 c2 c3 c4 c5 c6
      · exact key 1 (run4_1 b c0 c1 c2 c3 c4 c5 c6) (run5_1 b c0 c1 c2 c3 c4 c5 c6) (run6_1 b c0 c1 c2 c3 c4 c5 c6)
      · exact key 2 (run4_2 b c0 c1 c2 c3 c4 c5 c6) (run5_2 b c0 c1 c2 c3 c4 c5 c6) (run6_2 b c0 c1 c2 c3 c4 c5 c6)
      · exact key 3 (run4_3 b c0 c1 c2 c3 c4 c5 c6) (run5_3 b c0 c1 c2 c3 c4 c5 c6) (run6_3 b c0 c1 c2 c3 c4 c5 c6)
      · exact key 4 (run4_4 b c0 c1 c2 c3 c4 c5 c6) (run5_4 b c0 c1 c2 c3 c4 c5 c6) (run6_4 b c0 c1 c2 c3 c4 c5 c6)
      · exact key 5 (run4_5 b c0 c1 c2 c3 c4 c5 c6) (run5_5 b c0 c1 c2 c3 c4 c5 c6) (run6_5 b c0 c1 c2 c3 c4 c5 c6)
      · exact key 6 (run4_6 b c0 c1 c2 c3 c4 c5 c6) (run5_6 b c0 c1 c2 c3 c4 c5 c6) (run6_6 b c0 c1 c2 c3 c4 c5 c6)
      · exact key 7 (run4_7 b c0 c1 c2 c3 c4 c5 c6) (run5_7 b c0 c1 c2 c3 c4 c5 c6) (run6_7 b c0 c1 c2 c3 c4 c5 c6)
      · exact key 8 (run4_8 b c0 c1 c2 c3 c4 c5 c6) (run5_8 b c0 c1 c2 c3 c4 c5 c6) (run6_8 b c0 c1 c2 c3 c4 c5 c6)
    · obtain ⟨m, rfl⟩ : ∃ m, n = m + 10 := ⟨n - 10, by omega⟩
      exact run3 b x1 c0 c1 c2 c3 c4 c5 c6 m
theorem run_CallsNobody (W : World) (x0 x1 : Int) (x2 : TReq) (a2_0 : Option Addr) (q2_0 : Nat) (a2_1 : Option Addr) (q2_1 : Nat) (a2_2 : Option Addr) (q2_2 : Nat) : okR (run EE 100000 6 [.int .i64 x0, .int .i64 x1, .agg #[.int .i64 x2.Kind, .string x2.R.From, .string x2.R.To, .int .i64 x2.Rev, .slice a2_0 x2.Cmps.length q2_0, .slice a2_1 x2.Then.length q2_1, .slice a2_2 x2.Else.length q2_2]] (heap0 W)) = true := run_any _ _ _ _ _ _ _ _ _ _
end Go.Proofs.YtaieciabjlegkaaGreat.V
