/- The parts of CoreNobody, by the kernel.
   No condition. -/
import Derived.Test.YtmogkmckjgeoiaaGreatLb0
namespace Go.Proofs.YtmogkmckjgeoiaaGreat.V
open Go
set_option maxRecDepth 100000
set_option maxHeartbeats 4000000
theorem parts_no (m : List Value → Heap → Option (Value × Heap)) (b : Nat → Nat → Option Value) (k : Int) (z : Int) (c1 c2 c3 c4 c5 c6 d0 d1 d3 d4 : Value) : Parts m b k 1 c1 c2 c3 c4 c5 c6 d0 d1 (.int .i64 z) d3 d4 := by
 constructor
 all_goals first | kernel_rfl | (intro call; kernel_rfl)
theorem parts_k1 (m : List Value → Heap → Option (Value × Heap)) (b : Nat → Nat → Option Value) (z : Int) (c1 c2 c3 c4 c5 c6 d0 d1 d3 d4 : Value) : Parts m b 1 0 c1 c2 c3 c4 c5 c6 d0 d1 (.int .i64 z) d3 d4 := by
 constructor
 all_goals first | kernel_rfl | (intro call; kernel_rfl)
theorem parts_k2 (m : List Value → Heap → Option (Value × Heap)) (b : Nat → Nat → Option Value) (z : Int) (c1 c2 c3 c4 c5 c6 d0 d1 d3 d4 : Value) : Parts m b 2 0 c1 c2 c3 c4 c5 c6 d0 d1 (.int .i64 z) d3 d4 := by
 constructor
 all_goals first | kernel_rfl | (intro call; kernel_rfl)
theorem parts_k3 (m : List Value → Heap → Option (Value × Heap)) (b : Nat → Nat → Option Value) (z : Int) (c1 c2 c3 c4 c5 c6 d0 d1 d3 d4 : Value) : Parts m b 3 0 c1 c2 c3 c4 c5 c6 d0 d1 (.int .i64 z) d3 d4 := by
 constructor
 all_goals first | kernel_rfl | (intro call; kernel_rfl)
end Go.Proofs.YtmogkmckjgeoiaaGreat.V
