/- The parts of WatchNobody, by the kernel.
   No condition. -/
import Derived.Test.YtokfjifeofpkkaaGreatLb0
namespace Go.Proofs.YtokfjifeofpkkaaGreat.V
open Go
set_option maxRecDepth 100000
set_option maxHeartbeats 4000000
theorem partsF (m1 : List Value → Heap → Option (Value × Heap)) (m2 : List Value → Heap → Option (Value × Heap)) (b : Nat → Nat → Option Value) (id : Int) (c0 : Value) (c1 : Value) (s : ByteArray) (s' : ByteArray) (f : ByteArray) (t : ByteArray) (n : Int) (o : Bool) : PartsF m1 m2 b id c0 c1 s s' f t n o := by
 constructor
 all_goals first | kernel_rfl | (intro call; kernel_rfl)
theorem partsK (m1 : List Value → Heap → Option (Value × Heap)) (m2 : List Value → Heap → Option (Value × Heap)) (b : Nat → Nat → Option Value) (id : Int) (c0 : Value) (c1 : Value) (s : ByteArray) (s' : ByteArray) (f : ByteArray) (t : ByteArray) (n : Int) (o : Bool) : PartsK m1 m2 b id c0 c1 s s' f t n o := by
 constructor
 all_goals first | kernel_rfl | (intro call; kernel_rfl)
end Go.Proofs.YtokfjifeofpkkaaGreat.V
