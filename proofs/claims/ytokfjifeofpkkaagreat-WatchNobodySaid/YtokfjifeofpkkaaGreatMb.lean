/- Plain laws of texts, of finding, and of sorted rows.
   No condition: these are laws of plain definitions. -/
import Derived.Test.YtokfjifeofpkkaaGreatVk
import Derived.MapKept
import Derived.Laws.Strings
namespace Go.Proofs.YtokfjifeofpkkaaGreat.V
open Go
set_option linter.unusedVariables false
set_option linter.unusedSimpArgs false
@[simp] theorem ba_iff {a b : ByteArray} : (a == b) = true ↔ a = b := Go.MapKept.bytes_beq a b
@[simp] theorem ba_self (a : ByteArray) : (a == a) = true := (Go.MapKept.bytes_beq a a).mpr rfl
def bs (p : Nat → Bool) (i j : Nat) : Nat :=
 if i < j then (if p ((i + j) / 2) then bs p ((i + j) / 2 + 1) j else bs p i ((i + j) / 2)) else i
termination_by j - i
decreasing_by all_goals omega
theorem toList_inj {x y : ByteArray} (h : x.toList = y.toList) : x = y := by
 rw [ByteArray.toList_eq, ByteArray.toList_eq] at h
 cases x; cases y
 have := Array.toList_inj.mp h
 dsimp only at this
 subst this; rfl
theorem eqB_iff {x y : ByteArray} : eqB x y = true ↔ x = y := by
 unfold eqB
 rw [beq_iff_eq]
 exact ⟨toList_inj, fun h => by rw [h]⟩
@[simp] theorem eqB_self (x : ByteArray) : eqB x x = true := eqB_iff.mpr rfl
end Go.Proofs.YtokfjifeofpkkaaGreat.V
