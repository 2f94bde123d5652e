/- What a map has at a key.
   No condition: these are laws of plain functions. -/
import Derived.Test.YtfgoccdjbgecfaaHq
namespace Go.Proofs.Ytfgoccdjbgecfaa.V
open Go
set_option linter.unusedVariables false
set_option linter.unusedSimpArgs false

def all0 : TRange := ⟨ByteArray.empty, ByteArray.empty⟩
/-- Everything there is, in range. -/
theorem inR_all (k : ByteArray) : inR ⟨ByteArray.empty, ByteArray.empty⟩ k = true := by
  unfold inR
  have h1 : leB ByteArray.empty k = true := by
    rw [leB_not]
    have : lessB k ByteArray.empty = false := by
      unfold lessB
      have : ByteArray.empty.toList = [] := by rw [ByteArray.toList_eq]; rfl
      rw [this]
      cases k.toList <;> rfl
    rw [this]; rfl
  rw [h1, eqB_self]; rfl
end Go.Proofs.Ytfgoccdjbgecfaa.V
