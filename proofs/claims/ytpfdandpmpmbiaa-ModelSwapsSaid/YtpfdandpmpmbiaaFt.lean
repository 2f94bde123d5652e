/- A search for a key.
   No condition: these are laws of plain functions. -/
import Derived.Test.YtpfdandpmpmbiaaFo
namespace Go.Proofs.Ytpfdandpmpmbiaa.V
open Go
set_option linter.unusedVariables false
set_option linter.unusedSimpArgs false

theorem find1_eq (x : TKV) (k : ByteArray) : F_txn_find_1 x k = some (cmpS x.Key k) := by
  unfold F_txn_find_1; rw [cmp_eq]; rfl
theorem bsG (m : List TKV) (k : ByteArray) (hm : m.length < 4611686018427387904) : ∀ (f i j : Nat), i ≤ j → j ≤ m.length → j - i < f →
    F_slices_BinarySearchFunc_txn_find_1_L1 m k f i j = some ((bs (keyLt m k) i j : Nat) : Int) := by
  intro f
  induction f with
  | zero => intro i j _ _ h; omega
  | succ f ih =>
    intro i j h1 h2 h3
    rw [F_slices_BinarySearchFunc_txn_find_1_L1, mid_eq' (by omega)]
    by_cases q : i < j
    · have hi : (i + j) / 2 < m.length := by omega
      rw [if_pos (by simpa using q), getI_nat, List.getElem?_eq_getElem hi]
      simp only [Option.bind_some, find1_eq]
      rw [bs_lt q]
      have hk : keyLt m k ((i + j) / 2) = decide (cmpS m[(i + j) / 2].Key k < 0) := by unfold keyLt; rw [List.getElem?_eq_getElem hi]
      rw [hk, wrap_id (by omega) (by omega)]
      split
      · exact ih ((i + j) / 2 + 1) j (by omega) h2 (by omega)
      · exact ih i ((i + j) / 2) (by omega) (by omega) (by omega)
    · rw [if_neg (by simpa using q), bs_ge q]
theorem bsg_eq {n : Nat} {A B : List TKV} {k : ByteArray} (h1 : ∀ a ∈ A, lessB a.Key k = true) (h2 : ∀ b ∈ B, lessB b.Key k = false) (hl : (A ++ B).length ≤ 1000000) (hn : (A ++ B).length < n) :
    F_slices_BinarySearchFunc_txn_find_1 n (A ++ B) k = some (((A.length : Nat) : Int), headK B k) := by
  unfold F_slices_BinarySearchFunc_txn_find_1
  have h := bsG (A ++ B) k (by omega) n 0 (A ++ B).length (Nat.zero_le _) (Nat.le_refl _) (by omega)
  rw [show (0 : Int) = ((0 : Nat) : Int) from rfl, h, bs_at h1 h2]
  simp only [Option.bind_some]
  cases B with
  | nil => rw [if_neg (by simp)]; rfl
  | cons b B =>
    rw [if_pos (by simp; omega), getI_nat, List.getElem?_append_right (Nat.le_refl _), Nat.sub_self]
    simp only [List.getElem?_cons_zero, Option.bind_some, find1_eq]
    congr 2
    rw [Bool.eq_iff_iff, beq_iff_eq]
    show cmpS b.Key k = (0 : Int) ↔ _
    rw [cmpS_eq]
    exact eqB_iff.symm
end Go.Proofs.Ytpfdandpmpmbiaa.V
