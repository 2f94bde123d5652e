/- The plain law of TxnShort.
   No condition: this is a law of plain functions. -/
import Derived.Test.YtadfhabapgipbaaTxn
namespace Go.Proofs.Ytadfhabapgipbaa.V
open Go
set_option linter.unusedVariables false
set_option linter.unusedSimpArgs false

theorem may_put {k v : ByteArray} (h1 : 1 ≤ k.size) (h8 : k.size ≤ 8) (hv : v.size ≤ 8) : F_txn_May ⟨1, ⟨ByteArray.empty, ByteArray.empty⟩, 0, [], [⟨k, v, false⟩], []⟩ = some 0 := by
  have hk : eqB k ByteArray.empty = false := by
    cases e : eqB k ByteArray.empty
    · rfl
    · rw [eqB_iff] at e; subst e; simp at h1
  have g8 : (k.size : Int) ≤ 8 := by omega
  have gv : ¬ 8 < (v.size : Int) := by omega
  simp [F_txn_May, F_txn_compares, F_slices_ContainsFunc_txn_compares_1, F_slices_IndexFunc_txn_compares_1, F_slices_IndexFunc_txn_compares_1_L1, F_txn_ops, F_txn_ops_L1, lpK, F_key_May, hk, g8, gv, mget, mfind]
theorem may_del {k : ByteArray} (h1 : 1 ≤ k.size) (h8 : k.size ≤ 8) : F_txn_May ⟨1, ⟨ByteArray.empty, ByteArray.empty⟩, 0, [], [⟨k, ByteArray.empty, true⟩], []⟩ = some 0 := by
  have hk : eqB k ByteArray.empty = false := by
    cases e : eqB k ByteArray.empty
    · rfl
    · rw [eqB_iff] at e; subst e; simp at h1
  have g8 : (k.size : Int) ≤ 8 := by omega
  simp [F_txn_May, F_txn_compares, F_slices_ContainsFunc_txn_compares_1, F_slices_IndexFunc_txn_compares_1, F_slices_IndexFunc_txn_compares_1_L1, F_txn_ops, F_txn_ops_L1, lpK, F_key_May, hk, g8, mget, mfind]
theorem may_swap {k v w : ByteArray} (h1 : 1 ≤ k.size) (h8 : k.size ≤ 8) (hv : v.size ≤ 8) (hw : w.size ≤ 8) : F_txn_May ⟨1, ⟨ByteArray.empty, ByteArray.empty⟩, 0, [⟨1, k, v, 0⟩], [⟨k, w, false⟩], []⟩ = some 0 := by
  have hk : eqB k ByteArray.empty = false := by
    cases e : eqB k ByteArray.empty
    · rfl
    · rw [eqB_iff] at e; subst e; simp at h1
  have g8 : (k.size : Int) ≤ 8 := by omega
  have gv : ¬ 8 < (v.size : Int) := by omega
  have gw : ¬ 8 < (w.size : Int) := by omega
  simp [F_txn_May, F_txn_compares, F_slices_ContainsFunc_txn_compares_1, F_slices_IndexFunc_txn_compares_1, F_slices_IndexFunc_txn_compares_1_L1, F_txn_compares_1, F_txn_ops, F_txn_ops_L1, lpK, F_key_May, hk, g8, gv, gw, mget, mfind]

theorem plain_TxnShort (p0 : List KV) (p1 : ByteArray) (p2 : A2_ByteArray) (w0 : (∀ a ∈ p0, W_KV a) ∧ p0.length ≤ maxLen) (w1 : p1.size ≤ maxLen) (w2 : W_A2_ByteArray p2) : ∃ n, F_law07_TxnShort n p0 p1 p2 = some true := by
  refine ⟨100, ?_⟩
  unfold F_law07_TxnShort
  by_cases hl : p0.length > 60
  · rw [if_pos (by simp; omega)]; rfl
  · rw [if_neg (by simp; omega), map_eq p0 (by omega)]
    simp only [Option.bind_some]
    cases hm : mapB p0 with
    | false => rfl
    | true =>
      have hs := sorted_of hm
      by_cases hg : p1.size < 1 ∨ p1.size > 8 ∨ p2.x0.size > 8 ∨ p2.x1.size > 8
      · rw [if_pos]
        simp only [Bool.not_true, cond_false]
        by_cases g1 : (p1.size : Int) < 1 <;> by_cases g2 : (p1.size : Int) > 8 <;> by_cases g3 : (p2.x0.size : Int) > 8 <;> by_cases g4 : (p2.x1.size : Int) > 8 <;> simp [g1, g2, g3, g4]
        omega
      · have g1 : ¬ ((p1.size : Int) < 1) := by omega
        have g2 : ¬ ((p1.size : Int) > 8) := by omega
        have g3 : ¬ ((p2.x0.size : Int) > 8) := by omega
        have g4 : ¬ ((p2.x1.size : Int) > 8) := by omega
        rw [if_neg (by simp only [Bool.not_true, cond_false]; simp [g1, g2, g3, g4])]
        have hn : p0.length < 4611686018427387904 := by omega
        have hn2 : p0.length < 100 := by omega
        simp only [get_eq, getK_find hs, Option.bind_some, F_txn_Put, F_txn_Del, F_txn_Swap]
        rw [plan_eq p0 _ hn hn2 (by simp) (by simp), plan_eq p0 _ hn hn2 (by simp) (by simp), plan_eq p0 _ hn hn2 (by simp) (by simp)]
        simp only [Option.bind_some]
        rw [may_put (by omega) (by omega) (by omega)]
        simp only [Option.bind_some]
        rw [may_del (by omega) (by omega), may_swap (by omega) (by omega) (by omega) (by omega)]
        cases hk : findK p0 p1 with
        | none => simp [holds, bad1, planOps, hk, ops_eq, kvOr]
        | some x =>
          cases hv : eqB x.val p2.x0 <;> simp [holds, bad1, planOps, hk, ops_eq, kvOr, hv, getI, eq_OpX]
end Go.Proofs.Ytadfhabapgipbaa.V
