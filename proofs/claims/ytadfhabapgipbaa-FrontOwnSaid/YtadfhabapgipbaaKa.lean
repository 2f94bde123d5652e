/- The keys of a request: each once, rising.
   No condition: these are laws of plain functions. -/
import Derived.Test.YtadfhabapgipbaaTxn
import Derived.Test.YtadfhabapgipbaaKs
import Derived.Test.YtadfhabapgipbaaOw
namespace Go.Proofs.Ytadfhabapgipbaa.V
open Go
set_option linter.unusedVariables false
set_option linter.unusedSimpArgs false

theorem keysC : ∀ (l : List Cmp) (i : Nat) (acc : List ByteArray), acc.length + l.length ≤ 1000000 → F_txn_Keys_L2 l i acc = some (acc ++ l.map (·.key)) := by
  intro l
  induction l with
  | nil => intro i acc _; rw [F_txn_Keys_L2]; simp
  | cons c l ih =>
    intro i acc hl
    rw [List.length_cons] at hl
    rw [F_txn_Keys_L2, appL_ok (by simp; omega) (by omega) (by omega)]
    simp only [Option.bind_some]
    rw [ih (i + 1) _ (by simp; omega)]; simp
theorem keysO : ∀ (l : List OpX) (i : Nat) (acc : List ByteArray), acc.length + l.length ≤ 1000000 → F_txn_Keys_L1 l i acc = some (acc ++ l.map (·.key)) := by
  intro l
  induction l with
  | nil => intro i acc _; rw [F_txn_Keys_L1]; simp
  | cons c l ih =>
    intro i acc hl
    rw [List.length_cons] at hl
    rw [F_txn_Keys_L1, appL_ok (by simp; omega) (by omega) (by omega)]
    simp only [Option.bind_some]
    rw [ih (i + 1) _ (by simp; omega)]; simp
theorem concat_eq (a b : List OpX) (ha : a.length ≤ 20) (hb : b.length ≤ 20) : F_slices_Concat [a, b] = some (a ++ b) := by
  unfold F_slices_Concat
  simp only [F_slices_Concat_L2]
  have e1 : IntKind.i64.wrap (0 + (a.length : Int)) = (a.length : Int) := by rw [wrap_id (by omega) (by omega)]; omega
  have e2 : IntKind.i64.wrap ((a.length : Int) + (b.length : Int)) = (a.length : Int) + (b.length : Int) := wrap_id (by omega) (by omega)
  rw [e1, e2, if_neg (by simp), if_neg (by simp; omega)]
  simp only [Option.bind_some]
  have hg : growN 40 ((a.length : Int) + (b.length : Int)) = some () := by
    unfold growN
    rw [if_pos ⟨by omega, by omega, by omega, roomy_le (by omega) (by omega) (by omega)⟩]
  rw [hg]
  simp only [Option.bind_some, F_slices_Concat_L1]
  rw [appL_ok (xs := ([] : List OpX)) (ys := a) (by rw [List.length_nil]; omega) (by omega) (by omega)]
  simp only [Option.bind_some, List.nil_append]
  rw [appL_ok (xs := a) (ys := b) (by omega) (by omega) (by omega)]
  simp only [Option.bind_some]
theorem keys_eq (q : TReq) (h1 : q.Cmps.length ≤ 20) (h2 : q.Then.length ≤ 20) (h3 : q.Else.length ≤ 20) :
    ∃ ks, F_txn_Keys q = some ks ∧ ks.Pairwise (fun a b => lessB a b = true) ∧ ks.length ≤ 60 ∧ ∀ k, k ∈ ks ↔ (k ∈ q.Cmps.map (·.key) ∨ k ∈ q.Then.map (·.key) ∨ k ∈ q.Else.map (·.key)) := by
  unfold F_txn_Keys
  rw [keysC q.Cmps 0 [] (by simp; omega), concat_eq _ _ h2 h3]
  simp only [Option.bind_some, List.nil_append]
  rw [keysO (q.Then ++ q.Else) 0 (q.Cmps.map (·.key)) (by simp; omega)]
  simp only [Option.bind_some]
  have hl : (q.Cmps.map (·.key) ++ (q.Then ++ q.Else).map (·.key)).length ≤ 60 := by simp; omega
  obtain ⟨ys, hy⟩ := sortB_some (xs := q.Cmps.map (·.key) ++ (q.Then ++ q.Else).map (·.key)) (by omega)
  have hyl := sortB_len hy
  obtain ⟨zs, hz⟩ := compB_some (xs := ys) (by omega)
  have hzl := compB_len hz
  obtain ⟨s1, s2⟩ := sortB_spec hy
  obtain ⟨c1, c2⟩ := compB_spec hz s2
  refine ⟨zs, ?_, c2, by omega, fun k => ?_⟩
  · unfold F_txn_once
    rw [hy]
    simp only [Option.bind_some]
    rw [hz]; rfl
  · rw [c1, s1, List.mem_append, List.map_append, List.mem_append]
end Go.Proofs.Ytadfhabapgipbaa.V
