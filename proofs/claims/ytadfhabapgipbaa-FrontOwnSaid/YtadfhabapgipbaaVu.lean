/- Elements of what grows, read and written where they lie.
   No condition: these are laws of the clean machine. -/
import Derived.Test.YtadfhabapgipbaaVt
namespace Go.Proofs.Ytadfhabapgipbaa.V
open Go
set_option linter.unusedVariables false
set_option linter.unusedSimpArgs false

theorem setI_len {α : Type} (xs : List α) (i : Int) (x : α) : (setI xs i x).length = xs.length := by unfold setI; exact List.length_set
theorem take_len {α : Type} {cs row : List α} {o k : Nat} (h : (cs.drop o).take k = row) (hl : o + k ≤ cs.length) : row.length = k := by
  rw [← h, List.length_take, List.length_drop]; omega
theorem acc_cell {cs row : List Value} {o k j : Nat} {v : Value} (h : (cs.drop o).take k = row) (hv : row[j]? = some v) : cs[o + j]? = some v := by
  rw [← h, List.getElem?_take] at hv
  split at hv
  · rw [List.getElem?_drop] at hv; exact hv
  · cases hv
theorem acc_part {cs row vs : List Value} {o k j m : Nat} (h : (cs.drop o).take k = row) (hm : j + m ≤ k) (hv : (row.drop j).take m = vs) : (cs.drop (o + j)).take m = vs := by
  rw [← hv, ← h, List.drop_take, List.take_take, List.drop_drop, Nat.min_eq_left (by omega)]
theorem acc_ble {n o k j m : Nat} (h : o + k ≤ n) (hm : j + m ≤ k) : Nat.ble (o + j + m) n = true := Nat.ble_eq_true_of_le (by omega)

theorem flat_splice_part {k : Nat} {vs row : List Value} {j : Nat} : ∀ (rows : List (List Value)) (i : Nat), (∀ r ∈ rows, r.length = k) → rows[i]? = some row → j + vs.length ≤ k → splice rows.flatten (i * k + j) vs = (rows.set i (splice row j vs)).flatten := by
  intro rows
  induction rows with
  | nil => intro i _ hi; simp at hi
  | cons x rows ih =>
    intro i hr hi hj
    have hx := hr x List.mem_cons_self
    cases i with
    | zero =>
      have : x = row := by simpa using hi
      subst this
      unfold splice
      rw [Nat.zero_mul, Nat.zero_add, List.set_cons_zero, List.flatten_cons, List.flatten_cons, List.take_append_of_le_length (by omega), List.drop_append_of_le_length (by omega)]
      simp only [List.append_assoc]
    | succ i =>
      have h1 := ih i (fun y hy => hr y (List.mem_cons_of_mem _ hy)) (by simpa using hi) hj
      unfold splice at h1 ⊢
      rw [List.set_cons_succ, List.flatten_cons, List.flatten_cons]
      rw [show (rows.set i (row.take j ++ (vs ++ row.drop (j + vs.length)))).flatten = _ from h1.symm]
      rw [Nat.succ_mul, show i * k + k + j = x.length + (i * k + j) by omega, List.take_length_add_append, show x.length + (i * k + j) + vs.length = x.length + (i * k + j + vs.length) by omega, List.drop_length_add_append, List.append_assoc]

theorem AccR.set_ {α : Type} {R : Rep α} {elem : TypeId} {h : Heap} {b n : Nat} {rows : List (List Value)} {xs : List α} {i : Int} {x : α} {row : List Value} (hl : xs.length < 9223372036854775808) (s : Rws R h rows xs) (hn : n = i.toNat) (c : R.C h row x) :
    AccR R elem h [⟨b, .cells (rows.set n row).flatten elem⟩] (.slice (some ⟨b, 0, some 0⟩) (setI xs i x).length (setI xs i x).length) (setI xs i x) := by
  subst hn
  exact ⟨by rw [setI_len]; exact hl, .inr ⟨b, rows.set i.toNat row, rfl, rfl, s.set c i.toNat⟩⟩
/-- A row that was written, at its place. -/
theorem flat_at_set {k i : Nat} {row' : List Value} {rows : List (List Value)} (hr : ∀ r ∈ rows, r.length = k) (hi : i < rows.length) (hl : row'.length = k) :
    ((rows.set i row').flatten.drop (i * k)).take k = row' ∧ i * k + k ≤ (rows.set i row').flatten.length := by
  have h1 : ∀ r ∈ rows.set i row', r.length = k := by
    intro r hm
    rcases List.mem_or_eq_of_mem_set hm with q | q
    · exact hr r q
    · subst q; exact hl
  obtain ⟨g1, g2⟩ := flat_at (rows.set i row') i h1 (by rw [List.getElem?_set_self hi])
  exact ⟨g2, g1⟩
section
variable {X : Cx} {st : List It} {l : L} {h0 : Heap} {segs : List (List Blk)}
/-- A call's own blocks, told otherwise. -/
theorem gs_retell {segs' : List (List Blk)} (e : segs = segs') (k : Goes X st l segs'.flatten h0) : Goes X st l segs.flatten h0 := by subst e; exact k
end
/-- The element's place, and what lies there. -/
theorem AccR.at_ {α : Type} {R : Rep α} {elem : TypeId} {h : Heap} {tl : List Blk} {p : Option Addr} {xs : List α} (a : AccR R elem h tl (.slice p xs.length xs.length) xs) {i : Int} {x : α} (hx : getI xs i = some x) :
    ∃ b rows row, p = some ⟨b, 0, some 0⟩ ∧ tl = [⟨b, .cells rows.flatten elem⟩] ∧ Rws R h rows xs ∧ rows[i.toNat]? = some row ∧ R.C h row x ∧ 0 ≤ i ∧ i < (xs.length : Int) ∧ (rows.flatten.drop (i.toNat * R.k)).take R.k = row ∧ i.toNat * R.k + R.k ≤ rows.flatten.length ∧ xs.length < 9223372036854775808 := by
  obtain ⟨b, rows, row, h1, h2, h3, h4, h5, h6, h7, _, h8, h9⟩ := a.open hx
  exact ⟨b, rows, row, h1, h2, h3, h4, h5, h6, h7, h8, h9, a.1⟩
theorem Rws.at2 {α : Type} {R : Rep α} {h : Heap} {rows : List (List Value)} {xs : List α} (s : Rws R h rows xs) {i : Int} {x : α} (hx : getI xs i = some x) :
    ∃ row, rows[i.toNat]? = some row ∧ R.C h row x ∧ 0 ≤ i ∧ i < (xs.length : Int) ∧ (rows.flatten.drop (i.toNat * R.k)).take R.k = row ∧ i.toNat * R.k + R.k ≤ rows.flatten.length := by
  obtain ⟨j, rfl, hj, hl⟩ := getI_some hx
  have hr : j < rows.length := by rw [s.len]; exact hl
  have hrow := List.getElem?_eq_getElem hr
  obtain ⟨g1, g2⟩ := flat_at rows j s.k hrow
  exact ⟨_, hrow, s.C j _ x hrow hj, by omega, by omega, g2, g1⟩
theorem getI_setI {α : Type} {xs : List α} {i : Int} {x : α} (h0 : 0 ≤ i) (hi : i < (xs.length : Int)) : getI (setI xs i x) i = some x := by
  unfold getI setI
  rw [if_pos h0, List.getElem?_set_self (by omega)]
end Go.Proofs.Ytadfhabapgipbaa.V
