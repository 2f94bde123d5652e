/- Rows that are read and written in place.
   No condition: these are laws of the clean machine. -/
import Derived.Test.YtadfhabapgipbaaV30
namespace Go.Proofs.Ytadfhabapgipbaa.V
open Go
set_option linter.unusedVariables false
set_option linter.unusedSimpArgs false

theorem flat_splice {k : Nat} {q : List Value} (hq : q.length = k) : ∀ (rows : List (List Value)) (i : Nat), (∀ r ∈ rows, r.length = k) → i < rows.length → splice rows.flatten (i * k) q = (rows.set i q).flatten := by
  intro rows
  induction rows with
  | nil => intro i _ hi; simp at hi
  | cons x rows ih =>
    intro i hr hi
    have hx := hr x List.mem_cons_self
    cases i with
    | zero =>
      unfold splice
      rw [Nat.zero_mul, List.take_zero, List.nil_append, Nat.zero_add, List.set_cons_zero, List.flatten_cons, List.flatten_cons, hq, ← hx, List.drop_left']
      rfl
    | succ i =>
      have h1 := ih i (fun y hy => hr y (List.mem_cons_of_mem _ hy)) (by simpa using hi)
      unfold splice at h1 ⊢
      rw [List.set_cons_succ, List.flatten_cons, List.flatten_cons, ← h1, Nat.succ_mul, Nat.add_comm (i * k) k, ← hx, List.take_append, List.take_of_length_le (by omega), Nat.add_sub_cancel_left, List.append_assoc, Nat.add_assoc, List.drop_append, List.drop_eq_nil_of_le (by omega), List.nil_append,
        show x.length + (i * x.length + q.length) - x.length = i * x.length + q.length by omega]

theorem Rws.set {α : Type} {R : Rep α} {h : Heap} {rows : List (List Value)} {xs : List α} (s : Rws R h rows xs) {q : List Value} {x : α} (c : R.C h q x) (i : Nat) : Rws R h (rows.set i q) (xs.set i x) := by
  refine ⟨by rw [List.length_set, List.length_set, s.len], fun j row y hr hy => ?_⟩
  rw [List.getElem?_set] at hr hy
  split at hr
  · rename_i e
    subst e
    rw [if_pos rfl] at hy
    split at hr
    · split at hy
      · cases hr; cases hy; exact c
      · cases hy
    · cases hr
  · rename_i e
    rw [if_neg e] at hy
    exact s.C j row y hr hy

def setI {α : Type} (xs : List α) (i : Int) (x : α) : List α := xs.set i.toNat x

section
variable {X : Cx} {st : List It} {l : L} {h0 : Heap} {segs : List (List Blk)}
variable {r : Array Oper} {q : Bool} {os : List Oper} {d : Nat} {ty : TypeId} {pos : String} {aft : Array Edge}

/-- The parts of what grows: its block, and its rows. -/
theorem AccR.open {α : Type} {R : Rep α} {elem : TypeId} {h : Heap} {tl : List Blk} {p : Option Addr} {xs : List α} (a : AccR R elem h tl (.slice p xs.length xs.length) xs) {i : Int} {x : α} (hx : getI xs i = some x) :
    ∃ b rows row, p = some ⟨b, 0, some 0⟩ ∧ tl = [⟨b, .cells rows.flatten elem⟩] ∧ Rws R h rows xs ∧ rows[i.toNat]? = some row ∧ R.C h row x ∧ 0 ≤ i ∧ i < (xs.length : Int) ∧ row.length = R.k ∧ (rows.flatten.drop (i.toNat * R.k)).take R.k = row ∧ i.toNat * R.k + R.k ≤ rows.flatten.length := by
  obtain ⟨j, rfl, hj, hl⟩ := getI_some hx
  obtain ⟨hxl, ⟨h1, _, h3⟩ | ⟨b, rows, h1, h2, h3⟩⟩ := a
  · subst h1; simp at hl
  · have hp : p = some ⟨b, 0, some 0⟩ := by simpa using h1
    have hr : j < rows.length := by rw [h3.len]; exact hl
    have hrow := List.getElem?_eq_getElem hr
    obtain ⟨g1, g2⟩ := flat_at rows j h3.k hrow
    exact ⟨b, rows, rows[j], hp, h2, h3, hrow, h3.C j _ x hrow hj, by omega, by omega, h3.k _ (List.getElem_mem hr), g2, g1⟩
theorem ia_acc {E : Env} {t e k : Nat} {ik : IntKind} {b n c : Nat} {i : Int} (hu : E.P.underlying t = some (.slice e)) (hz : sz E.P e = some k) (h0 : 0 ≤ i) (hi : i < (n : Int)) :
    indexAddrV E t (.slice (some ⟨b, 0, some 0⟩) n c) (.int ik i) = some (.pointer (some ⟨b, i.toNat * k, none⟩)) := by
  unfold indexAddrV
  dsimp only
  rw [hu]
  dsimp only
  rw [if_pos ⟨h0, hi⟩, hz]
  simp only [elemAddr, Nat.zero_add]
/-- What grows, after one of its elements (or a part of that) was written. -/
theorem AccR.put {α : Type} {R : Rep α} {elem : TypeId} {h : Heap} {b : Nat} {rows : List (List Value)} {xs : List α} {i : Int} {x : α} {row : List Value} (hl : xs.length < 9223372036854775808) (s : Rws R h rows xs) (hi0 : 0 ≤ i) (hi : i < (xs.length : Int)) (c : R.C h row x) :
    AccR R elem h [⟨b, .cells (splice rows.flatten (i.toNat * R.k) row) elem⟩] (.slice (some ⟨b, 0, some 0⟩) (setI xs i x).length (setI xs i x).length) (setI xs i x) := by
  have hr : i.toNat < rows.length := by rw [s.len]; omega
  refine ⟨by unfold setI; rw [List.length_set]; exact hl, .inr ⟨b, rows.set i.toNat row, rfl, ?_, s.set c i.toNat⟩⟩
  rw [flat_splice (R.len c) rows i.toNat s.k hr]
end
end Go.Proofs.Ytadfhabapgipbaa.V
