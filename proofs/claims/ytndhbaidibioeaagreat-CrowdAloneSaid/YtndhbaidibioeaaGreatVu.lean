/- Calls that write what they are handed of this call's own; calls that look at it. .. and what follows it, in one text.
   No condition beyond those that each part names. -/
import Derived.Test.YtndhbaidibioeaaGreatV31
import Derived.Test.YtndhbaidibioeaaGreatVs
namespace Go.Proofs.YtndhbaidibioeaaGreat.V
open Go
set_option linter.unusedVariables false
set_option linter.unusedSimpArgs false
set_option linter.unusedSectionVars false
theorem run_prim {E : Env} {g : FuncId} {p : List Value → Heap → Option (Value × Heap)} (hp : E.prim g = some p) (n : Nat) (args : List Value) (h : Heap) : run E (n + 1) g args h = p args h := by
 simp only [run, hp]
theorem known_evp {E : Env} {g : FuncId} {v : Value} (hp : E.prim g = some (known v)) (h : Heap) (hw : Wf h) : Ev E g [] h (fun w _ => w = v) :=
 ⟨1, v, h, by rw [run_prim hp]; rfl, HExt.refl h, rfl⟩
theorem AccR.rl {α : Type} {R : Rep α} {elem : TypeId} {h : Heap} {b : Nat} {rows : List (List Value)} {xs : List α} (hl : xs.length < 9223372036854775808) (hT : elem = R.T) (hb : h.get b = some (.cells rows.flatten elem)) (s : Rws R h rows xs) :
 RL R h (some ⟨b, 0, some 0⟩) xs.length xs := RL.of_blk (.inr rfl) hb rfl s hl (Nat.le_refl _) hT
section
variable {X : Cx} {st : List It} {l : L} {h0 : Heap} {segs : List (List Blk)}
variable {r : Array Oper} {os : List Oper} {d : Nat} {ty : TypeId} {pos : String} {aft : Array Edge}
end
section
variable {α β : Type} [Inhabited α] {enc : α → Value} {dec : Value → Option α} {enc' : β → Value} {conv : β → α} {back : α → β}
end
section
variable {X : Cx} {st : List It} {l : L} {own : List Blk} {h0 : Heap}
variable {r : Array Oper} {os : List Oper} {d : Nat} {ty : TypeId} {pos : String} {aft : Array Edge}
end
end Go.Proofs.YtndhbaidibioeaaGreat.V
namespace Go.Proofs.YtndhbaidibioeaaGreat.V
open Go
set_option linter.unusedVariables false
set_option linter.unusedSimpArgs false
theorem setI_len {α : Type} (xs : List α) (i : Int) (x : α) : (setI xs i x).length = xs.length := by unfold setI; exact List.length_set
theorem acc_cell {cs row : List Value} {o k j : Nat} {v : Value} (h : (cs.drop o).take k = row) (hv : row[j]? = some v) : cs[o + j]? = some v := by
 rw [← h, List.getElem?_take] at hv
 split at hv
 ·
  rw [List.getElem?_drop] at hv; exact hv
 ·
  cases hv
theorem acc_ble {n o k j m : Nat} (h : o + k ≤ n) (hm : j + m ≤ k) : Nat.ble (o + j + m) n = true := Nat.ble_eq_true_of_le (by omega)
theorem flat_splice_part {k : Nat} {vs row : List Value} {j : Nat} : ∀ (rows : List (List Value)) (i : Nat), (∀ r ∈ rows, r.length = k) → rows[i]? = some row → j + vs.length ≤ k → splice rows.flatten (i * k + j) vs = (rows.set i (splice row j vs)).flatten := by
 intro rows
 induction rows with
 | nil => intro i _ hi; simp at hi
 | cons x rows ih =>
  intro i hr hi hj
  have hx := hr x List.mem_cons_self
  cases i with
  | zero =>
   have : x = row := by simpa using hi
   subst this
   unfold splice
   rw [Nat.zero_mul, Nat.zero_add, List.set_cons_zero, List.flatten_cons, List.flatten_cons, List.take_append_of_le_length (by omega), List.drop_append_of_le_length (by omega)]
   simp only [List.append_assoc]
  | succ i =>
   have h1 := ih i (fun y hy => hr y (List.mem_cons_of_mem _ hy)) (by simpa using hi) hj
   unfold splice at h1 ⊢
   rw [List.set_cons_succ, List.flatten_cons, List.flatten_cons]
   rw [show (rows.set i (row.take j ++ (vs ++ row.drop (j + vs.length)))).flatten = _ from h1.symm]
   rw [Nat.succ_mul, show i * k + k + j = x.length + (i * k + j) by omega, List.take_length_add_append, show x.length + (i * k + j) + vs.length = x.length + (i * k + j + vs.length) by omega, List.drop_length_add_append, List.append_assoc]
theorem AccR.set_ {α : Type} {R : Rep α} {elem : TypeId} {h : Heap} {b n : Nat} {rows : List (List Value)} {xs : List α} {i : Int} {x : α} {row : List Value} (hl : xs.length < 9223372036854775808) (s : Rws R h rows xs) (hn : n = i.toNat) (c : R.C h row x) :
 AccR R elem h [⟨b, .cells (rows.set n row).flatten elem⟩] (.slice (some ⟨b, 0, some 0⟩) (setI xs i x).length (setI xs i x).length) (setI xs i x) := by
 subst hn
 exact ⟨by rw [setI_len]; exact hl, .inr ⟨b, rows.set i.toNat row, rfl, rfl, s.set c i.toNat⟩⟩
theorem flat_at_set {k i : Nat} {row' : List Value} {rows : List (List Value)} (hr : ∀ r ∈ rows, r.length = k) (hi : i < rows.length) (hl : row'.length = k) :
 ((rows.set i row').flatten.drop (i * k)).take k = row' ∧ i * k + k ≤ (rows.set i row').flatten.length := by
 have h1 : ∀ r ∈ rows.set i row', r.length = k := by
  intro r hm
  rcases List.mem_or_eq_of_mem_set hm with q | q
  ·
   exact hr r q
  ·
   subst q; exact hl
 obtain ⟨g1, g2⟩ := flat_at (rows.set i row') i h1 (by rw [List.getElem?_set_self hi])
 exact ⟨g2, g1⟩
section
variable {X : Cx} {st : List It} {l : L} {h0 : Heap} {segs : List (List Blk)}
theorem gs_retell {segs' : List (List Blk)} (e : segs = segs') (k : Goes X st l segs'.flatten h0) : Goes X st l segs.flatten h0 := by subst e; exact k
end
theorem AccR.at_ {α : Type} {R : Rep α} {elem : TypeId} {h : Heap} {tl : List Blk} {p : Option Addr} {xs : List α} (a : AccR R elem h tl (.slice p xs.length xs.length) xs) {i : Int} {x : α} (hx : getI xs i = some x) :
 ∃ b rows row, p = some ⟨b, 0, some 0⟩ ∧ tl = [⟨b, .cells rows.flatten elem⟩] ∧ Rws R h rows xs ∧ rows[i.toNat]? = some row ∧ R.C h row x ∧ 0 ≤ i ∧ i < (xs.length : Int) ∧ (rows.flatten.drop (i.toNat * R.k)).take R.k = row ∧ i.toNat * R.k + R.k ≤ rows.flatten.length ∧ xs.length < 9223372036854775808 := by
 obtain ⟨b, rows, row, h1, h2, h3, h4, h5, h6, h7, _, h8, h9⟩ := a.open hx
 exact ⟨b, rows, row, h1, h2, h3, h4, h5, h6, h7, h8, h9, a.1⟩
end Go.Proofs.YtndhbaidibioeaaGreat.V
