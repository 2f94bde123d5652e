/- Calls that write what they are handed of this call's own; calls that look at it. .. and what follows it, in one text.
   No condition beyond those that each part names. -/
import Derived.Test.YtokfjifeofpkkaaGreatV31
import Derived.Test.YtokfjifeofpkkaaGreatVs
namespace Go.Proofs.YtokfjifeofpkkaaGreat.V
open Go
set_option linter.unusedVariables false
set_option linter.unusedSimpArgs false
set_option linter.unusedSectionVars false
theorem run_prim {E : Env} {g : FuncId} {p : List Value → Heap → Option (Value × Heap)} (hp : E.prim g = some p) (n : Nat) (args : List Value) (h : Heap) : run E (n + 1) g args h = p args h := by
 simp only [run, hp]
theorem AccR.rl {α : Type} {R : Rep α} {elem : TypeId} {h : Heap} {b : Nat} {rows : List (List Value)} {xs : List α} (hl : xs.length < 9223372036854775808) (hT : elem = R.T) (hb : h.get b = some (.cells rows.flatten elem)) (s : Rws R h rows xs) :
 RL R h (some ⟨b, 0, some 0⟩) xs.length xs := RL.of_blk (.inr rfl) hb rfl s hl (Nat.le_refl _) hT
section
variable {X : Cx} {st : List It} {l : L} {h0 : Heap} {segs : List (List Blk)}
variable {r : Array Oper} {os : List Oper} {d : Nat} {ty : TypeId} {pos : String} {aft : Array Edge}
end
section
variable {α β : Type} [Inhabited α] {enc : α → Value} {dec : Value → Option α} {enc' : β → Value} {conv : β → α} {back : α → β}
end
section
variable {X : Cx} {st : List It} {l : L} {own : List Blk} {h0 : Heap}
variable {r : Array Oper} {os : List Oper} {d : Nat} {ty : TypeId} {pos : String} {aft : Array Edge}
end
end Go.Proofs.YtokfjifeofpkkaaGreat.V
namespace Go.Proofs.YtokfjifeofpkkaaGreat.V
open Go
set_option linter.unusedVariables false
set_option linter.unusedSimpArgs false
theorem setI_len {α : Type} (xs : List α) (i : Int) (x : α) : (setI xs i x).length = xs.length := by unfold setI; exact List.length_set
theorem AccR.set_ {α : Type} {R : Rep α} {elem : TypeId} {h : Heap} {b n : Nat} {rows : List (List Value)} {xs : List α} {i : Int} {x : α} {row : List Value} (hl : xs.length < 9223372036854775808) (s : Rws R h rows xs) (hn : n = i.toNat) (c : R.C h row x) :
 AccR R elem h [⟨b, .cells (rows.set n row).flatten elem⟩] (.slice (some ⟨b, 0, some 0⟩) (setI xs i x).length (setI xs i x).length) (setI xs i x) := by
 subst hn
 exact ⟨by rw [setI_len]; exact hl, .inr ⟨b, rows.set i.toNat row, rfl, rfl, s.set c i.toNat⟩⟩
section
variable {X : Cx} {st : List It} {l : L} {h0 : Heap} {segs : List (List Blk)}
end
theorem AccR.at_ {α : Type} {R : Rep α} {elem : TypeId} {h : Heap} {tl : List Blk} {p : Option Addr} {xs : List α} (a : AccR R elem h tl (.slice p xs.length xs.length) xs) {i : Int} {x : α} (hx : getI xs i = some x) :
 ∃ b rows row, p = some ⟨b, 0, some 0⟩ ∧ tl = [⟨b, .cells rows.flatten elem⟩] ∧ Rws R h rows xs ∧ rows[i.toNat]? = some row ∧ R.C h row x ∧ 0 ≤ i ∧ i < (xs.length : Int) ∧ (rows.flatten.drop (i.toNat * R.k)).take R.k = row ∧ i.toNat * R.k + R.k ≤ rows.flatten.length ∧ xs.length < 9223372036854775808 := by
 obtain ⟨b, rows, row, h1, h2, h3, h4, h5, h6, h7, _, h8, h9⟩ := a.open hx
 exact ⟨b, rows, row, h1, h2, h3, h4, h5, h6, h7, h8, h9, a.1⟩
end Go.Proofs.YtokfjifeofpkkaaGreat.V
