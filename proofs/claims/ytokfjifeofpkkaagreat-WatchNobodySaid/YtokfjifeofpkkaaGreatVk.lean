/- slices.Insert of one element, told: of what grows, a new row. .. and what follows it, in one text.
   No condition beyond those that each part names. -/
import Derived.Test.YtokfjifeofpkkaaGreatVu
import Derived.Laws.Externs
import Derived.Lib.Overlaps
namespace Go.Proofs.YtokfjifeofpkkaaGreat.V
open Go
set_option linter.unusedVariables false
set_option linter.unusedSimpArgs false
def insC (k i : Nat) (cs vr : List Value) : List Value := cs.take (i * k) ++ (vr ++ cs.drop (i * k))
structure InsOk (k bytes : Nat) (elem : TypeId) (lim b vb n c : Nat) (i : Int) (cs vr : List Value) (T : TypeId) : Prop where
 limb : lim ≤ b
 Te : T = elem
 csl : cs.length = n * k
 ce : c = n
 vrl : vr.length = k
 csp : cs.all (plainN 4) = true
 vrp : vr.all (plainN 4) = true
 ne : b ≠ vb
 i0 : 0 ≤ i
 i1 : i < (n : Int)
 room : roomy (n + 1) bytes = true
 k0 : 0 < k
 cso : cs.all cellOk = true
 vro : vr.all cellOk = true
structure InsRun (k bytes : Nat) (elem : TypeId) (E : Env) (g : FuncId) : Prop where
 size : sz E.P elem = some k
 A : ∀ (b vb n i : Nat) (cs vr : List Value) (Tv : TypeId) (h : Heap), Wf h → h.get b = some (.cells cs elem) → h.get vb = some (.cells vr Tv) → cs.length = n * k → vr.length = k → i < n → roomy (n + 1) bytes = true → 0 < k → cs.all cellOk = true → vr.all cellOk = true →
  EvO E g [.slice (some ⟨b, 0, none⟩) n n, .int .i64 i, .slice (some ⟨vb, 0, none⟩) 1 1] [] h (fun v S h1 => ∃ b2, v = .slice (some ⟨b2, 0, some 0⟩) (n + 1) (n + 1) ∧ S = [[⟨b2, .cells (insC k i cs vr) elem⟩]])
 B : ∀ (B s n c i VB vs : Nat) (C VC : Array Value) (T VT : TypeId) (fr vfr : Nat × Nat) (cs vr : List Value) (w : World), w.heap[B]? = some (.cells C T fr) → Unfrozen C.size fr → s + c * k ≤ C.size → cs.length = n * k → (∀ (j : Nat) (v : Value), cs[j]? = some v → C[s + j]? = some v) →
  w.heap[VB]? = some (.cells VC VT vfr) → Unfrozen VC.size vfr → vs + k ≤ VC.size → vr.length = k → (∀ (j : Nat) (v : Value), vr[j]? = some v → VC[vs + j]? = some v) → VB ≠ B → i < n → n + 1 ≤ c → n + 1 < 9223372036854775808 → (∀ v ∈ cs, v.oneCell' = true) → (∀ v ∈ vr, v.oneCell' = true) →
  Calls E.P g #[.slice (some ⟨B, s, none⟩) n c, .int .i64 i, .slice (some ⟨VB, vs, none⟩) 1 1] w (fun e w' => e = .returned (.slice (some ⟨B, s, none⟩) (n + 1) c) ∧
   ∃ (C' : Array Value) (d : Nat), w' = { w with drawn := d, heap := w.heap.setIfInBounds B (.cells C' T fr) } ∧ C'.toList = splice (splice C.toList (s + (i + 1) * k) (cs.drop (i * k))) (s + i * k) vr)
end Go.Proofs.YtokfjifeofpkkaaGreat.V
namespace Go.Proofs.YtokfjifeofpkkaaGreat.V
open Go
set_option linter.unusedVariables false
set_option linter.unusedSimpArgs false
section
variable {X : Cx} {st : List It} {l : L} {own rest : List Blk} {h0 : Heap}
variable {r : Array Oper} {os : List Oper} {d : Option Nat} {ty : TypeId} {pos : String} {aft : Array Edge}
end
end Go.Proofs.YtokfjifeofpkkaaGreat.V
namespace Go.Proofs.YtokfjifeofpkkaaGreat.V
open Go
set_option linter.unusedVariables false
set_option linter.unusedSimpArgs false
section
variable {X : Cx} {st : List It} {l : L} {own rest : List Blk} {h0 : Heap}
variable {r : Array Oper} {os : List Oper} {d : Option Nat} {ty : TypeId} {pos : String} {aft : Array Edge}
end
namespace Rws
variable {α : Type} {R : Rep α} {h : Heap} {rows : List (List Value)} {xs : List α}
theorem take (s : Rws R h rows xs) (n : Nat) : Rws R h (rows.take n) (xs.take n) := by
 refine ⟨by rw [List.length_take, List.length_take, s.len], fun i row x hr hx => ?_⟩
 rw [List.getElem?_take] at hr hx
 split at hr
 ·
  rename_i q; rw [if_pos q] at hx; exact s.C i row x hr hx
 ·
  cases hr
theorem drop (s : Rws R h rows xs) (n : Nat) : Rws R h (rows.drop n) (xs.drop n) := by
 refine ⟨by rw [List.length_drop, List.length_drop, s.len], fun i row x hr hx => ?_⟩
 rw [List.getElem?_drop] at hr hx
 exact s.C _ row x hr hx
theorem plain (s : Rws R h rows xs) (hpl : ∀ h row x, R.C h row x → row.all (plainN 4) = true) : rows.flatten.all (plainN 4) = true := by
 rw [List.all_eq_true]
 intro v hv
 obtain ⟨row, hr, hv⟩ := List.mem_flatten.mp hv
 obtain ⟨x, hx⟩ := s.at_ hr
 exact List.all_eq_true.mp (hpl _ _ _ hx) v hv
end Rws
section
variable {E : Env} {l : L} {own : List Blk} {h0 : Heap}
end
end Go.Proofs.YtokfjifeofpkkaaGreat.V
