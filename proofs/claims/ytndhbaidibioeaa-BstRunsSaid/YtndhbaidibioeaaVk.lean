/- slices.Insert of one element, told: of what grows, a new row. .. and what follows it, in one text.
   No condition beyond those that each part names. -/
import Derived.Test.YtndhbaidibioeaaVu
import Derived.Laws.Externs
import Derived.Lib.Overlaps
/-! ## slices.Insert of one element, told: of what grows, a new row. -/
namespace Go.Proofs.Ytndhbaidibioeaa.V
open Go
set_option linter.unusedVariables false
set_option linter.unusedSimpArgs false

/-- One element's cells, put in. -/
def insC (k i : Nat) (cs vr : List Value) : List Value := cs.take (i * k) ++ (vr ++ cs.drop (i * k))
structure InsOk (k bytes : Nat) (elem : TypeId) (lim b vb n c : Nat) (i : Int) (cs vr : List Value) (T : TypeId) : Prop where
  limb : lim ≤ b
  Te : T = elem
  csl : cs.length = n * k
  ce : c = n
  vrl : vr.length = k
  csp : cs.all (plainN 4) = true
  vrp : vr.all (plainN 4) = true
  ne : b ≠ vb
  i0 : 0 ≤ i
  i1 : i < (n : Int)
  room : roomy (n + 1) bytes = true
  k0 : 0 < k
  cso : cs.all cellOk = true
  vro : vr.all cellOk = true
/-- What is asked of the program's own text: where there is no room (A), and where there is (B). -/
structure InsRun (k bytes : Nat) (elem : TypeId) (E : Env) (g : FuncId) : Prop where
  size : sz E.P elem = some k
  A : ∀ (b vb n i : Nat) (cs vr : List Value) (Tv : TypeId) (h : Heap), Wf h → h.get b = some (.cells cs elem) → h.get vb = some (.cells vr Tv) → cs.length = n * k → vr.length = k → i < n → roomy (n + 1) bytes = true → 0 < k → cs.all cellOk = true → vr.all cellOk = true →
    EvO E g [.slice (some ⟨b, 0, none⟩) n n, .int .i64 i, .slice (some ⟨vb, 0, none⟩) 1 1] [] h (fun v S h1 => ∃ b2, v = .slice (some ⟨b2, 0, some 0⟩) (n + 1) (n + 1) ∧ S = [[⟨b2, .cells (insC k i cs vr) elem⟩]])
  B : ∀ (B s n c i VB vs : Nat) (C VC : Array Value) (T VT : TypeId) (fr vfr : Nat × Nat) (cs vr : List Value) (w : World), w.heap[B]? = some (.cells C T fr) → Unfrozen C.size fr → s + c * k ≤ C.size → cs.length = n * k → (∀ (j : Nat) (v : Value), cs[j]? = some v → C[s + j]? = some v) →
    w.heap[VB]? = some (.cells VC VT vfr) → Unfrozen VC.size vfr → vs + k ≤ VC.size → vr.length = k → (∀ (j : Nat) (v : Value), vr[j]? = some v → VC[vs + j]? = some v) → VB ≠ B → i < n → n + 1 ≤ c → n + 1 < 9223372036854775808 → (∀ v ∈ cs, v.oneCell' = true) → (∀ v ∈ vr, v.oneCell' = true) →
    Calls E.P g #[.slice (some ⟨B, s, none⟩) n c, .int .i64 i, .slice (some ⟨VB, vs, none⟩) 1 1] w (fun e w' => e = .returned (.slice (some ⟨B, s, none⟩) (n + 1) c) ∧
      ∃ (C' : Array Value) (d : Nat), w' = { w with drawn := d, heap := w.heap.setIfInBounds B (.cells C' T fr) } ∧ C'.toList = splice (splice C.toList (s + (i + 1) * k) (cs.drop (i * k))) (s + i * k) vr)

end Go.Proofs.Ytndhbaidibioeaa.V

/-! ## Rules for walks through the library's own texts that write rows. -/
namespace Go.Proofs.Ytndhbaidibioeaa.V
open Go
set_option linter.unusedVariables false
set_option linter.unusedSimpArgs false

section
variable {X : Cx} {st : List It} {l : L} {own rest : List Blk} {h0 : Heap}
variable {r : Array Oper} {os : List Oper} {d : Option Nat} {ty : TypeId} {pos : String} {aft : Array Edge}
end

/-! ### Parts of rows -/
end Go.Proofs.Ytndhbaidibioeaa.V

/-! ## slices.Insert and slices.Delete of what grows, by types. -/
namespace Go.Proofs.Ytndhbaidibioeaa.V
open Go
set_option linter.unusedVariables false
set_option linter.unusedSimpArgs false

section
variable {X : Cx} {st : List It} {l : L} {own rest : List Blk} {h0 : Heap}
variable {r : Array Oper} {os : List Oper} {d : Option Nat} {ty : TypeId} {pos : String} {aft : Array Edge}
end

namespace Rws
variable {α : Type} {R : Rep α} {h : Heap} {rows : List (List Value)} {xs : List α}
theorem take (s : Rws R h rows xs) (n : Nat) : Rws R h (rows.take n) (xs.take n) := by
  refine ⟨by rw [List.length_take, List.length_take, s.len], fun i row x hr hx => ?_⟩
  rw [List.getElem?_take] at hr hx
  split at hr
  · rename_i q; rw [if_pos q] at hx; exact s.C i row x hr hx
  · cases hr
theorem drop (s : Rws R h rows xs) (n : Nat) : Rws R h (rows.drop n) (xs.drop n) := by
  refine ⟨by rw [List.length_drop, List.length_drop, s.len], fun i row x hr hx => ?_⟩
  rw [List.getElem?_drop] at hr hx
  exact s.C _ row x hr hx
theorem plain (s : Rws R h rows xs) (hpl : ∀ h row x, R.C h row x → row.all (plainN 4) = true) : rows.flatten.all (plainN 4) = true := by
  rw [List.all_eq_true]
  intro v hv
  obtain ⟨row, hr, hv⟩ := List.mem_flatten.mp hv
  obtain ⟨x, hx⟩ := s.at_ hr
  exact List.all_eq_true.mp (hpl _ _ _ hx) v hv
end Rws

/-! ### For walks through the library's own texts -/
section
variable {E : Env} {l : L} {own : List Blk} {h0 : Heap}
end

/-- A part of a slice that may be empty, with no more behind it. -/
def subL0 {α : Type} (xs : List α) (l h : Int) : Option (List α) := if 0 ≤ l ∧ l ≤ h ∧ h ≤ (xs.length : Int) then some ((xs.drop l.toNat).take (h.toNat - l.toNat)) else none
theorem subL0_ok {α : Type} {R : Rep α} {E : Env} {h : Heap} {t e k c : Nat} {a : Option Addr} {xs ys : List α} {l u : Int} (hs : RL R h a c xs) (hy : subL0 xs l u = some ys) (h0 : xs = [] → c = 0)
    (hu : E.P.underlying t = some (.slice e)) (hz : sz E.P e = some k) (hk : k = R.k) (hT : e = R.T) : ∃ a' c', SubOK R E h t a xs ys c l u a' c' := by
  subst hk hT
  unfold subL0 at hy
  split at hy
  · rename_i q
    cases hy
    obtain ⟨q1, q2, q3⟩ := q
    have hlen : ((xs.drop l.toNat).take (u.toNat - l.toNat)).length = u.toNat - l.toNat := by rw [List.length_take, List.length_drop]; omega
    have hc := hs.2.1
    have key : ∃ a', (∀ hf, Kn h hf → cutA hf R.T R.k c l.toNat u.toNat a = some (.slice a' (u.toNat - l.toNat) (c - l.toNat))) ∧ RL R h a' (c - l.toNat) ((xs.drop l.toNat).take (u.toNat - l.toNat)) := by
      have hget : ∀ i x, ((xs.drop l.toNat).take (u.toNat - l.toNat))[i]? = some x → xs[l.toNat + i]? = some x := by
        intro i x hx
        rw [List.getElem?_take] at hx
        split at hx
        · rw [List.getElem?_drop] at hx; exact hx
        · cases hx
      cases a with
      | none =>
        refine ⟨none, fun hf kn => rfl, ⟨by have := hs.1; rw [hlen]; omega, by rw [hlen]; omega, fun i x hx => ?_, fun a0 e => by cases e⟩⟩
        obtain ⟨a0, _, _, e, _⟩ := hs.2.2.1 _ x (hget i x hx)
        cases e
      | some a0 =>
        have hsl : ∀ hf, Kn h hf → slackOk hf a0 R.T = true := by
          intro hf kn
          unfold slackOk
          split
          · rename_i e
            obtain ⟨cs, hcs⟩ := hs.2.2.2 a0 rfl e
            rw [kn.get _ _ hcs (by intro q; cases q)]; exact Nat.beq_refl _
          · rfl
        obtain ⟨b, o, sp⟩ := a0
        have hble : Nat.ble u.toNat c = true := Nat.ble_eq_true_of_le (by omega)
        -- nothing left, or something
        by_cases hml : c = l.toNat
        · have hn : u.toNat - l.toNat = 0 := by omega
          have h0 : ((xs.drop l.toNat).take (u.toNat - l.toNat)) = [] := by rw [hn]; rfl
          have hb : Nat.beq c l.toNat = true := by rw [hml]; exact Nat.beq_refl _
          have hemp : ∀ a', (∀ a0, a' = some a0 → a0.spot = some 0 → ∃ cs, h.get a0.block = some (.cells cs R.T)) → RL R h a' (c - l.toNat) ((xs.drop l.toNat).take (u.toNat - l.toNat)) := by
            intro a' hz; rw [h0]; exact ⟨by simp, Nat.zero_le _, fun i x hx => by simp at hx, hz⟩
          cases sp with
          | none => exact ⟨some ⟨b, o, none⟩, fun hf kn => by simp only [cutA, hble, hsl hf kn, Bool.and_self, cond_true, cond_false, sliceAddr, hb], hemp _ (fun a0 e1 e2 => by cases e1; cases e2)⟩
          | some s =>
            match s with
            | 0 => exact ⟨some ⟨0, 0, some 2⟩, fun hf kn => by simp only [cutA, hble, hsl hf kn, Bool.and_self, cond_true, cond_false, sliceAddr, hb], hemp _ (fun a0 e1 e2 => by cases e1; cases e2)⟩
            | 1 => exact ⟨some ⟨b, o, some 1⟩, fun hf kn => by simp only [cutA, hble, hsl hf kn, Bool.and_self, cond_true, cond_false, sliceAddr, hb], hemp _ (fun a0 e1 e2 => by cases e1; cases e2)⟩
            | s + 2 => exact ⟨some ⟨b, o, some (s + 2)⟩, fun hf kn => by simp only [cutA, hble, hsl hf kn, Bool.and_self, cond_true, cond_false, sliceAddr, hb], hemp _ (fun a0 e1 e2 => by cases e1; cases e2)⟩
        · have hb : Nat.beq c l.toNat = false := Trie.nb hml
          have mk : ∀ sp' : Option Nat, (∀ j, elemAddr ⟨b, o, sp⟩ ((l.toNat + j) * R.k) = elemAddr ⟨b, o + l.toNat * R.k, sp'⟩ (j * R.k)) → (sp' = some 0 → sp = some 0) →
              RL R h (some ⟨b, o + l.toNat * R.k, sp'⟩) (c - l.toNat) ((xs.drop l.toNat).take (u.toNat - l.toNat)) := by
            intro sp' he hz
            refine ⟨by have := hs.1; rw [hlen]; omega, by rw [hlen]; omega, fun i x hx => ?_, fun a0 e1 e2 => ?_⟩
            · obtain ⟨a0, a', row, h1, h2, h3, h4⟩ := hs.2.2.1 _ x (hget i x hx)
              cases h1
              exact ⟨_, a', row, rfl, by rw [← he]; exact h2, h3, h4⟩
            · cases e1
              exact hs.2.2.2 ⟨b, o, sp⟩ rfl (hz e2)
          have ar : ∀ j, o + (l.toNat + j) * R.k = o + l.toNat * R.k + j * R.k := by intro j; rw [Nat.add_mul]; omega
          cases sp with
          | none => exact ⟨some ⟨b, o + l.toNat * R.k, none⟩, fun hf kn => by simp only [cutA, hble, hsl hf kn, Bool.and_self, cond_true, cond_false, sliceAddr, hb], mk none (fun j => by simp only [elemAddr, ar]) id⟩
          | some s =>
            match s with
            | 0 => exact ⟨some ⟨b, o + l.toNat * R.k, some 0⟩, fun hf kn => by simp only [cutA, hble, hsl hf kn, Bool.and_self, cond_true, cond_false, sliceAddr, hb], mk (some 0) (fun j => by simp only [elemAddr, ar]) id⟩
            | 1 => exact ⟨some ⟨b, o + l.toNat * R.k, some 1⟩, fun hf kn => by simp only [cutA, hble, hsl hf kn, Bool.and_self, cond_true, cond_false, sliceAddr, hb], mk (some 1) (fun j => by simp only [elemAddr, ar]) id⟩
            | s + 2 =>
              -- nothing can lie there
              exfalso
              cases xs with
              | nil => simp only [List.length_nil] at q3; rw [h0 rfl] at hml; omega
              | cons x r => obtain ⟨a0, a', _, e1, e2, _⟩ := hs.2.2.1 0 x rfl; cases e1; cases e2
    obtain ⟨a', h1, h2⟩ := key
    have b1 : ∀ (ik : IntKind) (y : Nat), u ≤ (y : Int) → boundV (some (.int ik u)) xs.length y = some u.toNat := fun ik y hy => by simp only [boundV]; rw [if_pos ⟨by omega, hy⟩]
    have b2 : ∀ (ik : IntKind), boundV (some (.int ik l)) 0 u.toNat = some l.toNat := fun ik => by simp only [boundV]; rw [if_pos ⟨q1, by omega⟩]
    refine ⟨a', c - l.toNat, ⟨fun {hf ik ik'} kn => ?_, fun {hf ik} kn e => ?_, fun {hf ik} kn e => ?_, fun {hf} kn e1 e2 => ?_, h2⟩⟩
    · unfold sliceV
      rw [hu]; dsimp only
      rw [show boundV none c c = some c from rfl]; dsimp only
      rw [b1 ik' c (by omega)]
      simp only [Option.isSome_none, Bool.false_and, cond_false, b2, hz, hlen]
      have h3 := h1 hf kn
      cases a <;> exact h3
    · have eu : u.toNat = xs.length := by omega
      unfold sliceV
      rw [hu]; dsimp only
      rw [show boundV none c c = some c from rfl]; dsimp only
      rw [show boundV none xs.length c = some xs.length from rfl, ← eu]
      simp only [Option.isSome_none, Bool.false_and, cond_false, b2, hz, hlen]
      have h3 := h1 hf kn
      cases a <;> exact h3
    · have el : l.toNat = 0 := by omega
      unfold sliceV
      rw [hu]; dsimp only
      rw [show boundV none c c = some c from rfl]; dsimp only
      rw [b1 ik c (by omega)]
      simp only [Option.isSome_none, Option.isNone_some, Bool.false_and, cond_false, hz, hlen]
      rw [show boundV none 0 u.toNat = some 0 from rfl, ← el]
      have h3 := h1 hf kn
      cases a <;> exact h3
    · have el : l.toNat = 0 := by omega
      have eu : u.toNat = xs.length := by omega
      unfold sliceV
      rw [hu]; dsimp only
      rw [show boundV none c c = some c from rfl]; dsimp only
      rw [show boundV none xs.length c = some xs.length from rfl, ← eu]
      simp only [Option.isSome_none, Bool.false_and, cond_false, hz, hlen]
      rw [show boundV none 0 u.toNat = some 0 from rfl, ← el]
      have h3 := h1 hf kn
      cases a <;> exact h3
  · cases hy

theorem lpgo {α β : Type} {s : α} {k : α → Option β} {r : β} (h : lpK (.go s) k = some r) : k s = some r := h
end Go.Proofs.Ytndhbaidibioeaa.V
