/- Rows of a block; parts of a row.
   No condition: these are laws of the clean machine. -/
import Derived.Test.YtadfhabapgipbaaV25
namespace Go.Proofs.Ytadfhabapgipbaa.V
open Go
set_option linter.unusedVariables false
set_option linter.unusedSimpArgs false

theorem flat_at {k : Nat} {q : List Value} : ∀ (rows : List (List Value)) (i : Nat), (∀ q ∈ rows, q.length = k) → rows[i]? = some q → i * k + k ≤ rows.flatten.length ∧ (rows.flatten.drop (i * k)).take k = q := by
  intro rows
  induction rows with
  | nil => intro i _ hq; simp at hq
  | cons x rows ih =>
    intro i hr hq
    have hx := hr x List.mem_cons_self
    cases i with
    | zero =>
      have : x = q := by simpa using hq
      subst this
      refine ⟨by rw [List.flatten_cons, List.length_append]; omega, ?_⟩
      rw [Nat.zero_mul, List.drop_zero, List.flatten_cons, ← hx, List.take_left']
      rfl
    | succ i =>
      obtain ⟨g1, g2⟩ := ih i (fun y hy => hr y (List.mem_cons_of_mem _ hy)) (by simpa using hq)
      refine ⟨by rw [List.flatten_cons, List.length_append, Nat.succ_mul]; omega, ?_⟩
      rw [List.flatten_cons, List.drop_append, List.drop_eq_nil_of_le (by rw [Nat.succ_mul]; omega), List.nil_append, show (i + 1) * k - x.length = i * k by rw [Nat.succ_mul]; omega]
      exact g2
/-- A block that holds rows, as a slice. -/
theorem rows_of_block {h : Heap} {b k : Nat} {T : TypeId} {rows : List (List Value)} (hb : h.get b = some (.cells rows.flatten T)) (hr : ∀ q ∈ rows, q.length = k) : SL h k (some ⟨b, 0, none⟩) rows := by
  intro i q hq
  have hm := List.mem_of_getElem? hq
  refine ⟨hr q hm, ⟨b, 0, none⟩, ⟨b, 0 + i * k, none⟩, rfl, rfl, ?_⟩
  unfold cellsAt
  dsimp only
  rw [hb]
  dsimp only
  obtain ⟨g1, g2⟩ := flat_at rows i hr hq
  rw [Nat.zero_add, Nat.ble_eq_true_of_le g1, g2]
  rfl
theorem SLv.of_block {h : Heap} {b k cap : Nat} {T : TypeId} {rows : List (List Value)} (hb : h.get b = some (.cells rows.flatten T)) (hr : ∀ q ∈ rows, q.length = k) : SLv h k (.slice (some ⟨b, 0, none⟩) rows.length cap) rows :=
  ⟨_, _, rfl, rows_of_block hb hr⟩

/-- A row's element alone, as a slice. -/
theorem one_of {E : Env} {h : Heap} {t e k i n cap : Nat} {a0 : Addr} {rows : List (List Value)} {q : List Value} (hs : SL h k (some a0) rows) (hu : E.P.underlying t = some (.slice e)) (hz : sz E.P e = some k) (hq : rows[i]? = some q)
    (hn : n = rows.length) (hc : n ≤ cap) (hsp : a0.spot ≠ some 0) :
    ∃ a', (∀ h', Kn h h' → sliceV E h' t (.slice (some a0) n cap) (some (.int .i64 i)) (some (.int .i64 ((i + 1 : Nat) : Int))) none = some (.slice (some a') 1 (cap - i))) ∧ SLv h k (.slice (some a') 1 (cap - i)) [q] ∧ (a'.spot ≠ some 0) := by
  have hi : i < rows.length := by
    rcases Nat.lt_or_ge i rows.length with r | r
    · exact r
    · rw [List.getElem?_eq_none r] at hq; cases hq
  obtain ⟨hl, a1, a', e1, h1, h2⟩ := hs i q hq
  cases e1
  have hne : Nat.beq cap i = false := Trie.nb (by omega)
  have hslack : ∀ h' : Heap, slackOk h' a0 e = true := by
    intro h'
    unfold slackOk
    split
    · rename_i hh; exact absurd hh hsp
    · rfl
  have key : sliceAddr a0 cap i (i * k) = some a' := by
    unfold elemAddr at h1
    unfold sliceAddr
    split at h1
    · rw [hne]; exact h1
    · rename_i hh; exact absurd hh hsp
    · rw [hne]; exact h1
    · cases h1
  have hsp' : a'.spot ≠ some 0 := by
    rcases elem_spot h1 with r | r <;> rw [r] <;> simp
  refine ⟨a', fun h' kn => ?_, ⟨_, _, rfl, fun j r hr => ?_⟩, hsp'⟩
  · unfold sliceV
    rw [hu]
    dsimp only
    simp only [boundV, Option.isSome_none, Bool.false_and, cond_false, Bool.false_or]
    rw [if_pos ⟨by omega, by omega⟩]
    dsimp only
    rw [show (((i + 1 : Nat) : Int)).toNat = i + 1 from rfl]
    rw [if_pos ⟨by omega, by omega⟩]
    dsimp only
    rw [hz]
    dsimp only
    rw [show ((i : Int)).toNat = i from rfl, Nat.ble_eq_true_of_le (by omega : i + 1 ≤ cap), hslack h']
    simp only [Bool.and_self, cond_true, key]
    rw [show i + 1 - i = 1 by omega]
  · cases j with
    | succ j => simp at hr
    | zero =>
      have : q = r := by simpa using hr
      subst this
      refine ⟨hl, a', a', rfl, ?_, h2⟩
      rcases elem_spot h1 with r | r
      · obtain ⟨x, y, z⟩ := a'; cases r; simp [elemAddr]
      · obtain ⟨x, y, z⟩ := a'; cases r; simp [elemAddr]
end Go.Proofs.Ytadfhabapgipbaa.V
