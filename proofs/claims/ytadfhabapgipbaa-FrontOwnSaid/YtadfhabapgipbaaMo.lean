/- The program's own kinds of values, plainly.
   No condition: these are definitions. -/
import Derived.Test.YtadfhabapgipbaaV30
import Derived.MapKept
namespace Go.Proofs.Ytadfhabapgipbaa.V
open Go
set_option linter.unusedVariables false

theorem ba_eq {a b : ByteArray} : (a == b) = decide (a = b) := by
  apply Bool.eq_iff_iff.mpr
  rw [Go.MapKept.bytes_beq, decide_eq_true_iff]
@[simp] theorem ba_iff {a b : ByteArray} : (a == b) = true ↔ a = b := Go.MapKept.bytes_beq a b
@[simp] theorem ba_self (a : ByteArray) : (a == a) = true := (Go.MapKept.bytes_beq a a).mpr rfl

structure KV where
  key : ByteArray
  val : ByteArray
  rev : Int
  deriving DecidableEq
def KV.c (x : KV) : List Value := [.string x.key, .string x.val, .int .i64 x.rev]
theorem KV.c_len (x : KV) : x.c.length = 3 := rfl
theorem KV.c_arr (x : KV) : x.c.toArray = #[.string x.key, .string x.val, .int .i64 x.rev] := rfl

/-- Are two lists the same? -/
def same18 (l1 l2 : List KV) : Bool := decide (l1 = l2)
theorem same_ne {l1 l2 : List KV} {i : Nat} {x y : KV} (h1 : l1[i]? = some x) (h2 : l2[i]? = some y) (h : x ≠ y) : same18 l1 l2 = false := by
  unfold same18
  rw [decide_eq_false_iff_not]
  intro e; subst e; rw [h1] at h2; exact h (Option.some.inj h2)
theorem list_same {l1 l2 : List KV} {i : Nat} (hl : l1.length = l2.length) (hi : l1.length ≤ i) (h : ∀ j, j < i → l1[j]? = l2[j]?) : same18 l1 l2 = true := by
  unfold same18
  rw [decide_eq_true_iff]
  apply List.ext_getElem?
  intro j
  rcases Nat.lt_or_ge j i with q | q
  · exact h j q
  · rw [List.getElem?_eq_none (by omega), List.getElem?_eq_none (by omega)]
theorem kv_eq {x y : KV} (h : ((x.key == y.key) && ((x.val == y.val) && ((x.rev == y.rev) && true))) = true) : x = y := by
  obtain ⟨a, b, c⟩ := x; obtain ⟨d, e, f⟩ := y
  simp only [Bool.and_true, Bool.and_eq_true, beq_iff_eq, ba_iff] at h
  obtain ⟨h1, h2, h3⟩ := h
  subst h1 h2 h3; rfl
theorem kv_ne {x y : KV} (h : (!((x.key == y.key) && ((x.val == y.val) && ((x.rev == y.rev) && true)))) = true) : x ≠ y := by
  intro e; subst e; simp at h

/-- At which revision is read, and what is told if none. -/
def atF (rev hrev hhor : Int) : Int := if (if rev == 0 then hrev else rev) < hhor then 0 else if (if rev == 0 then hrev else rev) > hrev then 0 else (if rev == 0 then hrev else rev)
def atE (rev hrev hhor : Int) : Int := if (if rev == 0 then hrev else rev) < hhor then 5 else if (if rev == 0 then hrev else rev) > hrev then 6 else 0
theorem atE_ne {r hr z : Int} (h : ¬ atE r hr z = 0) : atF r hr z = 0 ∧ (atE r hr z = 5 ∨ atE r hr z = 6) := by
  unfold atE at h ⊢; unfold atF
  generalize (if (r == 0) = true then hr else r) = w at h ⊢
  by_cases q1 : w < z <;> by_cases q2 : w > hr <;> simp_all
theorem atE_eq {r hr z : Int} (h : atE r hr z = 0) : z ≤ atF r hr z ∧ atF r hr z ≤ hr ∧ (atF r hr z = r ∨ (r = 0 ∧ atF r hr z = hr)) := by
  have e : (if (r == 0) = true then hr else r) = r ∨ (r = 0 ∧ (if (r == 0) = true then hr else r) = hr) := by
    by_cases e : r = 0
    · subst e; exact .inr ⟨rfl, rfl⟩
    · left; simp [e]
  unfold atE at h; unfold atF
  generalize (if (r == 0) = true then hr else r) = w at h e ⊢
  by_cases q1 : w < z <;> by_cases q2 : w > hr <;> simp_all <;> omega

end Go.Proofs.Ytadfhabapgipbaa.V
