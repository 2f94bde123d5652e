/- Plain laws of texts, of finding, and of sorted rows.
   No condition: these are laws of plain definitions. -/
import Derived.Test.YtndhbaidibioeaaGreatVk
import Derived.MapKept
import Derived.Laws.Strings
namespace Go.Proofs.YtndhbaidibioeaaGreat.V
open Go
set_option linter.unusedVariables false
set_option linter.unusedSimpArgs false
@[simp] theorem ba_iff {a b : ByteArray} : (a == b) = true ↔ a = b := Go.MapKept.bytes_beq a b
@[simp] theorem ba_self (a : ByteArray) : (a == a) = true := (Go.MapKept.bytes_beq a a).mpr rfl
def bs (p : Nat → Bool) (i j : Nat) : Nat :=
 if i < j then (if p ((i + j) / 2) then bs p ((i + j) / 2 + 1) j else bs p i ((i + j) / 2)) else i
termination_by j - i
decreasing_by all_goals omega
theorem roomy_le {n b : Nat} (hn : n ≤ 1000000000) (hb : b ≤ 1000) (h0 : 0 < b) : roomy n b = true := by
 unfold roomy
 rw [Bool.and_eq_true]
 refine ⟨Nat.ble_eq_true_of_le ?_, ?_⟩
 ·
  exact Nat.le_trans (Nat.mul_le_mul (by omega : n + n / 4 + 1024 ≤ 2000001024) hb) (by decide)
 ·
  simp only [Nat.blt, Nat.ble_eq]; omega
theorem bl_irrefl : ∀ x : List UInt8, Op.bytesLess x x = false
 | [] => rfl
 | a :: x => by
  have h : ¬ a < a := UInt8.lt_irrefl a
  simp [Op.bytesLess, h, bl_irrefl x]
theorem bl_trans : ∀ x y z : List UInt8, Op.bytesLess x y = true → Op.bytesLess y z = true → Op.bytesLess x z = true
 | _, [], _, h, _ => by cases ‹List UInt8› <;> simp [Op.bytesLess] at h
 | _, b :: y, [], _, h => by simp [Op.bytesLess] at h
 | [], b :: y, c :: z, _, _ => rfl
 | a :: x, b :: y, c :: z, h1, h2 => by
  simp only [Op.bytesLess, Bool.or_eq_true, Bool.and_eq_true, decide_eq_true_eq, beq_iff_eq] at h1 h2 ⊢
  rcases h1 with h1 | ⟨e1, h1⟩
  ·
   rcases h2 with h2 | ⟨e2, h2⟩
   ·
    exact .inl (UInt8.lt_trans h1 h2)
   ·
    subst e2; exact .inl h1
  ·
   subst e1
   rcases h2 with h2 | ⟨e2, h2⟩
   ·
    exact .inl h2
   ·
    exact .inr ⟨e2, bl_trans x y z h1 h2⟩
theorem bl_total : ∀ x y : List UInt8, Op.bytesLess x y = false → Op.bytesLess y x = false → x = y
 | [], [], _, _ => rfl
 | [], b :: y, h, _ => by simp [Op.bytesLess] at h
 | a :: x, [], _, h => by simp [Op.bytesLess] at h
 | a :: x, b :: y, h1, h2 => by
  simp only [Op.bytesLess, Bool.or_eq_false_iff, Bool.and_eq_false_iff, decide_eq_false_iff_not, beq_eq_false_iff_ne] at h1 h2
  have e : a = b := by
   apply UInt8.toNat_inj.mp
   have q1 := h1.1; have q2 := h2.1
   rw [UInt8.lt_iff_toNat_lt] at q1 q2
   omega
  subst e
  have q1 := h1.2.resolve_left (fun h => h rfl)
  have q2 := h2.2.resolve_left (fun h => h rfl)
  rw [bl_total x y q1 q2]
theorem toList_inj {x y : ByteArray} (h : x.toList = y.toList) : x = y := by
 rw [ByteArray.toList_eq, ByteArray.toList_eq] at h
 cases x; cases y
 have := Array.toList_inj.mp h
 dsimp only at this
 subst this; rfl
theorem eqB_iff {x y : ByteArray} : eqB x y = true ↔ x = y := by
 unfold eqB
 rw [beq_iff_eq]
 exact ⟨toList_inj, fun h => by rw [h]⟩
theorem less_irrefl (x : ByteArray) : lessB x x = false := bl_irrefl _
theorem less_trans {x y z : ByteArray} (h1 : lessB x y = true) (h2 : lessB y z = true) : lessB x z = true := bl_trans _ _ _ h1 h2
theorem less_total {x y : ByteArray} (h1 : lessB x y = false) (h2 : lessB y x = false) : x = y := toList_inj (bl_total _ _ h1 h2)
theorem less_asymm {x y : ByteArray} (h : lessB x y = true) : lessB y x = false := by
 cases e : lessB y x
 ·
  rfl
 ·
  have := less_trans h e; rw [less_irrefl] at this; cases this
theorem appL_ok {α : Type} {B : Nat} {xs ys : List α} (hn : xs.length + ys.length ≤ 1000000000) (hb : B ≤ 1000) (h0 : 0 < B) : appL B xs ys = some (xs ++ ys) := by
 unfold appL; rw [if_pos (roomy_le hn hb h0)]
@[simp] theorem eqB_self (x : ByteArray) : eqB x x = true := eqB_iff.mpr rfl
theorem eqB_ne {x y : ByteArray} : eqB x y = false ↔ x ≠ y := by
 rw [Ne, ← eqB_iff]; cases eqB x y <;> simp
theorem leB_not (x y : ByteArray) : leB x y = !lessB y x := by
 unfold leB
 cases h : lessB x y with
 | true => simp [less_asymm h]
 | false =>
  cases e : eqB x y with
  | true => have := eqB_iff.mp e; subst this; simp [less_irrefl]
  | false =>
   cases h2 : lessB y x with
   | true => rfl
   | false => have := less_total h h2; subst this; simp at e
theorem less_le {x y z : ByteArray} (h1 : lessB x y = true) (h2 : leB y z = true) : lessB x z = true := by
 unfold leB at h2
 rw [Bool.or_eq_true] at h2
 rcases h2 with h2 | h2
 ·
  exact less_trans h1 h2
 ·
  rw [eqB_iff] at h2; subst h2; exact h1
theorem sorted_ext {α : Type} {R : α → α → Prop} (irr : ∀ a, ¬ R a a) (asy : ∀ a b, R a b → ¬ R b a) : ∀ {l1 l2 : List α}, l1.Pairwise R → l2.Pairwise R → (∀ x, x ∈ l1 ↔ x ∈ l2) → l1 = l2
 | [], [], _, _, _ => rfl
 | [], b :: l2, _, _, h => absurd ((h b).mpr List.mem_cons_self) List.not_mem_nil
 | a :: l1, [], _, _, h => absurd ((h a).mp List.mem_cons_self) List.not_mem_nil
 | a :: l1, b :: l2, h1, h2, h => by
  rw [List.pairwise_cons] at h1 h2
  have e : a = b := by
   rcases List.mem_cons.mp ((h a).mp List.mem_cons_self) with q | q
   ·
    exact q
   rcases List.mem_cons.mp ((h b).mpr List.mem_cons_self) with r | r
   ·
    exact r.symm
   ·
    exact absurd (h1.1 _ r) (asy _ _ (h2.1 _ q))
  subst e
  rw [sorted_ext irr asy h1.2 h2.2 (fun x => ?_)]
  constructor
  ·
   intro hx
   rcases List.mem_cons.mp ((h x).mp (List.mem_cons_of_mem _ hx)) with q | q
   ·
    subst q; exact absurd (h1.1 _ hx) (irr _)
   ·
    exact q
  ·
   intro hx
   rcases List.mem_cons.mp ((h x).mpr (List.mem_cons_of_mem _ hx)) with q | q
   ·
    subst q; exact absurd (h2.1 _ hx) (irr _)
   ·
    exact q
end Go.Proofs.YtndhbaidibioeaaGreat.V
