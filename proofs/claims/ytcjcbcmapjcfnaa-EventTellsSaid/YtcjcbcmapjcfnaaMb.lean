/- Plain laws of texts, of finding, and of sorted rows.
   No condition: these are laws of plain definitions. -/
import Derived.Test.YtcjcbcmapjcfnaaVk
import Derived.MapKept
import Derived.Laws.Strings
namespace Go.Proofs.Ytcjcbcmapjcfnaa.V
open Go
set_option linter.unusedVariables false
set_option linter.unusedSimpArgs false

theorem ba_eq {a b : ByteArray} : (a == b) = decide (a = b) := by
  apply Bool.eq_iff_iff.mpr
  rw [Go.MapKept.bytes_beq, decide_eq_true_iff]
@[simp] theorem ba_iff {a b : ByteArray} : (a == b) = true ↔ a = b := Go.MapKept.bytes_beq a b
@[simp] theorem ba_self (a : ByteArray) : (a == a) = true := (Go.MapKept.bytes_beq a a).mpr rfl

def cmpS (x y : ByteArray) : Int := if lessB x y then -1 else if !(lessB x y || eqB x y) then 1 else 0

/-- Where in a sorted row. -/
def bs (p : Nat → Bool) (i j : Nat) : Nat :=
  if i < j then (if p ((i + j) / 2) then bs p ((i + j) / 2 + 1) j else bs p i ((i + j) / 2)) else i
termination_by j - i
decreasing_by all_goals omega
theorem bs_lt {p : Nat → Bool} {i j : Nat} (h : i < j) : bs p i j = if p ((i + j) / 2) then bs p ((i + j) / 2 + 1) j else bs p i ((i + j) / 2) := by
  rw [bs]; rw [if_pos h]
theorem bs_ge {p : Nat → Bool} {i j : Nat} (h : ¬ i < j) : bs p i j = i := by
  rw [bs]; rw [if_neg h]
theorem bs_le {p : Nat → Bool} : ∀ (n i j : Nat), j - i ≤ n → i ≤ j → bs p i j ≤ j := by
  intro n
  induction n with
  | zero => intro i j h1 h2; rw [bs_ge (by omega)]; exact h2
  | succ n ih =>
    intro i j h1 h2
    by_cases q : i < j
    · rw [bs_lt q]
      split
      · exact ih _ _ (by omega) (by omega)
      · exact Nat.le_trans (ih _ _ (by omega) (by omega)) (by omega)
    · rw [bs_ge q]; exact h2
theorem roomy_le {n b : Nat} (hn : n ≤ 1000000000) (hb : b ≤ 1000) (h0 : 0 < b) : roomy n b = true := by
  unfold roomy
  rw [Bool.and_eq_true]
  refine ⟨Nat.ble_eq_true_of_le ?_, ?_⟩
  · exact Nat.le_trans (Nat.mul_le_mul (by omega : n + n / 4 + 1024 ≤ 2000001024) hb) (by decide)
  · simp only [Nat.blt, Nat.ble_eq]; omega
theorem mid_eq {i j : Nat} (h : i + j < 9223372036854775808) :
    IntKind.i64.wrap (Int.fdiv (IntKind.u64.wrap (IntKind.i64.wrap ((i : Int) + (j : Int)))) (2 ^ (min (Int.toNat 1) IntKind.u64.bits))) = (((i + j) / 2 : Nat) : Int) := by
  rw [wrap_id (n := (i : Int) + j) (by omega) (by omega)]
  have h1 : IntKind.u64.wrap ((i : Int) + j) = (i : Int) + j := by
    unfold IntKind.wrap; simp [IntKind.bits, IntKind.signed]; omega
  rw [h1]
  have h2 : (2 : Int) ^ (min (Int.toNat 1) IntKind.u64.bits) = 2 := by decide
  rw [h2, Int.fdiv_eq_ediv_of_nonneg _ (by omega), wrap_id (by omega) (by omega)]
  omega
theorem bl_irrefl : ∀ x : List UInt8, Op.bytesLess x x = false
  | [] => rfl
  | a :: x => by
    have h : ¬ a < a := UInt8.lt_irrefl a
    simp [Op.bytesLess, h, bl_irrefl x]
theorem bl_trans : ∀ x y z : List UInt8, Op.bytesLess x y = true → Op.bytesLess y z = true → Op.bytesLess x z = true
  | _, [], _, h, _ => by cases ‹List UInt8› <;> simp [Op.bytesLess] at h
  | _, b :: y, [], _, h => by simp [Op.bytesLess] at h
  | [], b :: y, c :: z, _, _ => rfl
  | a :: x, b :: y, c :: z, h1, h2 => by
    simp only [Op.bytesLess, Bool.or_eq_true, Bool.and_eq_true, decide_eq_true_eq, beq_iff_eq] at h1 h2 ⊢
    rcases h1 with h1 | ⟨e1, h1⟩
    · rcases h2 with h2 | ⟨e2, h2⟩
      · exact .inl (UInt8.lt_trans h1 h2)
      · subst e2; exact .inl h1
    · subst e1
      rcases h2 with h2 | ⟨e2, h2⟩
      · exact .inl h2
      · exact .inr ⟨e2, bl_trans x y z h1 h2⟩
theorem bl_total : ∀ x y : List UInt8, Op.bytesLess x y = false → Op.bytesLess y x = false → x = y
  | [], [], _, _ => rfl
  | [], b :: y, h, _ => by simp [Op.bytesLess] at h
  | a :: x, [], _, h => by simp [Op.bytesLess] at h
  | a :: x, b :: y, h1, h2 => by
    simp only [Op.bytesLess, Bool.or_eq_false_iff, Bool.and_eq_false_iff, decide_eq_false_iff_not, beq_eq_false_iff_ne] at h1 h2
    have e : a = b := by
      apply UInt8.toNat_inj.mp
      have q1 := h1.1; have q2 := h2.1
      rw [UInt8.lt_iff_toNat_lt] at q1 q2
      omega
    subst e
    have q1 := h1.2.resolve_left (fun h => h rfl)
    have q2 := h2.2.resolve_left (fun h => h rfl)
    rw [bl_total x y q1 q2]

theorem toList_inj {x y : ByteArray} (h : x.toList = y.toList) : x = y := by
  rw [ByteArray.toList_eq, ByteArray.toList_eq] at h
  cases x; cases y
  have := Array.toList_inj.mp h
  dsimp only at this
  subst this; rfl
theorem eqB_iff {x y : ByteArray} : eqB x y = true ↔ x = y := by
  unfold eqB
  rw [beq_iff_eq]
  exact ⟨toList_inj, fun h => by rw [h]⟩
theorem less_irrefl (x : ByteArray) : lessB x x = false := bl_irrefl _
theorem less_trans {x y z : ByteArray} (h1 : lessB x y = true) (h2 : lessB y z = true) : lessB x z = true := bl_trans _ _ _ h1 h2
theorem less_total {x y : ByteArray} (h1 : lessB x y = false) (h2 : lessB y x = false) : x = y := toList_inj (bl_total _ _ h1 h2)
theorem less_asymm {x y : ByteArray} (h : lessB x y = true) : lessB y x = false := by
  cases e : lessB y x
  · rfl
  · have := less_trans h e; rw [less_irrefl] at this; cases this
theorem cmpS_lt {x y : ByteArray} : cmpS x y < 0 ↔ lessB x y = true := by
  unfold cmpS
  cases lessB x y
  · simp; split <;> simp
  · simp
theorem cmpS_eq {x y : ByteArray} : cmpS x y = 0 ↔ x = y := by
  unfold cmpS
  constructor
  · intro h
    cases e : lessB x y with
    | true => rw [e] at h; simp at h
    | false =>
      rw [e] at h
      cases e2 : eqB x y with
      | true => exact eqB_iff.mp e2
      | false => rw [e2] at h; simp at h
  · intro h
    subst h
    rw [less_irrefl, eqB_iff.mpr rfl]; simp

/-- What a search finds: all below are less, all from there on aren't. -/
theorem bs_spec {p : Nat → Bool} (hp : ∀ i j, i ≤ j → p j = true → p i = true) : ∀ (n i j : Nat), j - i ≤ n → i ≤ j → (∀ q, q < i → p q = true) → (∀ q, j ≤ q → p q = false) →
    (∀ q, q < bs p i j → p q = true) ∧ (∀ q, bs p i j ≤ q → p q = false) := by
  intro n
  induction n with
  | zero =>
    intro i j h1 h2 h3 h4
    rw [bs_ge (by omega)]
    exact ⟨h3, fun q hq => h4 q (by omega)⟩
  | succ n ih =>
    intro i j h1 h2 h3 h4
    by_cases q : i < j
    · rw [bs_lt q]
      split
      · rename_i hm
        exact ih _ _ (by omega) (by omega) (fun r hr => hp r _ (by omega) hm) h4
      · rename_i hm
        refine ih _ _ (by omega) (by omega) h3 (fun r hr => ?_)
        cases e : p r
        · rfl
        · exact absurd (hp _ r hr e) hm
    · rw [bs_ge q]
      exact ⟨h3, fun r hr => h4 r (by omega)⟩


theorem mid_eq' {i j : Nat} (h : i + j < 9223372036854775808) :
    IntKind.i64.wrap (shrI .u64 (IntKind.u64.wrap (IntKind.i64.wrap ((i : Int) + (j : Int)))) 1) = (((i + j) / 2 : Nat) : Int) := mid_eq h
theorem appL_ok {α : Type} {B : Nat} {xs ys : List α} (hn : xs.length + ys.length ≤ 1000000000) (hb : B ≤ 1000) (h0 : 0 < B) : appL B xs ys = some (xs ++ ys) := by
  unfold appL; rw [if_pos (roomy_le hn hb h0)]
theorem appL_if {α : Type} {B : Nat} {xs ys : List α} : appL B xs ys = if roomy (xs.length + ys.length) B = true then some (xs ++ ys) else none := rfl
@[simp] theorem eqB_self (x : ByteArray) : eqB x x = true := eqB_iff.mpr rfl
theorem eqB_ne {x y : ByteArray} : eqB x y = false ↔ x ≠ y := by
  rw [Ne, ← eqB_iff]; cases eqB x y <;> simp
theorem leB_not (x y : ByteArray) : leB x y = !lessB y x := by
  unfold leB
  cases h : lessB x y with
  | true => simp [less_asymm h]
  | false =>
    cases e : eqB x y with
    | true => have := eqB_iff.mp e; subst this; simp [less_irrefl]
    | false =>
      cases h2 : lessB y x with
      | true => rfl
      | false => have := less_total h h2; subst this; simp at e
theorem leB_refl (x : ByteArray) : leB x x = true := by rw [leB_not, less_irrefl]; rfl
theorem leB_trans {x y z : ByteArray} (h1 : leB x y = true) (h2 : leB y z = true) : leB x z = true := by
  rw [leB_not] at *
  cases e : lessB z x with
  | false => rfl
  | true =>
    cases e2 : lessB x y with
    | true => have := less_trans e e2; rw [this] at h2; cases h2
    | false =>
      have h3 : lessB y x = false := by simpa using h1
      have := less_total e2 h3; subst this; rw [e] at h2; cases h2
theorem less_le {x y z : ByteArray} (h1 : lessB x y = true) (h2 : leB y z = true) : lessB x z = true := by
  unfold leB at h2
  rw [Bool.or_eq_true] at h2
  rcases h2 with h2 | h2
  · exact less_trans h1 h2
  · rw [eqB_iff] at h2; subst h2; exact h1
theorem le_less {x y z : ByteArray} (h1 : leB x y = true) (h2 : lessB y z = true) : lessB x z = true := by
  unfold leB at h1
  rw [Bool.or_eq_true] at h1
  rcases h1 with h1 | h1
  · exact less_trans h1 h2
  · rw [eqB_iff] at h1; subst h1; exact h2
theorem maxS_l (x y : ByteArray) : leB x (maxS x y) = true := by
  unfold maxS
  cases h : lessB x y with
  | true => simp only [Bool.not_true, Bool.false_eq_true, if_false]; unfold leB; rw [h]; rfl
  | false => simp only [Bool.not_false, if_true]; exact leB_refl x
theorem maxS_r (x y : ByteArray) : leB y (maxS x y) = true := by
  unfold maxS
  cases h : lessB x y with
  | true => simp only [Bool.not_true, Bool.false_eq_true, if_false]; exact leB_refl y
  | false => simp only [Bool.not_false, if_true]; rw [leB_not, h]; rfl
/-- Sorted rows with the same in them are the same. -/
theorem sorted_ext {α : Type} {R : α → α → Prop} (irr : ∀ a, ¬ R a a) (asy : ∀ a b, R a b → ¬ R b a) : ∀ {l1 l2 : List α}, l1.Pairwise R → l2.Pairwise R → (∀ x, x ∈ l1 ↔ x ∈ l2) → l1 = l2
  | [], [], _, _, _ => rfl
  | [], b :: l2, _, _, h => absurd ((h b).mpr List.mem_cons_self) List.not_mem_nil
  | a :: l1, [], _, _, h => absurd ((h a).mp List.mem_cons_self) List.not_mem_nil
  | a :: l1, b :: l2, h1, h2, h => by
    rw [List.pairwise_cons] at h1 h2
    have e : a = b := by
      rcases List.mem_cons.mp ((h a).mp List.mem_cons_self) with q | q
      · exact q
      rcases List.mem_cons.mp ((h b).mpr List.mem_cons_self) with r | r
      · exact r.symm
      · exact absurd (h1.1 _ r) (asy _ _ (h2.1 _ q))
    subst e
    rw [sorted_ext irr asy h1.2 h2.2 (fun x => ?_)]
    constructor
    · intro hx
      rcases List.mem_cons.mp ((h x).mp (List.mem_cons_of_mem _ hx)) with q | q
      · subst q; exact absurd (h1.1 _ hx) (irr _)
      · exact q
    · intro hx
      rcases List.mem_cons.mp ((h x).mpr (List.mem_cons_of_mem _ hx)) with q | q
      · subst q; exact absurd (h2.1 _ hx) (irr _)
      · exact q
theorem sortI_perm (l : List Int) : (sortI l).Perm l := List.mergeSort_perm _ _
theorem sortI_le (l : List Int) : (sortI l).Pairwise (· ≤ ·) := by
  have h := List.pairwise_mergeSort (le := fun x y : Int => decide (x ≤ y)) (fun a b c h1 h2 => by simp at *; omega) (fun a b => by simp; omega) l
  exact h.imp (fun {a b} q => by simpa using q)
theorem sortI_lt {l : List Int} (h : l.Nodup) : (sortI l).Pairwise (· < ·) := by
  have h1 := sortI_le l
  have h2 : (sortI l).Nodup := (sortI_perm l).nodup_iff.mpr h
  exact (h1.and h2).imp (fun {a b} q => by have := q.1; have := q.2; omega)
theorem int_ext {l1 l2 : List Int} (h1 : l1.Pairwise (· < ·)) (h2 : l2.Pairwise (· < ·)) (h : ∀ x, x ∈ l1 ↔ x ∈ l2) : l1 = l2 :=
  sorted_ext (R := fun a b : Int => a < b) (fun a => by omega) (fun a b q => by omega) h1 h2 h
theorem wrap_n {n : Nat} (h : n < 9223372036854775808) : IntKind.i64.wrap (n : Int) = (n : Int) := wrap_id (by omega) (by omega)
theorem lenB {α : Type} {a b : List α} : ((a.length : Int) != (b.length : Int)) = !decide (a.length = b.length) := by
  rw [Bool.eq_iff_iff]; simp; omega
end Go.Proofs.Ytcjcbcmapjcfnaa.V
