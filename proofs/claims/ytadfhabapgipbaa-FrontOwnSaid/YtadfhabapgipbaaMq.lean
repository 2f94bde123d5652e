/- The order of bytes, and finding in a sorted map.
   No condition: these are laws of plain definitions. -/
import Derived.Test.YtadfhabapgipbaaMp
import Derived.Laws.Strings
namespace Go.Proofs.Ytadfhabapgipbaa.V
open Go
set_option linter.unusedVariables false
set_option linter.unusedSimpArgs false

theorem bl_irrefl : ∀ x : List UInt8, Op.bytesLess x x = false
  | [] => rfl
  | a :: x => by
    have h : ¬ a < a := UInt8.lt_irrefl a
    simp [Op.bytesLess, h, bl_irrefl x]
theorem bl_trans : ∀ x y z : List UInt8, Op.bytesLess x y = true → Op.bytesLess y z = true → Op.bytesLess x z = true
  | _, [], _, h, _ => by cases ‹List UInt8› <;> simp [Op.bytesLess] at h
  | _, b :: y, [], _, h => by simp [Op.bytesLess] at h
  | [], b :: y, c :: z, _, _ => rfl
  | a :: x, b :: y, c :: z, h1, h2 => by
    simp only [Op.bytesLess, Bool.or_eq_true, Bool.and_eq_true, decide_eq_true_eq, beq_iff_eq] at h1 h2 ⊢
    rcases h1 with h1 | ⟨e1, h1⟩
    · rcases h2 with h2 | ⟨e2, h2⟩
      · exact .inl (UInt8.lt_trans h1 h2)
      · subst e2; exact .inl h1
    · subst e1
      rcases h2 with h2 | ⟨e2, h2⟩
      · exact .inl h2
      · exact .inr ⟨e2, bl_trans x y z h1 h2⟩
theorem bl_total : ∀ x y : List UInt8, Op.bytesLess x y = false → Op.bytesLess y x = false → x = y
  | [], [], _, _ => rfl
  | [], b :: y, h, _ => by simp [Op.bytesLess] at h
  | a :: x, [], _, h => by simp [Op.bytesLess] at h
  | a :: x, b :: y, h1, h2 => by
    simp only [Op.bytesLess, Bool.or_eq_false_iff, Bool.and_eq_false_iff, decide_eq_false_iff_not, beq_eq_false_iff_ne] at h1 h2
    have e : a = b := by
      apply UInt8.toNat_inj.mp
      have q1 := h1.1; have q2 := h2.1
      rw [UInt8.lt_iff_toNat_lt] at q1 q2
      omega
    subst e
    have q1 := h1.2.resolve_left (fun h => h rfl)
    have q2 := h2.2.resolve_left (fun h => h rfl)
    rw [bl_total x y q1 q2]

theorem toList_inj {x y : ByteArray} (h : x.toList = y.toList) : x = y := by
  rw [ByteArray.toList_eq, ByteArray.toList_eq] at h
  cases x; cases y
  have := Array.toList_inj.mp h
  dsimp only at this
  subst this; rfl
theorem eqB_iff {x y : ByteArray} : eqB x y = true ↔ x = y := by
  unfold eqB
  rw [beq_iff_eq]
  exact ⟨toList_inj, fun h => by rw [h]⟩
theorem less_irrefl (x : ByteArray) : lessB x x = false := bl_irrefl _
theorem less_trans {x y z : ByteArray} (h1 : lessB x y = true) (h2 : lessB y z = true) : lessB x z = true := bl_trans _ _ _ h1 h2
theorem less_total {x y : ByteArray} (h1 : lessB x y = false) (h2 : lessB y x = false) : x = y := toList_inj (bl_total _ _ h1 h2)
theorem less_asymm {x y : ByteArray} (h : lessB x y = true) : lessB y x = false := by
  cases e : lessB y x
  · rfl
  · have := less_trans h e; rw [less_irrefl] at this; cases this
theorem cmpS_lt {x y : ByteArray} : cmpS x y < 0 ↔ lessB x y = true := by
  unfold cmpS
  cases lessB x y
  · simp; split <;> simp
  · simp
theorem cmpS_eq {x y : ByteArray} : cmpS x y = 0 ↔ x = y := by
  unfold cmpS
  constructor
  · intro h
    cases e : lessB x y with
    | true => rw [e] at h; simp at h
    | false =>
      rw [e] at h
      cases e2 : eqB x y with
      | true => exact eqB_iff.mp e2
      | false => rw [e2] at h; simp at h
  · intro h
    subst h
    rw [less_irrefl, eqB_iff.mpr rfl]; simp

/-- Sorted, as a relation of places. -/
def Sorted (m : List KV) : Prop := ∀ (i j : Nat) (x y : KV), i < j → m[i]? = some x → m[j]? = some y → lessB x.key y.key = true
theorem sorted_of : ∀ {m : List KV}, mapB m = true → Sorted m := by
  intro m
  induction m with
  | nil => intro _ i j x y _ h; simp at h
  | cons a m ih =>
    intro hm
    have hm' : mapB m = true := by
      cases m with
      | nil => rfl
      | cons b m => rw [map_cons2, Bool.and_eq_true] at hm; exact hm.2
    have hs := ih hm'
    have first : ∀ (j : Nat) (y : KV), m[j]? = some y → lessB a.key y.key = true := by
      cases m with
      | nil => intro j y h; simp at h
      | cons b m =>
        rw [map_cons2, Bool.and_eq_true] at hm
        intro j y h
        cases j with
        | zero => have : b = y := by simpa using h
                  subst this; exact hm.1
        | succ j => exact less_trans hm.1 (hs 0 (j + 1) b y (by omega) rfl h)
    intro i j x y hij hx hy
    cases j with
    | zero => omega
    | succ j =>
      cases i with
      | zero => have : a = x := by simpa using hx
                subst this; exact first j y (by simpa using hy)
      | succ i => exact hs i j x y (by omega) (by simpa using hx) (by simpa using hy)

/-- What a search finds: all below are less, all from there on aren't. -/
theorem bs_spec {p : Nat → Bool} (hp : ∀ i j, i ≤ j → p j = true → p i = true) : ∀ (n i j : Nat), j - i ≤ n → i ≤ j → (∀ q, q < i → p q = true) → (∀ q, j ≤ q → p q = false) →
    (∀ q, q < bs p i j → p q = true) ∧ (∀ q, bs p i j ≤ q → p q = false) := by
  intro n
  induction n with
  | zero =>
    intro i j h1 h2 h3 h4
    rw [bs_ge (by omega)]
    exact ⟨h3, fun q hq => h4 q (by omega)⟩
  | succ n ih =>
    intro i j h1 h2 h3 h4
    by_cases q : i < j
    · rw [bs_lt q]
      split
      · rename_i hm
        exact ih _ _ (by omega) (by omega) (fun r hr => hp r _ (by omega) hm) h4
      · rename_i hm
        refine ih _ _ (by omega) (by omega) h3 (fun r hr => ?_)
        cases e : p r
        · rfl
        · exact absurd (hp _ r hr e) hm
    · rw [bs_ge q]
      exact ⟨h3, fun r hr => h4 r (by omega)⟩

/-- The key's own entry. -/
theorem findK_some {m : List KV} (hs : Sorted m) {i : Nat} {x : KV} (hx : m[i]? = some x) : findK m x.key = some x := by
  have hp : ∀ i j, i ≤ j → keyLt m x.key j = true → keyLt m x.key i = true := by
    intro a b hab h
    rcases Nat.eq_or_lt_of_le hab with e | e
    · subst e; exact h
    · unfold keyLt at h ⊢
      cases hb : m[b]? with
      | none => rw [hb] at h; cases h
      | some y =>
        rw [hb] at h
        have hb' : b < m.length := by
          rcases Nat.lt_or_ge b m.length with q | q
          · exact q
          · rw [List.getElem?_eq_none q] at hb; cases hb
        rw [List.getElem?_eq_getElem (show a < m.length by omega)]
        dsimp only at h ⊢
        rw [decide_eq_true_iff] at h ⊢
        rw [cmpS_lt] at h ⊢
        exact less_trans (hs a b _ y e (List.getElem?_eq_getElem (by omega)) hb) h
  obtain ⟨h1, h2⟩ := bs_spec hp m.length 0 m.length (by omega) (Nat.zero_le _) (fun q hq => absurd hq (Nat.not_lt_zero q)) (fun q hq => by unfold keyLt; rw [List.getElem?_eq_none hq])
  have hi : findI m x.key = i := by
    unfold findI
    generalize bs (keyLt m x.key) 0 m.length = w at h1 h2 ⊢
    rcases Nat.lt_trichotomy w i with q | q | q
    · exfalso
      have := h2 _ (Nat.le_refl _)
      unfold keyLt at this
      have hil : i < m.length := by
        rcases Nat.lt_or_ge i m.length with r | r
        · exact r
        · rw [List.getElem?_eq_none r] at hx; cases hx
      rw [List.getElem?_eq_getElem (show w < m.length by omega)] at this
      dsimp only at this
      rw [decide_eq_false_iff_not, cmpS_lt] at this
      exact this (hs _ i _ x q (List.getElem?_eq_getElem (by omega)) hx)
    · exact q
    · exfalso
      have := h1 i q
      unfold keyLt at this
      rw [hx] at this
      dsimp only at this
      rw [decide_eq_true_iff, cmpS_lt, less_irrefl] at this
      cases this
  unfold findK
  rw [hi, hx]
  dsimp only
  rw [if_pos (by rw [cmpS_eq.mpr rfl]; rfl)]
theorem findK_key {m : List KV} {k : ByteArray} {x : KV} (h : findK m k = some x) : x ∈ m ∧ x.key = k := by
  obtain ⟨h1, h2⟩ := findK_at h
  exact ⟨List.mem_of_getElem? h1, cmpS_eq.mp h2⟩
theorem findK_none {m : List KV} (hs : Sorted m) {k : ByteArray} (h : findK m k = none) : ∀ x ∈ m, x.key ≠ k := by
  intro x hx e
  obtain ⟨i, hi⟩ := List.mem_iff_getElem?.mp hx
  have := findK_some hs hi
  rw [e, h] at this
  cases this

/-- A key's entry, by going through all. -/
def getK (m : List KV) (k : ByteArray) : Option KV := m.find? (fun x => eqB x.key k)
theorem getK_find {m : List KV} (hs : Sorted m) (k : ByteArray) : getK m k = findK m k := by
  unfold getK
  cases h : findK m k with
  | none =>
    rw [List.find?_eq_none]
    intro x hx e
    exact findK_none hs h x hx (eqB_iff.mp e)
  | some y =>
    obtain ⟨hy, hk⟩ := findK_key h
    cases h2 : m.find? (fun x => eqB x.key k) with
    | none =>
      rw [List.find?_eq_none] at h2
      exact absurd (eqB_iff.mpr hk) (h2 y hy)
    | some z =>
      have hz := List.find?_some h2
      have hzm := List.mem_of_find?_eq_some h2
      obtain ⟨i, hi⟩ := List.mem_iff_getElem?.mp hzm
      have := findK_some hs hi
      rw [eqB_iff.mp hz, h] at this
      exact this.symm
theorem find_cons {m : List KV} {k : ByteArray} {i : Nat} (hi : i < m.length) : (m.drop i).find? (fun x => eqB x.key k) = if eqB m[i].key k then some m[i] else (m.drop (i + 1)).find? (fun x => eqB x.key k) := by
  rw [List.drop_eq_getElem_cons hi, List.find?_cons]
  cases eqB m[i].key k <;> rfl

theorem all_take {α : Type} {l : List α} {p : α → Bool} {i : Nat} (hi : i < l.length) : (l.take (i + 1)).all p = (bif (l.take i).all p then p l[i] else false) := by
  rw [List.take_succ_eq_append_getElem hi, List.all_append]
  cases (l.take i).all p <;> simp
theorem holds_all (m : List KV) (l : List Cmp) : holds m l = l.all (fun c => holds m [c]) := by
  unfold holds
  rw [Bool.eq_iff_iff]
  simp
theorem holds_gone (m : List KV) (k : ByteArray) : holds m [⟨2, k, ByteArray.empty, 0⟩] = !(findK m k).isSome := by
  simp [holds, bad1]
theorem holds_here {m : List KV} {k : ByteArray} {x : KV} (h : findK m k = some x) (hr : x.rev ≠ 0) : holds m [⟨2, k, ByteArray.empty, x.rev⟩, ⟨1, k, x.val, 0⟩] = true := by
  simp [holds, bad1, h, kvOr, hr, eqB]

end Go.Proofs.Ytadfhabapgipbaa.V
