/- What the plain functions of transactions compute.
   No condition: these are laws of plain functions. -/
import Derived.Test.YtadfhabapgipbaaPF
namespace Go.Proofs.Ytadfhabapgipbaa.V
open Go
set_option linter.unusedVariables false
set_option linter.unusedSimpArgs false

theorem eq_OpX_iff {x y : OpX} : eq_OpX x y = true ↔ x = y := by
  obtain ⟨a, b, c⟩ := x; obtain ⟨d, e, f⟩ := y
  unfold eq_OpX
  simp only [Bool.and_true, Bool.and_eq_true, beq_iff_eq, ba_iff, OpX.mk.injEq]
@[simp] theorem eqB_self (x : ByteArray) : eqB x x = true := eqB_iff.mpr rfl

theorem cmp_eq (x y : ByteArray) : F_cmp_Compare x y = some (cmpS x y) := by
  unfold F_cmp_Compare F_cmp_isNaN cmpS
  simp only [eqB_self, Option.bind_some, Bool.not_true, Bool.false_eq_true, if_false]
  by_cases h : lessB x y = true
  · simp [h]
  · by_cases h2 : leB x y = true
    · have : eqB x y = true := by unfold leB at h2; simpa [h] using h2
      simp [h, h2, this]
    · have : eqB x y = false := by unfold leB at h2; simp [h] at h2; exact h2
      simp [h, h2, this]
theorem find1_eq (x : KV) (k : ByteArray) : F_txn_find_1 x k = some (cmpS x.key k) := by
  unfold F_txn_find_1; rw [cmp_eq]; rfl
theorem mid_eq' {i j : Nat} (h : i + j < 9223372036854775808) :
    IntKind.i64.wrap (shrI .u64 (IntKind.u64.wrap (IntKind.i64.wrap ((i : Int) + (j : Int)))) 1) = (((i + j) / 2 : Nat) : Int) := mid_eq h
theorem bsL (m : List KV) (k : ByteArray) (hm : m.length < 4611686018427387904) : ∀ (f i j : Nat), i ≤ j → j ≤ m.length → j - i < f →
    F_slices_BinarySearchFunc_txn_find_1_L1 m k f i j = some ((bs (keyLt m k) i j : Nat) : Int) := by
  intro f
  induction f with
  | zero => intro i j _ _ h; omega
  | succ f ih =>
    intro i j h1 h2 h3
    rw [F_slices_BinarySearchFunc_txn_find_1_L1, mid_eq' (by omega)]
    by_cases q : i < j
    · have hi : (i + j) / 2 < m.length := by omega
      rw [if_pos (by simpa using q), getI_nat, List.getElem?_eq_getElem hi]
      simp only [Option.bind_some, find1_eq]
      rw [bs_lt q]
      have hk : keyLt m k ((i + j) / 2) = decide (cmpS m[(i + j) / 2].key k < 0) := by unfold keyLt; rw [List.getElem?_eq_getElem hi]
      rw [hk, wrap_id (by omega) (by omega)]
      split
      · have := ih ((i + j) / 2 + 1) j (by omega) h2 (by omega)
        exact this
      · exact ih i ((i + j) / 2) (by omega) (by omega) (by omega)
    · rw [if_neg (by simpa using q), bs_ge q]
theorem bsf_eq {n : Nat} (m : List KV) (k : ByteArray) (hm : m.length < 4611686018427387904) (hn : m.length < n) :
    F_slices_BinarySearchFunc_txn_find_1 n m k = some (((findI m k : Nat) : Int), (findK m k).isSome) := by
  unfold F_slices_BinarySearchFunc_txn_find_1
  have h := bsL m k hm n 0 m.length (Nat.zero_le _) (Nat.le_refl _) (by omega)
  rw [show (0 : Int) = ((0 : Nat) : Int) from rfl, h]
  simp only [Option.bind_some]
  show _ = some (((findI m k : Nat) : Int), _)
  rw [show bs (keyLt m k) 0 m.length = findI m k from rfl]
  unfold findK
  rcases Nat.lt_or_ge (findI m k) m.length with q | q
  · rw [if_pos (by simpa using q), getI_nat, List.getElem?_eq_getElem q]
    simp only [Option.bind_some, find1_eq]
    split <;> simp_all
  · rw [if_neg (by simpa using q), List.getElem?_eq_none q]
    rfl
theorem find_eq {n : Nat} (m : List KV) (k : ByteArray) (hm : m.length < 4611686018427387904) (hn : m.length < n) : F_txn_find n m k = some (kvOr (findK m k), (findK m k).isSome) := by
  unfold F_txn_find
  rw [bsf_eq m k hm hn]
  simp only [Option.bind_some]
  cases h : findK m k with
  | none => rfl
  | some x =>
    obtain ⟨h1, _⟩ := findK_at h
    simp only [Option.isSome_some, Bool.not_true, Bool.false_eq_true, if_false, getI_nat, h1, Option.bind_some, kvOr]
theorem holds1_eq {n : Nat} (m : List KV) (c : Cmp) (hm : m.length < 4611686018427387904) (hn : m.length < n) : F_txn_Holds_1 n c m = some (bad1 m c) := by
  unfold F_txn_Holds_1
  rw [find_eq m _ hm hn]
  simp only [Option.bind_some]
  unfold bad1
  cases c.kind == 1 <;> cases c.kind == 2 <;> cases c.rev == 0 <;> cases (findK m c.key).isSome <;> rfl
theorem idxL {n : Nat} (m : List KV) (hm : m.length < 4611686018427387904) (hn : m.length < n) : ∀ (l : List Cmp) (i : Nat),
    F_slices_IndexFunc_txn_Holds_1_L1 n m l i = some (if idxFrom (bad1 m) l i ≥ 0 then .out (idxFrom (bad1 m) l i) else .go ()) := by
  intro l
  induction l with
  | nil => intro i; rfl
  | cons c l ih =>
    intro i
    rw [F_slices_IndexFunc_txn_Holds_1_L1, holds1_eq m c hm hn]
    simp only [Option.bind_some, idx_cons]
    by_cases h : bad1 m c = true
    · simp [h]
    · simp only [h, if_false]; exact ih (i + 1)
theorem idx_neg {α : Type} (p : α → Bool) : ∀ (l : List α) (i : Nat), idxFrom p l i ≥ 0 ∨ idxFrom p l i = -1 := by
  intro l
  induction l with
  | nil => intro i; right; rfl
  | cons x r ih => intro i; unfold idxFrom; split; left; omega; exact ih (i + 1)
theorem holds_eq {n : Nat} (m : List KV) (l : List Cmp) (hm : m.length < 4611686018427387904) (hn : m.length < n) : F_txn_Holds n m l = some (holds m l) := by
  unfold F_txn_Holds F_slices_ContainsFunc_txn_Holds_1 F_slices_IndexFunc_txn_Holds_1
  rw [idxL m hm hn]
  have h := idx_any (bad1 m) l 0
  unfold holds
  rw [← h]
  rcases idx_neg (bad1 m) l 0 with q | q
  · simp [lpK, q]
  · simp [lpK, q]
theorem roomy_small {n B : Nat} (hn : n ≤ 1000000000) (hb : B ≤ 1000) (h0 : 0 < B) : roomy n B = true := roomy_le hn hb h0
theorem appL_ok {α : Type} {B : Nat} {xs ys : List α} (hn : xs.length + ys.length ≤ 1000000000) (hb : B ≤ 1000) (h0 : 0 < B) : appL B xs ys = some (xs ++ ys) := by
  unfold appL; rw [if_pos (roomy_le hn hb h0)]
theorem planL {n : Nat} (m : List KV) (hm : m.length < 4611686018427387904) (hn : m.length < n) : ∀ (l : List OpX) (i : Nat) (acc : List OpX), acc.length + l.length ≤ 1000000 →
    F_txn_Plan_L1 n m l i acc = some (acc ++ planOps m l) := by
  intro l
  induction l with
  | nil => intro i acc _; simp [F_txn_Plan_L1, planOps]
  | cons o l ih =>
    intro i acc hl
    rw [List.length_cons] at hl
    rw [F_txn_Plan_L1, find_eq m _ hm hn]
    simp only [Option.bind_some, plan_cons]
    have : (bif (findK m o.key).isSome then true else !o.del) = ((findK m o.key).isSome || !o.del) := by cases (findK m o.key).isSome <;> rfl
    rw [this]
    split
    · rw [appL_ok (by simp; omega) (by omega) (by omega)]
      simp only [Option.bind_some]
      rw [ih (i + 1) (acc ++ [o]) (by simp; omega)]; simp
    · exact ih (i + 1) acc (by omega)
theorem plan_eq {n : Nat} (m : List KV) (q : TReq) (hm : m.length < 4611686018427387904) (hn : m.length < n) (ht : q.Then.length ≤ 1000000) (he : q.Else.length ≤ 1000000) :
    F_txn_Plan n m q = some (holds m q.Cmps, planOps m (if holds m q.Cmps then q.Then else q.Else)) := by
  unfold F_txn_Plan
  rw [holds_eq m _ hm hn]
  simp only [Option.bind_some]
  cases holds m q.Cmps with
  | true => simp only [if_true, Option.bind_some]; rw [planL m hm hn _ _ _ (by simpa using ht)]; rfl
  | false => simp only [Bool.false_eq_true, if_false, Option.bind_some]; rw [planL m hm hn _ _ _ (by simpa using he)]; rfl
theorem getL (k : ByteArray) : ∀ (m : List KV) (i : Nat), F_ref06_Get_L1 k m i = some (match getK m k with | some x => .out (x, true) | none => .go ()) := by
  intro m
  induction m with
  | nil => intro i; rfl
  | cons x m ih =>
    intro i
    rw [F_ref06_Get_L1]
    unfold getK
    rw [List.find?_cons]
    cases h : eqB x.key k with
    | true => rfl
    | false => simp only [Bool.false_eq_true, if_false]; exact ih (i + 1)
theorem get_eq (m : List KV) (k : ByteArray) : F_ref06_Get m k = some (kvOr (getK m k), (getK m k).isSome) := by
  unfold F_ref06_Get
  rw [getL]
  cases getK m k <;> rfl
theorem mapL (m : List KV) (hm : m.length < 4611686018427387904) : ∀ (f i : Nat), 1 ≤ i → m.length - i ≤ f → F_ref05_Map_L1 m (m.drop i) i = some (if mapB (m.drop (i - 1)) = true then .go () else .out false) := by
  intro f
  induction f with
  | zero =>
    intro i h1 h2
    rw [List.drop_eq_nil_of_le (by omega)]
    have : mapB (m.drop (i - 1)) = true := by
      cases e : m.drop (i - 1) with
      | nil => rfl
      | cons x r => cases r with
        | nil => rfl
        | cons y r => have := congrArg List.length e; simp at this; omega
    rw [F_ref05_Map_L1, if_pos this]
  | succ f ih =>
    intro i h1 h2
    by_cases q : i < m.length
    · have d1 : m.drop i = m[i] :: m.drop (i + 1) := List.drop_eq_getElem_cons q
      have d0 : m.drop (i - 1) = m[i - 1] :: m.drop i := by rw [List.drop_eq_getElem_cons (by omega : i - 1 < m.length), show i - 1 + 1 = i by omega]
      rw [d0, d1, F_ref05_Map_L1, wrap_id (by omega) (by omega), show ((i : Int) - 1) = ((i - 1 : Nat) : Int) by omega, getI_nat, List.getElem?_eq_getElem (by omega : i - 1 < m.length)]
      simp only [Option.bind_some, map_cons2]
      have := ih (i + 1) (by omega) (by omega)
      rw [this, Nat.add_sub_cancel, d1]
      by_cases h : lessB m[i - 1].key m[i].key = true
      · simp only [h, Bool.not_true, Bool.false_eq_true, if_false, Bool.true_and]
      · rw [Bool.not_eq_true] at h
        simp only [h, Bool.not_false, if_true, Bool.false_and, Bool.false_eq_true, if_false]
    · rw [List.drop_eq_nil_of_le (by omega)]
      have : mapB (m.drop (i - 1)) = true := by
        cases e : m.drop (i - 1) with
        | nil => rfl
        | cons x r => cases r with
          | nil => rfl
          | cons y r => have := congrArg List.length e; simp at this; omega
      rw [F_ref05_Map_L1, if_pos this]
theorem map_eq (m : List KV) (hm : m.length < 4611686018427387904) : F_ref05_Map m = some (mapB m) := by
  unfold F_ref05_Map
  have := mapL m hm m.length 1 (Nat.le_refl _) (by omega)
  rw [this]
  rw [show m.drop (1 - 1) = m by simp]
  cases mapB m <;> rfl
theorem opsL (b : List OpX) : ∀ (a : List OpX) (i : Nat), a.length + i = b.length → F_ref07_Ops_L1 b a i = some (if a = b.drop i then .go () else .out false) := by
  intro a
  induction a with
  | nil => intro i h; rw [List.drop_eq_nil_of_le (by simp at h; omega)]; rfl
  | cons x a ih =>
    intro i h
    have hi : i < b.length := by simp at h; omega
    rw [F_ref07_Ops_L1, getI_nat, List.getElem?_eq_getElem hi]
    simp only [Option.bind_some]
    rw [List.drop_eq_getElem_cons hi, ih (i + 1) (by simp at h; omega)]
    generalize b.drop (i + 1) = bs
    by_cases e : x = b[i]
    · have : eq_OpX x b[i] = true := eq_OpX_iff.mpr e
      rw [this]; simp [e]
    · have : eq_OpX x b[i] = false := by cases q : eq_OpX x b[i]; rfl; exact absurd (eq_OpX_iff.mp q) e
      rw [this]; simp [e]
theorem ops_eq (a b : List OpX) : F_ref07_Ops a b = some (decide (a = b)) := by
  unfold F_ref07_Ops
  by_cases h : a.length = b.length
  · rw [if_neg (by simp [h]), opsL b a 0 (by simpa using h)]
    by_cases e : a = b <;> simp [lpK, e]
  · rw [if_pos (by simpa using fun e => h (by omega))]
    have : a ≠ b := fun e => h (by rw [e])
    simp [this]
end Go.Proofs.Ytadfhabapgipbaa.V
