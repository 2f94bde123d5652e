/- The plain law of TxnRefused.
   No condition: this is a law of plain functions. -/
import Derived.Test.YtadfhabapgipbaaTxn
namespace Go.Proofs.Ytadfhabapgipbaa.V
open Go
set_option linter.unusedVariables false
set_option linter.unusedSimpArgs false

theorem mfind_app {K V : Type} [DecidableEq K] (k : K) (v : V) : ∀ (es : List (K × V)) (i : Nat), mfind es k i = none → mfind (es ++ [(k, v)]) k i = some (i + es.length, v) := by
  intro es
  induction es with
  | nil => intro i _; simp [mfind]
  | cons e r ih =>
    intro i h
    unfold mfind at h
    split at h
    · cases h
    · rename_i q
      rw [List.cons_append]
      unfold mfind
      rw [if_neg q, ih (i + 1) h, List.length_cons]
      congr 2; omega
theorem mfind_set {K V : Type} [DecidableEq K] (k : K) (v w : V) : ∀ (es : List (K × V)) (i j : Nat), mfind es k i = some (i + j, w) → mfind (es.set j (k, v)) k i = some (i + j, v) := by
  intro es
  induction es with
  | nil => intro i j h; cases h
  | cons e r ih =>
    intro i j h
    unfold mfind at h
    split at h
    · rename_i q
      simp only [Option.some.injEq, Prod.mk.injEq] at h
      have : j = 0 := by omega
      subst this
      simp [mfind]
    · rename_i q
      cases j with
      | zero =>
        exfalso
        have lem : ∀ (es : List (K × V)) (i n : Nat) (w : V), mfind es k i = some (n, w) → i ≤ n := by
          intro es
          induction es with
          | nil => intro i n w h; cases h
          | cons e r ih =>
            intro i n w h
            unfold mfind at h
            split at h
            · simp only [Option.some.injEq, Prod.mk.injEq] at h; omega
            · have := ih _ _ _ h; omega
        have := lem _ _ _ _ h; omega
      | succ j =>
        rw [List.set_cons_succ]
        unfold mfind
        rw [if_neg q]
        have := ih (i + 1) j (by rw [show i + 1 + j = i + (j + 1) by omega]; exact h)
        rw [this]; congr 2; omega
theorem mget_mset {K V : Type} [DecidableEq K] (es : List (K × V)) (k : K) (v : V) : mget (mset es k v) k = some v := by
  unfold mget mset
  cases h : mfind es k 0 with
  | none => dsimp only; rw [mfind_app k v es 0 h]; rfl
  | some p =>
    obtain ⟨j, w⟩ := p
    dsimp only
    have := mfind_set k v w es 0 j (by simpa using h)
    rw [this]; rfl

def keyB (k : ByteArray) : Bool := !eqB k ByteArray.empty && decide ((k.size : Int) ≤ 8)
theorem keyMay_eq (k : ByteArray) : F_key_May k = some (keyB k) := by
  unfold F_key_May keyB; cases eqB k ByteArray.empty <;> rfl
def badO (o : OpX) (es : List (ByteArray × Bool)) : Bool := !keyB o.key || decide ((o.val.size : Int) > 8) || (o.del && !eqB o.val ByteArray.empty) || (mget es o.key).getD false
def opsG : List OpX → List (ByteArray × Bool) → Option (List (ByteArray × Bool))
  | [], es => some es
  | o :: l, es => if badO o es = true then none else opsG l (mset es o.key true)
theorem opsL2 : ∀ (l : List OpX) (i : Nat) (es : List (ByteArray × Bool)), F_txn_ops_L1 l i es = some (match opsG l es with | some e => .go e | none => .out false) := by
  intro l
  induction l with
  | nil => intro i es; rfl
  | cons o l ih =>
    intro i es
    rw [F_txn_ops_L1, keyMay_eq]
    simp only [Option.bind_some]
    unfold opsG badO
    cases keyB o.key <;> cases decide ((o.val.size : Int) > 8) <;> cases o.del <;> cases eqB o.val ByteArray.empty <;> cases (mget es o.key).getD false <;> first | rfl | (simp; exact ih _ _)
theorem ops_may (l : List OpX) : F_txn_ops l = some ((opsG l []).isSome && decide ((l.length : Int) ≤ 4)) := by
  unfold F_txn_ops
  rw [opsL2]
  cases opsG l [] <;> rfl
theorem opsG_app : ∀ (l k : List OpX) (es : List (ByteArray × Bool)), opsG (l ++ k) es = (opsG l es).bind (opsG k) := by
  intro l
  induction l with
  | nil => intro k es; rfl
  | cons o l ih =>
    intro k es
    rw [List.cons_append]
    unfold opsG
    by_cases h : badO o es = true
    · rw [if_pos h, if_pos h]; rfl
    · rw [if_neg h, if_neg h]; exact ih k _
def badC (c : Cmp) : Bool := !keyB c.key || (c.kind != 1 && c.kind != 2) || decide ((c.val.size : Int) > 8) || decide (c.rev < 0)
theorem badC_eq (c : Cmp) : F_txn_compares_1 c = some (badC c) := by
  unfold F_txn_compares_1 badC
  rw [keyMay_eq]
  simp only [Option.bind_some]
  cases keyB c.key <;> cases c.kind != 1 <;> cases c.kind != 2 <;> cases decide ((c.val.size : Int) > 8) <;> rfl
theorem cmpL2 : ∀ (l : List Cmp) (i : Nat), F_slices_IndexFunc_txn_compares_1_L1 l i = some (if idxFrom badC l i ≥ 0 then .out (idxFrom badC l i) else .go ()) := by
  intro l
  induction l with
  | nil => intro i; rfl
  | cons c l ih =>
    intro i
    rw [F_slices_IndexFunc_txn_compares_1_L1, badC_eq]
    simp only [Option.bind_some, idx_cons]
    by_cases h : badC c = true
    · simp [h]
    · simp only [h, if_false]; exact ih (i + 1)
theorem cmps_may (l : List Cmp) : F_txn_compares l = some (decide ((l.length : Int) ≤ 4) && !l.any badC) := by
  unfold F_txn_compares F_slices_ContainsFunc_txn_compares_1 F_slices_IndexFunc_txn_compares_1
  rw [cmpL2]
  have h := idx_any badC l 0
  rw [← h]
  cases decide ((l.length : Int) ≤ 4)
  · rfl
  · rcases idx_neg badC l 0 with q | q <;> simp [lpK, q]
theorem may1 (q : TReq) (hk : q.Kind = 1) : F_txn_May q = some (if ((decide ((q.Cmps.length : Int) ≤ 4) && !q.Cmps.any badC) && ((opsG q.Then []).isSome && decide ((q.Then.length : Int) ≤ 4)) && ((opsG q.Else []).isSome && decide ((q.Else.length : Int) ≤ 4))) = true then 0 else 1) := by
  unfold F_txn_May
  rw [if_pos (by simp [hk]), cmps_may, ops_may, ops_may]
  cases (decide ((q.Cmps.length : Int) ≤ 4) && !q.Cmps.any badC) <;> cases ((opsG q.Then []).isSome && decide ((q.Then.length : Int) ≤ 4)) <;> cases ((opsG q.Else []).isSome && decide ((q.Else.length : Int) ≤ 4)) <;> rfl
theorem may_other (q : TReq) (h1 : q.Kind ≠ 1) (h2 : q.Kind ≠ 2) (h3 : q.Kind ≠ 3) : F_txn_May q = some 1 := by
  unfold F_txn_May
  rw [if_neg (by simpa using h1), if_neg (by simpa using h2), if_neg (by simpa using h3)]
  rfl

theorem trim_tot (s t : ByteArray) (hs : s.size ≤ maxLen) : ∃ r, F_strings_TrimSuffix s t = some r := by
  have hm : maxLen = 9223372036854775807 := rfl
  unfold F_strings_TrimSuffix F_internal_stringslite_TrimSuffix F_internal_stringslite_HasSuffix
  by_cases q : s.size ≥ t.size
  · have w1 : IntKind.i64.wrap ((s.size : Int) - (t.size : Int)) = ((s.size - t.size : Nat) : Int) := by rw [wrap_id (by omega) (by omega)]; omega
    have e1 : subS s ((s.size - t.size : Nat) : Int) (s.size : Int) = some (s.extract (s.size - t.size) s.size) := by
      unfold subS; rw [if_pos ⟨by omega, by omega, by omega⟩]; rfl
    have e2 : subS s 0 ((s.size - t.size : Nat) : Int) = some (s.extract 0 (s.size - t.size)) := by
      unfold subS; rw [if_pos ⟨by omega, by omega, by omega⟩]; rfl
    rw [if_pos (by simpa using q), w1, e1, e2]
    simp only [Option.bind_some]
    split <;> exact ⟨_, rfl⟩
  · rw [if_neg (by simpa using q)]
    exact ⟨s, rfl⟩
theorem range_tot (r : TRange) (hs : r.To.size ≤ maxLen) : ∃ b, F_key_MayRange r = some b := by
  obtain ⟨t, ht⟩ := trim_tot r.To ⟨#[0]⟩ hs
  unfold F_key_MayRange F_key_Empty
  rw [ht]
  simp only [Option.bind_some]
  split <;> exact ⟨_, rfl⟩
theorem plain_TxnRefused (p0 : TReq) (p1 : Int) (w0 : W_TReq p0) (w1 : okI .u8 p1) : F_law07_TxnRefused p0 p1 = some true := by
  have hp := okI_u8 w1
  unfold F_law07_TxnRefused
  by_cases hk : p0.Kind = 1
  · rw [may1 p0 hk]
    simp only [Option.bind_some]
    cases hc : (decide ((p0.Cmps.length : Int) ≤ 4) && !p0.Cmps.any badC) with
    | false => rfl
    | true =>
    cases ht : ((opsG p0.Then []).isSome && decide ((p0.Then.length : Int) ≤ 4)) with
    | false => rfl
    | true =>
    cases he : ((opsG p0.Else []).isSome && decide ((p0.Else.length : Int) ≤ 4)) with
    | false => rfl
    | true =>
    have lc : p0.Cmps.length ≤ 4 := by simp at hc; omega
    have lt : p0.Then.length ≤ 4 := by simp at ht; omega
    have le : p0.Else.length ≤ 4 := by simp at he; omega
    simp only [Bool.and_self, if_true, hk, bne_self_eq_false, cond_false, Bool.false_eq_true, if_false]
    have A40 : ∀ (xs ys : List OpX), xs.length ≤ 100 → ys.length ≤ 100 → appL 40 xs ys = some (xs ++ ys) := fun xs ys h1 h2 => appL_ok (by omega) (by omega) (by omega)
    have A48 : ∀ (xs ys : List Cmp), xs.length ≤ 100 → ys.length ≤ 100 → appL 48 xs ys = some (xs ++ ys) := fun xs ys h1 h2 => appL_ok (by omega) (by omega) (by omega)
    rw [A40 [] p0.Then (by simp) (by omega), A40 _ [(⟨⟨#[49, 50, 51, 52, 53, 54, 55, 56, 57]⟩, ByteArray.empty, false⟩ : OpX)] (by simp; omega) (by simp), A40 _ [(⟨⟨#[97]⟩, ⟨#[49, 50, 51, 52, 53, 54, 55, 56, 57]⟩, false⟩ : OpX)] (by simp; omega) (by simp), A40 [] p0.Else (by simp) (by omega),
      A40 _ [(⟨⟨#[97]⟩, ByteArray.empty, false⟩ : OpX), (⟨⟨#[97]⟩, ByteArray.empty, true⟩ : OpX)] (by simp; omega) (by simp), A48 [] p0.Cmps (by simp) (by omega), A48 _ [(⟨3, ⟨#[97]⟩, ByteArray.empty, 0⟩ : Cmp)] (by simp; omega) (by simp)]
    simp only [Option.bind_some]
    have wk : IntKind.i64.wrap (4 + IntKind.i64.wrap p1) = 4 + p1 := by rw [wrap_id (n := p1) (by omega) (by omega), wrap_id (by omega) (by omega)]
    rw [wk, may_other _ (by show ¬ 4 + p1 = 1; omega) (by show ¬ 4 + p1 = 2; omega) (by show ¬ 4 + p1 = 3; omega)]
    have b1 : ∀ es, opsG [(⟨⟨#[49, 50, 51, 52, 53, 54, 55, 56, 57]⟩, ByteArray.empty, false⟩ : OpX)] es = none := fun es => by unfold opsG badO; rw [show keyB ⟨#[49, 50, 51, 52, 53, 54, 55, 56, 57]⟩ = false by kernel_rfl]; rfl
    have b2 : ∀ es, opsG [(⟨⟨#[97]⟩, ⟨#[49, 50, 51, 52, 53, 54, 55, 56, 57]⟩, false⟩ : OpX)] es = none := fun es => by unfold opsG badO; rw [show keyB ⟨#[97]⟩ = true by kernel_rfl]; rfl
    have b3 : ∀ es, opsG [(⟨⟨#[97]⟩, ByteArray.empty, false⟩ : OpX), (⟨⟨#[97]⟩, ByteArray.empty, true⟩ : OpX)] es = none := fun es => by
      have hb : badO ⟨⟨#[97]⟩, ByteArray.empty, true⟩ (mset es ⟨#[97]⟩ true) = true := by unfold badO; rw [mget_mset]; simp
      unfold opsG
      split
      · rfl
      · unfold opsG; rw [if_pos hb]
    have o1 : opsG (([] ++ p0.Then) ++ [(⟨⟨#[49, 50, 51, 52, 53, 54, 55, 56, 57]⟩, ByteArray.empty, false⟩ : OpX)]) [] = none := by rw [opsG_app]; cases opsG ([] ++ p0.Then) [] with | none => rfl | some e => exact b1 e
    have o2 : opsG (([] ++ p0.Then) ++ [(⟨⟨#[97]⟩, ⟨#[49, 50, 51, 52, 53, 54, 55, 56, 57]⟩, false⟩ : OpX)]) [] = none := by rw [opsG_app]; cases opsG ([] ++ p0.Then) [] with | none => rfl | some e => exact b2 e
    have o3 : opsG (([] ++ p0.Else) ++ [(⟨⟨#[97]⟩, ByteArray.empty, false⟩ : OpX), (⟨⟨#[97]⟩, ByteArray.empty, true⟩ : OpX)]) [] = none := by rw [opsG_app]; cases opsG ([] ++ p0.Else) [] with | none => rfl | some e => exact b3 e
    have c1 : (([] ++ p0.Cmps) ++ [(⟨3, ⟨#[97]⟩, ByteArray.empty, 0⟩ : Cmp)]).any badC = true := by
      rw [List.any_append]; simp [badC]
    simp only [Option.bind_some]
    rw [may1 _ (by exact rfl), may1 _ (by exact rfl), may1 _ (by exact rfl), may1 _ (by exact rfl), may1 _ (by exact rfl)]
    simp only [o1, o2, o3, c1, Option.isSome_none, Bool.false_and, Bool.and_false, Bool.not_true, Bool.false_eq_true, if_false, Option.bind_some]
    rfl
  · cases hm : F_txn_May p0 with
    | none =>
      exfalso
      have tot : ∃ r, F_txn_May p0 = some r := by
        unfold F_txn_May
        obtain ⟨b, hb⟩ := range_tot p0.R w0.2.1.2
        rw [if_neg (by simpa using hk), hb]
        by_cases k2 : p0.Kind = 2
        · rw [if_pos (by simpa using k2)]
          simp only [Option.bind_some]
          split <;> exact ⟨_, rfl⟩
        · rw [if_neg (by simpa using k2)]
          by_cases k3 : p0.Kind = 3
          · rw [if_pos (by simpa using k3)]
            simp only [Option.bind_some]
            split <;> exact ⟨_, rfl⟩
          · rw [if_neg (by simpa using k3)]
            exact ⟨_, rfl⟩
      obtain ⟨r, hr⟩ := tot
      rw [hm] at hr; cases hr
    | some r =>
      simp only [Option.bind_some]
      rw [if_pos]
      cases (r != 0) <;> simp [hk]
end Go.Proofs.Ytadfhabapgipbaa.V
