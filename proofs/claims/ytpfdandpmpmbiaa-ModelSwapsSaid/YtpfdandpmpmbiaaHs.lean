/- Transactions, plainly.
   No condition: these are laws of plain functions. -/
import Derived.Test.YtpfdandpmpmbiaaFt
import Derived.Test.YtpfdandpmpmbiaaHl
namespace Go.Proofs.Ytpfdandpmpmbiaa.V
open Go
set_option linter.unusedVariables false
set_option linter.unusedSimpArgs false

theorem look_app {A B : List TKV} {k : ByteArray} (h1 : ∀ a ∈ A, lessB a.Key k = true) : look (A ++ B) k = look B k := by
  unfold look
  rw [List.find?_append, List.find?_eq_none.mpr (fun a ha => by rw [eqB_iff]; intro e; have := h1 a ha; rw [e, less_irrefl] at this; cases this)]
  rfl
theorem find_eq {n : Nat} {m : List TKV} (hm : So m) (k : ByteArray) (hl : m.length ≤ 1000) (hn : 1000 < n) : F_txn_find n m k = some (look m k) := by
  obtain ⟨A, B, rfl, h1, h2, _⟩ := splitAt_ hm k
  unfold F_txn_find
  rw [bsg_eq h1 h2 (by omega) (by omega), look_app h1]
  simp only [Option.bind_some]
  cases B with
  | nil => rfl
  | cons b B =>
    have hso : (b :: B).Pairwise (fun x y : TKV => lessB x.Key y.Key = true) := (List.pairwise_append.mp hm).2.1
    rw [List.pairwise_cons] at hso
    show (if (!eqB b.Key k) = true then _ else _) = _
    rcases Bool.eq_false_or_eq_true (eqB b.Key k) with q | q
    · rw [if_neg (by rw [q]; simp), getI_nat, List.getElem?_append_right (Nat.le_refl _), Nat.sub_self]
      unfold look
      rw [List.find?_cons, q]; rfl
    · rw [if_pos (by rw [q]; rfl)]
      unfold look
      have hlt : lessB k b.Key = true := by
        cases w : lessB k b.Key with
        | true => rfl
        | false => exact absurd (less_total w (h2 b List.mem_cons_self)).symm (eqB_ne.mp q)
      rw [List.find?_eq_none.mpr]
      intro x hx
      rw [eqB_iff]
      intro e
      rcases List.mem_cons.mp hx with w | w
      · rw [w] at e; exact eqB_ne.mp q e
      · have := less_trans hlt (hso.1 x w); rw [e, less_irrefl] at this; cases this
theorem holdsTot {n : Nat} {m : List TKV} (hm : So m) (hl : m.length ≤ 1000) (hn : 1000 < n) (l : List TCmp) : ∃ b, F_txn_Holds n m l = some b := by
  have h1 : ∀ c, ∃ b, F_txn_Holds_1 n c m = some b := by
    intro c
    unfold F_txn_Holds_1
    rw [find_eq hm _ hl hn]
    simp only [Option.bind_some]
    split
    · exact ⟨_, rfl⟩
    · split
      · exact ⟨_, rfl⟩
      · split <;> exact ⟨_, rfl⟩
  have h2 : ∀ (l : List TCmp) (i : Nat), ∃ x, F_slices_IndexFunc_111_txn_Holds_1_L1 n m l i = some x := by
    intro l
    induction l with
    | nil => intro i; exact ⟨_, rfl⟩
    | cons z l ih =>
      intro i
      obtain ⟨b, hb⟩ := h1 z
      rw [F_slices_IndexFunc_111_txn_Holds_1_L1, hb]
      simp only [Option.bind_some]
      split
      · exact ⟨_, rfl⟩
      · exact ih _
  unfold F_txn_Holds F_slices_ContainsFunc_96_txn_Holds_1 F_slices_IndexFunc_111_txn_Holds_1
  obtain ⟨x, hx⟩ := h2 l 0
  rw [hx]
  cases x <;> exact ⟨_, rfl⟩
/-- The ops that change something. -/
def planO (m : List TKV) (l : List TOp) : List TOp := l.filter (fun o => (bif (look m o.Key).2 then true else (!o.Del)))
theorem planL {n : Nat} {m : List TKV} (hm : So m) (hl : m.length ≤ 1000) (hn : 1000 < n) : ∀ (l : List TOp) (i : Nat) (acc : List TOp), acc.length + l.length ≤ 1000000 → F_txn_Plan_L1 n m l i acc = some (acc ++ planO m l)
  | [], i, acc, _ => by simp [F_txn_Plan_L1, planO]
  | o :: l, i, acc, hc => by
    rw [List.length_cons] at hc
    rw [F_txn_Plan_L1, find_eq hm _ hl hn]
    simp only [Option.bind_some]
    unfold planO
    rw [List.filter_cons]
    split
    · rw [appL_ok (by simp; omega) (by omega) (by omega)]
      simp only [Option.bind_some]
      rw [planL hm hl hn l (i + 1) _ (by simp; omega)]
      unfold planO; simp
    · exact planL hm hl hn l (i + 1) acc (by omega)
theorem plan_ok {n : Nat} {m : List TKV} (hm : So m) (hl : m.length ≤ 1000) (hn : 1000 < n) (q : TReq) (h1 : q.Then.length ≤ 1000000) (h2 : q.Else.length ≤ 1000000) :
    ∃ b, F_txn_Plan n m q = some (b, planO m (if b = true then q.Then else q.Else)) := by
  obtain ⟨b, hb⟩ := holdsTot hm hl hn q.Cmps
  refine ⟨b, ?_⟩
  unfold F_txn_Plan
  rw [hb]
  simp only [Option.bind_some]
  have : (if b = true then some q.Then else some q.Else) = some (if b = true then q.Then else q.Else) := by split <;> rfl
  rw [this]
  simp only [Option.bind_some]
  rw [planL hm hl hn _ 0 [] (by simp; split <;> omega)]
  rfl
theorem planO_sub (m : List TKV) (l : List TOp) : (planO m l).Sublist l := List.filter_sublist
theorem planO_mem {m : List TKV} {l : List TOp} {o : TOp} (h : o ∈ planO m l) : o ∈ l ∧ (o.Del = true → (look m o.Key).2 = true) := by
  unfold planO at h
  rw [List.mem_filter] at h
  refine ⟨h.1, fun d => ?_⟩
  cases q : (look m o.Key).2 with
  | true => rfl
  | false => rw [q, d] at h; simp at h
/-- Each of other keys. -/
def KdO (l : List TOp) : Prop := l.Pairwise (fun a b => a.Key ≠ b.Key)
def evO (h : Ohist_Hist) (o : TOp) : TEvent := ⟨h.bounds_rev + 1, o.Key, if o.Del = true then ByteArray.empty else o.Val, o.Del⟩
theorem effL_plan {h : Ohist_Hist} : ∀ {l : List TOp}, KdO l → (∀ o ∈ l, o.Del = true → thereK h o.Key = true) → effL h l = l.map (evO h)
  | [], _, _ => rfl
  | o :: l, hk, ht => by
    unfold KdO at hk
    rw [List.pairwise_cons] at hk
    rw [effL, effL_plan hk.2 (fun x hx => ht x (List.mem_cons_of_mem _ hx)), List.map_cons]
    unfold effE
    have h1 : l.any (fun p => eqB p.Key o.Key) = false := by
      rw [List.any_eq_false]
      intro x hx
      rw [eqB_iff]
      exact fun e => hk.1 x hx e.symm
    rw [h1]
    have h2 : (bif o.Del then (!thereK h o.Key) else false) = false := by
      cases d : o.Del with
      | false => rfl
      | true => rw [ht o List.mem_cons_self d]; rfl
    rw [cond_false, h2]
    rfl
theorem effL_planO {h : Ohist_Hist} {m : List TKV} (hm : IsAt (hev h) h.bounds_rev all0 m) {l : List TOp} (hk : KdO l) : effL h (planO m l) = (planO m l).map (evO h) :=
  effL_plan (hk.sublist (planO_sub m l)) (fun o ho d => by rw [← look_there hm]; exact (planO_mem ho).2 d)

/-! ### What may be asked -/
theorem trim_tot (s t : ByteArray) (hs : s.size ≤ maxLen) : ∃ r, F_strings_TrimSuffix s t = some r := by
  have hm : maxLen = 9223372036854775807 := rfl
  unfold F_strings_TrimSuffix F_internal_stringslite_TrimSuffix F_internal_stringslite_HasSuffix
  by_cases q : s.size ≥ t.size
  · have w1 : IntKind.i64.wrap ((s.size : Int) - (t.size : Int)) = ((s.size - t.size : Nat) : Int) := by rw [wrap_id (by omega) (by omega)]; omega
    have e1 : subS s ((s.size - t.size : Nat) : Int) (s.size : Int) = some (s.extract (s.size - t.size) s.size) := by
      unfold subS; rw [if_pos ⟨by omega, by omega, by omega⟩]; rfl
    have e2 : subS s 0 ((s.size - t.size : Nat) : Int) = some (s.extract 0 (s.size - t.size)) := by
      unfold subS; rw [if_pos ⟨by omega, by omega, by omega⟩]; rfl
    rw [if_pos (by simpa using q), w1, e1, e2]
    simp only [Option.bind_some]
    split <;> exact ⟨_, rfl⟩
  · rw [if_neg (by simpa using q)]
    exact ⟨s, rfl⟩
theorem range_tot (r : TRange) (hs : r.To.size ≤ maxLen) : ∃ b, F_key_MayRange r = some b := by
  obtain ⟨t, ht⟩ := trim_tot r.To ⟨#[0]⟩ hs
  unfold F_key_MayRange F_key_Empty
  rw [ht]
  simp only [Option.bind_some]
  split <;> exact ⟨_, rfl⟩
theorem range_all : F_key_MayRange ⟨ByteArray.empty, ByteArray.empty⟩ = some true := by
  unfold F_key_MayRange F_key_Empty F_strings_TrimSuffix F_internal_stringslite_TrimSuffix F_internal_stringslite_HasSuffix
  simp only [eqB_self, Bool.not_true, cond_false, Option.bind_some, Bool.not_false, cond_true]
  rfl
theorem opsL2 : ∀ (l : List TOp) (i : Nat) (es : List (ByteArray × Bool)), F_txn_ops_L1 l i es = some (.out false) ∨ (∃ es', F_txn_ops_L1 l i es = some (.go es') ∧ KdO l ∧ ∀ o ∈ l, mget es o.Key ≠ some true)
  | [], i, es => .inr ⟨es, rfl, List.Pairwise.nil, fun o h => absurd h List.not_mem_nil⟩
  | o :: l, i, es => by
    rw [F_txn_ops_L1]
    unfold F_key_May
    simp only [Option.bind_some]
    generalize (bif (bif (!(bif (!eqB o.Key ByteArray.empty) then (decide ((o.Key.size : Int) ≤ 8)) else false)) then true else (decide ((o.Val.size : Int) > 8))) then true else (bif o.Del then (!eqB o.Val ByteArray.empty) else false)) = c
    cases c with
    | true => exact .inl rfl
    | false =>
      simp only [Bool.false_eq_true, if_false, Option.bind_some]
      cases q : (mget es o.Key).getD false with
      | true => exact .inl rfl
      | false =>
        simp only [Bool.false_eq_true, if_false]
        rcases opsL2 l (i + 1) (mset es o.Key true) with e | ⟨es', e, f, g⟩
        · exact .inl e
        · refine .inr ⟨es', e, List.pairwise_cons.mpr ⟨fun x hx w => ?_, f⟩, fun x hx w => ?_⟩
          · have := g x hx
            rw [mget_mset, if_pos w.symm] at this
            exact this rfl
          · rcases List.mem_cons.mp hx with h | h
            · subst h; rw [w] at q; cases q
            · have := g x h
              rw [mget_mset] at this
              split at this
              · exact this rfl
              · exact this w
theorem ops_tot (l : List TOp) : ∃ b, F_txn_ops l = some b ∧ (b = true → KdO l ∧ l.length ≤ 4) := by
  unfold F_txn_ops
  rcases opsL2 l 0 [] with e | ⟨es, e, f, _⟩
  · rw [e]; exact ⟨false, rfl, fun h => by cases h⟩
  · rw [e]
    refine ⟨decide ((l.length : Int) ≤ 4), rfl, fun h => ⟨f, ?_⟩⟩
    have := of_decide_eq_true h
    omega
theorem cmps_tot (l : List TCmp) : ∃ b, F_txn_compares l = some b := by
  have h2 : ∀ (l : List TCmp) (i : Nat), ∃ x, F_slices_IndexFunc_111_txn_compares_1_L1 l i = some x := by
    intro l
    induction l with
    | nil => intro i; exact ⟨_, rfl⟩
    | cons z l ih =>
      intro i
      rw [F_slices_IndexFunc_111_txn_compares_1_L1]
      unfold F_txn_compares_1 F_key_May
      simp only [Option.bind_some]
      split
      · exact ⟨_, rfl⟩
      · exact ih _
  unfold F_txn_compares F_slices_ContainsFunc_96_txn_compares_1 F_slices_IndexFunc_111_txn_compares_1
  split
  · obtain ⟨x, hx⟩ := h2 l 0
    rw [hx]
    cases x <;> exact ⟨_, rfl⟩
  · exact ⟨_, rfl⟩
theorem may_tot (q : TReq) (hs : q.R.To.size ≤ maxLen) : ∃ b, F_txn_May q = some b ∧ (b = 0 ∨ b = 1) ∧ (b = 0 → (q.Kind = 1 ∧ KdO q.Then ∧ q.Then.length ≤ 4 ∧ KdO q.Else ∧ q.Else.length ≤ 4) ∨ (q.Kind = 2 ∧ 0 ≤ q.Rev) ∨ (q.Kind = 3 ∧ 0 ≤ q.Rev)) := by
  unfold F_txn_May
  by_cases h1 : q.Kind = 1
  · rw [if_pos (by simpa using h1)]
    obtain ⟨a, ha⟩ := cmps_tot q.Cmps
    obtain ⟨b, hb, hb2⟩ := ops_tot q.Then
    obtain ⟨c, hc, hc2⟩ := ops_tot q.Else
    rw [ha, hb, hc]
    cases a with
    | false => exact ⟨1, rfl, .inr rfl, fun h => by cases h⟩
    | true =>
      cases b with
      | false => exact ⟨1, rfl, .inr rfl, fun h => by cases h⟩
      | true =>
        cases c with
        | false => exact ⟨1, rfl, .inr rfl, fun h => by cases h⟩
        | true => exact ⟨0, rfl, .inl rfl, fun _ => .inl ⟨h1, (hb2 rfl).1, (hb2 rfl).2, (hc2 rfl).1, (hc2 rfl).2⟩⟩
  · rw [if_neg (by simpa using h1)]
    by_cases h2 : q.Kind = 2
    · rw [if_pos (by simpa using h2)]
      obtain ⟨b, hb⟩ := range_tot q.R hs
      rw [hb]
      simp only [Option.bind_some]
      by_cases h : (bif b then (decide (q.Rev ≥ 0)) else false) = true
      · rw [h]
        refine ⟨0, rfl, .inl rfl, fun _ => .inr (.inl ⟨h2, ?_⟩)⟩
        cases b with
        | false => cases h
        | true => exact of_decide_eq_true h
      · rw [Bool.not_eq_true] at h
        rw [h]
        exact ⟨1, rfl, .inr rfl, fun h => by cases h⟩
    · rw [if_neg (by simpa using h2)]
      by_cases h3 : q.Kind = 3
      · rw [if_pos (by simpa using h3)]
        simp only [Option.bind_some]
        by_cases h : q.Rev ≥ 0
        · rw [decide_eq_true h]
          exact ⟨0, rfl, .inl rfl, fun _ => .inr (.inr ⟨h3, h⟩)⟩
        · rw [decide_eq_false h]
          exact ⟨1, rfl, .inr rfl, fun h => by cases h⟩
      · rw [if_neg (by simpa using h3)]
        exact ⟨1, rfl, .inr rfl, fun h => by cases h⟩
end Go.Proofs.Ytpfdandpmpmbiaa.V
