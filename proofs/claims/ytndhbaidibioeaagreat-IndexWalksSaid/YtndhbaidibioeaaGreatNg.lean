/- What the document says of an index's events.
   No condition: these are laws of plain functions. -/
import Derived.Test.YtndhbaidibioeaaGreatNe
namespace Go.Proofs.YtndhbaidibioeaaGreat.V
open Go
set_option linter.unusedVariables false
set_option linter.unusedSimpArgs false
set_option maxRecDepth 100000

/-! ### Maps -/
def mapAt (es : List TEvent) (rev : Int) : List TKV := (es.filter (fun e => decide (e.Rev ≤ rev))).foldl stepM []
theorem mapAt_so (es : List TEvent) (rev : Int) : So (mapAt es rev) := foldM_so _ _ List.Pairwise.nil
theorem mapAt_len (es : List TEvent) (rev : Int) : (mapAt es rev).length ≤ es.length := by
  have h1 := foldM_len (es.filter (fun e => decide (e.Rev ≤ rev))) [] List.Pairwise.nil
  have h2 := List.length_filter_le (fun e => decide (e.Rev ≤ rev)) es
  unfold mapAt
  simp only [List.length_nil] at h1; omega
theorem map_L1 {n : Nat} (hn : 1000 < n) (rev : Int) : ∀ (l : List TEvent) (i : Nat) (m : List TKV), So m → m.length + l.length ≤ 1000 → F_ref19_Map_L1 n rev l i m = some ((l.filter (fun e => decide (e.Rev ≤ rev))).foldl stepM m)
  | [], i, m, _, _ => by rw [F_ref19_Map_L1]; rfl
  | e :: l, i, m, hm, hl => by
    rw [List.length_cons] at hl
    rw [F_ref19_Map_L1, List.filter_cons]
    by_cases h : e.Rev ≤ rev
    · rw [if_pos (by simpa using h), if_pos (by simpa using h), one_eq e hm (by omega) hn]
      simp only [Option.bind_some]
      have := stepM_len m e hm
      rw [map_L1 hn rev l (i + 1) _ (stepM_so hm e) (by omega), List.foldl_cons]
    · rw [if_neg (by simpa using h), if_neg (by simpa using h)]
      simp only [Option.bind_some]
      exact map_L1 hn rev l (i + 1) m hm (by omega)
theorem map_ok {n : Nat} {es : List TEvent} (hn : 1000 < n) (hl : es.length ≤ 1000) (rev : Int) : F_ref19_Map n es rev = some (mapAt es rev) := by
  unfold F_ref19_Map
  rw [map_L1 hn rev es 0 [] List.Pairwise.nil (by simpa using hl)]; rfl
theorem lastFor_app (k : ByteArray) : ∀ (l : List TEvent) (e : TEvent), lastFor k (l ++ [e]) = if e.Key = k then some e else lastFor k l
  | [], e => by
    rw [List.nil_append, lastFor, lastFor]
    by_cases h : e.Key = k
    · rw [if_pos h]; simp [h, lastFor]
    · rw [if_neg h]; simp [eqB_ne.mpr h, lastFor]
  | x :: l, e => by
    rw [List.cons_append, lastFor, lastFor_app k l e]
    by_cases h : e.Key = k
    · rw [if_pos h, if_pos h]
    · rw [if_neg h, if_neg h, lastFor]
theorem look_hist (k : ByteArray) (rev : Int) (es : List TEvent) : look (hist es k) rev = match lastFor k (es.filter (fun e => decide (e.Rev ≤ rev))) with | none => none | some e => if e.Del = true then none else some (kv e) := by
  have H : ∀ (q : List TEvent), look (hist q.reverse k) rev = match lastFor k (q.reverse.filter (fun e => decide (e.Rev ≤ rev))) with | none => none | some e => if e.Del = true then none else some (kv e) := by
    intro q
    induction q with
    | nil => rfl
    | cons e q ih =>
      rw [List.reverse_cons, hist_app, List.filter_append]
      by_cases hr : e.Rev ≤ rev
      · have : [e].filter (fun e => decide (e.Rev ≤ rev)) = [e] := by simp [hr]
        rw [this, lastFor_app]
        by_cases hk : e.Key = k
        · rw [if_pos hk, if_pos hk, look, if_pos hr]
        · rw [if_neg hk, if_neg hk]; exact ih
      · have : [e].filter (fun e => decide (e.Rev ≤ rev)) = [] := by simp [hr]
        rw [this, List.append_nil]
        by_cases hk : e.Key = k
        · rw [if_pos hk, look, if_neg hr]; exact ih
        · rw [if_neg hk]; exact ih
  have := H es.reverse
  rw [List.reverse_reverse] at this
  exact this
theorem mapAt_mem {es : List TEvent} {rev : Int} {t : TKV} : t ∈ mapAt es rev ↔ look (hist es t.Key) rev = some t := by
  unfold mapAt
  rw [foldM_mem, look_hist]
  cases h : lastFor t.Key (es.filter (fun e => decide (e.Rev ≤ rev))) with
  | none => simp
  | some e =>
    dsimp only
    constructor
    · rintro ⟨h1, h2⟩; rw [h1, if_neg (by simp), ← h2]
    · intro h1
      split at h1
      · cases h1
      · rename_i hd
        cases h1
        exact ⟨by simpa using hd, rfl⟩
theorem look_key {es : List TEvent} {k : ByteArray} {rev : Int} {t : TKV} (h : look (hist es k) rev = some t) : t.Key = k := by
  rw [look_hist] at h
  cases e : lastFor k (es.filter (fun e => decide (e.Rev ≤ rev))) with
  | none => rw [e] at h; cases h
  | some x =>
    rw [e] at h
    dsimp only at h
    split at h
    · cases h
    · cases h
      exact (lastFor_key e).2
/-- What there is in an index is the document's map. -/
theorem ks_map {ks : List Tbst_node} {es : List TEvent} {rev : Int} {p : ByteArray → Bool} (hs : SoN ks) (hall : ∀ e ∈ es, ∃ y ∈ ks, y.key = e.Key) :
    (ks.filter (fun y => p y.key)).filterMap (fun y => look (hist es y.key) rev) = (mapAt es rev).filter (fun t => p t.Key) := by
  refine so_ext ?_ ((mapAt_so es rev).filter _) (fun t => ?_)
  · unfold So
    rw [List.pairwise_filterMap]
    refine (hs.filter _).imp (fun {a b} h x hx y hy => ?_)
    rw [look_key hx, look_key hy]; exact h
  · rw [List.mem_filterMap, List.mem_filter, mapAt_mem]
    constructor
    · rintro ⟨y, hy, h⟩
      have hk := look_key h
      rw [← hk] at h
      exact ⟨h, by rw [hk]; exact (List.mem_filter.mp hy).2⟩
    · rintro ⟨h, hp⟩
      have : ∃ e ∈ es, e.Key = t.Key := by
        refine Classical.byContradiction (fun q => ?_)
        rw [hist_nil (fun e he hk => q ⟨e, he, hk⟩)] at h
        cases h
      obtain ⟨e, he, hk⟩ := this
      obtain ⟨y, hy, hyk⟩ := hall e he
      refine ⟨y, List.mem_filter.mpr ⟨hy, by rw [hyk, hk]; exact hp⟩, ?_⟩
      rw [hyk, hk]; exact h
theorem key_L1 (k : ByteArray) : ∀ (m : List TKV) (i : Nat) (out : List TKV), out.length + m.length ≤ 1000000 → F_ref19_Key_L1 k m i out = some (out ++ m.filter (fun t => eqB t.Key k))
  | [], i, out, _ => by rw [F_ref19_Key_L1]; simp
  | z :: m, i, out, h => by
    rw [List.length_cons] at h
    rw [F_ref19_Key_L1, List.filter_cons]
    cases e : eqB z.Key k with
    | true =>
      rw [if_pos rfl, if_pos rfl, appL_ok (by simp; omega) (by omega) (by omega)]
      simp only [Option.bind_some]
      rw [key_L1 k m _ _ (by simp; omega)]; simp
    | false =>
      rw [if_neg (by simp), if_neg (by simp)]
      simp only [Option.bind_some]
      exact key_L1 k m _ _ (by omega)
theorem key_ok {es : List TEvent} {rev : Int} (k : ByteArray) (hl : es.length ≤ 1000) : F_ref19_Key (mapAt es rev) k = some (look (hist es k) rev).toList := by
  have hm := mapAt_len es rev
  unfold F_ref19_Key
  rw [key_L1 k _ 0 [] (by simp; omega)]
  simp only [Option.bind_some, List.nil_append]
  congr 1
  refine so_ext ((mapAt_so es rev).filter _) ?_ (fun t => ?_)
  · cases look (hist es k) rev with
    | none => exact List.Pairwise.nil
    | some x => exact List.pairwise_singleton _ _
  · rw [List.mem_filter, mapAt_mem, eqB_iff]
    constructor
    · rintro ⟨h1, h2⟩; rw [← h2, h1]; simp
    · intro h
      cases e : look (hist es k) rev with
      | none => rw [e] at h; simp at h
      | some x =>
        rw [e] at h
        have : t = x := by simpa using h
        subst this
        have hk := look_key e
        exact ⟨by rw [hk]; exact e, hk⟩
theorem res_L1 (g : TRange) : ∀ (m : List TKV) (i : Nat) (out : List TKV), out.length + m.length ≤ 1000000 → F_ref05_Restrict_L1 g m i out = some (out ++ m.filter (fun t => inR g t.Key))
  | [], i, out, _ => by rw [F_ref05_Restrict_L1]; simp
  | z :: m, i, out, h => by
    rw [List.length_cons] at h
    rw [F_ref05_Restrict_L1, List.filter_cons, refIn_eq]
    simp only [Option.bind_some]
    cases e : inR g z.Key with
    | true =>
      rw [if_pos rfl, if_pos rfl, appL_ok (by simp; omega) (by omega) (by omega)]
      simp only [Option.bind_some]
      rw [res_L1 g m _ _ (by simp; omega)]; simp
    | false =>
      rw [if_neg (by simp), if_neg (by simp)]
      simp only [Option.bind_some]
      exact res_L1 g m _ _ (by omega)
theorem res_ok (g : TRange) {m : List TKV} (h : m.length ≤ 1000) : F_ref05_Restrict m g = some (m.filter (fun t => inR g t.Key)) := by
  unfold F_ref05_Restrict
  rw [res_L1 g m 0 [] (by simp; omega)]; rfl

/-! ### Revisions that rise -/
def RiseOK (l : List TEvent) : Prop := ∀ (A B : List TEvent) (e : TEvent), l = A ++ e :: B → revOf (hist A e.Key) < e.Rev
structure Ris (l : List TEvent) (i : Nat) (z : TEvent) : Prop where
  one : 1 ≤ z.Rev
  up : ∀ p x, i = p + 1 → l[p]? = some x → x.Rev ≤ z.Rev
  un : ∀ k x, k < i → l[k]? = some x → ¬ (x.Rev = z.Rev ∧ x.Key = z.Key)
theorem rises_L2 {l : List TEvent} {i : Nat} {z : TEvent} (hi : i ≤ l.length) (hl : l.length ≤ 1000) : ∀ (m y : Nat), y ≤ i → i - y < m →
    F_ref19_Rises_L2 l i z m (y : Int) = some (.out false) ∨ ((∃ u, F_ref19_Rises_L2 l i z m (y : Int) = some (.go u)) ∧ ∀ k x, y ≤ k → k < i → l[k]? = some x → ¬ (x.Rev = z.Rev ∧ x.Key = z.Key))
  | 0, y, h1, h2 => by omega
  | m + 1, y, h1, h2 => by
    rw [F_ref19_Rises_L2]
    by_cases h : y < i
    · have hy : y < l.length := by omega
      rw [if_pos (by rw [decide_eq_true_iff]; omega), getI_nat, List.getElem?_eq_getElem hy]
      simp only [Option.bind_some]
      rw [show (((y : Nat) : Int) + 1) = ((y + 1 : Nat) : Int) by omega, wrap_n (by omega)]
      have ih := rises_L2 (z := z) hi hl m (y + 1) (by omega) (by omega)
      by_cases hr : l[y].Rev = z.Rev
      · rw [if_pos (by simpa using hr)]
        simp only [Option.bind_some]
        cases hk : eqB l[y].Key z.Key with
        | true => rw [if_pos rfl]; exact .inl rfl
        | false =>
          rw [if_neg (by simp)]
          refine ih.imp id (fun ⟨q1, q2⟩ => ⟨q1, fun k x hk1 hk2 hx => ?_⟩)
          rcases Nat.eq_or_lt_of_le hk1 with w | w
          · subst w
            rw [List.getElem?_eq_getElem hy] at hx
            cases hx
            rintro ⟨_, w⟩
            rw [w, eqB_self] at hk; cases hk
          · exact q2 k x w hk2 hx
      · rw [if_neg (by simpa using hr)]
        simp only [Option.bind_some]
        rw [if_neg (by simp)]
        refine ih.imp id (fun ⟨q1, q2⟩ => ⟨q1, fun k x hk1 hk2 hx => ?_⟩)
        rcases Nat.eq_or_lt_of_le hk1 with w | w
        · subst w
          rw [List.getElem?_eq_getElem hy] at hx
          cases hx
          exact fun w => hr w.1
        · exact q2 k x w hk2 hx
    · rw [if_neg (by rw [decide_eq_true_iff]; omega)]
      exact .inr ⟨⟨_, rfl⟩, fun k x hk1 hk2 _ => by omega⟩
theorem rises_L1 {n : Nat} {l : List TEvent} (hl : l.length ≤ 1000) (hn : 1000 < n) : ∀ (r : List TEvent) (i : Nat), r = l.drop i → i ≤ l.length →
    F_ref19_Rises_L1 n l r i = some (.out false) ∨ (F_ref19_Rises_L1 n l r i = some (.go ()) ∧ ∀ k z, i ≤ k → l[k]? = some z → Ris l k z)
  | [], i, hr, hi => by
    rw [F_ref19_Rises_L1]
    have : l.length ≤ i := by
      have := congrArg List.length hr
      simp at this; omega
    exact .inr ⟨rfl, fun k z hk hz => by have := (List.getElem?_eq_some_iff.mp hz).1; omega⟩
  | z :: r, i, hr, hi => by
    obtain ⟨hi', hx, hr'⟩ := drop_cons hr
    rw [F_ref19_Rises_L1]
    by_cases h1 : z.Rev < 1
    · rw [if_pos (by simpa using h1)]
      exact .inl rfl
    rw [if_neg (by simpa using h1)]
    have prev : ∃ c : Bool, (if (decide ((i : Int) > 0)) = true then ((getI l (IntKind.i64.wrap ((i : Int) - 1))).bind fun x29 => some (true, (decide (z.Rev < x29.Rev)))) else (some (false, false)) : Option (Bool × Bool)) = some ((decide ((i : Int) > 0)), c) ∧ (c = false → ∀ p x, i = p + 1 → l[p]? = some x → x.Rev ≤ z.Rev) := by
      by_cases h0 : 0 < i
      · obtain ⟨p, rfl⟩ : ∃ p, i = p + 1 := ⟨i - 1, by omega⟩
        have hp : p < l.length := by omega
        rw [if_pos (by rw [decide_eq_true_iff]; omega), show (((p + 1 : Nat) : Int) - 1) = (p : Int) by omega, wrap_n (by omega), getI_nat, List.getElem?_eq_getElem hp]
        refine ⟨decide (z.Rev < l[p].Rev), by simp, fun hc p' x hp' hx' => ?_⟩
        obtain rfl : p' = p := by omega
        rw [List.getElem?_eq_getElem hp] at hx'
        cases hx'
        have := of_decide_eq_false hc
        omega
      · have : i = 0 := by omega
        subst this
        exact ⟨false, rfl, fun _ p x hp _ => by omega⟩
    obtain ⟨c, hc1, hc2⟩ := prev
    rw [hc1]
    simp only [Option.bind_some]
    cases c with
    | true => rw [if_pos rfl]; exact .inl rfl
    | false =>
      rw [if_neg (by simp)]
      have hdel : ∃ d : Bool × Bool, (if z.Del = true then (some (true, (!eqB z.Val ByteArray.empty))) else (some (false, false)) : Option (Bool × Bool)) = some d := by
        split
        · exact ⟨_, rfl⟩
        · exact ⟨_, rfl⟩
      obtain ⟨⟨d1, d⟩, hd⟩ := hdel
      rw [hd]
      simp only [Option.bind_some]
      cases d with
      | true => rw [if_pos rfl]; exact .inl rfl
      | false =>
        rw [if_neg (by simp)]
        rcases rises_L2 (z := z) (l := l) (i := i) hi hl n 0 (by omega) (by omega) with q | ⟨⟨u, q⟩, q2⟩
        · rw [show ((0 : Nat) : Int) = 0 from rfl] at q
          rw [q]; exact .inl rfl
        · rw [show ((0 : Nat) : Int) = 0 from rfl] at q
          rw [q]
          simp only [Option.bind_some, lpK2]
          refine (rises_L1 hl hn r (i + 1) hr' (by omega)).imp id (fun ⟨w1, w2⟩ => ⟨w1, fun k z' hk hz => ?_⟩)
          rcases Nat.eq_or_lt_of_le hk with w | w
          · subst w
            rw [hx] at hz
            cases hz
            exact ⟨by omega, hc2 rfl, fun k' x hk' hx' => q2 k' x (by omega) hk' hx'⟩
          · exact w2 k z' w hz
theorem ris_up {l : List TEvent} (h : ∀ (k : Nat) (z : TEvent), l[k]? = some z → Ris l k z) : ∀ (d k : Nat) (x z : TEvent), l[k]? = some x → l[k + d]? = some z → x.Rev ≤ z.Rev
  | 0, k, x, z, h1, h2 => by rw [Nat.add_zero, h1] at h2; cases h2; exact Int.le_refl _
  | d + 1, k, x, z, h1, h2 => by
    have hb := (List.getElem?_eq_some_iff.mp h2).1
    have hm : l[k + d]? = some l[k + d] := List.getElem?_eq_getElem (by omega)
    have q1 := ris_up h d k x _ h1 hm
    have q2 := (h _ _ h2).up (k + d) _ (by omega) hm
    exact Int.le_trans q1 q2
theorem rise_of {l : List TEvent} (h : ∀ (k : Nat) (z : TEvent), l[k]? = some z → Ris l k z) : RiseOK l := by
  intro A B e hl
  have he : l[A.length]? = some e := by rw [hl]; simp
  have R := h _ _ he
  cases hh : hist A e.Key with
  | nil => have := R.one; show (0 : Int) < e.Rev; omega
  | cons x xs =>
    show x.Rev < e.Rev
    have hx : x ∈ A ∧ x.Key = e.Key := by
      have : x ∈ hist A e.Key := by rw [hh]; exact List.mem_cons_self
      unfold hist at this
      rw [List.mem_reverse, List.mem_filter, eqB_iff] at this
      exact this
    obtain ⟨p, hp, hpx⟩ := List.getElem_of_mem hx.1
    have hlx : l[p]? = some x := by rw [hl, List.getElem?_append_left hp, List.getElem?_eq_getElem hp, hpx]
    have q1 := ris_up h (A.length - p) p x e hlx (by rw [show p + (A.length - p) = A.length by omega]; exact he)
    have q2 := R.un p x hp hlx
    have q3 : x.Rev ≠ e.Rev := fun w => q2 ⟨w, hx.2⟩
    omega
theorem few_ok {n : Nat} (l : List TEvent) (hn : 1000 < n) : F_law19_few n l = some false ∨ (F_law19_few n l = some true ∧ l.length ≤ 40 ∧ RiseOK l) := by
  unfold F_law19_few
  by_cases h : l.length ≤ 40
  · rw [if_pos (by rw [decide_eq_true_iff]; omega)]
    unfold F_ref19_Rises
    rcases rises_L1 (n := n) (l := l) (by omega) hn l 0 rfl (by omega) with q | ⟨q1, q2⟩
    · rw [q]; exact .inl rfl
    · rw [q1]
      exact .inr ⟨rfl, h, rise_of (fun k z hz => q2 k z (by omega) hz)⟩
  · rw [if_neg (by rw [decide_eq_true_iff]; omega)]
    exact .inl rfl
end Go.Proofs.YtndhbaidibioeaaGreat.V
