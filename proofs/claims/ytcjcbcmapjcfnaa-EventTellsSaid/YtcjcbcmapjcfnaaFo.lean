/- What events make of a map, plainly.
   No condition: these are laws of plain functions. -/
import Derived.Test.YtcjcbcmapjcfnaaDf
namespace Go.Proofs.Ytcjcbcmapjcfnaa.V
open Go
set_option linter.unusedVariables false
set_option linter.unusedSimpArgs false

def kv (e : TEvent) : TKV := ⟨e.Key, e.Val, e.Rev⟩
def So (m : List TKV) : Prop := m.Pairwise (fun a b => lessB a.Key b.Key = true)
theorem So.nodup {m : List TKV} (h : So m) : m.Pairwise (fun a b => a.Key ≠ b.Key) := h.imp (fun {a b} q e => by rw [e, less_irrefl] at q; cases q)
theorem so_ext {a b : List TKV} (ha : So a) (hb : So b) (h : ∀ t, t ∈ a ↔ t ∈ b) : a = b :=
  sorted_ext (R := fun x y : TKV => lessB x.Key y.Key = true) (fun x q => by rw [less_irrefl] at q; cases q) (fun x y q r => by rw [less_asymm q] at r; cases r) ha hb h
/-- A map behind one event. -/
def stepM (m : List TKV) (e : TEvent) : List TKV := m.filter (fun t => lessB t.Key e.Key) ++ ((if e.Del = true then [] else [kv e]) ++ m.filter (fun t => lessB e.Key t.Key))
theorem stepM_mem {m : List TKV} {e : TEvent} (t : TKV) : t ∈ stepM m e ↔ (t ∈ m ∧ t.Key ≠ e.Key) ∨ (e.Del = false ∧ t = kv e) := by
  unfold stepM
  rw [List.mem_append, List.mem_append, List.mem_filter, List.mem_filter]
  constructor
  · rintro (⟨h1, h2⟩ | h | ⟨h1, h2⟩)
    · exact .inl ⟨h1, fun e' => by rw [e', less_irrefl] at h2; cases h2⟩
    · cases hd : e.Del with
      | true => rw [hd] at h; simp at h
      | false => rw [hd] at h; exact .inr ⟨rfl, by simpa using h⟩
    · exact .inl ⟨h1, fun e' => by rw [e', less_irrefl] at h2; cases h2⟩
  · rintro (⟨h1, h2⟩ | ⟨h1, h2⟩)
    · cases h3 : lessB t.Key e.Key with
      | true => exact .inl ⟨h1, rfl⟩
      | false =>
        cases h4 : lessB e.Key t.Key with
        | true => exact .inr (.inr ⟨h1, rfl⟩)
        | false => exact absurd (less_total h3 h4) h2
    · exact .inr (.inl (by rw [h1]; simpa using h2))
theorem stepM_so {m : List TKV} (h : So m) (e : TEvent) : So (stepM m e) := by
  unfold stepM So
  have hk : ∀ t ∈ (if e.Del = true then [] else [kv e]), t.Key = e.Key := fun t ht => by
    split at ht
    · cases ht
    · rw [List.mem_singleton] at ht; subst ht; rfl
  rw [List.pairwise_append, List.pairwise_append]
  refine ⟨h.filter _, ⟨?_, h.filter _, fun a ha b hb => ?_⟩, fun a ha b hb => ?_⟩
  · split
    · exact List.Pairwise.nil
    · exact List.pairwise_singleton _ _
  · rw [hk a ha]; exact (List.mem_filter.mp hb).2
  · have h1 := (List.mem_filter.mp ha).2
    rcases List.mem_append.mp hb with q | q
    · rw [hk b q]; exact h1
    · exact less_trans h1 (List.mem_filter.mp q).2
theorem stepM_len (m : List TKV) (e : TEvent) (h : So m) : (stepM m e).length ≤ m.length + 1 := by
  unfold stepM
  rw [List.length_append, List.length_append]
  have h1 : (m.filter (fun t => lessB t.Key e.Key)).length + (m.filter (fun t => lessB e.Key t.Key)).length ≤ m.length := by
    clear h
    induction m with
    | nil => simp
    | cons a m ih =>
      rw [List.filter_cons, List.filter_cons, List.length_cons]
      cases h1 : lessB a.Key e.Key with
      | true => rw [less_asymm h1]; simp; omega
      | false => cases lessB e.Key a.Key <;> simp <;> omega
  have h2 : (if e.Del = true then [] else [kv e]).length ≤ 1 := by split <;> simp
  omega
/-- A sorted map, at a key's place. -/
theorem splitAt_ {m : List TKV} (h : So m) (k : ByteArray) : ∃ A B, m = A ++ B ∧ (∀ a ∈ A, lessB a.Key k = true) ∧ (∀ b ∈ B, lessB b.Key k = false) ∧ m.filter (fun t => lessB t.Key k) = A := by
  induction m with
  | nil => exact ⟨[], [], rfl, fun _ h => by (cases h), fun _ h => by (cases h), rfl⟩
  | cons a m ih =>
    have h' := h
    unfold So at h
    rw [List.pairwise_cons] at h
    cases hc : lessB a.Key k with
    | true =>
      obtain ⟨A, B, e, h1, h2, h3⟩ := ih h.2
      refine ⟨a :: A, B, by rw [e]; rfl, fun x hx => ?_, h2, by rw [List.filter_cons, if_pos hc, h3]⟩
      rcases List.mem_cons.mp hx with q | q
      · subst q; exact hc
      · exact h1 x q
    | false =>
      have hall : ∀ b ∈ a :: m, lessB b.Key k = false := by
        intro b hb
        rcases List.mem_cons.mp hb with q | q
        · subst q; exact hc
        · cases e : lessB b.Key k with
          | false => rfl
          | true => have := less_trans (h.1 b q) e; rw [hc] at this; cases this
      exact ⟨[], a :: m, rfl, fun _ h => by (cases h), hall, List.filter_eq_nil_iff.mpr (fun b hb => by rw [hall b hb]; simp)⟩
theorem cmp_eq (x y : ByteArray) : F_cmp_Compare x y = some (cmpS x y) := by
  unfold F_cmp_Compare F_cmp_isNaN cmpS
  simp only [eqB_self, Option.bind_some, Bool.not_true, Bool.false_eq_true, if_false]
  by_cases h : lessB x y = true
  · simp [h]
  · by_cases h2 : leB x y = true
    · have : eqB x y = true := by unfold leB at h2; simpa [h] using h2
      simp [h, h2, this]
    · have : eqB x y = false := by unfold leB at h2; simp [h] at h2; exact h2
      simp [h, h2, this]
theorem fold1_eq (x : TKV) (k : ByteArray) : F_event_Fold_1 x k = some (cmpS x.Key k) := by
  unfold F_event_Fold_1; rw [cmp_eq]; rfl
def keyLt (m : List TKV) (k : ByteArray) (i : Nat) : Bool := match m[i]? with | some x => decide (cmpS x.Key k < 0) | none => false
theorem bsF (m : List TKV) (k : ByteArray) (hm : m.length < 4611686018427387904) : ∀ (f i j : Nat), i ≤ j → j ≤ m.length → j - i < f →
    F_slices_BinarySearchFunc_event_Fold_1_L1 m k f i j = some ((bs (keyLt m k) i j : Nat) : Int) := by
  intro f
  induction f with
  | zero => intro i j _ _ h; omega
  | succ f ih =>
    intro i j h1 h2 h3
    rw [F_slices_BinarySearchFunc_event_Fold_1_L1, mid_eq' (by omega)]
    by_cases q : i < j
    · have hi : (i + j) / 2 < m.length := by omega
      rw [if_pos (by simpa using q), getI_nat, List.getElem?_eq_getElem hi]
      simp only [Option.bind_some, fold1_eq]
      rw [bs_lt q]
      have hk : keyLt m k ((i + j) / 2) = decide (cmpS m[(i + j) / 2].Key k < 0) := by unfold keyLt; rw [List.getElem?_eq_getElem hi]
      rw [hk, wrap_id (by omega) (by omega)]
      split
      · exact ih ((i + j) / 2 + 1) j (by omega) h2 (by omega)
      · exact ih i ((i + j) / 2) (by omega) (by omega) (by omega)
    · rw [if_neg (by simpa using q), bs_ge q]
theorem bs_at {A B : List TKV} {k : ByteArray} (h1 : ∀ a ∈ A, lessB a.Key k = true) (h2 : ∀ b ∈ B, lessB b.Key k = false) : bs (keyLt (A ++ B) k) 0 (A ++ B).length = A.length := by
  have hp : ∀ i, keyLt (A ++ B) k i = decide (i < A.length) := by
    intro i
    unfold keyLt
    rcases Nat.lt_or_ge i A.length with q | q
    · rw [List.getElem?_append_left q, List.getElem?_eq_getElem q]
      dsimp only
      have := h1 A[i] (List.getElem_mem q)
      rw [decide_eq_true q, decide_eq_true_iff, cmpS_lt]; exact this
    · rw [List.getElem?_append_right q]
      cases e : B[i - A.length]? with
      | none => rw [decide_eq_false (by omega)]
      | some b =>
        dsimp only
        have := h2 b (List.mem_of_getElem? e)
        rw [decide_eq_false (by omega : ¬ i < A.length), decide_eq_false_iff_not, cmpS_lt, this]; simp
  obtain ⟨g1, g2⟩ := bs_spec (p := keyLt (A ++ B) k) (fun i j hij h => by rw [hp] at *; simp at *; omega) (A ++ B).length 0 (A ++ B).length (by omega) (Nat.zero_le _) (fun q hq => absurd hq (Nat.not_lt_zero q)) (fun q hq => by rw [hp]; rw [List.length_append] at hq; simp; omega)
  generalize bs (keyLt (A ++ B) k) 0 (A ++ B).length = w at g1 g2
  rcases Nat.lt_trichotomy w A.length with q | q | q
  · have := g2 w (Nat.le_refl _); rw [hp] at this; simp at this; omega
  · exact q
  · have := g1 A.length q; rw [hp] at this; simp at this
def headK (B : List TKV) (k : ByteArray) : Bool := match B with | [] => false | b :: _ => eqB b.Key k
theorem bsf_eq {n : Nat} {A B : List TKV} {k : ByteArray} (h1 : ∀ a ∈ A, lessB a.Key k = true) (h2 : ∀ b ∈ B, lessB b.Key k = false) (hl : (A ++ B).length ≤ 1000000) (hn : (A ++ B).length < n) :
    F_slices_BinarySearchFunc_event_Fold_1 n (A ++ B) k = some (((A.length : Nat) : Int), headK B k) := by
  unfold F_slices_BinarySearchFunc_event_Fold_1
  have h := bsF (A ++ B) k (by omega) n 0 (A ++ B).length (Nat.zero_le _) (Nat.le_refl _) (by omega)
  rw [show (0 : Int) = ((0 : Nat) : Int) from rfl, h, bs_at h1 h2]
  simp only [Option.bind_some]
  cases B with
  | nil => rw [if_neg (by simp)]; rfl
  | cons b B =>
    rw [if_pos (by simp; omega), getI_nat, List.getElem?_append_right (Nat.le_refl _), Nat.sub_self]
    simp only [List.getElem?_cons_zero, Option.bind_some, fold1_eq]
    congr 2
    rw [Bool.eq_iff_iff, beq_iff_eq]
    show cmpS b.Key k = (0 : Int) ↔ _
    rw [cmpS_eq]
    exact eqB_iff.symm
theorem foldL {n : Nat} : ∀ (l : List TEvent) (i : Nat) (m : List TKV), So m → m.length + l.length ≤ 1000 → 1000 < n → F_event_Fold_L1 n l i m = some (l.foldl stepM m) := by
  intro l
  induction l with
  | nil => intro i m _ _ _; rfl
  | cons e l ih =>
    intro i m hm hl hn
    rw [List.length_cons] at hl
    have hlen := stepM_len m e hm
    rw [F_event_Fold_L1, List.foldl_cons]
    obtain ⟨A, B, rfl, h1, h2, h3⟩ := splitAt_ hm e.Key
    rw [bsf_eq h1 h2 (by omega) (by omega)]
    simp only [Option.bind_some]
    -- what is left of B
    have hB : ∃ C, (if headK B e.Key = true then ((delL (A ++ B) ((A.length : Nat) : Int) (IntKind.i64.wrap (((A.length : Nat) : Int) + 1))).bind fun x15 => some x15) else some (A ++ B)) = some (A ++ C) ∧ C = B.filter (fun t => lessB e.Key t.Key) ∧ C.length ≤ B.length := by
      have rest : ∀ b ∈ B, b.Key ≠ e.Key → lessB e.Key b.Key = true := fun b hb hne => by
        cases q : lessB e.Key b.Key with
        | true => rfl
        | false => exact absurd (less_total (h2 b hb) q) hne
      cases B with
      | nil => exact ⟨[], by rw [if_neg (by simp [headK])], rfl, Nat.le_refl _⟩
      | cons b B =>
        have hso : (b :: B).Pairwise (fun x y : TKV => lessB x.Key y.Key = true) := (List.pairwise_append.mp hm).2.1
        rw [List.pairwise_cons] at hso
        show ∃ C, (if eqB b.Key e.Key = true then _ else _) = _ ∧ _
        rcases Bool.eq_false_or_eq_true (eqB b.Key e.Key) with q | q
        · have hbe := eqB_iff.mp q
          rw [if_pos q]
          refine ⟨B, ?_, ?_, by simp⟩
          · have hlA : (A ++ b :: B).length = A.length + (B.length + 1) := by rw [List.length_append, List.length_cons]
            rw [wrap_id (by omega) (by omega)]
            unfold delL
            rw [if_pos ⟨by omega, by omega, by omega⟩]
            simp only [Option.bind_some, Int.toNat_natCast]
            rw [List.take_left, show (((A.length : Nat) : Int) + 1).toNat = A.length + 1 by omega, List.drop_append]
            simp
          · rw [List.filter_cons, if_neg (by rw [hbe, less_irrefl]; simp)]
            rw [List.filter_eq_self.mpr (fun t ht => by have := hso.1 t ht; rw [hbe] at this; exact this)]
        · have hbe := eqB_ne.mp q
          rw [if_neg (by rw [q]; simp)]
          refine ⟨b :: B, rfl, ?_, Nat.le_refl _⟩
          rw [List.filter_eq_self.mpr (fun t ht => ?_)]
          have hb1 := rest b List.mem_cons_self hbe
          rcases List.mem_cons.mp ht with w | w
          · subst w; exact hb1
          · exact less_trans hb1 (hso.1 t w)
    obtain ⟨C, c1, c2, c3⟩ := hB
    rw [c1]
    simp only [Option.bind_some]
    have hA2 : A.filter (fun t => lessB e.Key t.Key) = [] := List.filter_eq_nil_iff.mpr (fun a ha => by rw [less_asymm (h1 a ha)]; simp)
    have hstep : stepM (A ++ B) e = A ++ ((if e.Del = true then [] else [kv e]) ++ C) := by
      unfold stepM; rw [h3, List.filter_append, hA2, List.nil_append, ← c2]
    have hso2 := stepM_so hm e
    cases hd : e.Del with
    | true =>
      simp only [Bool.not_true, Bool.false_eq_true, if_false]
      rw [show A ++ C = stepM (A ++ B) e from by rw [hstep, hd]; rfl]
      exact ih (i + 1) _ hso2 (by omega) hn
    | false =>
      simp only [Bool.not_false, if_true]
      have hlA : (A ++ B).length = A.length + B.length := List.length_append
      have hi : insL 40 (A ++ C) ((A.length : Nat) : Int) (⟨e.Key, e.Val, e.Rev⟩ : TKV) = some (stepM (A ++ B) e) := by
        unfold insL
        rw [if_pos ⟨by omega, by rw [List.length_append]; omega, roomy_le (by rw [List.length_append]; omega) (by omega) (by omega)⟩, Int.toNat_natCast, List.take_left, List.drop_left, hstep, hd]
        rfl
      rw [hi]
      simp only [Option.bind_some]
      exact ih (i + 1) _ hso2 (by omega) hn
theorem fold_eq {n : Nat} {m : List TKV} (l : List TEvent) (hm : So m) (hl : m.length + l.length ≤ 1000) (hn : 1000 < n) : F_event_Fold n m l = some (l.foldl stepM m) := by
  unfold F_event_Fold
  rw [clK m (by omega)]
  simp only [Option.bind_some]
  rw [foldL l 0 m hm hl hn]; rfl
theorem foldM_so : ∀ (l : List TEvent) (m : List TKV), So m → So (l.foldl stepM m)
  | [], m, h => h
  | e :: l, m, h => foldM_so l _ (stepM_so h e)
theorem foldM_len : ∀ (l : List TEvent) (m : List TKV), So m → (l.foldl stepM m).length ≤ m.length + l.length
  | [], m, h => Nat.le_refl _
  | e :: l, m, h => by
    have h1 := foldM_len l _ (stepM_so h e)
    have h2 := stepM_len m e h
    rw [List.foldl_cons, List.length_cons]; omega

/-! ### The document's -/
theorem oneA (e : TEvent) : ∀ (A B : List TKV) (i : Nat) (out : List TKV), out.length + A.length ≤ 1000000 → (∀ a ∈ A, lessB a.Key e.Key = true) → (∀ b ∈ B, lessB b.Key e.Key = false) →
    F_ref05_One_L2 e (A ++ B) i out = some (out ++ A, ((i + A.length : Nat) : Int)) := by
  intro A
  induction A with
  | nil =>
    intro B i out _ _ h
    cases B with
    | nil => simp [F_ref05_One_L2]
    | cons b B => rw [List.nil_append, F_ref05_One_L2, if_neg (by rw [h b List.mem_cons_self]; simp)]; simp
  | cons a A ih =>
    intro B i out hl h1 h2
    rw [List.length_cons] at hl
    rw [List.cons_append, F_ref05_One_L2, if_pos (h1 a List.mem_cons_self), appL_ok (by simp; omega) (by omega) (by omega)]
    simp only [Option.bind_some]
    rw [ih B (i + 1) (out ++ [a]) (by simp; omega) (fun x hx => h1 x (List.mem_cons_of_mem _ hx)) h2, List.length_cons]
    simp; omega
theorem oneB (e : TEvent) (m : List TKV) (hm : m.length ≤ 1000000) : ∀ (f i : Nat) (out : List TKV), i ≤ m.length → m.length - i < f → out.length + m.length ≤ 2000000 + i →
    F_ref05_One_L1 m e f out (i : Int) = some (out ++ (m.drop i).filter (fun t => !eqB t.Key e.Key)) := by
  intro f
  induction f with
  | zero => intro i out _ h; omega
  | succ f ih =>
    intro i out h1 h2 h3
    rw [F_ref05_One_L1]
    rcases Nat.lt_or_ge i m.length with q | q
    · rw [if_pos (by simpa using q), getI_nat, List.getElem?_eq_getElem q]
      simp only [Option.bind_some]
      have hw : IntKind.i64.wrap ((i : Int) + 1) = ((i + 1 : Nat) : Int) := by rw [wrap_id (by omega) (by omega)]; omega
      rw [hw, List.drop_eq_getElem_cons q, List.filter_cons]
      cases hc : eqB m[i].Key e.Key with
      | true =>
        simp only [Bool.not_true, Bool.false_eq_true, if_false, Option.bind_some]
        exact ih (i + 1) out q (by omega) (by omega)
      | false =>
        simp only [Bool.not_false, if_true]
        rw [appL_ok (by simp; omega) (by omega) (by omega)]
        simp only [Option.bind_some]
        rw [ih (i + 1) _ q (by omega) (by rw [List.length_append]; simp; omega)]
        simp
    · rw [if_neg (by simpa using q), List.drop_of_length_le q]; simp
theorem one_eq {n : Nat} {m : List TKV} (e : TEvent) (hm : So m) (hl : m.length ≤ 1000) (hn : 1000 < n) : F_ref05_One n m e = some (stepM m e) := by
  unfold F_ref05_One
  obtain ⟨A, B, rfl, h1, h2, h3⟩ := splitAt_ hm e.Key
  rw [List.length_append] at hl
  rw [oneA e A B 0 [] (by simp; omega) h1 h2]
  simp only [Option.bind_some, List.nil_append, Nat.zero_add]
  have hfil : (B.filter (fun t => !eqB t.Key e.Key)) = B.filter (fun t => lessB e.Key t.Key) := by
    refine List.filter_congr (fun b hb => ?_)
    have := h2 b hb
    cases q : lessB e.Key b.Key with
    | true =>
      have : eqB b.Key e.Key = false := by rw [eqB_ne]; intro w; rw [w, less_irrefl] at q; cases q
      rw [this]; rfl
    | false => have := eqB_iff.mpr (less_total this q); rw [this]; rfl
  have hA2 : A.filter (fun t => lessB e.Key t.Key) = [] := List.filter_eq_nil_iff.mpr (fun a ha => by rw [less_asymm (h1 a ha)]; simp)
  have hstep : stepM (A ++ B) e = A ++ ((if e.Del = true then [] else [kv e]) ++ B.filter (fun t => lessB e.Key t.Key)) := by
    unfold stepM; rw [h3, List.filter_append, hA2, List.nil_append]
  cases hd : e.Del with
  | true =>
    simp only [Bool.not_true, Bool.false_eq_true, if_false, Option.bind_some]
    rw [oneB e (A ++ B) (by rw [List.length_append]; omega) n A.length A (by rw [List.length_append]; omega) (by rw [List.length_append]; omega) (by rw [List.length_append]; omega), List.drop_left, hfil, hstep, hd]
    rfl
  | false =>
    simp only [Bool.not_false, if_true]
    rw [appL_ok (by simp; omega) (by omega) (by omega)]
    simp only [Option.bind_some]
    rw [oneB e (A ++ B) (by rw [List.length_append]; omega) n A.length _ (by rw [List.length_append]; omega) (by rw [List.length_append]; omega) (by rw [List.length_append, List.length_append]; simp; omega), List.drop_left, hfil, hstep, hd]
    simp only [Option.bind_some]
    rw [List.append_assoc]; rfl
theorem rfoldL {n : Nat} : ∀ (l : List TEvent) (i : Nat) (m : List TKV), So m → m.length + l.length ≤ 1000 → 1000 < n → F_ref05_Fold_L1 n l i m = some (l.foldl stepM m) := by
  intro l
  induction l with
  | nil => intro i m _ _ _; rfl
  | cons e l ih =>
    intro i m hm hl hn
    rw [List.length_cons] at hl
    have hlen := stepM_len m e hm
    rw [F_ref05_Fold_L1, List.foldl_cons, one_eq e hm (by omega) hn]
    simp only [Option.bind_some]
    exact ih _ _ (stepM_so hm e) (by omega) hn
theorem rfold_eq {n : Nat} {m : List TKV} (l : List TEvent) (hm : So m) (hl : m.length + l.length ≤ 1000) (hn : 1000 < n) : F_ref05_Fold n m l = some (l.foldl stepM m) := by
  unfold F_ref05_Fold
  rw [rfoldL l 0 m hm hl hn]; rfl
/-- Is a list a map? -/
theorem mapT (p : List TKV) (hp : p.length ≤ 1000000) : ∀ (l : List TKV) (i : Nat), 1 ≤ i → p.drop i = l →
    (F_ref05_Map_L1 p l i = some (.out false)) ∨ (F_ref05_Map_L1 p l i = some (.go ()) ∧ (p.drop (i - 1)).Pairwise (fun a b => lessB a.Key b.Key = true)) := by
  intro l
  induction l with
  | nil =>
    intro i h1 h
    refine .inr ⟨rfl, ?_⟩
    have h3 := List.drop_eq_nil_iff.mp h
    rcases Nat.lt_or_ge (i - 1) p.length with q | q
    · rw [List.drop_eq_getElem_cons q, show i - 1 + 1 = i by omega, h]; exact List.pairwise_singleton _ _
    · rw [List.drop_of_length_le q]; exact List.Pairwise.nil
  | cons z l ih =>
    intro i h1 h
    have h0 : p[i]? = some z := by
      have : (p.drop i)[0]? = some z := by rw [h]; rfl
      rw [List.getElem?_drop] at this; exact this
    obtain ⟨hi, hz⟩ := List.getElem?_eq_some_iff.mp h0
    have hd : p.drop (i + 1) = l := by rw [← List.drop_drop, h]; rfl
    have hq : p[i - 1]? = some p[i - 1] := List.getElem?_eq_getElem (by omega)
    rw [F_ref05_Map_L1, wrap_id (by omega) (by omega), show ((i : Int) - 1) = ((i - 1 : Nat) : Int) by omega, getI_nat, hq]
    simp only [Option.bind_some]
    cases hc : lessB p[i - 1].Key z.Key with
    | false => simp
    | true =>
      simp only [Bool.not_true, Bool.false_eq_true, if_false]
      rcases ih (i + 1) (by omega) hd with r | ⟨r1, r2⟩
      · exact .inl r
      · refine .inr ⟨r1, ?_⟩
        rw [show i + 1 - 1 = i by omega] at r2
        rw [List.drop_eq_getElem_cons (show i - 1 < p.length by omega), show i - 1 + 1 = i by omega, List.pairwise_cons]
        refine ⟨fun b hb => ?_, r2⟩
        rw [List.drop_eq_getElem_cons hi] at hb r2
        rw [List.pairwise_cons] at r2
        rcases List.mem_cons.mp hb with w | w
        · subst w; rw [hz]; exact hc
        · have := r2.1 b w; rw [hz] at this; exact less_trans hc this
theorem map_eq (p : List TKV) (hp : p.length ≤ 1000000) : F_ref05_Map p = some false ∨ (F_ref05_Map p = some true ∧ So p) := by
  unfold F_ref05_Map
  rcases mapT p hp (p.drop 1) 1 (Nat.le_refl _) rfl with h | ⟨h1, h2⟩
  · rw [h]; exact .inl rfl
  · rw [h1]; exact .inr ⟨rfl, by have h3 := h2; simp only [Nat.sub_self, List.drop_zero] at h3; exact h3⟩
theorem mapS (p : List TKV) (hp : p.length ≤ 1000000) (h : So p) : ∀ (l : List TKV) (i : Nat), 1 ≤ i → p.drop i = l → F_ref05_Map_L1 p l i = some (.go ()) := by
  intro l
  induction l with
  | nil => intro i _ _; rfl
  | cons z l ih =>
    intro i h1 hd
    have h0 : p[i]? = some z := by
      have : (p.drop i)[0]? = some z := by rw [hd]; rfl
      rw [List.getElem?_drop] at this; exact this
    obtain ⟨hi, hz⟩ := List.getElem?_eq_some_iff.mp h0
    have hq : p[i - 1]? = some p[i - 1] := List.getElem?_eq_getElem (by omega)
    rw [F_ref05_Map_L1, wrap_id (by omega) (by omega), show ((i : Int) - 1) = ((i - 1 : Nat) : Int) by omega, getI_nat, hq]
    simp only [Option.bind_some]
    have hlt : lessB p[i - 1].Key z.Key = true := by
      unfold So at h
      rw [List.pairwise_iff_getElem] at h
      rw [← hz]; exact h (i - 1) i (by omega) hi (by omega)
    rw [hlt]
    simp only [Bool.not_true, Bool.false_eq_true, if_false]
    exact ih (i + 1) (by omega) (by rw [← List.drop_drop, hd]; rfl)
theorem map_so {p : List TKV} (hp : p.length ≤ 1000000) (h : So p) : F_ref05_Map p = some true := by
  unfold F_ref05_Map
  rw [mapS p hp h _ 1 (Nat.le_refl _) rfl]; rfl

/-! ### What a key has -/
def lastFor (k : ByteArray) : List TEvent → Option TEvent
  | [] => none
  | e :: l => match lastFor k l with | some x => some x | none => if eqB e.Key k = true then some e else none
theorem lastFor_key {k : ByteArray} : ∀ {l : List TEvent} {e : TEvent}, lastFor k l = some e → e ∈ l ∧ e.Key = k
  | [], e, h => by cases h
  | x :: l, e, h => by
    unfold lastFor at h
    cases q : lastFor k l with
    | some y => rw [q] at h; cases h; obtain ⟨h1, h2⟩ := lastFor_key q; exact ⟨List.mem_cons_of_mem _ h1, h2⟩
    | none =>
      rw [q] at h
      dsimp only at h
      split at h
      · rename_i w; cases h; exact ⟨List.mem_cons_self, eqB_iff.mp w⟩
      · cases h
theorem foldM_mem (t : TKV) : ∀ (l : List TEvent) (m : List TKV), t ∈ l.foldl stepM m ↔ (match lastFor t.Key l with | none => t ∈ m | some e => e.Del = false ∧ t = kv e)
  | [], m => Iff.rfl
  | x :: l, m => by
    rw [List.foldl_cons, foldM_mem t l, show lastFor t.Key (x :: l) = (match lastFor t.Key l with | some x => some x | none => if eqB x.Key t.Key = true then some x else none) from rfl]
    cases q : lastFor t.Key l with
    | some y => exact Iff.rfl
    | none =>
      dsimp only
      rw [stepM_mem]
      rcases Bool.eq_false_or_eq_true (eqB x.Key t.Key) with w | w
      · have := eqB_iff.mp w
        rw [if_pos w]
        constructor
        · rintro (⟨_, h⟩ | h)
          · exact absurd this.symm h
          · exact h
        · exact .inr
      · have := eqB_ne.mp w
        rw [if_neg (by rw [w]; simp)]
        constructor
        · rintro (⟨h, _⟩ | ⟨_, h⟩)
          · exact h
          · subst h; exact absurd rfl this
        · intro h; exact .inl ⟨h, fun e => this e.symm⟩
end Go.Proofs.Ytcjcbcmapjcfnaa.V
