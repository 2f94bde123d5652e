/- What events make of a map, plainly.
   No condition: these are laws of plain functions. -/
import Derived.Test.YtndhbaidibioeaaGreatPF
import Derived.Test.YtndhbaidibioeaaGreatMb
namespace Go.Proofs.YtndhbaidibioeaaGreat.V
open Go
set_option linter.unusedVariables false
set_option linter.unusedSimpArgs false
def inR (r : TRange) (k : ByteArray) : Bool := leB r.From k && (eqB r.To ByteArray.empty || lessB k r.To)
theorem refIn_eq (r : TRange) (k : ByteArray) : F_ref04_In r k = some (inR r k) := by
  unfold F_ref04_In inR; rw [leB_not]; cases lessB k r.From <;> cases eqB r.To ByteArray.empty <;> rfl
theorem keyIn_eq (r : TRange) (k : ByteArray) : F_key_In r k = some (inR r k) := by
  unfold F_key_In inR; cases leB r.From k <;> cases eqB r.To ByteArray.empty <;> rfl

def kv (e : TEvent) : TKV := ⟨e.Key, e.Val, e.Rev⟩
def So (m : List TKV) : Prop := m.Pairwise (fun a b => lessB a.Key b.Key = true)
theorem So.nodup {m : List TKV} (h : So m) : m.Pairwise (fun a b => a.Key ≠ b.Key) := h.imp (fun {a b} q e => by rw [e, less_irrefl] at q; cases q)
theorem so_ext {a b : List TKV} (ha : So a) (hb : So b) (h : ∀ t, t ∈ a ↔ t ∈ b) : a = b :=
  sorted_ext (R := fun x y : TKV => lessB x.Key y.Key = true) (fun x q => by rw [less_irrefl] at q; cases q) (fun x y q r => by rw [less_asymm q] at r; cases r) ha hb h
def stepM (m : List TKV) (e : TEvent) : List TKV := m.filter (fun t => lessB t.Key e.Key) ++ ((if e.Del = true then [] else [kv e]) ++ m.filter (fun t => lessB e.Key t.Key))
theorem stepM_mem {m : List TKV} {e : TEvent} (t : TKV) : t ∈ stepM m e ↔ (t ∈ m ∧ t.Key ≠ e.Key) ∨ (e.Del = false ∧ t = kv e) := by
  unfold stepM
  rw [List.mem_append, List.mem_append, List.mem_filter, List.mem_filter]
  constructor
  · rintro (⟨h1, h2⟩ | h | ⟨h1, h2⟩)
    · exact .inl ⟨h1, fun e' => by rw [e', less_irrefl] at h2; cases h2⟩
    · cases hd : e.Del with
      | true => rw [hd] at h; simp at h
      | false => rw [hd] at h; exact .inr ⟨rfl, by simpa using h⟩
    · exact .inl ⟨h1, fun e' => by rw [e', less_irrefl] at h2; cases h2⟩
  · rintro (⟨h1, h2⟩ | ⟨h1, h2⟩)
    · cases h3 : lessB t.Key e.Key with
      | true => exact .inl ⟨h1, rfl⟩
      | false =>
        cases h4 : lessB e.Key t.Key with
        | true => exact .inr (.inr ⟨h1, rfl⟩)
        | false => exact absurd (less_total h3 h4) h2
    · exact .inr (.inl (by rw [h1]; simpa using h2))
theorem stepM_so {m : List TKV} (h : So m) (e : TEvent) : So (stepM m e) := by
  unfold stepM So
  have hk : ∀ t ∈ (if e.Del = true then [] else [kv e]), t.Key = e.Key := fun t ht => by
    split at ht
    · cases ht
    · rw [List.mem_singleton] at ht; subst ht; rfl
  rw [List.pairwise_append, List.pairwise_append]
  refine ⟨h.filter _, ⟨?_, h.filter _, fun a ha b hb => ?_⟩, fun a ha b hb => ?_⟩
  · split
    · exact List.Pairwise.nil
    · exact List.pairwise_singleton _ _
  · rw [hk a ha]; exact (List.mem_filter.mp hb).2
  · have h1 := (List.mem_filter.mp ha).2
    rcases List.mem_append.mp hb with q | q
    · rw [hk b q]; exact h1
    · exact less_trans h1 (List.mem_filter.mp q).2
theorem stepM_len (m : List TKV) (e : TEvent) (h : So m) : (stepM m e).length ≤ m.length + 1 := by
  unfold stepM
  rw [List.length_append, List.length_append]
  have h1 : (m.filter (fun t => lessB t.Key e.Key)).length + (m.filter (fun t => lessB e.Key t.Key)).length ≤ m.length := by
    clear h
    induction m with
    | nil => simp
    | cons a m ih =>
      rw [List.filter_cons, List.filter_cons, List.length_cons]
      cases h1 : lessB a.Key e.Key with
      | true => rw [less_asymm h1]; simp; omega
      | false => cases lessB e.Key a.Key <;> simp <;> omega
  have h2 : (if e.Del = true then [] else [kv e]).length ≤ 1 := by split <;> simp
  omega
theorem splitAt_ {m : List TKV} (h : So m) (k : ByteArray) : ∃ A B, m = A ++ B ∧ (∀ a ∈ A, lessB a.Key k = true) ∧ (∀ b ∈ B, lessB b.Key k = false) ∧ m.filter (fun t => lessB t.Key k) = A := by
  induction m with
  | nil => exact ⟨[], [], rfl, fun _ h => by (cases h), fun _ h => by (cases h), rfl⟩
  | cons a m ih =>
    have h' := h
    unfold So at h
    rw [List.pairwise_cons] at h
    cases hc : lessB a.Key k with
    | true =>
      obtain ⟨A, B, e, h1, h2, h3⟩ := ih h.2
      refine ⟨a :: A, B, by rw [e]; rfl, fun x hx => ?_, h2, by rw [List.filter_cons, if_pos hc, h3]⟩
      rcases List.mem_cons.mp hx with q | q
      · subst q; exact hc
      · exact h1 x q
    | false =>
      have hall : ∀ b ∈ a :: m, lessB b.Key k = false := by
        intro b hb
        rcases List.mem_cons.mp hb with q | q
        · subst q; exact hc
        · cases e : lessB b.Key k with
          | false => rfl
          | true => have := less_trans (h.1 b q) e; rw [hc] at this; cases this
      exact ⟨[], a :: m, rfl, fun _ h => by (cases h), hall, List.filter_eq_nil_iff.mpr (fun b hb => by rw [hall b hb]; simp)⟩
theorem foldM_so : ∀ (l : List TEvent) (m : List TKV), So m → So (l.foldl stepM m)
  | [], m, h => h
  | e :: l, m, h => foldM_so l _ (stepM_so h e)
theorem foldM_len : ∀ (l : List TEvent) (m : List TKV), So m → (l.foldl stepM m).length ≤ m.length + l.length
  | [], m, h => Nat.le_refl _
  | e :: l, m, h => by
    have h1 := foldM_len l _ (stepM_so h e)
    have h2 := stepM_len m e h
    rw [List.foldl_cons, List.length_cons]; omega

/-! ### The document's -/
theorem oneA (e : TEvent) : ∀ (A B : List TKV) (i : Nat) (out : List TKV), out.length + A.length ≤ 1000000 → (∀ a ∈ A, lessB a.Key e.Key = true) → (∀ b ∈ B, lessB b.Key e.Key = false) →
    F_ref05_One_L2 e (A ++ B) i out = some (out ++ A, ((i + A.length : Nat) : Int)) := by
  intro A
  induction A with
  | nil =>
    intro B i out _ _ h
    cases B with
    | nil => simp [F_ref05_One_L2]
    | cons b B => rw [List.nil_append, F_ref05_One_L2, if_neg (by rw [h b List.mem_cons_self]; simp)]; simp
  | cons a A ih =>
    intro B i out hl h1 h2
    rw [List.length_cons] at hl
    rw [List.cons_append, F_ref05_One_L2, if_pos (h1 a List.mem_cons_self), appL_ok (by simp; omega) (by omega) (by omega)]
    simp only [Option.bind_some]
    rw [ih B (i + 1) (out ++ [a]) (by simp; omega) (fun x hx => h1 x (List.mem_cons_of_mem _ hx)) h2, List.length_cons]
    simp; omega
theorem oneB (e : TEvent) (m : List TKV) (hm : m.length ≤ 1000000) : ∀ (f i : Nat) (out : List TKV), i ≤ m.length → m.length - i < f → out.length + m.length ≤ 2000000 + i →
    F_ref05_One_L1 m e f out (i : Int) = some (out ++ (m.drop i).filter (fun t => !eqB t.Key e.Key)) := by
  intro f
  induction f with
  | zero => intro i out _ h; omega
  | succ f ih =>
    intro i out h1 h2 h3
    rw [F_ref05_One_L1]
    rcases Nat.lt_or_ge i m.length with q | q
    · rw [if_pos (by simpa using q), getI_nat, List.getElem?_eq_getElem q]
      simp only [Option.bind_some]
      have hw : IntKind.i64.wrap ((i : Int) + 1) = ((i + 1 : Nat) : Int) := by rw [wrap_id (by omega) (by omega)]; omega
      rw [hw, List.drop_eq_getElem_cons q, List.filter_cons]
      cases hc : eqB m[i].Key e.Key with
      | true =>
        simp only [Bool.not_true, Bool.false_eq_true, if_false, Option.bind_some]
        exact ih (i + 1) out q (by omega) (by omega)
      | false =>
        simp only [Bool.not_false, if_true]
        rw [appL_ok (by simp; omega) (by omega) (by omega)]
        simp only [Option.bind_some]
        rw [ih (i + 1) _ q (by omega) (by rw [List.length_append]; simp; omega)]
        simp
    · rw [if_neg (by simpa using q), List.drop_of_length_le q]; simp
theorem one_eq {n : Nat} {m : List TKV} (e : TEvent) (hm : So m) (hl : m.length ≤ 1000) (hn : 1000 < n) : F_ref05_One n m e = some (stepM m e) := by
  unfold F_ref05_One
  obtain ⟨A, B, rfl, h1, h2, h3⟩ := splitAt_ hm e.Key
  rw [List.length_append] at hl
  rw [oneA e A B 0 [] (by simp; omega) h1 h2]
  simp only [Option.bind_some, List.nil_append, Nat.zero_add]
  have hfil : (B.filter (fun t => !eqB t.Key e.Key)) = B.filter (fun t => lessB e.Key t.Key) := by
    refine List.filter_congr (fun b hb => ?_)
    have := h2 b hb
    cases q : lessB e.Key b.Key with
    | true =>
      have : eqB b.Key e.Key = false := by rw [eqB_ne]; intro w; rw [w, less_irrefl] at q; cases q
      rw [this]; rfl
    | false => have := eqB_iff.mpr (less_total this q); rw [this]; rfl
  have hA2 : A.filter (fun t => lessB e.Key t.Key) = [] := List.filter_eq_nil_iff.mpr (fun a ha => by rw [less_asymm (h1 a ha)]; simp)
  have hstep : stepM (A ++ B) e = A ++ ((if e.Del = true then [] else [kv e]) ++ B.filter (fun t => lessB e.Key t.Key)) := by
    unfold stepM; rw [h3, List.filter_append, hA2, List.nil_append]
  cases hd : e.Del with
  | true =>
    simp only [Bool.not_true, Bool.false_eq_true, if_false, Option.bind_some]
    rw [oneB e (A ++ B) (by rw [List.length_append]; omega) n A.length A (by rw [List.length_append]; omega) (by rw [List.length_append]; omega) (by rw [List.length_append]; omega), List.drop_left, hfil, hstep, hd]
    rfl
  | false =>
    simp only [Bool.not_false, if_true]
    rw [appL_ok (by simp; omega) (by omega) (by omega)]
    simp only [Option.bind_some]
    rw [oneB e (A ++ B) (by rw [List.length_append]; omega) n A.length _ (by rw [List.length_append]; omega) (by rw [List.length_append]; omega) (by rw [List.length_append, List.length_append]; simp; omega), List.drop_left, hfil, hstep, hd]
    simp only [Option.bind_some]
    rw [List.append_assoc]; rfl
def lastFor (k : ByteArray) : List TEvent → Option TEvent
  | [] => none
  | e :: l => match lastFor k l with | some x => some x | none => if eqB e.Key k = true then some e else none
theorem lastFor_key {k : ByteArray} : ∀ {l : List TEvent} {e : TEvent}, lastFor k l = some e → e ∈ l ∧ e.Key = k
  | [], e, h => by cases h
  | x :: l, e, h => by
    unfold lastFor at h
    cases q : lastFor k l with
    | some y => rw [q] at h; cases h; obtain ⟨h1, h2⟩ := lastFor_key q; exact ⟨List.mem_cons_of_mem _ h1, h2⟩
    | none =>
      rw [q] at h
      dsimp only at h
      split at h
      · rename_i w; cases h; exact ⟨List.mem_cons_self, eqB_iff.mp w⟩
      · cases h
theorem foldM_mem (t : TKV) : ∀ (l : List TEvent) (m : List TKV), t ∈ l.foldl stepM m ↔ (match lastFor t.Key l with | none => t ∈ m | some e => e.Del = false ∧ t = kv e)
  | [], m => Iff.rfl
  | x :: l, m => by
    rw [List.foldl_cons, foldM_mem t l, show lastFor t.Key (x :: l) = (match lastFor t.Key l with | some x => some x | none => if eqB x.Key t.Key = true then some x else none) from rfl]
    cases q : lastFor t.Key l with
    | some y => exact Iff.rfl
    | none =>
      dsimp only
      rw [stepM_mem]
      rcases Bool.eq_false_or_eq_true (eqB x.Key t.Key) with w | w
      · have := eqB_iff.mp w
        rw [if_pos w]
        constructor
        · rintro (⟨_, h⟩ | h)
          · exact absurd this.symm h
          · exact h
        · exact .inr
      · have := eqB_ne.mp w
        rw [if_neg (by rw [w]; simp)]
        constructor
        · rintro (⟨h, _⟩ | ⟨_, h⟩)
          · exact h
          · subst h; exact absurd rfl this
        · intro h; exact .inl ⟨h, fun e => this e.symm⟩
/-! ### A map of each key's last event -/
theorem eqxK (x : TKV) : eq_TKV x x = true := by unfold eq_TKV; simp
theorem sameLK (p : List TKV) : ∀ (l : List TKV) (i : Nat), p.drop i = l → F_ref05_KVs_L1 p l i = some (.go ()) := by
  intro l
  induction l with
  | nil => intro i _; rfl
  | cons z l ih =>
    intro i h
    have h0 : p[i]? = some z := by
      have : (p.drop i)[0]? = some z := by rw [h]; rfl
      rw [List.getElem?_drop] at this; exact this
    have h1 : p.drop (i + 1) = l := by rw [← List.drop_drop, h]; rfl
    rw [F_ref05_KVs_L1, getI_nat, h0]
    simp only [Option.bind_some, eqxK, Bool.not_true, Bool.false_eq_true, if_false]
    exact ih (i + 1) h1
theorem sameK (p : List TKV) : F_ref05_KVs p p = some true := by
  unfold F_ref05_KVs
  rw [if_neg (by simp), sameLK p p 0 rfl]; rfl
theorem bl_zero : ∀ x k : List UInt8, Op.bytesLess x (k ++ [0]) = (Op.bytesLess x k || x == k)
  | [], [] => rfl
  | [], b :: k => by simp [Op.bytesLess]
  | a :: x, [] => by
    have h : ¬ a < 0 := by intro h; exact absurd h (by simp [UInt8.lt_iff_toNat_lt])
    cases x <;> simp [Op.bytesLess, h]
  | a :: x, b :: k => by
    have ih := bl_zero x k
    simp only [List.cons_append, Op.bytesLess, ih]
    by_cases h : a = b
    · subst h
      simp [UInt8.lt_irrefl]
    · have h2 : (a == b) = false := by simpa using h
      simp [h2, h]
theorem less_zero (x k : ByteArray) : lessB x (k ++ (⟨#[0]⟩ : ByteArray)) = leB x k := by
  unfold leB lessB eqB
  have e : (k ++ (⟨#[0]⟩ : ByteArray)).toList = k.toList ++ [0] := by
    rw [ByteArray.toList_eq, ByteArray.toList_eq]
    simp [ByteArray.data_append]
  rw [e, bl_zero]
end Go.Proofs.YtndhbaidibioeaaGreat.V
