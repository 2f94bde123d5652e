/- What events make of a map, plainly.
   No condition: these are laws of plain functions. -/
import Derived.Test.YtndhbaidibioeaaGreatPQ
import Derived.Test.YtndhbaidibioeaaGreatVQ
import Derived.Test.YtndhbaidibioeaaGreatQB
namespace Go.Proofs.YtndhbaidibioeaaGreat.V
open Go
set_option linter.unusedVariables false
set_option linter.unusedSimpArgs false
def inR (r : TRange) (k : ByteArray) : Bool := leB r.From k && (eqB r.To ByteArray.empty || lessB k r.To)
theorem keyIn_eq (r : TRange) (k : ByteArray) : F_key_In r k = some (inR r k) := by
 unfold F_key_In inR; cases leB r.From k <;> cases eqB r.To ByteArray.empty <;> rfl
def kv (e : TEvent) : TKV := ⟨e.Key, e.Val, e.Rev⟩
def So (m : List TKV) : Prop := m.Pairwise (fun a b => lessB a.Key b.Key = true)
theorem So.nodup {m : List TKV} (h : So m) : m.Pairwise (fun a b => a.Key ≠ b.Key) := h.imp (fun {a b} q e => by rw [e, less_irrefl] at q; cases q)
theorem so_ext {a b : List TKV} (ha : So a) (hb : So b) (h : ∀ t, t ∈ a ↔ t ∈ b) : a = b :=
 sorted_ext (R := fun x y : TKV => lessB x.Key y.Key = true) (fun x q => by rw [less_irrefl] at q; cases q) (fun x y q r => by rw [less_asymm q] at r; cases r) ha hb h
def stepM (m : List TKV) (e : TEvent) : List TKV := m.filter (fun t => lessB t.Key e.Key) ++ ((if e.Del = true then [] else [kv e]) ++ m.filter (fun t => lessB e.Key t.Key))
theorem stepM_mem {m : List TKV} {e : TEvent} (t : TKV) : t ∈ stepM m e ↔ (t ∈ m ∧ t.Key ≠ e.Key) ∨ (e.Del = false ∧ t = kv e) := by
 unfold stepM
 rw [List.mem_append, List.mem_append, List.mem_filter, List.mem_filter]
 constructor
 ·
  rintro (⟨h1, h2⟩ | h | ⟨h1, h2⟩)
  ·
   exact .inl ⟨h1, fun e' => by rw [e', less_irrefl] at h2; cases h2⟩
  ·
   cases hd : e.Del with
   | true => rw [hd] at h; simp at h
   | false => rw [hd] at h; exact .inr ⟨rfl, by simpa using h⟩
  ·
   exact .inl ⟨h1, fun e' => by rw [e', less_irrefl] at h2; cases h2⟩
 ·
  rintro (⟨h1, h2⟩ | ⟨h1, h2⟩)
  ·
   cases h3 : lessB t.Key e.Key with
   | true => exact .inl ⟨h1, rfl⟩
   | false =>
    cases h4 : lessB e.Key t.Key with
    | true => exact .inr (.inr ⟨h1, rfl⟩)
    | false => exact absurd (less_total h3 h4) h2
  ·
   exact .inr (.inl (by rw [h1]; simpa using h2))
theorem stepM_so {m : List TKV} (h : So m) (e : TEvent) : So (stepM m e) := by
 unfold stepM So
 have hk : ∀ t ∈ (if e.Del = true then [] else [kv e]), t.Key = e.Key := fun t ht => by
  split at ht
  ·
   cases ht
  ·
   rw [List.mem_singleton] at ht; subst ht; rfl
 rw [List.pairwise_append, List.pairwise_append]
 refine ⟨h.filter _, ⟨?_, h.filter _, fun a ha b hb => ?_⟩, fun a ha b hb => ?_⟩
 ·
  split
  ·
   exact List.Pairwise.nil
  ·
   exact List.pairwise_singleton _ _
 ·
  rw [hk a ha]; exact (List.mem_filter.mp hb).2
 ·
  have h1 := (List.mem_filter.mp ha).2
  rcases List.mem_append.mp hb with q | q
  ·
   rw [hk b q]; exact h1
  ·
   exact less_trans h1 (List.mem_filter.mp q).2
theorem stepM_len (m : List TKV) (e : TEvent) (h : So m) : (stepM m e).length ≤ m.length + 1 := by
 unfold stepM
 rw [List.length_append, List.length_append]
 have h1 : (m.filter (fun t => lessB t.Key e.Key)).length + (m.filter (fun t => lessB e.Key t.Key)).length ≤ m.length := by
  clear h
  induction m with
  | nil => simp
  | cons a m ih =>
   rw [List.filter_cons, List.filter_cons, List.length_cons]
   cases h1 : lessB a.Key e.Key with
   | true => rw [less_asymm h1]; simp; omega
   | false => cases lessB e.Key a.Key <;> simp <;> omega
 have h2 : (if e.Del = true then [] else [kv e]).length ≤ 1 := by split <;> simp
 omega
theorem splitAt_ {m : List TKV} (h : So m) (k : ByteArray) : ∃ A B, m = A ++ B ∧ (∀ a ∈ A, lessB a.Key k = true) ∧ (∀ b ∈ B, lessB b.Key k = false) ∧ m.filter (fun t => lessB t.Key k) = A := by
 induction m with
 | nil => exact ⟨[], [], rfl, fun _ h => by (cases h), fun _ h => by (cases h), rfl⟩
 | cons a m ih =>
  have h' := h
  unfold So at h
  rw [List.pairwise_cons] at h
  cases hc : lessB a.Key k with
  | true =>
   obtain ⟨A, B, e, h1, h2, h3⟩ := ih h.2
   refine ⟨a :: A, B, by rw [e]; rfl, fun x hx => ?_, h2, by rw [List.filter_cons, if_pos hc, h3]⟩
   rcases List.mem_cons.mp hx with q | q
   ·
    subst q; exact hc
   ·
    exact h1 x q
  | false =>
   have hall : ∀ b ∈ a :: m, lessB b.Key k = false := by
    intro b hb
    rcases List.mem_cons.mp hb with q | q
    ·
     subst q; exact hc
    ·
     cases e : lessB b.Key k with
     | false => rfl
     | true => have := less_trans (h.1 b q) e; rw [hc] at this; cases this
   exact ⟨[], a :: m, rfl, fun _ h => by (cases h), hall, List.filter_eq_nil_iff.mpr (fun b hb => by rw [hall b hb]; simp)⟩
theorem foldM_so : ∀ (l : List TEvent) (m : List TKV), So m → So (l.foldl stepM m)
 | [], m, h => h
 | e :: l, m, h => foldM_so l _ (stepM_so h e)
theorem oneA (e : TEvent) : ∀ (A B : List TKV) (i : Nat) (out : List TKV), out.length + A.length ≤ 1000000 → (∀ a ∈ A, lessB a.Key e.Key = true) → (∀ b ∈ B, lessB b.Key e.Key = false) →
 F_ref05_One_L2 e (A ++ B) i out = some (out ++ A, ((i + A.length : Nat) : Int)) := by
 intro A
 induction A with
 | nil =>
  intro B i out _ _ h
  cases B with
  | nil => simp [F_ref05_One_L2]
  | cons b B => rw [List.nil_append, F_ref05_One_L2, if_neg (by rw [h b List.mem_cons_self]; simp)]; simp
 | cons a A ih =>
  intro B i out hl h1 h2
  rw [List.length_cons] at hl
  rw [List.cons_append, F_ref05_One_L2, if_pos (h1 a List.mem_cons_self), appL_ok (by simp; omega) (by omega) (by omega)]
  simp only [Option.bind_some]
  rw [ih B (i + 1) (out ++ [a]) (by simp; omega) (fun x hx => h1 x (List.mem_cons_of_mem _ hx)) h2, List.length_cons]
  simp; omega
theorem oneB (e : TEvent) (m : List TKV) (hm : m.length ≤ 1000000) : ∀ (f i : Nat) (out : List TKV), i ≤ m.length → m.length - i < f → out.length + m.length ≤ 2000000 + i →
 F_ref05_One_L1 m e f out (i : Int) = some (out ++ (m.drop i).filter (fun t => !eqB t.Key e.Key)) := by
 intro f
 induction f with
 | zero => intro i out _ h; omega
 | succ f ih =>
  intro i out h1 h2 h3
  rw [F_ref05_One_L1]
  rcases Nat.lt_or_ge i m.length with q | q
  ·
   rw [if_pos (by simpa using q), getI_nat, List.getElem?_eq_getElem q]
   simp only [Option.bind_some]
   have hw : IntKind.i64.wrap ((i : Int) + 1) = ((i + 1 : Nat) : Int) := by rw [wrap_id (by omega) (by omega)]; omega
   rw [hw, List.drop_eq_getElem_cons q, List.filter_cons]
   cases hc : eqB m[i].Key e.Key with
   | true =>
    simp only [Bool.not_true, Bool.false_eq_true, if_false, Option.bind_some]
    exact ih (i + 1) out q (by omega) (by omega)
   | false =>
    simp only [Bool.not_false, if_true]
    rw [appL_ok (by simp; omega) (by omega) (by omega)]
    simp only [Option.bind_some]
    rw [ih (i + 1) _ q (by omega) (by rw [List.length_append]; simp; omega)]
    simp
  ·
   rw [if_neg (by simpa using q), List.drop_of_length_le q]; simp
theorem one_eq {n : Nat} {m : List TKV} (e : TEvent) (hm : So m) (hl : m.length ≤ 1000) (hn : 1000 < n) : F_ref05_One n m e = some (stepM m e) := by
 unfold F_ref05_One
 obtain ⟨A, B, rfl, h1, h2, h3⟩ := splitAt_ hm e.Key
 rw [List.length_append] at hl
 rw [oneA e A B 0 [] (by simp; omega) h1 h2]
 simp only [Option.bind_some, List.nil_append, Nat.zero_add]
 have hfil : (B.filter (fun t => !eqB t.Key e.Key)) = B.filter (fun t => lessB e.Key t.Key) := by
  refine List.filter_congr (fun b hb => ?_)
  have := h2 b hb
  cases q : lessB e.Key b.Key with
  | true =>
   have : eqB b.Key e.Key = false := by rw [eqB_ne]; intro w; rw [w, less_irrefl] at q; cases q
   rw [this]; rfl
  | false => have := eqB_iff.mpr (less_total this q); rw [this]; rfl
 have hA2 : A.filter (fun t => lessB e.Key t.Key) = [] := List.filter_eq_nil_iff.mpr (fun a ha => by rw [less_asymm (h1 a ha)]; simp)
 have hstep : stepM (A ++ B) e = A ++ ((if e.Del = true then [] else [kv e]) ++ B.filter (fun t => lessB e.Key t.Key)) := by
  unfold stepM; rw [h3, List.filter_append, hA2, List.nil_append]
 cases hd : e.Del with
 | true =>
  simp only [Bool.not_true, Bool.false_eq_true, if_false, Option.bind_some]
  rw [oneB e (A ++ B) (by rw [List.length_append]; omega) n A.length A (by rw [List.length_append]; omega) (by rw [List.length_append]; omega) (by rw [List.length_append]; omega), List.drop_left, hfil, hstep, hd]
  rfl
 | false =>
  simp only [Bool.not_false, if_true]
  rw [appL_ok (by simp; omega) (by omega) (by omega)]
  simp only [Option.bind_some]
  rw [oneB e (A ++ B) (by rw [List.length_append]; omega) n A.length _ (by rw [List.length_append]; omega) (by rw [List.length_append]; omega) (by rw [List.length_append, List.length_append]; simp; omega), List.drop_left, hfil, hstep, hd]
  simp only [Option.bind_some]
  rw [List.append_assoc]; rfl
def lastFor (k : ByteArray) : List TEvent → Option TEvent
 | [] => none
 | e :: l => match lastFor k l with | some x => some x | none => if eqB e.Key k = true then some e else none
theorem lastFor_key {k : ByteArray} : ∀ {l : List TEvent} {e : TEvent}, lastFor k l = some e → e ∈ l ∧ e.Key = k
 | [], e, h => by cases h
 | x :: l, e, h => by
  unfold lastFor at h
  cases q : lastFor k l with
  | some y => rw [q] at h; cases h; obtain ⟨h1, h2⟩ := lastFor_key q; exact ⟨List.mem_cons_of_mem _ h1, h2⟩
  | none =>
   rw [q] at h
   dsimp only at h
   split at h
   ·
    rename_i w; cases h; exact ⟨List.mem_cons_self, eqB_iff.mp w⟩
   ·
    cases h
theorem foldM_mem (t : TKV) : ∀ (l : List TEvent) (m : List TKV), t ∈ l.foldl stepM m ↔ (match lastFor t.Key l with | none => t ∈ m | some e => e.Del = false ∧ t = kv e)
 | [], m => Iff.rfl
 | x :: l, m => by
  rw [List.foldl_cons, foldM_mem t l, show lastFor t.Key (x :: l) = (match lastFor t.Key l with | some x => some x | none => if eqB x.Key t.Key = true then some x else none) from rfl]
  cases q : lastFor t.Key l with
  | some y => exact Iff.rfl
  | none =>
   dsimp only
   rw [stepM_mem]
   rcases Bool.eq_false_or_eq_true (eqB x.Key t.Key) with w | w
   ·
    have := eqB_iff.mp w
    rw [if_pos w]
    constructor
    ·
     rintro (⟨_, h⟩ | h)
     ·
      exact absurd this.symm h
     ·
      exact h
    ·
     exact .inr
   ·
    have := eqB_ne.mp w
    rw [if_neg (by rw [w]; simp)]
    constructor
    ·
     rintro (⟨h, _⟩ | ⟨_, h⟩)
     ·
      exact h
     ·
      subst h; exact absurd rfl this
    ·
     intro h; exact .inl ⟨h, fun e => this e.symm⟩
theorem eqxK (x : TKV) : eq_TKV x x = true := by unfold eq_TKV; simp
theorem sameLK (p : List TKV) : ∀ (l : List TKV) (i : Nat), p.drop i = l → F_ref05_KVs_L1 p l i = some (.go ()) := by
 intro l
 induction l with
 | nil => intro i _; rfl
 | cons z l ih =>
  intro i h
  have h0 : p[i]? = some z := by
   have : (p.drop i)[0]? = some z := by rw [h]; rfl
   rw [List.getElem?_drop] at this; exact this
  have h1 : p.drop (i + 1) = l := by rw [← List.drop_drop, h]; rfl
  rw [F_ref05_KVs_L1, getI_nat, h0]
  simp only [Option.bind_some, eqxK, Bool.not_true, Bool.false_eq_true, if_false]
  exact ih (i + 1) h1
theorem sameK (p : List TKV) : F_ref05_KVs p p = some true := by
 unfold F_ref05_KVs
 rw [if_neg (by simp), sameLK p p 0 rfl]; rfl
theorem bl_zero : ∀ x k : List UInt8, Op.bytesLess x (k ++ [0]) = (Op.bytesLess x k || x == k)
 | [], [] => rfl
 | [], b :: k => by simp [Op.bytesLess]
 | a :: x, [] => by
  have h : ¬ a < 0 := by intro h; exact absurd h (by simp [UInt8.lt_iff_toNat_lt])
  cases x <;> simp [Op.bytesLess, h]
 | a :: x, b :: k => by
  have ih := bl_zero x k
  simp only [List.cons_append, Op.bytesLess, ih]
  by_cases h : a = b
  ·
   subst h
   simp [UInt8.lt_irrefl]
  ·
   have h2 : (a == b) = false := by simpa using h
   simp [h2, h]
theorem less_zero (x k : ByteArray) : lessB x (k ++ (⟨#[0]⟩ : ByteArray)) = leB x k := by
 unfold leB lessB eqB
 have e : (k ++ (⟨#[0]⟩ : ByteArray)).toList = k.toList ++ [0] := by
  rw [ByteArray.toList_eq, ByteArray.toList_eq]
  simp [ByteArray.data_append]
 rw [e, bl_zero]
set_option maxRecDepth 100000
def Chn (A : List Tchain_version) : Nat → List TEvent → Prop
 | id, [] => id = 0
 | id, e :: r => ∃ (i m : Nat) (v : Tchain_version), id = i + 1 ∧ A[i]? = some v ∧ v.Event = e ∧ v.ahead = (m : Int) ∧ Chn A m r
theorem Chn.app {A B : List Tchain_version} : ∀ {id : Nat} {r : List TEvent}, Chn A id r → Chn (A ++ B) id r
 | _, [], h => h
 | _, e :: r, ⟨i, m, v, h1, h2, h3, h4, h5⟩ => ⟨i, m, v, h1, by rw [List.getElem?_append_left (List.getElem?_eq_some_iff.mp h2).1]; exact h2, h3, h4, h5.app⟩
theorem Chn.le {A : List Tchain_version} {id : Nat} {r : List TEvent} (h : Chn A id r) : id ≤ A.length := by
 cases r with
 | nil => have h : id = 0 := h; omega
 | cons e r =>
  obtain ⟨i, m, v, h1, h2, _⟩ := h
  have := (List.getElem?_eq_some_iff.mp h2).1
  omega
theorem wrapu_n {n : Nat} (h : n < 9223372036854775808) : IntKind.u64.wrap (n : Int) = (n : Int) := wrap_u64 (by omega) (by omega)
abbrev v0 : Tchain_version := ⟨⟨0, ByteArray.empty, ByteArray.empty, false⟩, 0⟩
theorem of_zero (S : Ochain_Store) : F_chain_Store_of S 0 = some (v0, false, S) := rfl
theorem of_some {S : Ochain_Store} {i : Nat} {v : Tchain_version} (hl : S.all.length < 1000000) (h : S.all[i]? = some v) : F_chain_Store_of S ((i + 1 : Nat) : Int) = some (v, true, S) := by
 have hi := (List.getElem?_eq_some_iff.mp h).1
 unfold F_chain_Store_of
 rw [if_neg (by rw [decide_eq_true_iff]; omega)]
 simp only [Option.bind_some]
 rw [wrapu_n (by omega), if_neg (by rw [decide_eq_true_iff]; omega), show (((i + 1 : Nat) : Int) - 1) = ((i : Nat) : Int) by omega, wrapu_n (by omega), getI_nat, h]
 rfl
def revOf : List TEvent → Int
 | [] => 0
 | e :: _ => e.Rev
theorem rev_ok {S : Ochain_Store} {id : Nat} {r : List TEvent} (hl : S.all.length < 1000000) (h : Chn S.all id r) : F_chain_Store_Rev S (id : Int) = some (revOf r, S) := by
 unfold F_chain_Store_Rev
 cases r with
 | nil => have h : id = 0 := h; subst h; rw [show ((0 : Nat) : Int) = 0 from rfl, of_zero]; rfl
 | cons e r =>
  obtain ⟨i, m, v, rfl, h2, h3, h4, h5⟩ := h
  rw [of_some hl h2, ← h3]; rfl
def look : List TEvent → Int → Option TKV
 | [], _ => none
 | e :: r, n => if e.Rev ≤ n then (if e.Del = true then none else some (kv e)) else look r n
theorem at_L1 {S : Ochain_Store} (hl : S.all.length < 1000000) (rev : Int) : ∀ (r : List TEvent) (m id : Nat), Chn S.all id r → r.length < m →
 ∃ v b, F_chain_Store_of S (id : Int) = some (v, b, S) ∧ F_chain_Store_At_L1 rev m b v S = some (match look r rev with | none => if r.all (fun e => decide (¬ e.Rev ≤ rev)) = true then .go S else .out (⟨ByteArray.empty, ByteArray.empty, 0⟩, false, S) | some x => .out (x, true, S))
 | [], 0, id, h, hm => by simp at hm
 | [], m + 1, id, h, hm => by
  have h : id = 0 := h
  subst h
  refine ⟨v0, false, of_zero S, ?_⟩
  rw [F_chain_Store_At_L1]; rfl
 | e :: r, 0, id, h, hm => by simp at hm
 | e :: r, m + 1, id, ⟨i, k, v, h1, h2, h3, h4, h5⟩, hm => by
  subst h1
  refine ⟨v, true, of_some hl h2, ?_⟩
  rw [F_chain_Store_At_L1, if_pos rfl, look, h3]
  by_cases q : e.Rev ≤ rev
  ·
   rw [if_neg (by rw [decide_eq_true_iff]; omega), if_pos q]
   by_cases d : e.Del = true
   ·
    rw [if_pos d, if_pos d]
    simp [q]
    intro h; omega
   ·
    rw [if_neg d, if_neg d]; rfl
  ·
   obtain ⟨v', b', g1, g2⟩ := at_L1 hl rev r m k h5 (by simp at hm; omega)
   rw [if_pos (by rw [decide_eq_true_iff]; omega), if_neg q, h4, g1]
   simp only [Option.bind_some]
   rw [g2]
   simp only [List.all_cons, q, not_false_eq_true, decide_true, Bool.true_and]
theorem at_ok {S : Ochain_Store} {n id : Nat} {r : List TEvent} (hl : S.all.length < 1000000) (rev : Int) (h : Chn S.all id r) (hn : r.length < n) :
 F_chain_Store_At n S (id : Int) rev = some (match look r rev with | none => (⟨ByteArray.empty, ByteArray.empty, 0⟩, false, S) | some x => (x, true, S)) := by
 obtain ⟨v, b, h1, h2⟩ := at_L1 hl rev r n id h hn
 unfold F_chain_Store_At
 rw [h1]
 simp only [Option.bind_some]
 rw [h2]
 cases look r rev with
 | some x => rfl
 | none =>
  dsimp only
  split <;> rfl
theorem grow1_ok {M : Omem_Mem} (h : M.cells.length + 1 ≤ 65536) : F_mem_Mem_Grow M 1 = some ((M.cells.length : Int), 0, ⟨M.cells ++ [0], M.count⟩) := by
 unfold F_mem_Mem_Grow
 rw [if_neg (by decide)]
 simp only [Option.bind_some]
 rw [wrap_id (by omega) (by omega), if_neg (by rw [decide_eq_true_iff]; omega)]
 have : mkZ (1 : Int) = some [0] := rfl
 rw [this]
 simp only [Option.bind_some]
 unfold F_mem_Mem_add
 rw [appL_ok (by simp; omega) (by omega) (by omega)]
 rfl
theorem ccell_ok {M : Omem_Mem} {S : Ochain_Store} (h : M.cells.length + 1 ≤ 65536) : F_chain_Store_Cell M S = some ((M.cells.length : Int), 0, ⟨M.cells ++ [0], M.count⟩, S) := by
 unfold F_chain_Store_Cell; rw [grow1_ok h]; rfl
theorem add_ok {S : Ochain_Store} {v : Tchain_version} (hl : S.all.length < 1000000) : F_chain_Store_add S [v] = some (((S.all.length + 1 : Nat) : Int), ⟨S.all ++ [v]⟩) := by
 unfold F_chain_Store_add
 rw [appL_ok (by simp; omega) (by omega) (by omega)]
 simp only [Option.bind_some]
 rw [show (S.all ++ [v]).length = S.all.length + 1 by simp, wrapu_n (by omega)]
set_option maxRecDepth 100000
abbrev Rsi := (Option Cli) × Obst_Tree × Omem_Mem × Ochain_Store × Oindex_Work
theorem rbi (o : Option Rsi) : (o.bind fun x => some (x.1, x.2.1, x.2.2.1, x.2.2.2.1, x.2.2.2.2)) = o := by cases o <;> rfl
abbrev Cfi := Obst_Tree × Omem_Mem × Ochain_Store × Oindex_Work × Option Cli
inductive Ri (n : Nat) : Nat → Obst_Tree → Omem_Mem → Ochain_Store → Oindex_Work → Option Cli → Cfi → Prop
 | refl {T : Obst_Tree} {M : Omem_Mem} {S : Ochain_Store} {W : Oindex_Work} {o : Option Cli} : Ri n 0 T M S W o (T, M, S, W, o)
 | step {k : Nat} {T T2 : Obst_Tree} {M M2 : Omem_Mem} {S S2 : Ochain_Store} {W W2 : Oindex_Work} {x : Cli} {o : Option Cli} {f : Cfi} (h : F_istep n T M S W x .u = some (o, T2, M2, S2, W2)) (r : Ri n k T2 M2 S2 W2 o f) : Ri n (k + 1) T M S W (some x) f
def Oi (n : Nat) (r : Option Rsi) (b : Nat) (P : Cfi → Prop) : Prop := ∃ o T M S W k f, r = some (o, T, M, S, W) ∧ k ≤ b ∧ Ri n k T M S W o f ∧ P f
theorem Oi.done {n b : Nat} {o : Option Cli} {T : Obst_Tree} {M : Omem_Mem} {S : Ochain_Store} {W : Oindex_Work} {P : Cfi → Prop} (h : P (T, M, S, W, o)) : Oi n (some (o, T, M, S, W)) b P := ⟨o, T, M, S, W, 0, _, rfl, Nat.zero_le _, .refl, h⟩
theorem Oi.step {n b : Nat} {x : Cli} {T : Obst_Tree} {M : Omem_Mem} {S : Ochain_Store} {W : Oindex_Work} {P : Cfi → Prop} {r : Option Rsi} (e : F_istep n T M S W x .u = r) (h : Oi n r b P) : Oi n (some (some x, T, M, S, W)) (b + 1) P := by
 obtain ⟨o, T2, M2, S2, W2, k, f, h1, h2, h3, h4⟩ := h
 exact ⟨some x, T, M, S, W, k + 1, f, rfl, by omega, .step (e.trans h1) h3, h4⟩
theorem Oi.le {n b c : Nat} {P : Cfi → Prop} {r : Option Rsi} (h : Oi n r b P) (hb : b ≤ c) : Oi n r c P := by
 obtain ⟨o, T2, M2, S2, W2, k, f, h1, h2, h3, h4⟩ := h
 exact ⟨o, T2, M2, S2, W2, k, f, h1, by omega, h3, h4⟩
abbrev call (C : Obst_Call) (o : Option Clo) : Obst_Call_2 := ⟨C.told_Ok, C.told_Key, C.told_Val, C.told_Err, o⟩
theorem istep_some {n : Nat} {T T2 : Obst_Tree} {M M2 : Omem_Mem} {S S2 : Ochain_Store} {W W2 : Oindex_Work} {x : Cli} {o : Option Cli} (h : F_istep n T M S W x .u = some (o, T2, M2, S2, W2)) :
 F_index_Work_Step n T M S ⟨some x, W.cell, W.bad, W.found⟩ = some (o.isNone, T2, M2, S2, ⟨o, W2.cell, W2.bad, W2.found⟩) := by
 unfold F_index_Work_Step
 rw [if_neg (by simp)]
 simp only [Option.bind_some]
 rw [h]
 rfl
theorem irunL {n : Nat} {f : Cfi} (hf : f.2.2.2.2 = none) : ∀ (k m : Nat) (T : Obst_Tree) (M : Omem_Mem) (S : Ochain_Store) (W : Oindex_Work) (o : Option Cli), Ri n k T M S W o f → k < m →
 F_index_Run_L1 n m (T, M, S) ⟨o, W.cell, W.bad, W.found⟩ = some ((f.1, f.2.1, f.2.2.1), ⟨none, f.2.2.2.1.cell, f.2.2.2.1.bad, f.2.2.2.1.found⟩)
 | k, 0, _, _, _, _, _, _, hm => by omega
 | 0, m + 1, T, M, S, W, o, h, hm => by
  cases h
  have hf : o = none := hf
  subst hf
  rw [F_index_Run_L1]
  rfl
 | k + 1, m + 1, T, M, S, W, _, h, hm => by
  cases h with
  | @step _ _ T2 _ M2 _ S2 _ W2 _ o _ h r =>
   rw [F_index_Run_L1]
   dsimp only
   rw [istep_some h]
   simp only [Option.bind_some]
   cases o with
   | none =>
    cases r
    rfl
   | some y =>
    rw [if_pos (by rfl)]
    exact irunL hf k m T2 M2 S2 W2 (some y) r (by omega)
section
variable {T : Obst_Tree} {M : Omem_Mem} {l r : BT} {ks : List Tbst_node} {j n : Nat} {k : ByteArray} {v : Int}
end
set_option maxRecDepth 100000
def hist (es : List TEvent) (k : ByteArray) : List TEvent := (es.filter (fun e => eqB e.Key k)).reverse
theorem hist_app (es : List TEvent) (e : TEvent) (k : ByteArray) : hist (es ++ [e]) k = if e.Key = k then e :: hist es k else hist es k := by
 unfold hist
 rw [List.filter_append, List.reverse_append]
 by_cases h : e.Key = k
 ·
  rw [if_pos h]; simp [h]
 ·
  rw [if_neg h]; simp [eqB_ne.mpr h]
structure XI (T : Obst_Tree) (M : Omem_Mem) (S : Ochain_Store) (l r : BT) (ks : List Tbst_node) (j : Nat) (es : List TEvent) : Prop where
 inv : BInv T M l r ks j
 cell : ∀ y ∈ ks, ∃ a id : Nat, y.val = (a : Int) ∧ a < M.cells.length ∧ Free T.nodes a ∧ M.cells[a]? = some (id : Int) ∧ Chn S.all id (hist es y.key)
 inj : ∀ y ∈ ks, ∀ z ∈ ks, y.val = z.val → y.key = z.key
 all : ∀ e ∈ es, ∃ y ∈ ks, y.key = e.Key
 slen : S.all.length ≤ es.length
 cl : Clean T.nodes M.cells (.nd 0 l r)
section
variable {T : Obst_Tree} {M : Omem_Mem} {S : Ochain_Store} {l r : BT} {ks : List Tbst_node} {j n b : Nat} {es : List TEvent} {k : ByteArray} {W : Oindex_Work} {P : Cfi → Prop}
theorem XI.cells {M' : Omem_Mem} (X : XI T M S l r ks j es) (h : M'.cells = M.cells) : XI T M' S l r ks j es :=
 ⟨X.inv.cells h, by rw [h]; exact X.cell, X.inj, X.all, X.slen, by rw [h]; exact X.cl⟩
theorem XI.mono {j' : Nat} (X : XI T M S l r ks j es) (h : j ≤ j') : XI T M S l r ks j' es := ⟨X.inv.mono h, X.cell, X.inj, X.all, X.slen, X.cl⟩
theorem nth_app {α : Type} {l : List α} {a : Nat} {v : α} {m : List α} (h : l[a]? = some v) : (l ++ m)[a]? = some v := by
 rw [List.getElem?_append_left (List.getElem?_eq_some_iff.mp h).1]; exact h
theorem BInv.more (I : BInv T M l r ks j) (c : Int) : BInv T ⟨M.cells ++ [0], c⟩ l r ks (j + 1) := by
 obtain ⟨a1, a2, a3, a4, a5, a6, a7, a8, b1, b2, b3, bi⟩ := I
 refine ⟨a1.frame (fun _ _ h => h) (fun _ _ _ _ _ _ _ _ _ h => nth_app h), a2, a3, ⟨a4.apart, fun i x c' h1 h2 => ?_⟩, a5, a6, a7, a8, by omega, by omega, ?_, by omega⟩
 ·
  have := a4.room i x c' h1 h2
  simp only [List.length_append, List.length_singleton]; omega
 ·
  simp only [List.length_append, List.length_singleton]; omega
theorem XI.more (X : XI T M S l r ks j es) (c : Int) : XI T ⟨M.cells ++ [0], c⟩ S l r ks (j + 1) es := by
 refine ⟨X.inv.more c, fun y hy => ?_, X.inj, X.all, X.slen, fun i hi x q w hx hq hw => ?_⟩
 ·
  obtain ⟨a, id, h1, h2, h3, h4, h5⟩ := X.cell y hy
  exact ⟨a, id, h1, by simp only [List.length_append, List.length_singleton]; omega, h3, nth_app h4, h5⟩
 ·
  have hr := X.inv.dis.room i x q hx hq
  rw [List.getElem?_append_left (by omega)] at hw
  exact X.cl i hi x q w hx hq hw
theorem Clean.set {a : Nat} {v : Int} {t : BT} (h : Clean T.nodes M.cells t) (hf : Free T.nodes a) : Clean T.nodes (M.cells.set a v) t := fun i hi x c w hx hc hw => by
 have := hf i x c hx hc
 rw [gs_ne (by omega)] at hw
 exact h i hi x c w hx hc hw
theorem BInv.set (I : BInv T M l r ks j) {a : Nat} {v c : Int} (hf : Free T.nodes a) : BInv T ⟨M.cells.set a v, c⟩ l r ks j := by
 obtain ⟨a1, a2, a3, a4, a5, a6, a7, a8, b1, b2, b3, bi⟩ := I
 refine ⟨a1.frame (fun _ _ h => h) (fun i _ x c' h1 h2 q v' hq h => ?_), a2, a3, ⟨a4.apart, fun i x c' h1 h2 => ?_⟩, a5, a6, a7, a8, b1, b2, by simpa using b3, bi⟩
 ·
  rw [gs_ne]
  ·
   exact h
  ·
   have := hf i x c' h1 h2; omega
 ·
  have := a4.room i x c' h1 h2
  simpa using this
theorem wrap_cell {a : Nat} (h : a < 1000000) : IntKind.i64.wrap (a : Int) = (a : Int) ∧ IntKind.u64.wrap (a : Int) = (a : Int) := ⟨wrap_n (by omega), wrapu_n (by omega)⟩
theorem ans_eq (C : Obst_Call) : F_bst_Call_Answer T M (call C none) = some (⟨C.told_Ok, C.told_Key, C.told_Val, C.told_Err⟩, true, T, M, call C none) := rfl
end
set_option maxRecDepth 100000
section
variable {T : Obst_Tree} {M : Omem_Mem} {S : Ochain_Store} {l r : BT} {ks : List Tbst_node} {j n b : Nat} {es : List TEvent} {k : ByteArray} {W : Oindex_Work} {P : Cfi → Prop}
abbrev findC (k : ByteArray) : Obst_Call_2 := call ⟨false, k, 0, 0⟩ (some (.c_down_1 ⟨0, 0, 0, 0, 0, -1⟩ ⟨k, 0, 0, 0⟩ (.c_Find_1_1 ⟨k, 0, 0, 0⟩)))
abbrev seekC (k : ByteArray) : Obst_Call_2 := call ⟨false, k, 0, 0⟩ (some (.c_down_1 ⟨0, 0, 0, 0, 0, -1⟩ ⟨k, 0, 0, 0⟩ (.c_Seek_1_1 ⟨k, 0, 0, 0⟩)))
abbrev ensC (k : ByteArray) (th : Cli) : Cli := .c_after_1 (findC k) (.c_Work_ensure_1 th k)
abbrev walkC (g : TRange) (f : ByteArray) (rev : Int) : Cli := .c_after_1 (seekC f) (.c_Work_walk_1 g rev)
theorem beg_ens {th : Cli} {rc : RCi} {q : Nat} (I : BInv T M l r ks j) : F_index_Work_ensure q rc T M S W k th = some (some (ensC k th), T, M, S, W) := by
 obtain ⟨x0, h0, hc⟩ := I.root
 unfold F_index_Work_ensure F_index_after_
 rw [beg_find h0 hc]; rfl
theorem beg_walk {rc : RCi} {q : Nat} {g : TRange} {f : ByteArray} {rev : Int} (I : BInv T M l r ks j) : F_index_Work_walk q rc T M S W g f rev = some (some (walkC g f rev), T, M, S, W) := by
 obtain ⟨x0, h0, hc⟩ := I.root
 unfold F_index_Work_walk F_index_after_
 rw [beg_seek h0 hc]; rfl
theorem put_beg {e : TEvent} (I : BInv T M l r ks j) : F_index_Index_Put n T M S e = some (⟨some (ensC e.Key (.c_Index_Put_1_1 e)), 0, 0, []⟩, T, M, S) := by
 unfold F_index_Index_Put F_index_Index_work_index_Index_Put_1 F_index_Index_Put_1
 rw [beg_ens I]; rfl
theorem ensure_beg (I : BInv T M l r ks j) : F_index_Index_Ensure n T M S k = some (⟨some (ensC k .c_end), 0, 0, []⟩, T, M, S) := by
 unfold F_index_Index_Ensure F_index_Index_work_index_Index_Ensure_1 F_index_Index_Ensure_1
 rw [beg_ens I]; rfl
theorem walk_beg {g : TRange} {rev : Int} (I : BInv T M l r ks j) : F_index_Index_Walk n T M S g rev = some (⟨some (walkC g g.From rev), 0, 0, []⟩, T, M, S) := by
 unfold F_index_Index_Walk F_index_Index_work_index_Index_Walk_1 F_index_Index_Walk_1
 rw [beg_walk I]; rfl
theorem end_step {q : Nat} : F_istep (q + 1) T M S W .c_end .u = some (none, T, M, S, W) := rfl
theorem put_step1 {q a id : Nat} {e : TEvent} {h : List TEvent} {la : Int} (hl : S.all.length < 1000000) (hc : M.cells[a]? = some (id : Int)) (hk : Chn S.all id h) (hr : revOf h < e.Rev) :
 F_istep (q + 1) T M S W (.c_after_1_v1 ⟨a, e.Rev, e.Key, e.Val, e.Del, la, false, false⟩ .c_end) .u = some (some (.c_after_1_v1 ⟨a, e.Rev, e.Key, e.Val, e.Del, id, true, false⟩ .c_end), T, tick M, S, W) := by
 have q1 : F_istep (q + 1) T M S W (.c_after_1_v1 ⟨a, e.Rev, e.Key, e.Val, e.Del, la, false, false⟩ .c_end) .u = F_index_after_1_ (F_istep q) T M S W ⟨a, e.Rev, e.Key, e.Val, e.Del, la, false, false⟩ .c_end := rfl
 rw [q1]
 unfold F_index_after_1_ F_chain_Put_Step
 rw [if_neg (by simp), if_pos (by rfl), load_ok hc]
 simp only [Option.bind_some]
 rw [rev_ok hl hk]
 simp only [Option.bind_some]
 rw [show decide (revOf h ≥ e.Rev) = false from decide_eq_false (by omega), if_neg (by simp)]
theorem put_step2 {q a id : Nat} {e : TEvent} (hl : S.all.length < 1000000) (hc : M.cells[a]? = some (id : Int)) :
 F_istep (q + 2) T M S W (.c_after_1_v1 ⟨a, e.Rev, e.Key, e.Val, e.Del, id, true, false⟩ .c_end) .u = some (none, T, setc M a ((S.all.length + 1 : Nat) : Int), ⟨S.all ++ [⟨e, id⟩]⟩, W) := by
 have q1 : F_istep (q + 2) T M S W (.c_after_1_v1 ⟨a, e.Rev, e.Key, e.Val, e.Del, id, true, false⟩ .c_end) .u = F_index_after_1_ (F_istep (q + 1)) T M S W ⟨a, e.Rev, e.Key, e.Val, e.Del, id, true, false⟩ .c_end := rfl
 rw [q1]
 unfold F_index_after_1_ F_chain_Put_Step
 rw [if_neg (by simp), if_neg (by simp), add_ok hl]
 simp only [Option.bind_some]
 rw [cas_ok hc]
 simp only [Option.bind_some]
 rw [if_pos trivial]
 simp only [end_step, Option.bind_some]
theorem XI.put {a id : Nat} {e : TEvent} {c : Int} (X : XI T M S l r ks j es) {y0 : Tbst_node} (hy0 : y0 ∈ ks) (hk0 : y0.key = e.Key) (hv0 : y0.val = (a : Int)) (hc : M.cells[a]? = some (id : Int)) (hk : Chn S.all id (hist es e.Key)) (hf : Free T.nodes a) :
 XI T ⟨M.cells.set a ((S.all.length + 1 : Nat) : Int), c⟩ ⟨S.all ++ [⟨e, id⟩]⟩ l r ks j (es ++ [e]) := by
 have hs := X.inv.kkey.2
 refine ⟨X.inv.set hf, fun y hy => ?_, X.inj, fun ev hev => ?_, ?_, X.cl.set hf⟩
 ·
  obtain ⟨a2, id2, g1, g2, g3, g4, g5⟩ := X.cell y hy
  rw [hist_app]
  by_cases q : e.Key = y.key
  ·
   have : y = y0 := uniq_key hs hy hy0 (by rw [hk0, q])
   subst this
   have : a2 = a := by rw [hv0] at g1; omega
   subst this
   rw [if_pos q, ← q]
   refine ⟨a2, S.all.length + 1, g1, by simpa using g2, g3, gs_eq g2, S.all.length, id, ⟨e, id⟩, rfl, by simp, rfl, rfl, hk.app⟩
  ·
   have : a2 ≠ a := by
    rintro rfl
    exact q (hk0.symm.trans (X.inj y0 hy0 y hy (hv0.trans g1.symm)))
   rw [if_neg q]
   exact ⟨a2, id2, g1, by simpa using g2, g3, by rw [gs_ne (Ne.symm this)]; exact g4, g5.app⟩
 ·
  rcases List.mem_append.mp hev with w | w
  ·
   exact X.all ev w
  ·
   rw [List.mem_singleton] at w; subst w; exact ⟨y0, hy0, hk0⟩
 ·
  have := X.slen
  simp only [List.length_append, List.length_singleton]; omega
theorem look_step {q a id : Nat} {h : List TEvent} {rev : Int} {th : Cli} (hl : S.all.length < 1000000) (ha : a < 1000000) (hc : M.cells[a]? = some (id : Int)) (hk : Chn S.all id h) (hq : h.length < q) (hw : W.found.length ≤ 100000) :
 F_istep (q + 1) T M S W (.c_Work_look_1 (a : Int) rev th) .u = F_istep q T (tick M) S ⟨W.cell, W.bad, W.found ++ (look h rev).toList⟩ th .u := by
 have q1 : F_istep (q + 1) T M S W (.c_Work_look_1 (a : Int) rev th) .u = F_index_Work_look_1 q (F_istep q) T M S W (a : Int) rev th := rfl
 rw [q1]
 unfold F_index_Work_look_1
 rw [(wrap_cell ha).1, load_ok hc]
 simp only [Option.bind_some]
 rw [at_ok hl rev hk hq]
 simp only [Option.bind_some]
 cases look h rev with
 | none =>
  dsimp only
  rw [if_neg (by simp), rbi]
  simp
 | some x =>
  dsimp only
  rw [if_pos rfl, appL_ok (by simp; omega) (by omega) (by omega)]
  simp only [Option.bind_some]
  rw [rbi]
  rfl
end
set_option maxRecDepth 100000
abbrev z0 : ByteArray := ⟨#[0]⟩
def fromK (ks : List Tbst_node) (f : ByteArray) : List Tbst_node := ks.filter (fun y => !lessB y.key f)
def wl (g : TRange) (rev : Int) (es : List TEvent) (L : List Tbst_node) : List TKV := (L.takeWhile (fun y => inR g y.key)).filterMap (fun y => look (hist es y.key) rev)
theorem one_to {k : ByteArray} (h : k.size < 4611686018427387904) : F_key_One k = some ⟨k, k ++ z0⟩ := by
 unfold F_key_One addS
 rw [if_pos (by show k.size + 1 ≤ _; omega)]; rfl
section
variable {T : Obst_Tree} {M : Omem_Mem} {S : Ochain_Store} {l r : BT} {ks : List Tbst_node} {j n : Nat} {es : List TEvent} {g : TRange} {rev : Int}
end
set_option maxRecDepth 100000
def mapAt (es : List TEvent) (rev : Int) : List TKV := (es.filter (fun e => decide (e.Rev ≤ rev))).foldl stepM []
theorem mapAt_so (es : List TEvent) (rev : Int) : So (mapAt es rev) := foldM_so _ _ List.Pairwise.nil
theorem map_L1 {n : Nat} (hn : 1000 < n) (rev : Int) : ∀ (l : List TEvent) (i : Nat) (m : List TKV), So m → m.length + l.length ≤ 1000 → F_ref19_Map_L1 n rev l i m = some ((l.filter (fun e => decide (e.Rev ≤ rev))).foldl stepM m)
 | [], i, m, _, _ => by rw [F_ref19_Map_L1]; rfl
 | e :: l, i, m, hm, hl => by
  rw [List.length_cons] at hl
  rw [F_ref19_Map_L1, List.filter_cons]
  by_cases h : e.Rev ≤ rev
  ·
   rw [if_pos (by simpa using h), if_pos (by simpa using h), one_eq e hm (by omega) hn]
   simp only [Option.bind_some]
   have := stepM_len m e hm
   rw [map_L1 hn rev l (i + 1) _ (stepM_so hm e) (by omega), List.foldl_cons]
  ·
   rw [if_neg (by simpa using h), if_neg (by simpa using h)]
   simp only [Option.bind_some]
   exact map_L1 hn rev l (i + 1) m hm (by omega)
theorem map_ok {n : Nat} {es : List TEvent} (hn : 1000 < n) (hl : es.length ≤ 1000) (rev : Int) : F_ref19_Map n es rev = some (mapAt es rev) := by
 unfold F_ref19_Map
 rw [map_L1 hn rev es 0 [] List.Pairwise.nil (by simpa using hl)]; rfl
theorem lastFor_app (k : ByteArray) : ∀ (l : List TEvent) (e : TEvent), lastFor k (l ++ [e]) = if e.Key = k then some e else lastFor k l
 | [], e => by
  rw [List.nil_append, lastFor, lastFor]
  by_cases h : e.Key = k
  ·
   rw [if_pos h]; simp [h, lastFor]
  ·
   rw [if_neg h]; simp [eqB_ne.mpr h, lastFor]
 | x :: l, e => by
  rw [List.cons_append, lastFor, lastFor_app k l e]
  by_cases h : e.Key = k
  ·
   rw [if_pos h, if_pos h]
  ·
   rw [if_neg h, if_neg h, lastFor]
theorem look_hist (k : ByteArray) (rev : Int) (es : List TEvent) : look (hist es k) rev = match lastFor k (es.filter (fun e => decide (e.Rev ≤ rev))) with | none => none | some e => if e.Del = true then none else some (kv e) := by
 have H : ∀ (q : List TEvent), look (hist q.reverse k) rev = match lastFor k (q.reverse.filter (fun e => decide (e.Rev ≤ rev))) with | none => none | some e => if e.Del = true then none else some (kv e) := by
  intro q
  induction q with
  | nil => rfl
  | cons e q ih =>
   rw [List.reverse_cons, hist_app, List.filter_append]
   by_cases hr : e.Rev ≤ rev
   ·
    have : [e].filter (fun e => decide (e.Rev ≤ rev)) = [e] := by simp [hr]
    rw [this, lastFor_app]
    by_cases hk : e.Key = k
    ·
     rw [if_pos hk, if_pos hk, look, if_pos hr]
    ·
     rw [if_neg hk, if_neg hk]; exact ih
   ·
    have : [e].filter (fun e => decide (e.Rev ≤ rev)) = [] := by simp [hr]
    rw [this, List.append_nil]
    by_cases hk : e.Key = k
    ·
     rw [if_pos hk, look, if_neg hr]; exact ih
    ·
     rw [if_neg hk]; exact ih
 have := H es.reverse
 rw [List.reverse_reverse] at this
 exact this
theorem mapAt_mem {es : List TEvent} {rev : Int} {t : TKV} : t ∈ mapAt es rev ↔ look (hist es t.Key) rev = some t := by
 unfold mapAt
 rw [foldM_mem, look_hist]
 cases h : lastFor t.Key (es.filter (fun e => decide (e.Rev ≤ rev))) with
 | none => simp
 | some e =>
  dsimp only
  constructor
  ·
   rintro ⟨h1, h2⟩; rw [h1, if_neg (by simp), ← h2]
  ·
   intro h1
   split at h1
   ·
    cases h1
   ·
    rename_i hd
    cases h1
    exact ⟨by simpa using hd, rfl⟩
theorem look_key {es : List TEvent} {k : ByteArray} {rev : Int} {t : TKV} (h : look (hist es k) rev = some t) : t.Key = k := by
 rw [look_hist] at h
 cases e : lastFor k (es.filter (fun e => decide (e.Rev ≤ rev))) with
 | none => rw [e] at h; cases h
 | some x =>
  rw [e] at h
  dsimp only at h
  split at h
  ·
   cases h
  ·
   cases h
   exact (lastFor_key e).2
def RiseOK (l : List TEvent) : Prop := ∀ (A B : List TEvent) (e : TEvent), l = A ++ e :: B → revOf (hist A e.Key) < e.Rev
structure Ris (l : List TEvent) (i : Nat) (z : TEvent) : Prop where
 one : 1 ≤ z.Rev
 up : ∀ p x, i = p + 1 → l[p]? = some x → x.Rev ≤ z.Rev
 un : ∀ k x, k < i → l[k]? = some x → ¬ (x.Rev = z.Rev ∧ x.Key = z.Key)
theorem rises_L2 {l : List TEvent} {i : Nat} {z : TEvent} (hi : i ≤ l.length) (hl : l.length ≤ 1000) : ∀ (m y : Nat), y ≤ i → i - y < m →
 F_ref19_Rises_L2 l i z m (y : Int) = some (.out false) ∨ ((∃ u, F_ref19_Rises_L2 l i z m (y : Int) = some (.go u)) ∧ ∀ k x, y ≤ k → k < i → l[k]? = some x → ¬ (x.Rev = z.Rev ∧ x.Key = z.Key))
 | 0, y, h1, h2 => by omega
 | m + 1, y, h1, h2 => by
  rw [F_ref19_Rises_L2]
  by_cases h : y < i
  ·
   have hy : y < l.length := by omega
   rw [if_pos (by rw [decide_eq_true_iff]; omega), getI_nat, List.getElem?_eq_getElem hy]
   simp only [Option.bind_some]
   rw [show (((y : Nat) : Int) + 1) = ((y + 1 : Nat) : Int) by omega, wrap_n (by omega)]
   have ih := rises_L2 (z := z) hi hl m (y + 1) (by omega) (by omega)
   by_cases hr : l[y].Rev = z.Rev
   ·
    rw [if_pos (by simpa using hr)]
    simp only [Option.bind_some]
    cases hk : eqB l[y].Key z.Key with
    | true => rw [if_pos rfl]; exact .inl rfl
    | false =>
     rw [if_neg (by simp)]
     refine ih.imp id (fun ⟨q1, q2⟩ => ⟨q1, fun k x hk1 hk2 hx => ?_⟩)
     rcases Nat.eq_or_lt_of_le hk1 with w | w
     ·
      subst w
      rw [List.getElem?_eq_getElem hy] at hx
      cases hx
      rintro ⟨_, w⟩
      rw [w, eqB_self] at hk; cases hk
     ·
      exact q2 k x w hk2 hx
   ·
    rw [if_neg (by simpa using hr)]
    simp only [Option.bind_some]
    rw [if_neg (by simp)]
    refine ih.imp id (fun ⟨q1, q2⟩ => ⟨q1, fun k x hk1 hk2 hx => ?_⟩)
    rcases Nat.eq_or_lt_of_le hk1 with w | w
    ·
     subst w
     rw [List.getElem?_eq_getElem hy] at hx
     cases hx
     exact fun w => hr w.1
    ·
     exact q2 k x w hk2 hx
  ·
   rw [if_neg (by rw [decide_eq_true_iff]; omega)]
   exact .inr ⟨⟨_, rfl⟩, fun k x hk1 hk2 _ => by omega⟩
theorem rises_L1 {n : Nat} {l : List TEvent} (hl : l.length ≤ 1000) (hn : 1000 < n) : ∀ (r : List TEvent) (i : Nat), r = l.drop i → i ≤ l.length →
 F_ref19_Rises_L1 n l r i = some (.out false) ∨ (F_ref19_Rises_L1 n l r i = some (.go ()) ∧ ∀ k z, i ≤ k → l[k]? = some z → Ris l k z)
 | [], i, hr, hi => by
  rw [F_ref19_Rises_L1]
  have : l.length ≤ i := by
   have := congrArg List.length hr
   simp at this; omega
  exact .inr ⟨rfl, fun k z hk hz => by have := (List.getElem?_eq_some_iff.mp hz).1; omega⟩
 | z :: r, i, hr, hi => by
  obtain ⟨hi', hx, hr'⟩ := drop_cons hr
  rw [F_ref19_Rises_L1]
  by_cases h1 : z.Rev < 1
  ·
   rw [if_pos (by simpa using h1)]
   exact .inl rfl
  rw [if_neg (by simpa using h1)]
  have prev : ∃ c : Bool, (if (decide ((i : Int) > 0)) = true then ((getI l (IntKind.i64.wrap ((i : Int) - 1))).bind fun x29 => some (true, (decide (z.Rev < x29.Rev)))) else (some (false, false)) : Option (Bool × Bool)) = some ((decide ((i : Int) > 0)), c) ∧ (c = false → ∀ p x, i = p + 1 → l[p]? = some x → x.Rev ≤ z.Rev) := by
   by_cases h0 : 0 < i
   ·
    obtain ⟨p, rfl⟩ : ∃ p, i = p + 1 := ⟨i - 1, by omega⟩
    have hp : p < l.length := by omega
    rw [if_pos (by rw [decide_eq_true_iff]; omega), show (((p + 1 : Nat) : Int) - 1) = (p : Int) by omega, wrap_n (by omega), getI_nat, List.getElem?_eq_getElem hp]
    refine ⟨decide (z.Rev < l[p].Rev), by simp, fun hc p' x hp' hx' => ?_⟩
    obtain rfl : p' = p := by omega
    rw [List.getElem?_eq_getElem hp] at hx'
    cases hx'
    have := of_decide_eq_false hc
    omega
   ·
    have : i = 0 := by omega
    subst this
    exact ⟨false, rfl, fun _ p x hp _ => by omega⟩
  obtain ⟨c, hc1, hc2⟩ := prev
  rw [hc1]
  simp only [Option.bind_some]
  cases c with
  | true => rw [if_pos rfl]; exact .inl rfl
  | false =>
   rw [if_neg (by simp)]
   have hdel : ∃ d : Bool × Bool, (if z.Del = true then (some (true, (!eqB z.Val ByteArray.empty))) else (some (false, false)) : Option (Bool × Bool)) = some d := by
    split
    ·
     exact ⟨_, rfl⟩
    ·
     exact ⟨_, rfl⟩
   obtain ⟨⟨d1, d⟩, hd⟩ := hdel
   rw [hd]
   simp only [Option.bind_some]
   cases d with
   | true => rw [if_pos rfl]; exact .inl rfl
   | false =>
    rw [if_neg (by simp)]
    rcases rises_L2 (z := z) (l := l) (i := i) hi hl n 0 (by omega) (by omega) with q | ⟨⟨u, q⟩, q2⟩
    ·
     rw [show ((0 : Nat) : Int) = 0 from rfl] at q
     rw [q]; exact .inl rfl
    ·
     rw [show ((0 : Nat) : Int) = 0 from rfl] at q
     rw [q]
     simp only [Option.bind_some, lpK2]
     refine (rises_L1 hl hn r (i + 1) hr' (by omega)).imp id (fun ⟨w1, w2⟩ => ⟨w1, fun k z' hk hz => ?_⟩)
     rcases Nat.eq_or_lt_of_le hk with w | w
     ·
      subst w
      rw [hx] at hz
      cases hz
      exact ⟨by omega, hc2 rfl, fun k' x hk' hx' => q2 k' x (by omega) hk' hx'⟩
     ·
      exact w2 k z' w hz
theorem ris_up {l : List TEvent} (h : ∀ (k : Nat) (z : TEvent), l[k]? = some z → Ris l k z) : ∀ (d k : Nat) (x z : TEvent), l[k]? = some x → l[k + d]? = some z → x.Rev ≤ z.Rev
 | 0, k, x, z, h1, h2 => by rw [Nat.add_zero, h1] at h2; cases h2; exact Int.le_refl _
 | d + 1, k, x, z, h1, h2 => by
  have hb := (List.getElem?_eq_some_iff.mp h2).1
  have hm : l[k + d]? = some l[k + d] := List.getElem?_eq_getElem (by omega)
  have q1 := ris_up h d k x _ h1 hm
  have q2 := (h _ _ h2).up (k + d) _ (by omega) hm
  exact Int.le_trans q1 q2
theorem rise_of {l : List TEvent} (h : ∀ (k : Nat) (z : TEvent), l[k]? = some z → Ris l k z) : RiseOK l := by
 intro A B e hl
 have he : l[A.length]? = some e := by rw [hl]; simp
 have R := h _ _ he
 cases hh : hist A e.Key with
 | nil => have := R.one; show (0 : Int) < e.Rev; omega
 | cons x xs =>
  show x.Rev < e.Rev
  have hx : x ∈ A ∧ x.Key = e.Key := by
   have : x ∈ hist A e.Key := by rw [hh]; exact List.mem_cons_self
   unfold hist at this
   rw [List.mem_reverse, List.mem_filter, eqB_iff] at this
   exact this
  obtain ⟨p, hp, hpx⟩ := List.getElem_of_mem hx.1
  have hlx : l[p]? = some x := by rw [hl, List.getElem?_append_left hp, List.getElem?_eq_getElem hp, hpx]
  have q1 := ris_up h (A.length - p) p x e hlx (by rw [show p + (A.length - p) = A.length by omega]; exact he)
  have q2 := R.un p x hp hlx
  have q3 : x.Rev ≠ e.Rev := fun w => q2 ⟨w, hx.2⟩
  omega
end Go.Proofs.YtndhbaidibioeaaGreat.V
