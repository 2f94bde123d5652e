/- What an index of watches is: its order, and adding.
   No condition: these are laws of plain functions. -/
import Derived.Test.YthgcmcifhhkebaaPF
import Derived.Test.YthgcmcifhhkebaaMb
namespace Go.Proofs.Ythgcmcifhhkebaa.V
open Go
set_option linter.unusedVariables false
set_option linter.unusedSimpArgs false

def mk (s : Timpostref11_Sub) : Tsubidx_Sub := ⟨s.Id, s.Rev, s.R⟩
theorem mk_inj {a b : Timpostref11_Sub} (h : mk a = mk b) : a = b := by
  obtain ⟨a1, a2, a3⟩ := a; obtain ⟨b1, b2, b3⟩ := b
  unfold mk at h
  simp only [Tsubidx_Sub.mk.injEq] at h
  obtain ⟨rfl, rfl, rfl⟩ := h; rfl
theorem made_eq (s : Timpostref11_Sub) : F_law11_made s = some (mk s) := rfl
def bef (a b : Tsubidx_Sub) : Prop := lessB a.R.From b.R.From = true ∨ (a.R.From = b.R.From ∧ a.Id < b.Id)
theorem bef_irr (a : Tsubidx_Sub) : ¬ bef a a := by
  rintro (h | ⟨_, h⟩)
  · rw [less_irrefl] at h; cases h
  · omega
theorem bef_trans {a b c : Tsubidx_Sub} (h1 : bef a b) (h2 : bef b c) : bef a c := by
  rcases h1 with h1 | ⟨e1, h1⟩
  · rcases h2 with h2 | ⟨e2, h2⟩
    · exact .inl (less_trans h1 h2)
    · exact .inl (by rw [← e2]; exact h1)
  · rcases h2 with h2 | ⟨e2, h2⟩
    · exact .inl (by rw [e1]; exact h2)
    · exact .inr ⟨e1.trans e2, by omega⟩
theorem bef_asym (a b : Tsubidx_Sub) (h : bef a b) : ¬ bef b a := fun q => bef_irr _ (bef_trans h q)
theorem bef_total {a b : Tsubidx_Sub} (h : ¬ bef a b) (hi : a.Id ≠ b.Id) : bef b a := by
  unfold bef at *
  cases h1 : lessB b.R.From a.R.From with
  | true => exact .inl rfl
  | false =>
    cases h2 : lessB a.R.From b.R.From with
    | true => exact absurd (.inl h2) h
    | false =>
      have e := less_total h1 h2
      refine .inr ⟨e, ?_⟩
      have : ¬ a.Id < b.Id := fun q => h (.inr ⟨e.symm, q⟩)
      omega
def emptyR (r : TRange) : Bool := !eqB r.To ByteArray.empty && leB r.To r.From
def inR (r : TRange) (k : ByteArray) : Bool := leB r.From k && (eqB r.To ByteArray.empty || lessB k r.To)
theorem refEmpty_eq (r : TRange) : F_ref04_Empty r = some (emptyR r) := by
  unfold F_ref04_Empty emptyR; cases eqB r.To ByteArray.empty <;> rfl
theorem keyEmpty_eq (r : TRange) : F_key_Empty r = some (emptyR r) := by
  unfold F_key_Empty emptyR eq_TRange maxS
  cases eqB r.To ByteArray.empty with
  | true => rfl
  | false =>
    simp only [Bool.not_false, cond_true, Bool.true_and, Bool.and_true, ba_self]
    rw [leB_not]
    cases h : lessB r.From r.To with
    | true =>
      simp only [Bool.not_true, Bool.false_eq_true, if_false]
      have : ¬ (r.From == r.To) = true := by rw [ba_iff]; intro e; rw [e, less_irrefl] at h; cases h
      rw [Bool.not_eq_true] at this; rw [this]
    | false => simp only [Bool.not_false, if_true, ba_self]
theorem refIn_eq (r : TRange) (k : ByteArray) : F_ref04_In r k = some (inR r k) := by
  unfold F_ref04_In inR; rw [leB_not]; cases lessB k r.From <;> cases eqB r.To ByteArray.empty <;> rfl
theorem keyIn_eq (r : TRange) (k : ByteArray) : F_key_In r k = some (inR r k) := by
  unfold F_key_In inR; cases leB r.From k <;> cases eqB r.To ByteArray.empty <;> rfl

/-! ### Which stands ahead -/
theorem cmp_eq (x y : ByteArray) : F_cmp_Compare x y = some (cmpS x y) := by
  unfold F_cmp_Compare F_cmp_isNaN cmpS
  simp only [eqB_self, Option.bind_some, Bool.not_true, Bool.false_eq_true, if_false]
  by_cases h : lessB x y = true
  · simp [h]
  · by_cases h2 : leB x y = true
    · have : eqB x y = true := by unfold leB at h2; simpa [h] using h2
      simp [h, h2, this]
    · have : eqB x y = false := by unfold leB at h2; simp [h] at h2; exact h2
      simp [h, h2, this]
def cmpZ (a b : Int) : Int := if a < b then -1 else if a > b then 1 else 0
theorem cmpZ_eq (a b : Int) : F_cmp_Compare_39 a b = some (cmpZ a b) := by
  unfold F_cmp_Compare_39 F_cmp_isNaN_46 cmpZ
  simp only [bne_self_eq_false, Option.bind_some, Bool.false_eq_true, if_false, decide_eq_true_eq]
  split
  · rfl
  · split <;> rfl
def cmpN (a b : Tsubidx_node) : Int := if cmpS a.Sub.R.From b.Sub.R.From != 0 then cmpS a.Sub.R.From b.Sub.R.From else cmpZ a.Sub.Id b.Sub.Id
theorem compare_eq (a b : Tsubidx_node) : F_subidx_compare a b = some (cmpN a b) := by
  unfold F_subidx_compare cmpN F_cmp_Or
  rw [cmp_eq, cmpZ_eq]
  simp only [Option.bind_some, F_cmp_Or_L1]
  split
  · rfl
  · split
    · rfl
    · rename_i h
      have : cmpZ a.Sub.Id b.Sub.Id = 0 := by simpa using h
      rw [this]; rfl
theorem cmpN_lt {a b : Tsubidx_node} : cmpN a b < 0 ↔ bef a.Sub b.Sub := by
  unfold cmpN bef
  by_cases h : cmpS a.Sub.R.From b.Sub.R.From = 0
  · have e := cmpS_eq.mp h
    rw [if_neg (by rw [h]; simp), e, less_irrefl]
    unfold cmpZ
    constructor
    · intro q
      refine .inr ⟨rfl, ?_⟩
      split at q
      · assumption
      · split at q <;> omega
    · rintro (q | ⟨_, q⟩)
      · cases q
      · rw [if_pos q]; omega
  · rw [if_pos (by simpa using h), cmpS_lt]
    constructor
    · intro q; exact .inl q
    · rintro (q | ⟨e, q⟩)
      · exact q
      · exact absurd (cmpS_eq.mpr e) h
def belN (xs : List Tsubidx_node) (own : Tsubidx_node) (i : Nat) : Bool := match xs[i]? with | some x => decide (cmpN x own < 0) | none => false
theorem bsC (m : List Tsubidx_node) (k : Tsubidx_node) (hm : m.length < 4611686018427387904) : ∀ (f i j : Nat), i ≤ j → j ≤ m.length → j - i < f →
    F_slices_BinarySearchFunc_subidx_compare_L1 m k f i j = some ((bs (belN m k) i j : Nat) : Int) := by
  intro f
  induction f with
  | zero => intro i j _ _ h; omega
  | succ f ih =>
    intro i j h1 h2 h3
    rw [F_slices_BinarySearchFunc_subidx_compare_L1, mid_eq' (by omega)]
    by_cases q : i < j
    · have hi : (i + j) / 2 < m.length := by omega
      rw [if_pos (by simpa using q), getI_nat, List.getElem?_eq_getElem hi]
      simp only [Option.bind_some, compare_eq]
      rw [bs_lt q]
      have hk : belN m k ((i + j) / 2) = decide (cmpN m[(i + j) / 2] k < 0) := by unfold belN; rw [List.getElem?_eq_getElem hi]
      rw [hk, wrap_id (by omega) (by omega)]
      split
      · exact ih ((i + j) / 2 + 1) j (by omega) h2 (by omega)
      · exact ih i ((i + j) / 2) (by omega) (by omega) (by omega)
    · rw [if_neg (by simpa using q), bs_ge q]
theorem bsC_eq {n : Nat} (m : List Tsubidx_node) (k : Tsubidx_node) (hm : m.length < 4611686018427387904) (hn : m.length < n) :
    ∃ b, F_slices_BinarySearchFunc_subidx_compare n m k = some (((bs (belN m k) 0 m.length : Nat) : Int), b) := by
  unfold F_slices_BinarySearchFunc_subidx_compare
  have h := bsC m k hm n 0 m.length (Nat.zero_le _) (Nat.le_refl _) (by omega)
  rw [show (0 : Int) = ((0 : Nat) : Int) from rfl, h]
  simp only [Option.bind_some]
  split
  · rename_i q
    have q : bs (belN m k) 0 m.length < m.length := by simpa using q
    rw [getI_nat, List.getElem?_eq_getElem q]
    simp only [Option.bind_some, compare_eq]
    exact ⟨_, rfl⟩
  · exact ⟨_, rfl⟩
/-- A sorted row, at the place where one more belongs. -/
theorem place {ns : List Tsubidx_node} {own : Tsubidx_node} (hs : (ns.map (·.Sub)).Pairwise bef) :
    ∃ A B, ns = A ++ B ∧ bs (belN ns own) 0 ns.length = A.length ∧ (∀ a ∈ A, bef a.Sub own.Sub) ∧ (∀ b ∈ B, ¬ bef b.Sub own.Sub) := by
  have hp : ∀ i j, i ≤ j → belN ns own j = true → belN ns own i = true := by
    intro i j hij h
    rcases Nat.eq_or_lt_of_le hij with e | e
    · subst e; exact h
    · unfold belN at h ⊢
      cases hb : ns[j]? with
      | none => rw [hb] at h; cases h
      | some y =>
        rw [hb] at h
        obtain ⟨hj, hy⟩ := List.getElem?_eq_some_iff.mp hb
        rw [List.getElem?_eq_getElem (show i < ns.length by omega)]
        dsimp only at h ⊢
        rw [decide_eq_true_iff] at h ⊢
        rw [cmpN_lt] at h ⊢
        rw [List.pairwise_map, List.pairwise_iff_getElem] at hs
        have := hs i j (by omega) hj e
        rw [hy] at this
        exact bef_trans this h
  obtain ⟨h1, h2⟩ := bs_spec hp ns.length 0 ns.length (by omega) (Nat.zero_le _) (fun q hq => absurd hq (Nat.not_lt_zero q)) (fun q hq => by unfold belN; rw [List.getElem?_eq_none hq])
  have hle := bs_le (p := belN ns own) ns.length 0 ns.length (by omega) (Nat.zero_le _)
  generalize bs (belN ns own) 0 ns.length = w at h1 h2 hle ⊢
  refine ⟨ns.take w, ns.drop w, (List.take_append_drop w ns).symm, by rw [List.length_take]; omega, fun a ha => ?_, fun b hb => ?_⟩
  · obtain ⟨i, hi⟩ := List.mem_iff_getElem?.mp ha
    rw [List.getElem?_take] at hi
    split at hi
    · rename_i q
      have := h1 i q
      unfold belN at this
      rw [hi] at this
      dsimp only at this
      rw [decide_eq_true_iff, cmpN_lt] at this
      exact this
    · cases hi
  · obtain ⟨i, hi⟩ := List.mem_iff_getElem?.mp hb
    rw [List.getElem?_drop] at hi
    have := h2 (w + i) (by omega)
    unfold belN at this
    rw [hi] at this
    dsimp only at this
    rw [decide_eq_false_iff_not, cmpN_lt] at this
    exact this

/-! ### The highest ends -/
def ub (x y : Tsubidx_node) : Prop := (x.Sub.R.To = ByteArray.empty → y.all = true) ∧ leB x.Sub.R.To y.top = true
def Tok (i : Nat) (ys : List Tsubidx_node) : Prop := ∀ a b x y, a ≤ b → b < i → ys[a]? = some x → ys[b]? = some y → ub x y
theorem Tok.le {i j : Nat} {ys : List Tsubidx_node} (h : Tok j ys) (hij : i ≤ j) : Tok i ys := fun a b x y h1 h2 => h a b x y h1 (by omega)
theorem Tok.app {A B C : List Tsubidx_node} (h : Tok A.length (A ++ B)) : Tok A.length (A ++ C) := by
  intro a b x y h1 h2 hx hy
  rw [List.getElem?_append_left (by omega)] at hx hy
  exact h a b x y h1 h2 (by rw [List.getElem?_append_left (by omega)]; exact hx) (by rw [List.getElem?_append_left (by omega)]; exact hy)
theorem getI_set {α : Type} {ys : List α} {i j : Nat} {v : α} (h : i ≠ j) : getI (setI ys (i : Int) v) (j : Int) = ys[j]? := by
  rw [getI_nat]; unfold setI; rw [Int.toNat_natCast, List.getElem?_set_ne h]
theorem set2 {α : Type} {ys : List α} {i : Nat} {v w : α} : setI (setI ys (i : Int) v) (i : Int) w = setI ys (i : Int) w := by
  unfold setI; rw [List.set_set]
theorem setN {α : Type} {ys : List α} {i : Nat} {v : α} : setI ys (i : Int) v = ys.set i v := by unfold setI; rw [Int.toNat_natCast]
theorem tops0 {f : Nat} {ys : List Tsubidx_node} {x : Tsubidx_node} (hx : ys[0]? = some x) :
    F_subidx_Index_tops_L1 (f + 1) ((0 : Nat) : Int) ys = F_subidx_Index_tops_L1 f ((0 + 1 : Nat) : Int) (ys.set 0 ⟨x.Sub, x.Sub.R.To, eqB x.Sub.R.To ByteArray.empty⟩) := by
  have hl := (List.getElem?_eq_some_iff.mp hx).1
  rw [F_subidx_Index_tops_L1, if_pos (by simp; omega), getI_nat, hx]
  simp only [Option.bind_some]
  rw [if_neg (by simp)]
  simp only [Option.bind_some, set2, setN, List.set_set]
  rw [show IntKind.i64.wrap (((0 : Nat) : Int) + 1) = ((0 + 1 : Nat) : Int) from by rw [wrap_id (by omega) (by omega)]; omega]
theorem topsS {f i : Nat} {ys : List Tsubidx_node} {x p : Tsubidx_node} (hx : ys[i + 1]? = some x) (hp : ys[i]? = some p) (hl : ys.length < 4611686018427387904) :
    F_subidx_Index_tops_L1 (f + 1) ((i + 1 : Nat) : Int) ys = F_subidx_Index_tops_L1 f ((i + 1 + 1 : Nat) : Int) (ys.set (i + 1) ⟨x.Sub, maxS x.Sub.R.To p.top, eqB x.Sub.R.To ByteArray.empty || p.all⟩) := by
  have hl' := (List.getElem?_eq_some_iff.mp hx).1
  have e1 : IntKind.i64.wrap (((i + 1 : Nat) : Int) - 1) = (i : Int) := by rw [wrap_id (by omega) (by omega)]; omega
  have e2 : IntKind.i64.wrap (((i + 1 : Nat) : Int) + 1) = ((i + 1 + 1 : Nat) : Int) := by rw [wrap_id (by omega) (by omega)]; omega
  rw [F_subidx_Index_tops_L1, if_pos (by simp; omega), getI_nat, hx]
  simp only [Option.bind_some]
  rw [if_pos (by simp), e1, e2]
  simp only [set2]
  rw [getI_set (by omega), hp]
  simp only [Option.bind_some]
  cases h : eqB x.Sub.R.To ByteArray.empty with
  | true => simp only [if_true, Option.bind_some, Bool.true_or, setN]
  | false => simp only [Bool.false_eq_true, if_false, Option.bind_some, Bool.false_or, setN]
theorem Tok.set {i : Nat} {ys : List Tsubidx_node} {v x : Tsubidx_node} (h : Tok i ys) (hx : ys[i]? = some x) (hv : v.Sub = x.Sub) (h0 : ub v v)
    (hp : ∀ a x, a < i → ys[a]? = some x → ub x v) : Tok (i + 1) (ys.set i v) := by
  intro a b x' y h1 h2 hx' hy
  have hl := (List.getElem?_eq_some_iff.mp hx).1
  rcases Nat.lt_or_ge b i with q | q
  · rw [List.getElem?_set_ne (by omega)] at hx' hy
    exact h a b x' y h1 q hx' hy
  · have : b = i := by omega
    subst this
    rw [List.getElem?_set_self hl] at hy
    cases hy
    rcases Nat.lt_or_ge a b with r | r
    · rw [List.getElem?_set_ne (by omega)] at hx'
      exact hp a x' r hx'
    · have : a = b := by omega
      subst this
      rw [List.getElem?_set_self hl] at hx'
      cases hx'
      exact h0
theorem map_set {i : Nat} {ys : List Tsubidx_node} {v x : Tsubidx_node} (hx : ys[i]? = some x) (hv : v.Sub = x.Sub) : (ys.set i v).map (·.Sub) = ys.map (·.Sub) := by
  rw [List.map_set, hv]
  apply List.ext_getElem?
  intro j
  rcases Nat.decEq i j with q | q
  · rw [List.getElem?_set_ne q]
  · subst q
    have hl := (List.getElem?_eq_some_iff.mp hx).1
    rw [List.getElem?_set_self (by simpa using hl), List.getElem?_map, hx]; rfl
theorem topsL : ∀ (f i : Nat) (ys : List Tsubidx_node), i ≤ ys.length → ys.length - i < f → ys.length < 4611686018427387904 → Tok i ys →
    ∃ zs, F_subidx_Index_tops_L1 f (i : Int) ys = some zs ∧ zs.map (·.Sub) = ys.map (·.Sub) ∧ Tok zs.length zs := by
  intro f
  induction f with
  | zero => intro i ys _ h; omega
  | succ f ih =>
    intro i ys h1 h2 h3 h4
    rcases Nat.lt_or_ge i ys.length with q | q
    · have hx := List.getElem?_eq_getElem q
      cases i with
      | zero =>
        rw [tops0 hx]
        obtain ⟨zs, z1, z2, z3⟩ := ih (0 + 1) (ys.set 0 ⟨ys[0].Sub, ys[0].Sub.R.To, eqB ys[0].Sub.R.To ByteArray.empty⟩) (by rw [List.length_set]; omega) (by rw [List.length_set]; omega) (by rw [List.length_set]; omega)
          (h4.set hx rfl ⟨fun e => eqB_iff.mpr e, leB_refl _⟩ (fun a x ha _ => by omega))
        exact ⟨zs, z1, z2.trans (map_set hx rfl), z3⟩
      | succ i =>
        have hp := List.getElem?_eq_getElem (show i < ys.length by omega)
        rw [topsS hx hp h3]
        obtain ⟨zs, z1, z2, z3⟩ := ih (i + 1 + 1) (ys.set (i + 1) ⟨ys[i + 1].Sub, maxS ys[i + 1].Sub.R.To ys[i].top, eqB ys[i + 1].Sub.R.To ByteArray.empty || ys[i].all⟩) (by rw [List.length_set]; omega) (by rw [List.length_set]; omega) (by rw [List.length_set]; omega)
          (h4.set hx rfl ⟨fun e => by dsimp only at e ⊢; rw [eqB_iff.mpr e]; rfl, maxS_l _ _⟩ (fun a x ha hx => by
            obtain ⟨u1, u2⟩ := h4 a i x ys[i] (by omega) (by omega) hx hp
            exact ⟨fun e => by dsimp only; rw [u1 e, Bool.or_true], leB_trans u2 (maxS_r _ _)⟩))
        exact ⟨zs, z1, z2.trans (map_set hx rfl), z3⟩
    · rw [F_subidx_Index_tops_L1, if_neg (by simp; omega)]
      exact ⟨ys, rfl, rfl, h4.le (by omega)⟩

/-! ### Where a watch is -/
theorem ofL (id : Int) : ∀ (l : List Tsubidx_node) (i : Nat), ((∀ x ∈ l, x.Sub.Id ≠ id) ∧ F_slices_IndexFunc_subidx_Index_of_1_L1 id l i = some (.go ())) ∨
    ∃ A x B, l = A ++ x :: B ∧ x.Sub.Id = id ∧ F_slices_IndexFunc_subidx_Index_of_1_L1 id l i = some (.out ((i + A.length : Nat) : Int)) := by
  intro l
  induction l with
  | nil => intro i; exact .inl ⟨fun x h => absurd h List.not_mem_nil, rfl⟩
  | cons z l ih =>
    intro i
    rw [F_slices_IndexFunc_subidx_Index_of_1_L1]
    simp only [F_subidx_Index_of_1, Option.bind_some]
    by_cases h : z.Sub.Id = id
    · rw [if_pos (by simpa using h)]
      exact .inr ⟨[], z, l, rfl, h, rfl⟩
    · rw [if_neg (by simpa using h)]
      rcases ih (i + 1) with ⟨h1, h2⟩ | ⟨A, x, B, h1, h2, h3⟩
      · refine .inl ⟨fun x hx => ?_, h2⟩
        rcases List.mem_cons.mp hx with e | hx
        · subst e; exact h
        · exact h1 x hx
      · refine .inr ⟨z :: A, x, B, by rw [h1]; rfl, h2, ?_⟩
        rw [h3, List.length_cons]
        congr 3; omega
theorem of_eq (id : Int) (ns : List Tsubidx_node) : ((∀ x ∈ ns, x.Sub.Id ≠ id) ∧ F_subidx_Index_of ⟨ns⟩ id = some (-1, ⟨ns⟩)) ∨
    ∃ A x B, ns = A ++ x :: B ∧ x.Sub.Id = id ∧ F_subidx_Index_of ⟨ns⟩ id = some (((A.length : Nat) : Int), ⟨ns⟩) := by
  unfold F_subidx_Index_of F_slices_IndexFunc_subidx_Index_of_1
  rcases ofL id ns 0 with ⟨h1, h2⟩ | ⟨A, x, B, h1, h2, h3⟩
  · exact .inl ⟨h1, by rw [h2]; rfl⟩
  · exact .inr ⟨A, x, B, h1, h2, by rw [h3, Nat.zero_add]; rfl⟩

/-! ### What an index is -/
structure Inx (ns : List Tsubidx_node) : Prop where
  so : (ns.map (·.Sub)).Pairwise bef
  di : (ns.map (·.Sub)).Pairwise (fun a b => a.Id ≠ b.Id)
  to : Tok ns.length ns
theorem Inx.nil : Inx [] := ⟨List.Pairwise.nil, List.Pairwise.nil, fun a b x y _ h => absurd h (Nat.not_lt_zero _)⟩
theorem tops_eq {n i : Nat} {ys : List Tsubidx_node} (h1 : i ≤ ys.length) (h2 : ys.length < n) (h3 : ys.length < 4611686018427387904) (h4 : Tok i ys) :
    ∃ zs, F_subidx_Index_tops n ⟨ys⟩ (i : Int) = some ⟨zs⟩ ∧ zs.map (·.Sub) = ys.map (·.Sub) ∧ Tok zs.length zs := by
  obtain ⟨zs, z1, z2, z3⟩ := topsL n i ys h1 (by omega) h3 h4
  refine ⟨zs, ?_, z2, z3⟩
  unfold F_subidx_Index_tops
  rw [z1]; rfl
theorem mem_sub {ns : List Tsubidx_node} {id : Int} : (∀ x ∈ ns, x.Sub.Id ≠ id) ↔ ∀ t ∈ ns.map (·.Sub), t.Id ≠ id := by
  simp
/-- Adding, told. -/
theorem add_eq {n : Nat} {ns : List Tsubidx_node} (s : Tsubidx_Sub) (hv : Inx ns) (hl : ns.length ≤ 1000) (hn : 1001 < n) :
    ∃ e ns', F_subidx_Index_Add n ⟨ns⟩ s = some (e, ⟨ns'⟩) ∧ Inx ns' ∧
      ((emptyR s.R = true ∧ e = 1 ∧ ns' = ns) ∨ (emptyR s.R = false ∧ (∃ t ∈ ns.map (·.Sub), t.Id = s.Id) ∧ e = 8 ∧ ns' = ns) ∨
       (emptyR s.R = false ∧ (∀ t ∈ ns.map (·.Sub), t.Id ≠ s.Id) ∧ e = 0 ∧ (∀ t, t ∈ ns'.map (·.Sub) ↔ t = s ∨ t ∈ ns.map (·.Sub)) ∧ ns'.length = ns.length + 1)) := by
  unfold F_subidx_Index_Add
  rw [keyEmpty_eq]
  simp only [Option.bind_some]
  cases he : emptyR s.R with
  | true => rw [if_pos rfl]; exact ⟨1, ns, rfl, hv, .inl ⟨by first | rfl | trivial, by first | rfl | trivial, by first | rfl | trivial⟩⟩
  | false =>
    rw [if_neg (by simp)]
    rcases of_eq s.Id ns with ⟨h1, h2⟩ | ⟨A, x, B, h1, h2, h3⟩
    · rw [h2]
      simp only [Option.bind_some]
      rw [if_neg (by simp)]
      obtain ⟨b, hb⟩ := bsC_eq (n := n) ns ⟨s, ByteArray.empty, false⟩ (by omega) (by omega)
      rw [hb]
      obtain ⟨A, B, e1, e2, e3, e4⟩ := place (own := ⟨s, ByteArray.empty, false⟩) hv.so
      rw [e2]
      simp only [Option.bind_some]
      have hins : insL 72 ns (A.length : Int) (⟨s, ByteArray.empty, false⟩ : Tsubidx_node) = some (A ++ ⟨s, ByteArray.empty, false⟩ :: B) := by
        unfold insL
        rw [if_pos ⟨by omega, by rw [e1, List.length_append]; omega, roomy_le (by omega) (by omega) (by omega)⟩, Int.toNat_natCast, e1, List.take_left, List.drop_left]
      rw [hins]
      simp only [Option.bind_some]
      have hle : ns.length = A.length + B.length := by rw [e1, List.length_append]
      obtain ⟨zs, z1, z2, z3⟩ := tops_eq (n := n) (i := A.length) (ys := A ++ ⟨s, ByteArray.empty, false⟩ :: B) (by rw [List.length_append]; omega) (by rw [List.length_append, List.length_cons]; omega) (by rw [List.length_append, List.length_cons]; omega)
        (Tok.app (B := B) (by rw [← e1]; exact hv.to.le (by omega)))
      rw [z1]
      refine ⟨0, zs, rfl, ⟨?_, ?_, z3⟩, .inr (.inr ⟨by first | rfl | trivial, mem_sub.mp h1, rfl, fun t => ?_, ?_⟩)⟩
      · rw [z2, List.map_append, List.map_cons, List.pairwise_append, List.pairwise_cons]
        have hso := hv.so
        rw [e1, List.map_append, List.pairwise_append] at hso
        refine ⟨hso.1, ⟨fun t ht => ?_, hso.2.1⟩, fun a ha b hb => ?_⟩
        · obtain ⟨y, hy, rfl⟩ := List.mem_map.mp ht
          exact bef_total (e4 y hy) (h1 y (by rw [e1]; exact List.mem_append_right _ hy))
        · rcases List.mem_cons.mp hb with q | q
          · subst q
            obtain ⟨y, hy, rfl⟩ := List.mem_map.mp ha
            exact e3 y hy
          · exact hso.2.2 a ha b q
      · rw [z2, List.map_append, List.map_cons, List.pairwise_append, List.pairwise_cons]
        have hso := hv.di
        have h1' := mem_sub.mp h1
        rw [e1, List.map_append] at h1'
        rw [e1, List.map_append, List.pairwise_append] at hso
        refine ⟨hso.1, ⟨fun t ht => (h1' t (List.mem_append_right _ ht)).symm, hso.2.1⟩, fun a ha b hb => ?_⟩
        rcases List.mem_cons.mp hb with q | q
        · subst q; exact h1' a (List.mem_append_left _ ha)
        · exact hso.2.2 a ha b q
      · rw [z2, e1, List.map_append, List.map_append, List.map_cons, List.mem_append, List.mem_append, List.mem_cons]
        constructor
        · rintro (q | q | q)
          · exact .inr (.inl q)
          · exact .inl q
          · exact .inr (.inr q)
        · rintro (q | q | q)
          · exact .inr (.inl q)
          · exact .inl q
          · exact .inr (.inr q)
      · have := congrArg List.length z2
        rw [List.length_map, List.length_map, List.length_append, List.length_cons] at this
        omega
    · rw [h3]
      simp only [Option.bind_some]
      rw [if_pos (by simp)]
      exact ⟨8, ns, rfl, hv, .inr (.inl ⟨by first | rfl | trivial, ⟨x.Sub, List.mem_map.mpr ⟨x, by rw [h1]; simp, rfl⟩, h2⟩, by first | rfl | trivial, by first | rfl | trivial⟩)⟩
/-- Going, told. -/
theorem del_eq {n : Nat} {ns : List Tsubidx_node} (id : Int) (hv : Inx ns) (hl : ns.length ≤ 1000) (hn : 1001 < n) :
    ∃ e ns', F_subidx_Index_Del n ⟨ns⟩ id = some (e, ⟨ns'⟩) ∧ Inx ns' ∧
      (((∀ t ∈ ns.map (·.Sub), t.Id ≠ id) ∧ e = 4 ∧ ns' = ns) ∨ ((∃ t ∈ ns.map (·.Sub), t.Id = id) ∧ e = 0 ∧ (∀ t, t ∈ ns'.map (·.Sub) ↔ t ∈ ns.map (·.Sub) ∧ t.Id ≠ id) ∧ ns'.length + 1 = ns.length)) := by
  unfold F_subidx_Index_Del
  rcases of_eq id ns with ⟨h1, h2⟩ | ⟨A, x, B, h1, h2, h3⟩
  · rw [h2]
    simp only [Option.bind_some]
    rw [if_pos (by simp)]
    exact ⟨4, ns, rfl, hv, .inl ⟨mem_sub.mp h1, rfl, rfl⟩⟩
  · rw [h3]
    simp only [Option.bind_some]
    rw [if_neg (by simp)]
    have hle : ns.length = A.length + (B.length + 1) := by rw [h1, List.length_append, List.length_cons]
    have hdel : delL ns (A.length : Int) (IntKind.i64.wrap ((A.length : Int) + 1)) = some (A ++ B) := by
      rw [wrap_id (by omega) (by omega)]
      unfold delL
      rw [if_pos ⟨by omega, by omega, by omega⟩, Int.toNat_natCast, show ((A.length : Int) + 1).toNat = A.length + 1 by omega, h1, List.take_left, List.drop_append]
      simp
    rw [hdel]
    simp only [Option.bind_some]
    obtain ⟨zs, z1, z2, z3⟩ := tops_eq (n := n) (i := A.length) (ys := A ++ B) (by rw [List.length_append]; omega) (by rw [List.length_append]; omega) (by rw [List.length_append]; omega)
      (Tok.app (B := x :: B) (by rw [← h1]; exact hv.to.le (by omega)))
    rw [z1]
    have hsub : List.Sublist ((A ++ B).map (·.Sub)) (ns.map (·.Sub)) := by
      rw [h1]; exact (List.Sublist.append (List.Sublist.refl _) (List.sublist_cons_self _ _)).map _
    refine ⟨0, zs, rfl, ⟨by rw [z2]; exact hv.so.sublist hsub, by rw [z2]; exact hv.di.sublist hsub, z3⟩, .inr ⟨⟨x.Sub, List.mem_map.mpr ⟨x, by rw [h1]; simp, rfl⟩, h2⟩, rfl, fun t => ?_, ?_⟩⟩
    · have hdi := hv.di
      rw [h1, List.map_append, List.map_cons, List.pairwise_append, List.pairwise_cons] at hdi
      rw [z2, h1, List.map_append, List.map_append, List.map_cons, List.mem_append, List.mem_append, List.mem_cons]
      constructor
      · rintro (q | q)
        · exact ⟨.inl q, fun e => hdi.2.2 t q x.Sub List.mem_cons_self (e.trans h2.symm)⟩
        · exact ⟨.inr (.inr q), fun e => hdi.2.1.1 t q (h2.trans e.symm)⟩
      · rintro ⟨q | q | q, r⟩
        · exact .inl q
        · subst q; exact absurd h2 r
        · exact .inr q
    · have := congrArg List.length z2
      rw [List.length_map, List.length_map, List.length_append] at this
      omega
end Go.Proofs.Ythgcmcifhhkebaa.V
