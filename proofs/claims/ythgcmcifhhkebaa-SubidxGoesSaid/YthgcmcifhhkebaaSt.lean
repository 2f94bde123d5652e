/- What an index of watches tells, and what the document does.
   No condition: these are laws of plain functions. -/
import Derived.Test.YthgcmcifhhkebaaSu
namespace Go.Proofs.Ythgcmcifhhkebaa.V
open Go
set_option linter.unusedVariables false
set_option linter.unusedSimpArgs false

def wantS (k : ByteArray) (rev : Int) (t : Tsubidx_Sub) : Bool := inR t.R k && decide (t.Rev < rev)
def belK (xs : List Tsubidx_node) (k : ByteArray) (i : Nat) : Bool := match xs[i]? with | some x => leB x.Sub.R.From k | none => false
theorem bsK (m : List Tsubidx_node) (k : ByteArray) (hm : m.length < 4611686018427387904) : ∀ (f i j : Nat), i ≤ j → j ≤ m.length → j - i < f →
    F_slices_BinarySearchFunc_28_subidx_Index_Stab_1_L1 m k f i j = some ((bs (belK m k) i j : Nat) : Int) := by
  intro f
  induction f with
  | zero => intro i j _ _ h; omega
  | succ f ih =>
    intro i j h1 h2 h3
    rw [F_slices_BinarySearchFunc_28_subidx_Index_Stab_1_L1, mid_eq' (by omega)]
    by_cases q : i < j
    · have hi : (i + j) / 2 < m.length := by omega
      rw [if_pos (by simpa using q), getI_nat, List.getElem?_eq_getElem hi]
      simp only [Option.bind_some, F_subidx_Index_Stab_1]
      rw [bs_lt q]
      have hk : belK m k ((i + j) / 2) = leB m[(i + j) / 2].Sub.R.From k := by unfold belK; rw [List.getElem?_eq_getElem hi]
      rw [hk, wrap_id (by omega) (by omega)]
      cases hc : leB m[(i + j) / 2].Sub.R.From k with
      | true =>
        simp only [if_true, Option.bind_some]
        exact ih ((i + j) / 2 + 1) j (by omega) h2 (by omega)
      | false =>
        simp only [Bool.false_eq_true, if_false, Option.bind_some]
        exact ih i ((i + j) / 2) (by omega) (by omega) (by omega)
    · rw [if_neg (by simpa using q), bs_ge q]
theorem bsK_eq {n : Nat} (m : List Tsubidx_node) (k : ByteArray) (hm : m.length < 4611686018427387904) (hn : m.length < n) :
    ∃ b, F_slices_BinarySearchFunc_28_subidx_Index_Stab_1 n m k = some (((bs (belK m k) 0 m.length : Nat) : Int), b) := by
  unfold F_slices_BinarySearchFunc_28_subidx_Index_Stab_1
  have h := bsK m k hm n 0 m.length (Nat.zero_le _) (Nat.le_refl _) (by omega)
  rw [show (0 : Int) = ((0 : Nat) : Int) from rfl, h]
  simp only [Option.bind_some]
  split
  · rename_i q
    have q : bs (belK m k) 0 m.length < m.length := by simpa using q
    rw [getI_nat, List.getElem?_eq_getElem q]
    simp only [Option.bind_some, F_subidx_Index_Stab_1]
    split <;> exact ⟨_, rfl⟩
  · exact ⟨_, rfl⟩
theorem stabL {ns : List Tsubidx_node} (k : ByteArray) (rev : Int) (ht : Tok ns.length ns) (hm : ns.length ≤ 1000) : ∀ (f i : Nat) (y : Int) (acc : List Int), y = (i : Int) - 1 → i ≤ ns.length → i < f → acc.length + i ≤ 2000 →
    F_subidx_Index_Stab_L1 ⟨ns⟩ k rev f acc y = some (acc ++ (((ns.take i).filter (fun x => wantS k rev x.Sub)).reverse.map (·.Sub.Id))) := by
  intro f
  induction f with
  | zero => intro i y acc _ _ h; omega
  | succ f ih =>
    intro i y acc hy h1 h2 h3
    cases i with
    | zero =>
      rw [F_subidx_Index_Stab_L1, if_neg (by simp; omega)]
      simp
    | succ i =>
      have ey : y = (i : Int) := by omega
      subst ey
      have hi : i < ns.length := by omega
      have hg := List.getElem?_eq_getElem hi
      rw [F_subidx_Index_Stab_L1, if_pos (by simp)]
      simp only [getI_nat, hg, Option.bind_some]
      rw [List.take_succ_eq_append_getElem hi, List.filter_append, List.reverse_append, List.map_append]
      by_cases hstop : ns[i].all = false ∧ leB ns[i].top k = true
      · rw [hstop.1, hstop.2]
        simp only [Bool.false_eq_true, if_false, Option.bind_some, Bool.not_true]
        have none_ : ∀ a x, a ≤ i → ns[a]? = some x → wantS k rev x.Sub = false := by
          intro a x ha hx
          obtain ⟨u1, u2⟩ := ht a i x ns[i] ha hi hx hg
          unfold wantS inR
          have e1 : eqB x.Sub.R.To ByteArray.empty = false := by
            rw [eqB_ne]; intro e; rw [u1 e] at hstop; cases hstop.1
          have e2 : lessB k x.Sub.R.To = false := by
            have := leB_trans u2 hstop.2
            rw [leB_not] at this; simpa using this
          rw [e1, e2]; simp
        have f1 : (ns.take i).filter (fun x => wantS k rev x.Sub) = [] := by
          rw [List.filter_eq_nil_iff]
          intro x hx
          obtain ⟨a, ha⟩ := List.mem_iff_getElem?.mp hx
          rw [List.getElem?_take] at ha
          split at ha
          · rw [none_ a x (by omega) ha]; simp
          · cases ha
        have f2 : [ns[i]].filter (fun x => wantS k rev x.Sub) = [] := by
          rw [List.filter_eq_nil_iff]
          intro x hx
          rw [List.mem_singleton] at hx
          subst hx
          rw [none_ i _ (Nat.le_refl _) hg]; simp
        rw [f1, f2]; simp
      · have hgo : (if ns[i].all = true then some (true, true) else some (false, !leB ns[i].top k)) = some (ns[i].all, true) := by
          cases h1 : ns[i].all with
          | true => rfl
          | false =>
            cases h2 : leB ns[i].top k with
            | true => exact absurd ⟨h1, h2⟩ hstop
            | false => rfl
        rw [hgo]
        simp only [Option.bind_some, if_true, keyIn_eq]
        have hw : (bif inR ns[i].Sub.R k then decide (ns[i].Sub.Rev < rev) else false) = wantS k rev ns[i].Sub := by unfold wantS; cases inR ns[i].Sub.R k <;> rfl
        rw [hw]
        have ew : IntKind.i64.wrap ((i : Int) - 1) = (i : Int) - 1 := wrap_id (by omega) (by omega)
        cases hc : wantS k rev ns[i].Sub with
        | true =>
          rw [if_pos rfl, appL_ok (by simp; omega) (by omega) (by omega)]
          simp only [Option.bind_some]
          rw [ih i _ _ ew (by omega) (by omega) (by rw [List.length_append]; simp; omega)]
          simp [hc]
        | false =>
          rw [if_neg (by simp)]
          simp only [Option.bind_some]
          rw [ih i _ _ ew (by omega) (by omega) (by omega)]
          simp [hc]
theorem nodup_ids {l : List Tsubidx_Sub} (h : l.Pairwise (fun a b => a.Id ≠ b.Id)) : (l.map (·.Id)).Nodup := by
  unfold List.Nodup; rw [List.pairwise_map]; exact h
theorem stab_eq {n : Nat} {ns : List Tsubidx_node} (k : ByteArray) (rev : Int) (hv : Inx ns) (hl : ns.length ≤ 1000) (hn : 1001 < n) :
    ∃ r, F_subidx_Index_Stab n ⟨ns⟩ k rev = some (r, ⟨ns⟩) ∧ r.Pairwise (· < ·) ∧ (∀ i, i ∈ r ↔ ∃ t ∈ ns.map (·.Sub), t.Id = i ∧ wantS k rev t = true) ∧
      r.length = ((ns.map (·.Sub)).filter (wantS k rev)).length := by
  have hp : ∀ i j, i ≤ j → belK ns k j = true → belK ns k i = true := by
    intro i j hij h
    rcases Nat.eq_or_lt_of_le hij with e | e
    · subst e; exact h
    · unfold belK at h ⊢
      cases hb : ns[j]? with
      | none => rw [hb] at h; cases h
      | some y =>
        rw [hb] at h
        obtain ⟨hj, hy⟩ := List.getElem?_eq_some_iff.mp hb
        rw [List.getElem?_eq_getElem (show i < ns.length by omega)]
        dsimp only at h ⊢
        have hs := hv.so
        rw [List.pairwise_map, List.pairwise_iff_getElem] at hs
        have := hs i j (by omega) hj e
        rw [hy] at this
        rcases this with q | ⟨q, _⟩
        · exact leB_trans (by unfold leB; rw [q]; rfl) h
        · rw [q]; exact h
  obtain ⟨h1, h2⟩ := bs_spec hp ns.length 0 ns.length (by omega) (Nat.zero_le _) (fun q hq => absurd hq (Nat.not_lt_zero q)) (fun q hq => by unfold belK; rw [List.getElem?_eq_none hq])
  have hle := bs_le (p := belK ns k) ns.length 0 ns.length (by omega) (Nat.zero_le _)
  obtain ⟨b, hb⟩ := bsK_eq (n := n) ns k (by omega) (by omega)
  unfold F_subidx_Index_Stab
  rw [hb]
  simp only [Option.bind_some]
  generalize bs (belK ns k) 0 ns.length = w at h1 h2 hle ⊢
  rw [wrap_id (by omega) (by omega), stabL k rev hv.to hl n w _ [] rfl hle (by omega) (by simp; omega), List.nil_append]
  simp only [Option.bind_some]
  have hdrop : (ns.drop w).filter (fun x => wantS k rev x.Sub) = [] := by
    rw [List.filter_eq_nil_iff]
    intro x hx
    obtain ⟨i, hi⟩ := List.mem_iff_getElem?.mp hx
    rw [List.getElem?_drop] at hi
    have := h2 (w + i) (by omega)
    unfold belK at this
    rw [hi] at this
    dsimp only at this
    unfold wantS inR
    rw [this]; simp
  have hfil : (ns.take w).filter (fun x => wantS k rev x.Sub) = ns.filter (fun x => wantS k rev x.Sub) := by
    conv => rhs; rw [← List.take_append_drop w ns]
    rw [List.filter_append, hdrop, List.append_nil]
  rw [hfil]
  have hids : (ns.filter (fun x => wantS k rev x.Sub)).map (·.Sub.Id) = ((ns.map (·.Sub)).filter (wantS k rev)).map (·.Id) := by
    rw [List.filter_map, List.map_map]; rfl
  rw [List.map_reverse, hids]
  generalize hL : ((ns.map (·.Sub)).filter (wantS k rev)) = L
  have hnd : (L.map (·.Id)).reverse.Nodup := by
    rw [(List.reverse_perm _).nodup_iff]
    exact nodup_ids (by rw [← hL]; exact hv.di.filter _)
  have hlen : L.length ≤ 1000 := by
    rw [← hL]; exact Nat.le_trans (List.length_filter_le _ _) (by rw [List.length_map]; exact hl)
  unfold sortZ
  rw [if_pos (by rw [List.length_reverse, List.length_map]; omega)]
  refine ⟨_, rfl, sortI_lt hnd, fun i => ?_, ?_⟩
  · rw [(sortI_perm _).mem_iff, List.mem_reverse, List.mem_map, ← hL]
    constructor
    · rintro ⟨t, ht, e⟩
      rw [List.mem_filter] at ht
      exact ⟨t, ht.1, e, ht.2⟩
    · rintro ⟨t, ht, e, hw⟩
      exact ⟨t, List.mem_filter.mpr ⟨ht, hw⟩, e⟩
  · rw [(sortI_perm _).length_eq, List.length_reverse, List.length_map]
theorem allL : ∀ (l : List Tsubidx_node) (i : Nat) (acc : List Tsubidx_Sub), acc.length + l.length ≤ 1000000 → F_subidx_Index_All_L1 l i acc = some (acc ++ l.map (·.Sub)) := by
  intro l
  induction l with
  | nil => intro i acc _; simp [F_subidx_Index_All_L1]
  | cons z l ih =>
    intro i acc h
    rw [List.length_cons] at h
    rw [F_subidx_Index_All_L1, appL_ok (by simp; omega) (by omega) (by omega)]
    simp only [Option.bind_some]
    rw [ih _ _ (by simp; omega)]; simp
theorem all_eq {ns : List Tsubidx_node} (hl : ns.length ≤ 1000) : F_subidx_Index_All ⟨ns⟩ = some (ns.map (·.Sub), ⟨ns⟩) := by
  unfold F_subidx_Index_All
  rw [allL _ _ _ (by simp; omega)]; rfl

/-! ### The document's answer -/
def lessR (a b : Timpostref11_Sub) : Bool := if (!eqB a.R.From b.R.From) = true then lessB a.R.From b.R.From else decide (a.Id < b.Id)
theorem less_eq (a b : Timpostref11_Sub) : F_ref11_less a b = some (lessR a b) := by unfold F_ref11_less lessR; split <;> rfl
theorem lessR_iff {a b : Timpostref11_Sub} : lessR a b = true ↔ bef (mk a) (mk b) := by
  unfold lessR bef mk
  cases h : eqB a.R.From b.R.From with
  | true =>
    have e := eqB_iff.mp h
    simp only [Bool.not_true, Bool.false_eq_true, if_false, decide_eq_true_eq]
    constructor
    · intro q; exact .inr ⟨e, q⟩
    · rintro (q | ⟨_, q⟩)
      · rw [e, less_irrefl] at q; cases q
      · exact q
  | false =>
    simp only [Bool.not_false, if_true]
    constructor
    · intro q; exact .inl q
    · rintro (q | ⟨e, _⟩)
      · exact q
      · exact absurd e (eqB_ne.mp h)
def insF (s : Timpostref11_Sub) : List Timpostref11_Sub → List Timpostref11_Sub
  | [] => [s]
  | z :: r => if lessR s z = true then s :: z :: r else z :: insF s r
theorem insF_mem {s t : Timpostref11_Sub} : ∀ l, t ∈ insF s l ↔ t = s ∨ t ∈ l := by
  intro l
  induction l with
  | nil => simp [insF]
  | cons z r ih =>
    unfold insF
    split
    · simp
    · rw [List.mem_cons, ih, List.mem_cons]
      constructor
      · rintro (q | q | q)
        · exact .inr (.inl q)
        · exact .inl q
        · exact .inr (.inr q)
      · rintro (q | q | q)
        · exact .inr (.inl q)
        · exact .inl q
        · exact .inr (.inr q)
theorem insF_so {s : Timpostref11_Sub} : ∀ l : List Timpostref11_Sub, (l.map mk).Pairwise bef → (∀ t ∈ l, t.Id ≠ s.Id) → ((insF s l).map mk).Pairwise bef := by
  intro l
  induction l with
  | nil => intro _ _; unfold insF; exact List.pairwise_singleton _ _
  | cons z r ih =>
    intro h hi
    have h' := h
    rw [List.map_cons, List.pairwise_cons] at h
    unfold insF
    split
    · rename_i q
      have q := lessR_iff.mp q
      rw [List.map_cons, List.pairwise_cons]
      refine ⟨fun t ht => ?_, h'⟩
      rw [List.map_cons, List.mem_cons] at ht
      rcases ht with e | ht
      · subst e; exact q
      · exact bef_trans q (h.1 t ht)
    · rename_i q
      have q : ¬ bef (mk s) (mk z) := fun r => q (lessR_iff.mpr r)
      rw [List.map_cons, List.pairwise_cons]
      refine ⟨fun t ht => ?_, ih h.2 (fun t ht => hi t (List.mem_cons_of_mem _ ht))⟩
      obtain ⟨u, hu, rfl⟩ := List.mem_map.mp ht
      rcases (insF_mem r).mp hu with e | hu
      · subst e; exact bef_total q (fun e => hi z List.mem_cons_self e.symm)
      · exact h.1 _ (List.mem_map.mpr ⟨u, hu, rfl⟩)
theorem addL (p0 : List Timpostref11_Sub) (s : Timpostref11_Sub) : ∀ (l : List Timpostref11_Sub) (i : Nat) (out : List Timpostref11_Sub) (dn : Bool), out.length + l.length + (if dn = true then 0 else 1) ≤ 1000000 →
    ((F_ref11_Add_L1 p0 s l i out dn).bind fun s4 => lpK s4 fun u4 => if (!u4.2) = true then ((appL 48 u4.1 ([s] : List Timpostref11_Sub)).bind fun x7 => some ((u4.1 ++ ([s] : List Timpostref11_Sub)), (0 : Int))) else (some (u4.1, 0))) =
      if l.any (fun t => t.Id == s.Id) = true then some (p0, 8) else some (out ++ (if dn = true then l else insF s l), 0) := by
  intro l
  induction l with
  | nil =>
    intro i out dn h
    rw [F_ref11_Add_L1]
    simp only [Option.bind_some, lpK, List.any_nil, Bool.false_eq_true, if_false]
    cases dn with
    | true => simp
    | false => simp only [Bool.not_false, if_true]; rw [appL_ok (by simp at h ⊢; omega) (by omega) (by omega)]; simp [insF]
  | cons z l ih =>
    intro i out dn h
    rw [List.length_cons] at h
    rw [F_ref11_Add_L1, List.any_cons]
    by_cases hz : (z.Id == s.Id) = true
    · rw [if_pos hz, hz]; simp [lpK]
    · rw [if_neg hz]
      rw [Bool.not_eq_true] at hz
      rw [hz, Bool.false_or]
      cases dn with
      | true =>
        simp only [Bool.not_true, Bool.false_eq_true, if_false, Option.bind_some]
        rw [appL_ok (by simp at h ⊢; omega) (by omega) (by omega)]
        simp only [Option.bind_some]
        rw [ih _ _ _ (by simp at h ⊢; omega)]
        simp
      | false =>
        simp only [Bool.not_false, if_true, less_eq, Option.bind_some]
        cases hq : lessR s z with
        | true =>
          simp only [if_true]
          rw [appL_ok (by simp at h ⊢; omega) (by omega) (by omega)]
          simp only [Option.bind_some]
          rw [appL_ok (by simp at h ⊢; omega) (by omega) (by omega)]
          simp only [Option.bind_some]
          rw [ih _ _ _ (by simp at h ⊢; omega)]
          simp [insF, hq]
        | false =>
          simp only [Bool.false_eq_true, if_false, Option.bind_some]
          rw [appL_ok (by simp at h ⊢; omega) (by omega) (by omega)]
          simp only [Option.bind_some]
          rw [ih _ _ _ (by simp at h ⊢; omega)]
          simp [insF, hq]
end Go.Proofs.Ythgcmcifhhkebaa.V
