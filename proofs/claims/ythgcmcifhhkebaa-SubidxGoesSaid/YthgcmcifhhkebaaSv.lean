/- The document's index, and deeds of both.
   No condition: these are laws of plain functions. -/
import Derived.Test.YthgcmcifhhkebaaSt
namespace Go.Proofs.Ythgcmcifhhkebaa.V
open Go
set_option linter.unusedVariables false
set_option linter.unusedSimpArgs false

theorem refAdd_eq {w : List Timpostref11_Sub} (s : Timpostref11_Sub) (so : (w.map mk).Pairwise bef) (hl : w.length ≤ 1000) :
    ∃ w' e, F_ref11_Add w s = some (w', e) ∧
      ((emptyR s.R = true ∧ e = 1 ∧ w' = w) ∨ (emptyR s.R = false ∧ (∃ t ∈ w.map mk, t.Id = s.Id) ∧ e = 8 ∧ w' = w) ∨
       (emptyR s.R = false ∧ (∀ t ∈ w.map mk, t.Id ≠ s.Id) ∧ e = 0 ∧ (w'.map mk).Pairwise bef ∧ (∀ t, t ∈ w'.map mk ↔ t = mk s ∨ t ∈ w.map mk))) := by
  unfold F_ref11_Add
  rw [refEmpty_eq]
  simp only [Option.bind_some]
  cases he : emptyR s.R with
  | true => rw [if_pos rfl]; exact ⟨w, 1, rfl, .inl ⟨by first | rfl | trivial, rfl, rfl⟩⟩
  | false =>
    rw [if_neg (by simp)]
    have h := addL w s w 0 [] false (by simp; omega)
    rw [h]
    split
    · rename_i q
      rw [List.any_eq_true] at q
      obtain ⟨t, ht, q⟩ := q
      exact ⟨w, 8, rfl, .inr (.inl ⟨by first | rfl | trivial, ⟨mk t, List.mem_map.mpr ⟨t, ht, rfl⟩, (by simpa using q : t.Id = s.Id)⟩, rfl, rfl⟩)⟩
    · rename_i q
      rw [Bool.not_eq_true, List.any_eq_false] at q
      have q' : ∀ t ∈ w, t.Id ≠ s.Id := fun t ht => by simpa using q t ht
      refine ⟨_, 0, rfl, .inr (.inr ⟨by first | rfl | trivial, fun t ht => ?_, rfl, ?_, fun t => ?_⟩)⟩
      · obtain ⟨u, hu, rfl⟩ := List.mem_map.mp ht
        exact q' u hu
      · simp only [Bool.false_eq_true, if_false, List.nil_append]
        exact insF_so w so q'
      · simp only [Bool.false_eq_true, if_false, List.nil_append, List.mem_map]
        constructor
        · rintro ⟨u, hu, rfl⟩
          rcases (insF_mem w).mp hu with e | hu
          · subst e; exact .inl rfl
          · exact .inr ⟨u, hu, rfl⟩
        · rintro (e | ⟨u, hu, rfl⟩)
          · exact ⟨s, (insF_mem w).mpr (.inl rfl), e.symm⟩
          · exact ⟨u, (insF_mem w).mpr (.inr hu), rfl⟩
theorem delL_eq (id : Int) : ∀ (l : List Timpostref11_Sub) (i : Nat) (out : List Timpostref11_Sub), out.length + l.length ≤ 1000000 → F_ref11_Del_L1 id l i out = some (out ++ l.filter (fun t => t.Id != id)) := by
  intro l
  induction l with
  | nil => intro i out _; simp [F_ref11_Del_L1]
  | cons z l ih =>
    intro i out h
    rw [List.length_cons] at h
    rw [F_ref11_Del_L1, List.filter_cons]
    cases hz : (z.Id != id) with
    | true =>
      rw [if_pos rfl, appL_ok (by simp; omega) (by omega) (by omega)]
      simp only [Option.bind_some]
      rw [ih _ _ (by simp; omega)]; simp
    | false =>
      rw [if_neg (by simp)]
      simp only [Option.bind_some]
      rw [ih _ _ (by omega)]; simp
theorem refDel_eq {w : List Timpostref11_Sub} (id : Int) (so : (w.map mk).Pairwise bef) (hl : w.length ≤ 1000) :
    ∃ w' e, F_ref11_Del w id = some (w', e) ∧
      (((∀ t ∈ w.map mk, t.Id ≠ id) ∧ e = 4 ∧ w' = w) ∨ ((∃ t ∈ w.map mk, t.Id = id) ∧ e = 0 ∧ (w'.map mk).Pairwise bef ∧ (∀ t, t ∈ w'.map mk ↔ t ∈ w.map mk ∧ t.Id ≠ id))) := by
  unfold F_ref11_Del
  rw [delL_eq _ _ _ _ (by simp; omega)]
  simp only [Option.bind_some, List.nil_append]
  by_cases h : ∀ t ∈ w, t.Id ≠ id
  · have e : w.filter (fun t => t.Id != id) = w := List.filter_eq_self.mpr (fun t ht => by simpa using h t ht)
    rw [e, if_pos (by simp)]
    exact ⟨w, 4, rfl, .inl ⟨fun t ht => by obtain ⟨u, hu, rfl⟩ := List.mem_map.mp ht; exact h u hu, rfl, rfl⟩⟩
  · have h' : ∃ t ∈ w, t.Id = id := by
      apply Classical.byContradiction
      intro q
      exact h (fun t ht e => q ⟨t, ht, e⟩)
    obtain ⟨t, ht, e⟩ := h'
    have hne : ¬ (w.filter (fun t => t.Id != id)).length = w.length := by
      intro q
      have := List.length_filter_eq_length_iff.mp q t ht
      rw [e] at this; simp at this
    rw [if_neg (by simp; omega)]
    refine ⟨_, 0, rfl, .inr ⟨⟨mk t, List.mem_map.mpr ⟨t, ht, rfl⟩, e⟩, rfl, so.sublist (List.Sublist.map _ List.filter_sublist), fun u => ?_⟩⟩
    simp only [List.mem_map, List.mem_filter]
    constructor
    · rintro ⟨v, ⟨hv, hd⟩, rfl⟩; exact ⟨⟨v, hv, rfl⟩, (by simpa using hd : ¬ v.Id = id)⟩
    · rintro ⟨⟨v, hv, rfl⟩, hd⟩; have hd' : ¬ v.Id = id := hd; exact ⟨v, ⟨hv, by simpa using hd'⟩, rfl⟩

/-! ### Stabs, as the document has them -/
theorem insZ (z : Timpostref11_Sub) : ∀ (l : List Int) (i : Nat), ∃ j b c d, F_ref11_Stab_L2 z l i = some (((i + (l.takeWhile (fun x => decide (x < z.Id))).length : Nat) : Int), j, b, c, d) := by
  intro l
  induction l with
  | nil => intro i; exact ⟨_, _, _, _, rfl⟩
  | cons x l ih =>
    intro i
    rw [F_ref11_Stab_L2, List.takeWhile_cons]
    cases h : decide (x < z.Id) with
    | true =>
      simp only [if_true]
      obtain ⟨j, b, c, d, e⟩ := ih (i + 1)
      rw [e, List.length_cons]
      exact ⟨j, b, c, d, by congr 3; omega⟩
    | false => simp only [Bool.false_eq_true, if_false]; exact ⟨_, _, _, _, rfl⟩
def insI (id : Int) (l : List Int) : List Int := l.takeWhile (fun x => decide (x < id)) ++ [id] ++ l.dropWhile (fun x => decide (x < id))
theorem insI_mem {id x : Int} {l : List Int} : x ∈ insI id l ↔ x = id ∨ x ∈ l := by
  unfold insI
  have : x ∈ l ↔ x ∈ l.takeWhile (fun x => decide (x < id)) ∨ x ∈ l.dropWhile (fun x => decide (x < id)) := by
    rw [← List.mem_append, List.takeWhile_append_dropWhile]
  rw [this, List.mem_append, List.mem_append, List.mem_singleton]
  constructor
  · rintro ((q | q) | q)
    · exact .inr (.inl q)
    · exact .inl q
    · exact .inr (.inr q)
  · rintro (q | q | q)
    · exact .inl (.inr q)
    · exact .inl (.inl q)
    · exact .inr q
theorem tw_all {p : Int → Bool} : ∀ {l : List Int} {x}, x ∈ l.takeWhile p → p x = true := by
  intro l
  induction l with
  | nil => intro x h; cases h
  | cons a l ih =>
    intro x h
    rw [List.takeWhile_cons] at h
    split at h
    · rcases List.mem_cons.mp h with e | h
      · subst e; assumption
      · exact ih h
    · cases h
theorem dw_ge {id : Int} : ∀ {l : List Int}, l.Pairwise (· < ·) → id ∉ l → ∀ x ∈ l.dropWhile (fun x => decide (x < id)), id < x := by
  intro l
  induction l with
  | nil => intro _ _ x h; cases h
  | cons a l ih =>
    intro hs hn x h
    rw [List.pairwise_cons] at hs
    rw [List.dropWhile_cons] at h
    split at h
    · exact ih hs.2 (fun q => hn (List.mem_cons_of_mem _ q)) x h
    · rename_i q
      have q : ¬ a < id := by simpa using q
      have hne : a ≠ id := fun e => hn (by rw [e]; exact List.mem_cons_self)
      rcases List.mem_cons.mp h with e | h
      · subst e; omega
      · have := hs.1 x h; omega
theorem insI_so {id : Int} {l : List Int} (hs : l.Pairwise (· < ·)) (hn : id ∉ l) : (insI id l).Pairwise (· < ·) := by
  unfold insI
  rw [List.append_assoc, List.singleton_append, List.pairwise_append, List.pairwise_cons]
  have hdw := dw_ge hs hn
  refine ⟨hs.sublist (List.takeWhile_sublist _), ⟨hdw, hs.sublist (List.dropWhile_sublist _)⟩, fun a ha b hb => ?_⟩
  have h1 : a < id := by simpa using tw_all ha
  rcases List.mem_cons.mp hb with e | hb
  · subst e; exact h1
  · have := hdw b hb; omega
theorem rstabL (k : ByteArray) (rev : Int) : ∀ (l : List Timpostref11_Sub) (i : Nat) (out : List Int), out.length + l.length ≤ 1000000 → out.Pairwise (· < ·) → l.Pairwise (fun a b => a.Id ≠ b.Id) → (∀ t ∈ l, t.Id ∉ out) →
    ∃ r, F_ref11_Stab_L1 k rev l i out = some r ∧ r.Pairwise (· < ·) ∧ ∀ x, x ∈ r ↔ x ∈ out ∨ ∃ t ∈ l, t.Id = x ∧ wantS k rev (mk t) = true := by
  intro l
  induction l with
  | nil => intro i out _ hs _ _; exact ⟨out, rfl, hs, fun x => by simp⟩
  | cons z l ih =>
    intro i out h hs hd hn
    rw [List.length_cons] at h
    rw [List.pairwise_cons] at hd
    have hnz := hn z List.mem_cons_self
    rw [F_ref11_Stab_L1, refIn_eq]
    simp only [Option.bind_some]
    have hb : (if (!inR z.R k) = true then some (true, true) else some (false, decide (z.Rev ≥ rev))) = some (!inR z.R k, !wantS k rev (mk z)) := by
      unfold wantS mk
      cases inR z.R k with
      | true =>
        have e : decide (z.Rev ≥ rev) = !decide (z.Rev < rev) := by
          by_cases q : z.Rev < rev
          · simp [q]
          · have : rev ≤ z.Rev := by omega
            simp [q, this]
        simp [e]
      | false => rfl
    rw [hb]
    simp only [Option.bind_some]
    cases hw : wantS k rev (mk z) with
    | false =>
      simp only [Bool.not_false, if_true, Option.bind_some]
      obtain ⟨r, r1, r2, r3⟩ := ih (i + 1) out (by omega) hs hd.2 (fun t ht => hn t (List.mem_cons_of_mem _ ht))
      refine ⟨r, r1, r2, fun x => ?_⟩
      rw [r3]
      constructor
      · rintro (q | ⟨t, ht, q⟩)
        · exact .inl q
        · exact .inr ⟨t, List.mem_cons_of_mem _ ht, q⟩
      · rintro (q | ⟨t, ht, q⟩)
        · exact .inl q
        · rcases List.mem_cons.mp ht with e | ht
          · subst e; rw [hw] at q; cases q.2
          · exact .inr ⟨t, ht, q⟩
    | true =>
      simp only [Bool.not_true, Bool.false_eq_true, if_false]
      obtain ⟨j, b, c, d, e⟩ := insZ z out 0
      rw [e]
      simp only [Option.bind_some, Nat.zero_add]
      have htl : (out.takeWhile (fun x => decide (x < z.Id))).length ≤ out.length := (List.takeWhile_sublist _).length_le
      have htw : out.take (out.takeWhile (fun x => decide (x < z.Id))).length = out.takeWhile (fun x => decide (x < z.Id)) := by
        conv => lhs; arg 2; rw [← List.takeWhile_append_dropWhile (p := fun x => decide (x < z.Id)) (l := out)]
        rw [List.take_left]
      have hdw : out.drop (out.takeWhile (fun x => decide (x < z.Id))).length = out.dropWhile (fun x => decide (x < z.Id)) := by
        conv => lhs; arg 2; rw [← List.takeWhile_append_dropWhile (p := fun x => decide (x < z.Id)) (l := out)]
        rw [List.drop_left]
      have s1 : subL0 out 0 (((out.takeWhile (fun x => decide (x < z.Id))).length : Nat) : Int) = some (out.takeWhile (fun x => decide (x < z.Id))) := by
        unfold subL0
        rw [if_pos ⟨by omega, by omega, by omega⟩]
        simp [htw]
      have s2 : subL0 out (((out.takeWhile (fun x => decide (x < z.Id))).length : Nat) : Int) (out.length : Int) = some (out.dropWhile (fun x => decide (x < z.Id))) := by
        unfold subL0
        rw [if_pos ⟨by omega, by omega, by omega⟩, Int.toNat_natCast, Int.toNat_natCast, hdw]
        rw [List.take_of_length_le]
        rw [← hdw, List.length_drop]; omega
      have hdl : (out.dropWhile (fun x => decide (x < z.Id))).length ≤ out.length := (List.dropWhile_sublist _).length_le
      rw [s1]
      simp only [Option.bind_some]
      rw [appL_ok (by simp; omega) (by omega) (by omega)]
      simp only [Option.bind_some]
      rw [appL_ok (by simp; omega) (by omega) (by omega)]
      simp only [Option.bind_some]
      rw [s2]
      simp only [Option.bind_some]
      have hlen : (out.takeWhile (fun x => decide (x < z.Id))).length + (out.dropWhile (fun x => decide (x < z.Id))).length = out.length := by
        rw [← List.length_append, List.takeWhile_append_dropWhile]
      rw [appL_ok (by simp; omega) (by omega) (by omega)]
      simp only [Option.bind_some, List.nil_append]
      obtain ⟨r, r1, r2, r3⟩ := ih (i + 1) (insI z.Id out) (by unfold insI; simp; omega) (insI_so hs hnz) hd.2 (fun t ht q => by
        rcases insI_mem.mp q with e | q
        · exact hd.1 t ht e.symm
        · exact hn t (List.mem_cons_of_mem _ ht) q)
      refine ⟨r, r1, r2, fun x => ?_⟩
      rw [r3, insI_mem]
      constructor
      · rintro ((q | q) | ⟨t, ht, q⟩)
        · exact .inr ⟨z, List.mem_cons_self, q.symm, hw⟩
        · exact .inl q
        · exact .inr ⟨t, List.mem_cons_of_mem _ ht, q⟩
      · rintro (q | ⟨t, ht, q⟩)
        · exact .inl (.inr q)
        · rcases List.mem_cons.mp ht with e | ht
          · subst e; exact .inl (.inl q.1.symm)
          · exact .inr ⟨t, ht, q⟩
theorem rstab_eq {w : List Timpostref11_Sub} (k : ByteArray) (rev : Int) (hd : (w.map mk).Pairwise (fun a b => a.Id ≠ b.Id)) (hl : w.length ≤ 1000) :
    ∃ r, F_ref11_Stab w k rev = some r ∧ r.Pairwise (· < ·) ∧ ∀ x, x ∈ r ↔ ∃ t ∈ w.map mk, t.Id = x ∧ wantS k rev t = true := by
  unfold F_ref11_Stab
  rw [List.pairwise_map] at hd
  obtain ⟨r, r1, r2, r3⟩ := rstabL k rev w 0 [] (by simp; omega) List.Pairwise.nil hd (fun t _ h => by cases h)
  rw [r1]
  refine ⟨r, rfl, r2, fun x => ?_⟩
  rw [r3]
  constructor
  · rintro (q | ⟨t, ht, q⟩)
    · cases q
    · exact ⟨mk t, List.mem_map.mpr ⟨t, ht, rfl⟩, q⟩
  · rintro ⟨t, ht, q⟩
    obtain ⟨u, hu, rfl⟩ := List.mem_map.mp ht
    exact .inr ⟨u, hu, q⟩
theorem intsL (p : List Int) : ∀ (l : List Int) (i : Nat), p.drop i = l → F_ref11_Ints_L1 p l i = some (.go ()) := by
  intro l
  induction l with
  | nil => intro i _; rfl
  | cons z l ih =>
    intro i h
    have h0 : p[i]? = some z := by
      have : (p.drop i)[0]? = some z := by rw [h]; rfl
      rw [List.getElem?_drop] at this; exact this
    have h1 : p.drop (i + 1) = l := by rw [← List.drop_drop, h]; rfl
    rw [F_ref11_Ints_L1, getI_nat, h0]
    simp only [Option.bind_some, bne_self_eq_false, Bool.false_eq_true, if_false]
    exact ih (i + 1) h1
theorem ints_eq (p : List Int) : F_ref11_Ints p p = some true := by
  unfold F_ref11_Ints
  rw [if_neg (by simp), intsL p p 0 rfl]; rfl

/-! ### Deeds, of both -/
theorem id_mk (s : Timpostref11_Sub) : (mk s).Id = s.Id := rfl
theorem do_eq {n : Nat} {ns : List Tsubidx_node} {w : List Timpostref11_Sub} (d : Timpostlaw11_Deed) (hv : Inx ns) (hr : ns.map (·.Sub) = w.map mk) (hl : ns.length ≤ 1000) (hn : 1001 < n) :
    ∃ w' ns', F_law11_do n ⟨ns⟩ w d = some (w', true, ⟨ns'⟩) ∧ Inx ns' ∧ ns'.map (·.Sub) = w'.map mk ∧ ns'.length ≤ ns.length + 1 := by
  have hlw : w.length = ns.length := by have := congrArg List.length hr; rw [List.length_map, List.length_map] at this; exact this.symm
  have sw : (w.map mk).Pairwise bef := by rw [← hr]; exact hv.so
  unfold F_law11_do
  by_cases hk : (d.Kind == 1) = true
  · rw [if_pos hk, made_eq]
    simp only [Option.bind_some]
    obtain ⟨e, ns', h1, h2, h3⟩ := add_eq (n := n) (mk d.S) hv hl hn
    obtain ⟨w', f, g1, g3⟩ := refAdd_eq d.S sw (by omega)
    rw [h1, g1]
    simp only [Option.bind_some]
    rw [hr] at h3
    rcases h3 with ⟨a1, a2, a3⟩ | ⟨a1, a2, a3, a4⟩ | ⟨a1, a2, a3, a4, a5⟩
    · rcases g3 with ⟨b1, b2, b3⟩ | ⟨b1, b2, b3, b4⟩ | ⟨b1, b2, b3, b4, b5⟩
      · subst a2 a3 b2 b3; exact ⟨_, _, rfl, h2, hr, by omega⟩
      · have : emptyR d.S.R = true := a1
        rw [this] at b1; cases b1
      · have : emptyR d.S.R = true := a1
        rw [this] at b1; cases b1
    · rcases g3 with ⟨b1, b2, b3⟩ | ⟨b1, b2, b3, b4⟩ | ⟨b1, b2, b3, b4, b5⟩
      · have : emptyR d.S.R = false := a1
        rw [this] at b1; cases b1
      · subst a3 a4 b3 b4; exact ⟨_, _, rfl, h2, hr, by omega⟩
      · obtain ⟨t, ht, e⟩ := a2
        exact absurd e (b2 t ht)
    · rcases g3 with ⟨b1, b2, b3⟩ | ⟨b1, b2, b3, b4⟩ | ⟨b1, b2, b3, b4, b5⟩
      · have : emptyR d.S.R = false := a1
        rw [this] at b1; cases b1
      · obtain ⟨t, ht, e⟩ := b2
        exact absurd e (a2 t ht)
      · subst a3 b3
        refine ⟨_, _, rfl, h2, ?_, by omega⟩
        exact sorted_ext bef_irr bef_asym h2.so b4 (fun t => by rw [a4, b5])
  · rw [if_neg hk]
    obtain ⟨e, ns', h1, h2, h3⟩ := del_eq (n := n) d.S.Id hv hl hn
    obtain ⟨w', f, g1, g3⟩ := refDel_eq d.S.Id sw (by omega)
    rw [h1, g1]
    simp only [Option.bind_some]
    rw [hr] at h3
    rcases h3 with ⟨a1, a2, a3⟩ | ⟨a1, a2, a3, a4⟩
    · rcases g3 with ⟨b1, b2, b3⟩ | ⟨b1, b2, b3, b4⟩
      · subst a2 a3 b2 b3; exact ⟨_, _, rfl, h2, hr, by omega⟩
      · obtain ⟨t, ht, e⟩ := b1
        exact absurd e (a1 t ht)
    · rcases g3 with ⟨b1, b2, b3⟩ | ⟨b1, b2, b3, b4⟩
      · obtain ⟨t, ht, e⟩ := a1
        exact absurd e (b1 t ht)
      · subst a2 b2
        refine ⟨_, _, rfl, h2, ?_, by omega⟩
        exact sorted_ext bef_irr bef_asym h2.so b3 (fun t => by rw [a3, b4])
theorem ranL {n : Nat} (hn : 1001 < n) : ∀ (l : List Timpostlaw11_Deed) (i : Nat) (w : List Timpostref11_Sub) (ns : List Tsubidx_node), Inx ns → ns.map (·.Sub) = w.map mk → ns.length ≤ i → i ≤ 60 →
    ∃ ns', F_law11_ran_L1 n l i w ns = some ns' ∧ Inx ns' ∧ ns'.length ≤ 60 := by
  intro l
  induction l with
  | nil => intro i w ns hv _ h1 h2; exact ⟨ns, rfl, hv, by omega⟩
  | cons d l ih =>
    intro i w ns hv hr h1 h2
    rw [F_law11_ran_L1]
    split
    · rename_i q
      have q : (i : Int) < 60 := by simpa using q
      obtain ⟨w', ns', g1, g2, g3, g4⟩ := do_eq (n := n) d hv hr (by omega) hn
      rw [g1]
      simp only [Option.bind_some]
      exact ih (i + 1) w' ns' g2 g3 (by omega) (by omega)
    · exact ⟨ns, rfl, hv, by omega⟩
theorem ran_eq {n : Nat} (hn : 1001 < n) (l : List Timpostlaw11_Deed) : ∃ ns, F_law11_ran n l = some ⟨ns⟩ ∧ Inx ns ∧ ns.length ≤ 60 := by
  unfold F_law11_ran F_subidx_New
  simp only [Option.bind_some]
  obtain ⟨ns, h1, h2, h3⟩ := ranL hn l 0 [] [] Inx.nil rfl (by simp) (by omega)
  rw [h1]
  exact ⟨ns, rfl, h2, h3⟩
theorem eqSub_self (x : Tsubidx_Sub) : eq_Tsubidx_Sub x x = true := by unfold eq_Tsubidx_Sub; simp
end Go.Proofs.Ythgcmcifhhkebaa.V
