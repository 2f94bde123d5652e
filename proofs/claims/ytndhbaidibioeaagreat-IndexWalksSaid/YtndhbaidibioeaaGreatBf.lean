/- Leaves in order; the tree's invariant.
   No condition: these are laws of plain functions. -/
import Derived.Test.YtndhbaidibioeaaGreatBe
namespace Go.Proofs.YtndhbaidibioeaaGreat.V
open Go
set_option linter.unusedVariables false
set_option linter.unusedSimpArgs false
set_option maxRecDepth 100000

def lvs (N : List Tbst_node) : BT → List Tbst_node
  | .lf i => [nk N i]
  | .nd _ l r => lvs N l ++ lvs N r
def NExt (N N' : List Tbst_node) : Prop := ∀ (i : Nat) (x : Tbst_node), N[i]? = some x → N'[i]? = some x
theorem NExt.nk {N N' : List Tbst_node} (e : NExt N N') {i : Nat} (h : i < N.length) : V.nk N' i = V.nk N i := by
  have h1 := List.getElem?_eq_getElem h
  rw [nk_eq h1, nk_eq (e _ _ h1)]
theorem NExt.app (N M : List Tbst_node) : NExt N (N ++ M) := fun i x h => by
  rw [List.getElem?_append_left (List.getElem?_eq_some_iff.mp h).1]; exact h
theorem lvs_mem {N : List Tbst_node} {x : Tbst_node} : ∀ {t : BT}, x ∈ lvs N t → ∃ j ∈ t.ids, nk N j = x
  | .lf i, h => ⟨i, List.mem_cons_self, by rw [lvs, List.mem_singleton] at h; exact h.symm⟩
  | .nd i l r, h => by
    rcases List.mem_append.mp h with q | q
    · obtain ⟨j, h1, h2⟩ := lvs_mem q; exact ⟨j, List.mem_cons_of_mem _ (List.mem_append_left _ h1), h2⟩
    · obtain ⟨j, h1, h2⟩ := lvs_mem q; exact ⟨j, List.mem_cons_of_mem _ (List.mem_append_right _ h1), h2⟩
theorem lvs_ext {N N' : List Tbst_node} (e : NExt N N') : ∀ {t : BT}, (∀ i ∈ t.ids, i < N.length) → lvs N' t = lvs N t
  | .lf i, h => by rw [lvs, lvs, e.nk (h i List.mem_cons_self)]
  | .nd i l r, h => by
    rw [lvs, lvs, lvs_ext e (fun j hj => h j (List.mem_cons_of_mem _ (List.mem_append_left _ hj))), lvs_ext e (fun j hj => h j (List.mem_cons_of_mem _ (List.mem_append_right _ hj)))]
theorem lvs_cell {N : List Tbst_node} {K : List Int} {x : Tbst_node} : ∀ {t : BT}, Lay N K t → x ∈ lvs N t → x.cell = -1
  | .lf i, ⟨y, h1, h2⟩, h => by rw [lvs, List.mem_singleton, nk_eq h1] at h; rw [h]; exact h2
  | .nd i l r, ⟨y, c, w, h1, h2, h3, h4, h5, h6, h7, h8, h9, h10⟩, h => by
    rcases List.mem_append.mp h with q | q
    · exact lvs_cell h9 q
    · exact lvs_cell h10 q
theorem leaf_lvs {N : List Tbst_node} {k : Tbst_node} : ∀ t : BT, nk N (leafOf N k t) ∈ lvs N t
  | .lf i => List.mem_singleton_self _
  | .nd i l r => by
    rw [leafOf, lvs]
    split
    · exact List.mem_append_left _ (leaf_lvs l)
    · exact List.mem_append_right _ (leaf_lvs r)
/-- Whoever is alike in the order is found. -/
theorem leaf_key {N : List Tbst_node} {k y : Tbst_node} (h1 : lessN k y = false) (h2 : lessN y k = false) : ∀ {t : BT}, Ord N t → y ∈ lvs N t → nk N (leafOf N k t) = y
  | .lf i, _, h => by rw [lvs, List.mem_singleton] at h; exact h.symm
  | .nd i l r, ⟨o1, o2, o3, o4⟩, h => by
    rw [leafOf, lessN_eq h1 h2]
    rcases List.mem_append.mp h with q | q
    · obtain ⟨j, hj, e⟩ := lvs_mem q
      have := o1 j hj
      rw [e] at this
      rw [if_pos this]
      exact leaf_key h1 h2 o3 q
    · obtain ⟨j, hj, e⟩ := lvs_mem q
      have := o2 j hj
      rw [e] at this
      rw [if_neg (by rw [this]; simp)]
      exact leaf_key h1 h2 o4 q
theorem lvs_sorted {N : List Tbst_node} : ∀ {t : BT}, Ord N t → (lvs N t).Pairwise (fun a b => lessN a b = true)
  | .lf i, _ => List.pairwise_singleton _ _
  | .nd i l r, ⟨o1, o2, o3, o4⟩ => by
    rw [lvs, List.pairwise_append]
    refine ⟨lvs_sorted o3, lvs_sorted o4, fun a ha b hb => ?_⟩
    obtain ⟨j, hj, e⟩ := lvs_mem ha
    obtain ⟨j2, hj2, e2⟩ := lvs_mem hb
    have h1 := o1 j hj
    have h2 := o2 j2 hj2
    rw [e] at h1; rw [e2] at h2
    exact lessN_le h1 h2
theorem lvs_upd {N N' : List Tbst_node} {k : Tbst_node} {f : BT} (e : NExt N N') : ∀ {t : BT}, (∀ i ∈ t.ids, i < N.length) → ∃ A B, lvs N t = A ++ nk N (leafOf N k t) :: B ∧ lvs N' (updT N k f t) = A ++ lvs N' f ++ B
  | .lf i, h => ⟨[], [], rfl, by simp [updT]⟩
  | .nd i l r, h => by
    have hl : ∀ j ∈ l.ids, j < N.length := fun j hj => h j (List.mem_cons_of_mem _ (List.mem_append_left _ hj))
    have hr : ∀ j ∈ r.ids, j < N.length := fun j hj => h j (List.mem_cons_of_mem _ (List.mem_append_right _ hj))
    rw [leafOf, updT]
    split
    · obtain ⟨A, B, h1, h2⟩ := lvs_upd (k := k) (f := f) e hl
      exact ⟨A, B ++ lvs N r, by rw [lvs, h1]; simp, by rw [lvs, h2, lvs_ext e hr]; simp⟩
    · obtain ⟨A, B, h1, h2⟩ := lvs_upd (k := k) (f := f) e hr
      exact ⟨lvs N l ++ A, B, by rw [lvs, h1]; simp, by rw [lvs, h2, lvs_ext e hl]; simp⟩
/-- Indexes of the changed trees. -/
theorem upd_ids {N : List Tbst_node} {k : Tbst_node} {f : BT} {j : Nat} : ∀ {t : BT}, j ∈ (updT N k f t).ids → j ∈ f.ids ∨ j ∈ t.ids
  | .lf i, h => .inl h
  | .nd i l r, h => by
    rw [updT] at h
    split at h
    · rcases List.mem_cons.mp h with q | q
      · exact .inr (q ▸ List.mem_cons_self)
      · rcases List.mem_append.mp q with q | q
        · rcases upd_ids q with q | q
          · exact .inl q
          · exact .inr (List.mem_cons_of_mem _ (List.mem_append_left _ q))
        · exact .inr (List.mem_cons_of_mem _ (List.mem_append_right _ q))
    · rcases List.mem_cons.mp h with q | q
      · exact .inr (q ▸ List.mem_cons_self)
      · rcases List.mem_append.mp q with q | q
        · exact .inr (List.mem_cons_of_mem _ (List.mem_append_left _ q))
        · rcases upd_ids q with q | q
          · exact .inl q
          · exact .inr (List.mem_cons_of_mem _ (List.mem_append_right _ q))
theorem upd_nodup {N : List Tbst_node} {k : Tbst_node} {f : BT} (hf : f.ids.Nodup) : ∀ {t : BT}, t.ids.Nodup → (∀ j ∈ f.ids, j ∉ t.ids) → (updT N k f t).ids.Nodup
  | .lf i, _, _ => hf
  | .nd i l r, h, hd => by
    unfold BT.ids at h
    rw [List.nodup_cons, List.nodup_append, List.mem_append, not_or] at h
    obtain ⟨⟨a1, a2⟩, b, c, d⟩ := h
    have d1 : ∀ j ∈ f.ids, j ∉ l.ids := fun j hj q => hd j hj (List.mem_cons_of_mem _ (List.mem_append_left _ q))
    have d2 : ∀ j ∈ f.ids, j ∉ r.ids := fun j hj q => hd j hj (List.mem_cons_of_mem _ (List.mem_append_right _ q))
    have d3 : i ∉ f.ids := fun q => hd i q List.mem_cons_self
    rw [updT]
    split
    · unfold BT.ids
      rw [List.nodup_cons, List.nodup_append, List.mem_append, not_or]
      refine ⟨⟨fun q => ?_, a2⟩, upd_nodup hf b d1, c, fun x hx y hy e => ?_⟩
      · rcases upd_ids q with q | q
        · exact d3 q
        · exact a1 q
      · subst e
        rcases upd_ids hx with q | q
        · exact d2 _ q hy
        · exact d _ q _ hy rfl
    · unfold BT.ids
      rw [List.nodup_cons, List.nodup_append, List.mem_append, not_or]
      refine ⟨⟨a1, fun q => ?_⟩, b, upd_nodup hf c d2, fun x hx y hy e => ?_⟩
      · rcases upd_ids q with q | q
        · exact d3 q
        · exact a2 q
      · subst e
        rcases upd_ids hy with q | q
        · exact d1 _ q hx
        · exact d _ hx _ q rfl
theorem upd_ord {N N' : List Tbst_node} {k : Tbst_node} {f : BT} (e : NExt N N') (of : Ord N' f) : ∀ {t : BT}, (∀ i ∈ t.ids, i < N.length) → Ord N t → (∀ (j : Nat), j ∈ f.ids → ∀ y : Tbst_node, lessN (nk N (leafOf N k t)) y = lessN k y → lessN (nk N' j) y = lessN k y) → Ord N' (updT N k f t)
  | .lf i, _, _, _ => of
  | .nd i l r, h, ⟨o1, o2, o3, o4⟩, hf => by
    have hl : ∀ j ∈ l.ids, j < N.length := fun j hj => h j (List.mem_cons_of_mem _ (List.mem_append_left _ hj))
    have hr : ∀ j ∈ r.ids, j < N.length := fun j hj => h j (List.mem_cons_of_mem _ (List.mem_append_right _ hj))
    have hi : nk N' i = nk N i := e.nk (h i List.mem_cons_self)
    have ol : ∀ j ∈ l.ids, lessN (nk N' j) (nk N' i) = true := fun j hj => by rw [hi, e.nk (hl j hj)]; exact o1 j hj
    have orr : ∀ j ∈ r.ids, lessN (nk N' j) (nk N' i) = false := fun j hj => by rw [hi, e.nk (hr j hj)]; exact o2 j hj
    have oext : ∀ {u : BT}, (∀ j ∈ u.ids, j < N.length) → Ord N u → Ord N' u := by
      intro u
      induction u with
      | lf _ => intro _ _; trivial
      | nd a b c ihb ihc =>
        intro hu ⟨p1, p2, p3, p4⟩
        have hb : ∀ j ∈ b.ids, j < N.length := fun j hj => hu j (List.mem_cons_of_mem _ (List.mem_append_left _ hj))
        have hc : ∀ j ∈ c.ids, j < N.length := fun j hj => hu j (List.mem_cons_of_mem _ (List.mem_append_right _ hj))
        have ha := e.nk (hu a List.mem_cons_self)
        exact ⟨fun j hj => by rw [ha, e.nk (hb j hj)]; exact p1 j hj, fun j hj => by rw [ha, e.nk (hc j hj)]; exact p2 j hj, ihb hb p3, ihc hc p4⟩
    rw [leafOf] at hf
    rw [updT]
    split
    · rename_i q
      rw [if_pos q] at hf
      refine ⟨fun j hj => ?_, orr, upd_ord e of hl o3 hf, oext hr o4⟩
      rcases upd_ids hj with w | w
      · rw [hi, hf j w (nk N i) ?_, q]
        rw [o1 _ (leafOf_mem l), q]
      · exact ol j w
    · rename_i q
      rw [if_neg q] at hf
      have q : lessN k (nk N i) = false := by simpa using q
      refine ⟨ol, fun j hj => ?_, oext hl o3, upd_ord e of hr o4 hf⟩
      rcases upd_ids hj with w | w
      · rw [hi, hf j w (nk N i) ?_, q]
        rw [o2 _ (leafOf_mem r), q]
      · exact orr j w
theorem upd_inn {N : List Tbst_node} {k : Tbst_node} {f : BT} : ∀ {t : BT}, (updT N k f t).inn = t.inn + f.inn
  | .lf i => by simp [updT, BT.inn]
  | .nd i l r => by
    rw [updT]
    split
    · simp only [BT.inn, upd_inn (t := l)]; omega
    · simp only [BT.inn, upd_inn (t := r)]; omega
end Go.Proofs.YtndhbaidibioeaaGreat.V
