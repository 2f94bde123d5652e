/- Where a search stands while others insert.
   No condition: these are laws of plain functions. -/
import Derived.Test.YtndhbaidibioeaaGreatGj
namespace Go.Proofs.YtndhbaidibioeaaGreat.V
open Go
set_option linter.unusedVariables false
set_option linter.unusedSimpArgs false
set_option maxRecDepth 100000

/-- Towards a key, at a subtree, with the last turn to the left. -/
inductive Atk (N : List Tbst_node) (k : Tbst_node) : BT → Int → BT → Int → Prop
  | here {u : BT} {t : Int} : Atk N k u t u t
  | inl {j : Nat} {l r u : BT} {t0 t : Int} (h : lessN k (nk N j) = true) (a : Atk N k l (j : Int) u t) : Atk N k (.nd j l r) t0 u t
  | inr {j : Nat} {l r u : BT} {t0 t : Int} (h : lessN k (nk N j) = false) (a : Atk N k r t0 u t) : Atk N k (.nd j l r) t0 u t
/-- A child's place: what leaves stand ahead of it, it, what behind it, and the last node from which it is to the right. -/
inductive Pos (N : List Tbst_node) : BT → Tbst_node → Nat → Bool → List Tbst_node → BT → List Tbst_node → Tbst_node → Prop
  | left {q : Nat} {l r : BT} {lb : Tbst_node} : Pos N (.nd q l r) lb q true [] l (lvs N r) lb
  | right {q : Nat} {l r : BT} {lb : Tbst_node} : Pos N (.nd q l r) lb q false (lvs N l) r [] (nk N q)
  | inl {j q : Nat} {s : Bool} {l r u : BT} {B A : List Tbst_node} {lb lb' : Tbst_node} (p : Pos N l lb q s B u A lb') : Pos N (.nd j l r) lb q s B u (A ++ lvs N r) lb'
  | inr {j q : Nat} {s : Bool} {l r u : BT} {B A : List Tbst_node} {lb lb' : Tbst_node} (p : Pos N r (nk N j) q s B u A lb') : Pos N (.nd j l r) lb q s (lvs N l ++ B) u A lb'
section
variable {N N' : List Tbst_node} {K : List Int} {k : Tbst_node}
theorem Atk.lay {t u : BT} {t0 tn : Int} (a : Atk N k t t0 u tn) (h : Lay N K t) : Lay N K u := by
  induction a with
  | here => exact h
  | inl _ _ ih => obtain ⟨x, c, w, h1, h2, h3, h4, h5, h6, h7, h8, h9, h10⟩ := h; exact ih h9
  | inr _ _ ih => obtain ⟨x, c, w, h1, h2, h3, h4, h5, h6, h7, h8, h9, h10⟩ := h; exact ih h10
theorem Atk.inn {t u : BT} {t0 tn : Int} (a : Atk N k t t0 u tn) : u.inn ≤ t.inn := by
  induction a with
  | here => exact Nat.le_refl _
  | inl _ _ ih => simp only [BT.inn]; omega
  | inr _ _ ih => simp only [BT.inn]; omega
theorem Atk.child {t l r : BT} {t0 tn : Int} {i : Nat} (a : Atk N k t t0 (.nd i l r) tn) : (lessN k (nk N i) = true → Atk N k t t0 l (i : Int)) ∧ (lessN k (nk N i) = false → Atk N k t t0 r tn) := by
  generalize hu : BT.nd i l r = u at a
  induction a with
  | here => subst hu; exact ⟨fun h => .inl h .here, fun h => .inr h .here⟩
  | inl h a ih => exact ⟨fun q => .inl h ((ih hu).1 q), fun q => .inl h ((ih hu).2 q)⟩
  | inr h a ih => exact ⟨fun q => .inr h ((ih hu).1 q), fun q => .inr h ((ih hu).2 q)⟩
theorem Atk.ext (e : NExt N N') {t u : BT} {t0 tn : Int} (a : Atk N k t t0 u tn) (h : ∀ i ∈ t.ids, i < N.length) : Atk N' k t t0 u tn := by
  induction a with
  | here => exact .here
  | inl q a ih => exact .inl (by rw [e.nk (h _ List.mem_cons_self)]; exact q) (ih (fun j hj => h j (List.mem_cons_of_mem _ (List.mem_append_left _ hj))))
  | inr q a ih => exact .inr (by rw [e.nk (h _ List.mem_cons_self)]; exact q) (ih (fun j hj => h j (List.mem_cons_of_mem _ (List.mem_append_right _ hj))))
/-- It stands where it stood, whatever is inserted. -/
theorem Atk.upd (e : NExt N N') {k' : Tbst_node} {f : BT} {t : BT} {t0 tn : Int} {i : Nat} {l r : BT} (a : Atk N k t t0 (.nd i l r) tn) (h : ∀ i ∈ t.ids, i < N.length) : ∃ l' r', Atk N' k (updT N k' f t) t0 (.nd i l' r') tn := by
  generalize hu : BT.nd i l r = u at a
  induction a with
  | here => subst hu; rw [updT]; split <;> exact ⟨_, _, .here⟩
  | @inl j a b u t0 tn q p ih =>
    have hl : ∀ i ∈ a.ids, i < N.length := fun j hj => h j (List.mem_cons_of_mem _ (List.mem_append_left _ hj))
    have q' : lessN k (nk N' j) = true := by rw [e.nk (h _ List.mem_cons_self)]; exact q
    rw [updT]
    split
    · obtain ⟨l', r', w⟩ := ih hl hu; exact ⟨l', r', .inl q' w⟩
    · subst hu; exact ⟨l, r, .inl q' (p.ext e hl)⟩
  | @inr j a b u t0 tn q p ih =>
    have hr : ∀ i ∈ b.ids, i < N.length := fun j hj => h j (List.mem_cons_of_mem _ (List.mem_append_right _ hj))
    have q' : lessN k (nk N' j) = false := by rw [e.nk (h _ List.mem_cons_self)]; exact q
    rw [updT]
    split
    · subst hu; exact ⟨l, r, .inr q' (p.ext e hr)⟩
    · obtain ⟨l', r', w⟩ := ih hr hu; exact ⟨l', r', .inr q' w⟩
theorem Pos.lay {t u : BT} {lb lb' : Tbst_node} {q : Nat} {s : Bool} {B A : List Tbst_node} (p : Pos N t lb q s B u A lb') (h : Lay N K t) : ∃ (x : Tbst_node) (c : Nat), N[q]? = some x ∧ x.cell = (c : Int) ∧ c < 1073741824 ∧ K[c + dn s]? = some ((u.root : Nat) : Int) ∧ Lay N K u := by
  induction p with
  | left => obtain ⟨x, c, w, h1, h2, h3, h4, h5, h6, h7, h8, h9, h10⟩ := h; exact ⟨x, c, h1, h2, h3, h7, h9⟩
  | right => obtain ⟨x, c, w, h1, h2, h3, h4, h5, h6, h7, h8, h9, h10⟩ := h; exact ⟨x, c, h1, h2, h3, h8, h10⟩
  | inl _ ih => obtain ⟨x, c, w, h1, h2, h3, h4, h5, h6, h7, h8, h9, h10⟩ := h; exact ih h9
  | inr _ ih => obtain ⟨x, c, w, h1, h2, h3, h4, h5, h6, h7, h8, h9, h10⟩ := h; exact ih h10
theorem Pos.lvs {t u : BT} {lb lb' : Tbst_node} {q : Nat} {s : Bool} {B A : List Tbst_node} (p : Pos N t lb q s B u A lb') : V.lvs N t = B ++ V.lvs N u ++ A := by
  induction p with
  | left => simp [V.lvs]
  | right => simp [V.lvs]
  | inl _ ih => rw [V.lvs, ih]; simp
  | inr _ ih => rw [V.lvs, ih]; simp
theorem Pos.inn {t u : BT} {lb lb' : Tbst_node} {q : Nat} {s : Bool} {B A : List Tbst_node} (p : Pos N t lb q s B u A lb') : u.inn ≤ t.inn := by
  induction p with
  | left => simp only [BT.inn]; omega
  | right => simp only [BT.inn]; omega
  | inl _ ih => simp only [BT.inn]; omega
  | inr _ ih => simp only [BT.inn]; omega
/-- Further to the left. -/
theorem Pos.deep {t a b : BT} {lb lb' : Tbst_node} {q c : Nat} {s : Bool} {B A : List Tbst_node} (p : Pos N t lb q s B (.nd c a b) A lb') : ∃ A', Pos N t lb c true B a A' lb' := by
  generalize hu : BT.nd c a b = u at p
  induction p with
  | left => subst hu; exact ⟨_, .inl .left⟩
  | @right q l r lb =>
    subst hu
    have := Pos.inr (N := N) (j := q) (l := l) (lb := lb) (Pos.left (N := N) (q := c) (l := a) (r := b) (lb := nk N q))
    rw [List.append_nil] at this
    exact ⟨_, this⟩
  | inl _ ih => obtain ⟨A', w⟩ := ih hu; exact ⟨_, .inl w⟩
  | inr _ ih => obtain ⟨A', w⟩ := ih hu; exact ⟨_, .inr w⟩
theorem Pos.ext (e : NExt N N') {t u : BT} {lb lb' : Tbst_node} {q : Nat} {s : Bool} {B A : List Tbst_node} (p : Pos N t lb q s B u A lb') (h : ∀ i ∈ t.ids, i < N.length) : Pos N' t lb q s B u A lb' := by
  induction p with
  | @left q l r lb =>
    rw [← lvs_ext e (t := r) (fun j hj => h j (List.mem_cons_of_mem _ (List.mem_append_right _ hj)))]; exact .left
  | @right q l r lb =>
    rw [← lvs_ext e (t := l) (fun j hj => h j (List.mem_cons_of_mem _ (List.mem_append_left _ hj))), ← e.nk (h _ List.mem_cons_self)]; exact .right
  | @inl j q s l r u B A lb lb' p ih =>
    rw [← lvs_ext e (t := r) (fun j hj => h j (List.mem_cons_of_mem _ (List.mem_append_right _ hj)))]
    exact .inl (ih (fun j hj => h j (List.mem_cons_of_mem _ (List.mem_append_left _ hj))))
  | @inr j q s l r u B A lb lb' p ih =>
    rw [← lvs_ext e (t := l) (fun j hj => h j (List.mem_cons_of_mem _ (List.mem_append_left _ hj)))]
    refine .inr ?_
    rw [e.nk (h _ List.mem_cons_self)]
    exact ih (fun j hj => h j (List.mem_cons_of_mem _ (List.mem_append_right _ hj)))
theorem upd_mem (e : NExt N N') {f : BT} {n y : Tbst_node} {t : BT} (h : ∀ i ∈ t.ids, i < N.length) (hf : ∀ y ∈ lvs N' f, y = nk N (leafOf N k t) ∨ y = n) (hy : y ∈ lvs N' (updT N k f t)) : y ∈ lvs N t ∨ y = n := by
  obtain ⟨A, B, h1, h2⟩ := lvs_upd (N' := N') (k := k) (f := f) e h
  rw [h2] at hy
  rw [h1]
  simp only [List.mem_append, List.mem_cons] at hy ⊢
  rcases hy with (w | w) | w
  · exact .inl (.inl w)
  · rcases hf y w with q | q
    · exact .inl (.inr (.inl q))
    · exact .inr q
  · exact .inl (.inr (.inr w))
/-- A place stays, whatever is inserted. -/
theorem Pos.upd (e : NExt N N') {f : BT} {n : Tbst_node} {t u : BT} {lb lb' : Tbst_node} {q : Nat} {s : Bool} {B A : List Tbst_node} (p : Pos N t lb q s B u A lb') (h : ∀ i ∈ t.ids, i < N.length) (hf : ∀ y ∈ V.lvs N' f, y = nk N (leafOf N k t) ∨ y = n) :
    ∃ B' u' A', Pos N' (updT N k f t) lb q s B' u' A' lb' ∧ ∀ y ∈ B', y ∈ B ∨ y = n := by
  induction p with
  | @left q l r lb =>
    rw [updT]
    split <;> exact ⟨_, _, _, .left, fun y hy => .inl hy⟩
  | @right q l r lb =>
    have hl : ∀ i ∈ l.ids, i < N.length := fun j hj => h j (List.mem_cons_of_mem _ (List.mem_append_left _ hj))
    have eq := e.nk (h q List.mem_cons_self)
    rw [updT]
    rw [leafOf] at hf
    rw [← eq]
    split
    · rename_i c
      rw [eq] at c
      rw [if_pos c] at hf
      exact ⟨_, _, _, .right, fun y hy => upd_mem e hl hf hy⟩
    · exact ⟨_, _, _, .right, fun y hy => by rw [lvs_ext e hl] at hy; exact .inl hy⟩
  | @inl j q s l r u B A lb lb' p ih =>
    have hl : ∀ i ∈ l.ids, i < N.length := fun j hj => h j (List.mem_cons_of_mem _ (List.mem_append_left _ hj))
    rw [updT]
    rw [leafOf] at hf
    split
    · rename_i c
      rw [if_pos c] at hf
      obtain ⟨B', u', A', w, w2⟩ := ih hl hf
      exact ⟨_, _, _, .inl w, w2⟩
    · exact ⟨_, _, _, .inl (p.ext e hl), fun y hy => .inl hy⟩
  | @inr j q s l r u B A lb lb' p ih =>
    have hl : ∀ i ∈ l.ids, i < N.length := fun j hj => h j (List.mem_cons_of_mem _ (List.mem_append_left _ hj))
    have hr : ∀ i ∈ r.ids, i < N.length := fun j hj => h j (List.mem_cons_of_mem _ (List.mem_append_right _ hj))
    have ej := e.nk (h j List.mem_cons_self)
    rw [updT]
    rw [leafOf] at hf
    split
    · rename_i c
      rw [if_pos c] at hf
      refine ⟨_, _, _, .inr (by rw [ej]; exact p.ext e hr), fun y hy => ?_⟩
      rcases List.mem_append.mp hy with w | w
      · rcases upd_mem e hl hf w with w | w
        · exact .inl (List.mem_append_left _ w)
        · exact .inr w
      · exact .inl (List.mem_append_right _ w)
    · rename_i c
      rw [if_neg c] at hf
      obtain ⟨B', u', A', w, w2⟩ := ih hr hf
      refine ⟨_, _, _, .inr (by rw [ej]; exact w), fun y hy => ?_⟩
      rcases List.mem_append.mp hy with w | w
      · rw [lvs_ext e hl] at w; exact .inl (List.mem_append_left _ w)
      · rcases w2 y w with w | w
        · exact .inl (List.mem_append_right _ w)
        · exact .inr w
/-- Atk the leaf: all ahead of it are below the key; and where the next one is. -/
theorem Atk.leaf {t : BT} {t0 tn : Int} {i : Nat} (lb : Tbst_node) (a : Atk N k t t0 (.lf i) tn) (o : Ord N t) : ∃ B A, lvs N t = B ++ nk N i :: A ∧ (∀ y ∈ B, lessN y k = true) ∧
    ((tn = t0 ∧ A = []) ∨ ∃ (q : Nat) (u : BT) (A' : List Tbst_node), tn = (q : Int) ∧ Pos N t lb q false (B ++ [nk N i]) u A' (nk N q) ∧ lessN k (nk N q) = true) := by
  generalize hu : BT.lf i = u at a
  induction a generalizing lb with
  | here => subst hu; exact ⟨[], [], rfl, fun _ h => absurd h List.not_mem_nil, .inl ⟨rfl, rfl⟩⟩
  | @inl j l r u t0 tn h a ih =>
    obtain ⟨B, A, h1, h2, h3⟩ := ih lb o.2.2.1 hu
    refine ⟨B, A ++ lvs N r, by rw [lvs, h1]; simp, h2, .inr ?_⟩
    rcases h3 with ⟨rfl, rfl⟩ | ⟨q, v, A', w1, w2, w3⟩
    · refine ⟨j, r, [], rfl, ?_, h⟩
      rw [← h1]
      exact .right
    · exact ⟨q, v, _, w1, .inl w2, w3⟩
  | @inr j l r u t0 tn h a ih =>
    obtain ⟨B, A, h1, h2, h3⟩ := ih (nk N j) o.2.2.2 hu
    refine ⟨lvs N l ++ B, A, by rw [lvs, h1]; simp, fun y hy => ?_, ?_⟩
    · rcases List.mem_append.mp hy with w | w
      · obtain ⟨m, hm, e⟩ := lvs_mem w
        have := o.1 m hm
        rw [e] at this
        exact lessN_le this h
      · exact h2 y w
    · rcases h3 with ⟨w1, w2⟩ | ⟨q, v, A', w1, w2, w3⟩
      · exact .inl ⟨w1, w2⟩
      · exact .inr ⟨q, v, _, w1, by rw [List.append_assoc]; exact .inr w2, w3⟩
end
end Go.Proofs.YtndhbaidibioeaaGreat.V
