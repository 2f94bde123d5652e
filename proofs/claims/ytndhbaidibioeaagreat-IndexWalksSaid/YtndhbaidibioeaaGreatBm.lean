/- The plain law of BstSeek.
   No condition: this is a law of plain functions. -/
import Derived.Test.YtndhbaidibioeaaGreatGj
import Derived.Test.YtndhbaidibioeaaGreatBl
namespace Go.Proofs.YtndhbaidibioeaaGreat.V
open Go
set_option linter.unusedVariables false
set_option linter.unusedSimpArgs false
set_option maxRecDepth 100000

section
variable {N N' : List Tbst_node} {t u : BT} {lb lb' : Tbst_node} {q : Nat} {s : Bool} {B A : List Tbst_node}
theorem Pos.sub (p : Pos N t lb q s B u A lb') : ∀ j ∈ u.ids, j ∈ t.ids := by
  induction p with
  | left => exact fun j hj => List.mem_cons_of_mem _ (List.mem_append_left _ hj)
  | right => exact fun j hj => List.mem_cons_of_mem _ (List.mem_append_right _ hj)
  | inl _ ih => exact fun j hj => List.mem_cons_of_mem _ (List.mem_append_left _ (ih j hj))
  | inr _ ih => exact fun j hj => List.mem_cons_of_mem _ (List.mem_append_right _ (ih j hj))
theorem Pos.low (p : Pos N t lb q s B u A lb') (o : Ord N t) : (∀ j ∈ u.ids, lessN (nk N j) lb' = false) ∨ lb' = lb := by
  induction p with
  | left => exact .inr rfl
  | right => exact .inl (fun j hj => o.2.1 j hj)
  | inl _ ih => exact ih o.2.2.1
  | inr p ih =>
    rcases ih o.2.2.2 with w | w
    · exact .inl w
    · refine .inl (fun j hj => ?_)
      rw [w]
      exact o.2.1 j (p.sub j hj)
end
theorem lessN0 {a b : Tbst_node} (ha : a.top = 0) (hb : b.top = 0) : lessN a b = lessB a.key b.key := by unfold lessN; simp [ha, hb]
abbrev kq (kb : ByteArray) : Tbst_node := ⟨kb, 0, 0, 0⟩
/-- Where a search for the first key from one on stands. -/
inductive Sk (N : List Tbst_node) (t : BT) (ks : List Tbst_node) (W : List ByteArray) (kb : ByteArray) : Obst_Call → Option Clo → Nat → Prop
  | word {C : Obst_Call} {s : Tbst_seen} {i : Nat} {a b : BT} {tn : Int} (h : Atk N (kq kb) t (-1) (.nd i a b) tn) (hp : s.parent = (i : Int)) (ht : s.turn = tn) : Sk N t ks W kb C (some (.c_down_1 s (kq kb) (.c_Seek_1_1 (kq kb)))) (2 * (a.inn + b.inn) + t.inn + 4)
  | child {C : Obst_Call} {s : Tbst_seen} {i : Nat} {a b : BT} {tn : Int} (h : Atk N (kq kb) t (-1) (.nd i a b) tn) (hp : s.parent = (i : Int)) (ht : s.turn = tn) : Sk N t ks W kb C (some (.c_down_1_1 s (kq kb) (.c_Seek_1_1 (kq kb)))) (2 * (a.inn + b.inn) + t.inn + 3)
  | least {C : Obst_Call} {q c : Nat} {x lb : Tbst_node} {s : Bool} {B A : List Tbst_node} {u : BT} (p : Pos N t (kq kb) q s B u A lb) (hl : lessN (kq kb) lb = true) (hB : ∀ y ∈ B, y.top = 0 → y.key ∈ W → lessB y.key kb = true) (hq : N[q]? = some x) (hc : x.cell = (c : Int)) :
      Sk N t ks W kb C (some (.c_least_1 ((c + dn s : Nat) : Int))) (u.inn + 1)
  | found {C : Obst_Call} {x : Tbst_node} (hx : x ∈ ks) (ho : C.told_Ok = true) (hk : C.told_Key = x.key) (hv : C.told_Val = x.val) (h1 : lessB x.key kb = false) (h2 : ∀ w ∈ W, lessB w kb = false → leB x.key w = true) : Sk N t ks W kb C none 0
  | none {C : Obst_Call} (ho : C.told_Ok = false) (h : ∀ w ∈ W, lessB w kb = true) : Sk N t ks W kb C none 0
theorem found_ok {rc : RC} {T : Obst_Tree} {M : Omem_Mem} {C : Obst_Call} {x : Tbst_node} : F_bst_Call_found rc T M C x = some (Option.none, T, M, ⟨true, x.key, x.val, C.told_Err⟩) := rfl
section
variable {T : Obst_Tree} {M : Omem_Mem} {l r : BT} {ks : List Tbst_node} {j n : Nat} {W : List ByteArray} {kb : ByteArray}
theorem BInv.tops (I : BInv T M l r ks j) {y : Tbst_node} (h : y ∈ lvs T.nodes (.nd 0 l r)) : (y ∈ ks ∧ y.top = 0) ∨ 0 < y.top := by
  obtain ⟨s1, e1, e2⟩ := I.lv
  rw [lvs, e1] at h
  simp only [List.mem_append, List.mem_singleton] at h
  rcases h with (w | w) | w
  · exact .inl ⟨w, I.kt y w⟩
  · rw [w, e2]; exact .inr (by omega)
  · rw [I.rv y w]; exact .inr (by omega)
theorem BInv.inl (I : BInv T M l r ks j) {y : Tbst_node} (h : y ∈ ks) : y ∈ lvs T.nodes (.nd 0 l r) := by
  obtain ⟨s1, e1, e2⟩ := I.lv
  rw [lvs, e1]
  simp [h]
/-- Atk the leaf: the first from the key on that is there. -/
theorem sk_end (I : BInv T M l r ks j) (hW : ∀ w ∈ W, ∃ y ∈ ks, y.key = w) {B A : List Tbst_node} {x : Tbst_node} (e : lvs T.nodes (.nd 0 l r) = B ++ x :: A) (hB : ∀ y ∈ B, y.top = 0 → y.key ∈ W → lessB y.key kb = true) (hx : x.top = 0) (hk : lessN x (kq kb) = false) {C : Obst_Call} (ho : C.told_Ok = true) (hc : C.told_Key = x.key) (hv : C.told_Val = x.val) :
    Sk T.nodes (.nd 0 l r) ks W kb C Option.none 0 := by
  have hxk : x ∈ ks := by
    rcases I.tops (y := x) (by rw [e]; simp) with w | w
    · exact w.1
    · omega
  refine .found hxk ho hc hv (by rw [lessN0 hx rfl] at hk; exact hk) (fun w hw hwk => ?_)
  obtain ⟨y, hy, rfl⟩ := hW w hw
  have y0 := I.kt y hy
  have so := lvs_sorted I.ord
  have hm := I.inl hy
  rw [e] at hm so
  rw [List.pairwise_append, List.pairwise_cons] at so
  rcases List.mem_append.mp hm with q | q
  · rw [hB y q y0 hw] at hwk; cases hwk
  · rcases List.mem_cons.mp q with q | q
    · rw [q]; exact leB_refl _
    · have := so.2.1.1 y q
      rw [lessN0 hx y0] at this
      unfold leB; rw [this]; rfl
theorem sk_none (I : BInv T M l r ks j) (hW : ∀ w ∈ W, ∃ y ∈ ks, y.key = w) {B A : List Tbst_node} {x : Tbst_node} (e : lvs T.nodes (.nd 0 l r) = B ++ x :: A) (hB : ∀ y ∈ B, y.top = 0 → y.key ∈ W → lessB y.key kb = true) (hx : x.top = 0 → lessN x (kq kb) = true) (hA : 0 < x.top ∨ A = []) {C : Obst_Call} (ho : C.told_Ok = false) :
    Sk T.nodes (.nd 0 l r) ks W kb C Option.none 0 := by
  refine .none ho (fun w hw => ?_)
  obtain ⟨y, hy, rfl⟩ := hW w hw
  have y0 := I.kt y hy
  have so := lvs_sorted I.ord
  have hm := I.inl hy
  rw [e] at hm so
  rw [List.pairwise_append, List.pairwise_cons] at so
  rcases List.mem_append.mp hm with q | q
  · exact hB y q y0 hw
  · rcases List.mem_cons.mp q with q | q
    · subst q
      have := hx y0
      rw [lessN0 y0 rfl] at this
      exact this
    · rcases hA with w | w
      · have := lessN_iff.mp (so.2.1.1 y q); omega
      · rw [w] at q; cases q
theorem sk_leaf {rc : RC} {s : Tbst_seen} {i : Nat} {tn : Int} {C : Obst_Call} (I : BInv T M l r ks j) (hW : ∀ w ∈ W, ∃ y ∈ ks, y.key = w) (a : Atk T.nodes (kq kb) (.nd 0 l r) (-1) (.lf i) tn) (hs : s.leaf = (i : Int)) (ht : s.turn = tn) :
    ∃ o C' m', F_bst_Tree_Seek_1_1 rc T M C s (kq kb) = some (o, T, M, C') ∧ Sk T.nodes (.nd 0 l r) ks W kb C' o m' ∧ m' ≤ (BT.nd 0 l r).inn + 1 := by
  obtain ⟨B, A, e, hB, h3⟩ := a.leaf (kq kb) I.ord
  obtain ⟨x, h1, h2⟩ := a.lay I.lay
  rw [nk_eq h1] at e h3
  have hB0 : ∀ y ∈ B, y.top = 0 → y.key ∈ W → lessB y.key kb = true := fun y hy h0 _ => by
    have := hB y hy
    rw [lessN0 h0 rfl] at this
    exact this
  unfold F_bst_Tree_Seek_1_1
  rw [hs, getI_nat, h1]
  simp only [Option.bind_some, less_ok]
  by_cases x0 : x.top = 0 ∧ lessN x (kq kb) = false
  · rw [if_pos (by rw [x0.1]; rfl), x0.2]
    simp only [Option.bind_some, Bool.not_false, if_true, found_ok]
    exact ⟨_, _, 0, rfl, sk_end I hW e hB0 x0.1 x0.2 rfl rfl rfl, by omega⟩
  · have hx : x.top = 0 → lessN x (kq kb) = true := fun q => by
      cases w : lessN x (kq kb) with
      | true => rfl
      | false => exact absurd ⟨q, w⟩ x0
    have : (if (x.top == 0) = true then some (!lessN x (kq kb)) else some false : Option Bool) = some false := by
      split
      · rename_i q
        rw [hx (by simpa using q)]; rfl
      · rfl
    rw [this]
    simp only [Option.bind_some, Bool.false_eq_true, if_false, tell_ok]
    rw [ht]
    rcases h3 with ⟨w1, w2⟩ | ⟨q, u, A', w1, w2, w3⟩
    · rw [if_pos (by rw [w1]; rfl)]
      exact ⟨_, _, 0, rfl, sk_none I hW e hB0 hx (.inr w2) rfl, by omega⟩
    · rw [if_neg (by rw [w1, decide_eq_true_iff]; omega), w1]
      obtain ⟨z, c, g1, g2, g3, g4, g5⟩ := w2.lay I.lay
      rw [show (2 : Int) = ((2 : Nat) : Int) from rfl, cell_ok g1 g2 (by omega)]
      simp only [Option.bind_some]
      refine ⟨_, _, u.inn + 1, rfl, Sk.least (s := false) w2 w3 (fun y hy h0 hw => ?_) g1 g2, by have := w2.inn; omega⟩
      rcases List.mem_append.mp hy with p | p
      · exact hB0 y p h0 hw
      · rw [List.mem_singleton] at p
        subst p
        have := hx h0
        rw [lessN0 h0 rfl] at this
        exact this
theorem sk_step {C : Obst_Call} {x : Clo} {m : Nat} (I : BInv T M l r ks j) (hj : j ≤ 1000) (hW : ∀ w ∈ W, ∃ y ∈ ks, y.key = w) (h : Sk T.nodes (.nd 0 l r) ks W kb C (some x) m) :
    ∃ o M' C' m', F_step (n + 2) T M C x .u = some (o, T, M', C') ∧ M'.cells = M.cells ∧ Sk T.nodes (.nd 0 l r) ks W kb C' o m' ∧ m' < m := by
  have b1 := I.b1
  generalize ho : (some x : Option Clo) = ox at h
  cases h with
  | @word s i a b tn h hp ht =>
    cases ho
    obtain ⟨y, c, w, h1, h2, h3, h4, h5, h6, h7, h8, h9, h10⟩ := h.lay I.lay
    exact ⟨_, _, _, _, step_word hp h1 h2 h3 h4, rfl, .child h hp ht, by omega⟩
  | @child s i a b tn h hp ht =>
    cases ho
    have La := h.lay I.lay
    obtain ⟨y, c, w, h1, h2, h3, h4, h5, h6, h7, h8, h9, h10⟩ := La
    obtain ⟨d1, d2⟩ := h.child
    have ey : nk T.nodes i = y := nk_eq h1
    rw [ey] at d1 d2
    obtain ⟨u, tn', hc, hu, hL, hA, hi⟩ : ∃ (u : BT) (tn' : Int), M.cells[c + (if lessN (kq kb) y = true then 1 else 2)]? = some ((u.root : Nat) : Int) ∧ (if lessN (kq kb) y = true then (i : Int) else s.turn) = tn' ∧ Lay T.nodes M.cells u ∧ Atk T.nodes (kq kb) (.nd 0 l r) (-1) u tn' ∧ u.inn ≤ a.inn + b.inn := by
      cases e : lessN (kq kb) y with
      | true => exact ⟨a, i, h7, rfl, h9, d1 e, by omega⟩
      | false => exact ⟨b, tn, h8, by simpa using ht, h10, d2 e, by omega⟩
    have hul : u.root < T.nodes.length := hL.lt _ u.root_mem
    rw [step_child (j := u.root) hp h1 h2 h3 (by omega) hc]
    cases u with
    | lf i2 =>
      obtain ⟨z, g1, g2⟩ := hL
      rw [down_lf (i := i2) rfl g1 g2]
      obtain ⟨o, C', m', q1, q2, q3⟩ := sk_leaf (rc := F_step n) (s := ⟨s.grand, s.parent, ((BT.lf i2).root : Int), s.grandWord, s.parentWord, if lessN (kq kb) y = true then (i : Int) else s.turn⟩) (C := C) (I.cells (M' := tick M) rfl) hW hA rfl hu
      exact ⟨o, _, C', m', q1, rfl, q2, by simp only [BT.inn] at q3 ⊢; omega⟩
    | nd i2 a2 b2 =>
      obtain ⟨z, c2, w2, g1, g2, _⟩ := hL
      rw [down_nd (i := i2) rfl g1 (by omega)]
      exact ⟨_, _, _, _, rfl, rfl, .word hA rfl hu, by simp only [BT.inn] at hi ⊢; omega⟩
  | @least q c y lb s B A u p hl hB hq hc =>
    cases ho
    obtain ⟨z, c', g1, g2, g3, g4, g5⟩ := p.lay I.lay
    rw [hq] at g1
    cases g1
    rw [hc] at g2
    obtain rfl : c = c' := by omega
    have hul : u.root < T.nodes.length := g5.lt _ u.root_mem
    show ∃ o M' C' m', F_bst_Tree_least_1 (F_step (n + 1)) T M C _ = _ ∧ _
    unfold F_bst_Tree_least_1
    rw [load_ok g4]
    simp only [Option.bind_some]
    cases u with
    | nd c2 a2 b2 =>
      obtain ⟨z, d, w2, k1, k2, k3, k4, k5, k6, k7, k8, k9, k10⟩ := g5
      rw [BT.root, getI_nat, k1]
      simp only [Option.bind_some, F_bst_node_leaf]
      rw [if_pos (by rw [k2]; simp), show IntKind.wrap .i64 ((c2 : Nat) : Int) = (c2 : Int) from wrap_id (by omega) (by simp only [BT.root] at hul; omega), show (1 : Int) = ((1 : Nat) : Int) from rfl]
      rw [cell_ok k1 k2 (by omega)]
      simp only [Option.bind_some]
      obtain ⟨A', p'⟩ := p.deep
      exact ⟨_, _, _, _, rfl, rfl, Sk.least (s := true) p' hl hB k1 k2, by simp only [BT.inn]; omega⟩
    | lf i2 =>
      obtain ⟨z, k1, k2⟩ := g5
      have e : lvs T.nodes (.nd 0 l r) = B ++ z :: A := by rw [p.lvs, lvs, nk_eq k1]; simp
      rw [BT.root, getI_nat, k1]
      simp only [Option.bind_some, F_bst_node_leaf]
      rw [if_neg (by rw [k2]; simp)]
      by_cases z0 : z.top > 0
      · rw [if_pos (by simpa using z0), tell_ok]
        exact ⟨_, _, _, _, rfl, rfl, sk_none I hW e hB (fun q => by omega) (.inl z0) rfl, by simp only [BT.inn]; omega⟩
      · rw [if_neg (by simpa using z0), found_ok]
        have zt : z.top = 0 := by
          rcases I.tops (y := z) (by rw [e]; simp) with w | w
          · exact w.2
          · omega
        have lz : lessN z (kq kb) = false := by
          rcases p.low I.ord with w | w
          · have := w i2 (BT.root_mem (.lf i2))
            rw [nk_eq k1] at this
            have := lessN_le hl this
            rw [lessN0 rfl zt] at this
            rw [lessN0 zt rfl]
            exact less_asymm this
          · rw [w, lessN_irrefl] at hl; cases hl
        exact ⟨_, _, _, _, rfl, rfl, sk_end I hW e hB zt lz rfl rfl rfl, by simp only [BT.inn]; omega⟩
  | found => cases ho
  | none => cases ho
theorem sk_Rs (I : BInv T M l r ks j) (hj : j ≤ 1000) (hW : ∀ w ∈ W, ∃ y ∈ ks, y.key = w) : ∀ (m : Nat) (M1 : Omem_Mem) (C : Obst_Call) (o : Option Clo), M1.cells = M.cells → Sk T.nodes (.nd 0 l r) ks W kb C o m →
    ∃ k M' C' , Rs (n + 2) k T M1 C o (T, M', C', Option.none) ∧ k ≤ m ∧ M'.cells = M.cells ∧ Sk T.nodes (.nd 0 l r) ks W kb C' Option.none 0 := by
  intro m
  induction m using Nat.strongRecOn with
  | ind m ih =>
    intro M1 C o hM h
    cases o with
    | none =>
      refine ⟨0, M1, C, .refl, by omega, hM, ?_⟩
      cases h with
      | found hx ho hk hv h1 h2 => exact .found hx ho hk hv h1 h2
      | none ho h => exact .none ho h
    | some x =>
      obtain ⟨o', M', C', m', h1, h2, h3, h4⟩ := sk_step (n := n) (I.cells (M' := M1) hM) hj hW h
      obtain ⟨k, M2, C2, q1, q2, q3, q4⟩ := ih m' h4 M' C' o' (h2.trans hM) h3
      exact ⟨k + 1, M2, C2, .step h1 q1, by omega, q3, q4⟩
end
end Go.Proofs.YtndhbaidibioeaaGreat.V
