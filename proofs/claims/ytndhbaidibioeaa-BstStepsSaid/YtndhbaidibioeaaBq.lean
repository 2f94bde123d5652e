/- Whoever steps: a step asks one cell at most.
   No condition: these are laws of plain functions. -/
import Derived.Test.YtndhbaidibioeaaBp
namespace Go.Proofs.Ytndhbaidibioeaa.V
open Go
set_option linter.unusedVariables false
set_option linter.unusedSimpArgs false
set_option maxRecDepth 100000

def Cnt (M M' : Omem_Mem) : Prop := M'.count = M.count ∨ M'.count = IntKind.i64.wrap (M.count + 1)
def Gs (fu : Prop) (r : Option Rsl) (T : Obst_Tree) (M : Omem_Mem) (j d : Nat) : Prop :=
  (∃ o T' M' C', r = some (o, T', M', C') ∧ TE T T' ∧ SI T' M' (j + 1) ∧ Cnt M M' ∧ ∀ x, o = some x → Sti T' x ∧ dep x ≤ d) ∨ (r = none ∧ fu)
theorem Gd.gs {fu fu' : Prop} {r : Option Rsl} {T : Obst_Tree} {M M' : Omem_Mem} {j d d' : Nat} (h : Gd fu r T M' j d) (hc : Cnt M M') (hf : fu → fu') (hd : d ≤ d') : Gs fu' r T M j d' := by
  rcases h with ⟨o, T', M2, C', a, b, c, e, f⟩ | ⟨a, b⟩
  · refine .inl ⟨o, T', M2, C', a, b, c, ?_, fun x hx => ⟨(f x hx).1, by have := (f x hx).2; omega⟩⟩
    unfold Cnt at hc ⊢
    rw [e]; exact hc
  · exact .inr ⟨a, hf b⟩
section
variable {n j : Nat} {T : Obst_Tree} {M : Omem_Mem} {C : Obst_Call} {fu : Prop}
theorem load_any (I : SI T M j) (a : Nat) : ∃ v e M', F_mem_Mem_Load M (a : Int) = some (v, e, M') ∧ SI T M' j ∧ Cnt M M' ∧ (a % 3 = 0 → Wrd T v) ∧ (a % 3 ≠ 0 → Ndx T v) := by
  cases h : M.cells[a]? with
  | some v => exact ⟨v, 0, tick M, load_ok h, I.cong rfl, .inr rfl, I.cells a v h⟩
  | none => exact ⟨0, 1, M, by unfold F_mem_Mem_Load; rw [getI_nat, h], I, .inl rfl, fun _ => I.zero, fun _ => I.root.ndx⟩
theorem SI.set (I : SI T M j) {a : Nat} {x : Int} (h1 : a % 3 = 0 → Wrd T x) (h2 : a % 3 ≠ 0 → Ndx T x) : SI T (setc M a x) j := by
  refine ⟨fun y hy => ?_, I.root, I.one, fun b w hb => ?_, by simp only [setc, List.length_set]; exact I.len, I.infos, I.b1, I.b2⟩
  · rcases I.nodes y hy with r | ⟨c, r, r2⟩
    · exact .inl r
    · exact .inr ⟨c, r, by simp only [setc, List.length_set]; exact r2⟩
  · simp only [setc] at hb
    by_cases q : a = b
    · subst q
      have hl : a < M.cells.length := by
        have := (List.getElem?_eq_some_iff.mp hb).1
        simpa using this
      rw [gs_eq hl] at hb
      cases hb
      exact ⟨h1, h2⟩
    · rw [gs_ne q] at hb
      exact I.cells b w hb
theorem cas_any (I : SI T M j) (a : Nat) (o : Int) {x : Int} (h1 : a % 3 = 0 → Wrd T x) (h2 : a % 3 ≠ 0 → Ndx T x) : ∃ v b M', F_mem_Mem_CAS M (a : Int) o x = some (v, b, M') ∧ SI T M' j ∧ Cnt M M' ∧ (a % 3 = 0 → Wrd T v) := by
  cases h : M.cells[a]? with
  | some v =>
    by_cases e : v = o
    · subst e; exact ⟨v, true, _, cas_ok h, I.set h1 h2, .inr rfl, (I.cells a v h).1⟩
    · exact ⟨v, false, _, cas_no h e, I.cong rfl, .inr rfl, (I.cells a v h).1⟩
  | none => exact ⟨0, false, M, by unfold F_mem_Mem_CAS; rw [getI_nat, h], I, .inl rfl, fun _ => I.zero⟩
theorem store_any (I : SI T M j) (a : Nat) {x : Int} (h1 : a % 3 = 0 → Wrd T x) (h2 : a % 3 ≠ 0 → Ndx T x) : ∃ e M', F_mem_Mem_Store M (a : Int) x = some (e, M') ∧ SI T M' j ∧ Cnt M M' := by
  cases h : M.cells[a]? with
  | some v => exact ⟨0, _, store_ok (List.getElem?_eq_some_iff.mp h).1, I.set h1 h2, .inr rfl⟩
  | none => exact ⟨1, M, by unfold F_mem_Mem_Store; rw [getI_nat, h], I, .inl rfl⟩
theorem side_any (I : SI T M j) {p : Int} (hp : Inn T p) (k : Tbst_node) : ∃ a : Nat, F_bst_Tree_side T M p k = some ((a : Int), T, M) ∧ a % 3 ≠ 0 := by
  obtain ⟨m, c, x, rfl, hx, w⟩ := hp
  rcases I.nodes x (List.mem_of_getElem? hx) with q | ⟨c', q, hc⟩
  · rw [w] at q; omega
  · have := I.len.2
    exact ⟨_, side_ok hx w (by omega), by split <;> omega⟩
theorem Ndx.wrap (I : SI T M j) (hj : j ≤ 300000) {v : Int} (h : Ndx T v) : IntKind.i64.wrap v = v ∧ IntKind.u64.wrap v = v := by
  obtain ⟨m, rfl, hm⟩ := h
  have := I.b1
  exact ⟨wrap_id (by omega) (by omega), wrap_u64 (by omega) (by omega)⟩
theorem pack_wrd (I : SI T M j) (hj : j ≤ 300000) {i : Int} (h : Idx T i) (st : Nat) (hs : st < 4) : ∃ w, F_word_Pack (st : Int) i = some w ∧ Wrd T w := by
  obtain ⟨m, rfl, hm⟩ := h
  have := I.b2
  exact ⟨_, wpack_ok m st (by omega) hs, _, rfl, by omega⟩
theorem to_gs {x : Clo} {M' : Omem_Mem} {d : Nat} (I : SI T M' j) (hc : Cnt M M') (h : Sti T x) (hd : dep x ≤ d) : Gs fu (some (some x, T, M', C)) T M j d :=
  (Gd.to (fu := False) I h hd).gs hc (fun f => f.elim) (Nat.le_refl _)
theorem end_gs {M' : Omem_Mem} {d : Nat} (I : SI T M' j) (hc : Cnt M M') : Gs fu (some (none, T, M', C)) T M j d :=
  (Gd.end_ (fu := False) (d := d) I).gs hc (fun f => f.elim) (Nat.le_refl _)
/-- A step. -/
theorem stp_gs {x : Clo} (hx : Sti T x) (I : SI T M j) (hj : j ≤ 300000) : Gs (n ≤ dep x) (F_step (n + 1) T M C x .u) T M j (dep x + 4) := by
  have Hr := step_rc n
  cases hx with
  | @least a ha =>
    show Gs _ (F_bst_Tree_least_1 (F_step n) T M C _) _ _ _ _
    unfold F_bst_Tree_least_1
    obtain ⟨v, e, M', h1, I', hc, h2, h3⟩ := load_any I a
    have hv := h3 ha
    obtain ⟨m, x, rfl, hx, e2, hm⟩ := I.node hv
    rw [h1]
    simp only [Option.bind_some]
    rw [e2]
    simp only [Option.bind_some, F_bst_node_leaf, rb, tell_ok]
    split
    · rename_i q
      rcases I.nodes x hm with w | ⟨c, w, _⟩
      · rw [w] at q; simp at q
      · rw [(Ndx.wrap I hj hv).1]
        obtain ⟨c', hc'⟩ := cell3 (⟨m, c, x, rfl, hx, w⟩ : Inn T (m : Int)) I' 1 (by omega)
        rw [show (⟨M'.cells, M'.count⟩ : Omem_Mem) = M' from rfl, show (1 : Int) = ((1 : Nat) : Int) from rfl, hc']
        simp only [Option.bind_some]
        exact to_gs I' hc (.least (by omega)) (by simp [dep])
    · split
      · exact end_gs I' hc
      · rw [show F_bst_Call_found (F_step n) T M' C x = some (Option.none, T, M', ⟨true, x.key, x.val, C.told_Err⟩) from rfl]
        exact end_gs I' hc
  | @down s k th hs h =>
    show Gs _ (F_bst_Tree_down_1 (F_step n) T M C s k th) _ _ _ _
    unfold F_bst_Tree_down_1
    obtain ⟨c, hcell⟩ := cell3 hs.p I 0 (by omega)
    rw [show (0 : Int) = ((0 : Nat) : Int) from rfl, hcell]
    simp only [Option.bind_some]
    obtain ⟨v, e, M', h1, I', hc, h2, h3⟩ := load_any I (3 * c + 0)
    rw [show (⟨M.cells, M.count⟩ : Omem_Mem) = M from rfl, h1]
    simp only [Option.bind_some]
    exact to_gs I' hc (.down1 ⟨hs.g, hs.p, hs.l, hs.t, hs.gw, h2 (by omega)⟩ h) (by simp only [dep]; omega)
  | @down1 s k th hs h =>
    show Gs _ (F_bst_Tree_down_1_1 (F_step n) T M C s k th) _ _ _ _
    unfold F_bst_Tree_down_1_1
    obtain ⟨a, ha, ha3⟩ := side_any I hs.p k
    obtain ⟨c, hcell⟩ := cell3 hs.p I 1 (by omega)
    rw [ha]
    simp only [Option.bind_some]
    rw [show (⟨T.nodes, T.infos⟩ : Obst_Tree) = T from rfl, show (⟨M.cells, M.count⟩ : Omem_Mem) = M from rfl, show (1 : Int) = ((1 : Nat) : Int) from rfl, hcell]
    simp only [Option.bind_some]
    have : ∃ t, (if (((a : Nat) : Int) == ((3 * c + 1 : Nat) : Int)) = true then some s.parent else some s.turn : Option Int) = some t ∧ (t < 0 ∨ Inn T t) := by
      split
      · exact ⟨_, rfl, .inr hs.p⟩
      · exact ⟨_, rfl, hs.t⟩
    obtain ⟨t, ht, ht2⟩ := this
    rw [ht]
    simp only [Option.bind_some]
    obtain ⟨v, e, M', h1, I', hc, h2, h3⟩ := load_any I a
    have hv := h3 ha3
    rw [show (⟨M.cells, M.count⟩ : Omem_Mem) = M from rfl, h1]
    simp only [Option.bind_some, rb]
    rw [(Ndx.wrap I hj hv).1]
    exact (down_gd (C := C) (k := k) (s := ⟨s.grand, s.parent, v, s.grandWord, s.parentWord, t⟩) Hr I' hj ⟨hs.g, hs.p, hv, ht2, hs.gw, hs.pw⟩ h).gs hc (fun f => by simp only [dep]; omega) (by simp only [dep]; omega)
  | @rem21 s i v th hs hi h =>
    show Gs _ (F_bst_Tree_remove_2_1 (F_step n) T M C s i th v) _ _ _ _
    unfold F_bst_Tree_remove_2_1
    obtain ⟨c, hcell⟩ := cell3 hs.g I 0 (by omega)
    obtain ⟨w, hw, hw2⟩ := pack_wrd I hj hi 2 (by omega)
    rw [show (0 : Int) = ((0 : Nat) : Int) from rfl, hcell]
    simp only [Option.bind_some]
    rw [show (2 : Int) = ((2 : Nat) : Int) from rfl, hw]
    simp only [Option.bind_some]
    obtain ⟨x, b, M', h1, I', hc, h2⟩ := cas_any I (3 * c + 0) s.grandWord (x := w) (fun _ => hw2) (fun q => absurd (by omega) q)
    rw [show (⟨M.cells, M.count⟩ : Omem_Mem) = M from rfl, h1]
    simp only [Option.bind_some, rb]
    split
    · exact (help_gd (C := C) Hr I' hj (h2 (by omega)) h).gs hc (fun f => by simp only [dep]; omega) (by simp only [dep]; omega)
    · exact (loses_gd (fu := False) (C := C) (rc := F_step n) I' hj hi (.rem211 (v := v) h)).gs hc (fun f => f.elim) (by simp only [dep]; omega)
  | @grow1 a l h i s k ha hb hl hh hs hi =>
    show Gs _ (F_bst_Tree_grow_1 (F_step n) T M C _ l h s i k) _ _ _ _
    unfold F_bst_Tree_grow_1
    rw [show IntKind.i64.wrap ((a : Int) + 1) = ((a + 1 : Nat) : Int) from by rw [wrap_id (by omega) (by omega)]; omega, (Ndx.wrap I hj hl).2]
    obtain ⟨e, M', h1, I', hc⟩ := store_any I (a + 1) (x := l) (fun q => absurd q (by omega)) (fun _ => hl)
    rw [h1]
    simp only [Option.bind_some]
    exact to_gs I' hc (.grow11 ha hb hh hs hi) (by simp [dep])
  | @grow11 a h i s k ha hb hh hs hi =>
    show Gs _ (F_bst_Tree_grow_1_1 (F_step n) T M C _ h s i k) _ _ _ _
    unfold F_bst_Tree_grow_1_1
    rw [show IntKind.i64.wrap ((a : Int) + 2) = ((a + 2 : Nat) : Int) from by rw [wrap_id (by omega) (by omega)]; omega, (Ndx.wrap I hj hh).2]
    obtain ⟨e, M', h1, I', hc⟩ := store_any I (a + 2) (x := h) (fun q => absurd q (by omega)) (fun _ => hh)
    rw [h1]
    simp only [Option.bind_some]
    exact to_gs I' hc (.grow111 hs hi) (by simp [dep])
  | @grow111 i s k hs hi =>
    show Gs _ (F_bst_Tree_grow_1_1_1 (F_step n) T M C s i k) _ _ _ _
    unfold F_bst_Tree_grow_1_1_1
    obtain ⟨c, hcell⟩ := cell3 hs.p I 0 (by omega)
    obtain ⟨w, hw, hw2⟩ := pack_wrd I hj hi 1 (by omega)
    rw [show (0 : Int) = ((0 : Nat) : Int) from rfl, hcell]
    simp only [Option.bind_some]
    rw [show (1 : Int) = ((1 : Nat) : Int) from rfl, hw]
    simp only [Option.bind_some]
    obtain ⟨x, b, M', h1, I', hc, h2⟩ := cas_any I (3 * c + 0) s.parentWord (x := w) (fun _ => hw2) (fun q => absurd (by omega) q)
    rw [show (⟨M.cells, M.count⟩ : Omem_Mem) = M from rfl, h1]
    simp only [Option.bind_some, rb]
    split
    · exact (help_gd (C := C) Hr I' hj (h2 (by omega)) (.grow3 (k := k))).gs hc (fun f => by simp only [dep] at f ⊢; omega) (by simp only [dep]; omega)
    · exact (grows_gd (fu := False) (C := C) (rc := F_step n) I' hi (.grow4 (k := k))).gs hc (fun f => f.elim) (by simp only [dep]; omega)
  | @loses y m i th hy hm hi h =>
    show Gs _ (F_bst_Tree_loses_1 (F_step n) T M C y m i th) _ _ _ _
    unfold F_bst_Tree_loses_1
    obtain ⟨c, hcell⟩ := cell3 hy.p I 0 (by omega)
    rw [show (0 : Int) = ((0 : Nat) : Int) from rfl, hcell]
    simp only [Option.bind_some]
    obtain ⟨x, b, M', h1, I', hc, h2⟩ := cas_any I (3 * c + 0) y.was (x := m) (fun _ => hm) (fun q => absurd (by omega) q)
    rw [show (⟨M.cells, M.count⟩ : Omem_Mem) = M from rfl, h1]
    simp only [Option.bind_some, rb]
    split
    · exact (goes_gd (fu := False) (C := C) (rc := F_step n) I' hi (.loses11 h)).gs hc (fun f => f.elim) (by simp only [dep]; omega)
    · exact (help_gd (C := C) Hr I' hj (h2 (by omega)) (.loses12 hy hi h)).gs hc (fun f => by simp only [dep] at f ⊢; omega) (by simp only [dep]; omega)
  | @goes2 y th hy h =>
    show Gs _ (F_bst_Tree_goes_2 (F_step n) T M C y th) _ _ _ _
    unfold F_bst_Tree_goes_2
    obtain ⟨c, hcell⟩ := cell3 hy.p I 2 (by omega)
    rw [show (2 : Int) = ((2 : Nat) : Int) from rfl, hcell]
    simp only [Option.bind_some]
    obtain ⟨v, e, M', h1, I', hc, h2, h3⟩ := load_any I (3 * c + 2)
    have hv := h3 (by omega)
    rw [show (⟨M.cells, M.count⟩ : Omem_Mem) = M from rfl, h1]
    simp only [Option.bind_some, rb]
    split
    · exact (Hr T M' j C .w th (.w v) h hv I' hj).gs hc (fun f => by simp only [dep]; omega) (by simp only [dep]; omega)
    · exact to_gs I' hc (.goes21 hy h) (by simp only [dep]; omega)
  | @goes21 y th hy h =>
    show Gs _ (F_bst_Tree_goes_2_1 (F_step n) T M C y th) _ _ _ _
    unfold F_bst_Tree_goes_2_1
    obtain ⟨c, hcell⟩ := cell3 hy.p I 1 (by omega)
    rw [show (1 : Int) = ((1 : Nat) : Int) from rfl, hcell]
    simp only [Option.bind_some]
    obtain ⟨v, e, M', h1, I', hc, h2, h3⟩ := load_any I (3 * c + 1)
    have hv := h3 (by omega)
    rw [show (⟨M.cells, M.count⟩ : Omem_Mem) = M from rfl, h1]
    simp only [Option.bind_some, rb]
    exact (Hr T M' j C .w th (.w v) h hv I' hj).gs hc (fun f => by simp only [dep]; omega) (by simp only [dep]; omega)
  | @clean p st i th hp hi h =>
    show Gs _ (F_bst_Tree_clean_1 (F_step n) T M C p st i th) _ _ _ _
    unfold F_bst_Tree_clean_1
    obtain ⟨c, hcell⟩ := cell3 hp I 0 (by omega)
    obtain ⟨w, hw, hw2⟩ := pack_wrd I hj hi 0 (by omega)
    obtain ⟨w1, hw1⟩ : ∃ w1, F_word_Pack st i = some w1 := ⟨_, rfl⟩
    rw [show (0 : Int) = ((0 : Nat) : Int) from rfl, hcell, hw1, hw]
    simp only [Option.bind_some]
    obtain ⟨x, b, M', h1, I', hc, h2⟩ := cas_any I (3 * c + 0) w1 (x := w) (fun _ => hw2) (fun q => absurd (by omega) q)
    rw [show (⟨M.cells, M.count⟩ : Omem_Mem) = M from rfl, h1]
    simp only [Option.bind_some, rb]
    exact (Hr T M' j C .u th .u h trivial I' hj).gs hc (fun f => by simp only [dep]; omega) (by simp only [dep]; omega)
  | @turn p nx o th hp hn h =>
    show Gs _ (F_bst_Tree_turn_1 (F_step n) T M C p nx o th) _ _ _ _
    unfold F_bst_Tree_turn_1
    obtain ⟨m, x, e, hx, e2, hm⟩ := I.node hn
    obtain ⟨a, ha, ha3⟩ := side_any I hp x
    rw [e2]
    simp only [Option.bind_some]
    rw [ha]
    simp only [Option.bind_some]
    rw [(Ndx.wrap I hj hn).2]
    obtain ⟨v, b, M', h1, I', hc, h2⟩ := cas_any I a (IntKind.u64.wrap o) (x := nx) (fun q => absurd q ha3) (fun _ => hn)
    rw [show (⟨M.cells, M.count⟩ : Omem_Mem) = M from rfl, h1]
    simp only [Option.bind_some, rb]
    exact (Hr T M' j C .u th .u h trivial I' hj).gs hc (fun f => by simp only [dep]; omega) (by simp only [dep]; omega)
end
end Go.Proofs.Ytndhbaidibioeaa.V
