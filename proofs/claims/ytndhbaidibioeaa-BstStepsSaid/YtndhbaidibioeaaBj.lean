/- The plain law of BstRuns.
   No condition: this is a law of plain functions. -/
import Derived.Test.YtndhbaidibioeaaBi
namespace Go.Proofs.Ytndhbaidibioeaa.V
open Go
set_option linter.unusedVariables false
set_option linter.unusedSimpArgs false
set_option maxRecDepth 100000

theorem BInv.mono {T : Obst_Tree} {M : Omem_Mem} {l r : BT} {ks : List Tbst_node} {j j' : Nat} (I : BInv T M l r ks j) (h : j ≤ j') : BInv T M l r ks j' :=
  ⟨I.lay, I.nod, I.ord, I.dis, I.top0, I.lv, I.rv, I.kt, by have := I.b1; omega, by have := I.b2; omega, by have := I.b3; omega, by have := I.bi; omega⟩
theorem BInv.cells {T : Obst_Tree} {M M' : Omem_Mem} {l r : BT} {ks : List Tbst_node} {j : Nat} (I : BInv T M l r ks j) (h : M'.cells = M.cells) : BInv T M' l r ks j := by
  obtain ⟨a, b, c, d, e, f, g, k, b1, b2, b3, bi⟩ := I
  exact ⟨by rw [h]; exact a, b, c, by rw [h]; exact d, e, f, g, k, b1, b2, by rw [h]; exact b3, bi⟩
theorem BInv.kkey {T : Obst_Tree} {M : Omem_Mem} {l r : BT} {ks : List Tbst_node} {j : Nat} (I : BInv T M l r ks j) : (∀ x ∈ ks, x.cell = -1) ∧ ks.Pairwise (fun a b => lessB a.key b.key = true) := by
  obtain ⟨s1, e1, e2⟩ := I.lv
  refine ⟨fun x hx => lvs_cell I.lay (by rw [lvs, e1]; simp [hx]), ?_⟩
  have := lvs_sorted I.ord.2.2.1
  rw [e1, List.pairwise_append] at this
  refine this.1.imp_of_mem (fun {a b} ha hb q => ?_)
  rcases lessN_iff.mp q with w | w
  · have h1 := I.kt a ha; have h2 := I.kt b hb; omega
  · exact w.2
theorem BInv.keys {T : Obst_Tree} {M : Omem_Mem} {l r : BT} {ks : List Tbst_node} {j : Nat} (I : BInv T M l r ks j) : keysT T.nodes (.nd 0 l r) = ks.map (·.key) := by
  obtain ⟨s1, e1, e2⟩ := I.lv
  unfold keysT
  rw [lvs, e1, List.filter_append, List.filter_append]
  have h1 : ks.filter (fun x => x.top == 0) = ks := List.filter_eq_self.mpr (fun x hx => by simpa using I.kt x hx)
  have h2 : [s1].filter (fun x => x.top == 0) = [] := by simp [e2]
  have h3 : (lvs T.nodes r).filter (fun x => x.top == 0) = [] := List.filter_eq_nil_iff.mpr (fun x hx => by rw [I.rv x hx]; decide)
  rw [h1, h2, h3]
  simp
/-! ### Calls begun -/
section
variable {n : Nat} {T : Obst_Tree} {M : Omem_Mem} {x0 : Tbst_node} {k : ByteArray} {v : Int}
theorem dn0 {rc : RC} {C : Obst_Call} {kn : Tbst_node} {th : Clo} (h : T.nodes[0]? = some x0) (hc : 0 ≤ x0.cell) : F_bst_Tree_down rc T M C s0 kn th = some (some (.c_down_1 ⟨0, 0, 0, 0, 0, -1⟩ kn th), T, M, C) := down_nd (i := 0) rfl h hc
theorem beg_find (h : T.nodes[0]? = some x0) (hc : 0 ≤ x0.cell) : F_bst_Tree_Find n T M k = some (⟨false, k, 0, 0, some (.c_down_1 ⟨0, 0, 0, 0, 0, -1⟩ ⟨k, 0, 0, 0⟩ (.c_Find_1_1 ⟨k, 0, 0, 0⟩))⟩, T, M) := by
  unfold F_bst_Tree_Find F_bst_Tree_call_bst_Tree_Find_1 F_bst_Tree_Find_1 F_bst_Tree_search
  rw [dn0 h hc]; rfl
theorem beg_seek (h : T.nodes[0]? = some x0) (hc : 0 ≤ x0.cell) : F_bst_Tree_Seek n T M k = some (⟨false, k, 0, 0, some (.c_down_1 ⟨0, 0, 0, 0, 0, -1⟩ ⟨k, 0, 0, 0⟩ (.c_Seek_1_1 ⟨k, 0, 0, 0⟩))⟩, T, M) := by
  unfold F_bst_Tree_Seek F_bst_Tree_call_bst_Tree_Seek_1 F_bst_Tree_Seek_1 F_bst_Tree_search
  rw [dn0 h hc]; rfl
theorem beg_ins (h : T.nodes[0]? = some x0) (hc : 0 ≤ x0.cell) : F_bst_Tree_Insert n T M k v = some (⟨false, k, 0, 0, some (.c_down_1 ⟨0, 0, 0, 0, 0, -1⟩ ⟨k, 0, v, 0⟩ (.c_insert_2 ⟨k, 0, v, 0⟩ (.c_insert_1 ⟨k, 0, v, 0⟩)))⟩, T, M) := by
  unfold F_bst_Tree_Insert F_bst_Tree_call_bst_Tree_Insert_1 F_bst_Tree_Insert_1 F_bst_Tree_insert F_bst_Tree_search
  rw [dn0 h hc]; rfl
theorem beg_del (h : T.nodes[0]? = some x0) (hc : 0 ≤ x0.cell) : F_bst_Tree_Delete n T M k = some (⟨false, k, 0, 0, some (.c_down_1 ⟨0, 0, 0, 0, 0, -1⟩ ⟨k, 0, 0, 0⟩ (.c_remove_2 ⟨k, 0, 0, 0⟩ (.c_remove_1 ⟨k, 0, 0, 0⟩)))⟩, T, M) := by
  unfold F_bst_Tree_Delete F_bst_Tree_call_bst_Tree_Delete_1 F_bst_Tree_Delete_1 F_bst_Tree_remove F_bst_Tree_search
  rw [dn0 h hc]; rfl
end
theorem BInv.root {T : Obst_Tree} {M : Omem_Mem} {l r : BT} {ks : List Tbst_node} {j : Nat} (I : BInv T M l r ks j) : ∃ x0, T.nodes[0]? = some x0 ∧ 0 ≤ x0.cell := by
  obtain ⟨x, c, w, h1, h2, _⟩ := I.lay
  exact ⟨x, h1, by omega⟩

/-! ### What a call does, all at once -/
section
variable {T : Obst_Tree} {M : Omem_Mem} {l r : BT} {ks : List Tbst_node} {j n : Nat} {k : ByteArray} {v : Int}
theorem run_find (I : BInv T M l r ks j) (hj : j ≤ 300) (hn : 1000 ≤ n) : ∃ T' M' b w, F_bst_Run n T M ⟨false, k, 0, 0, some (.c_down_1 ⟨0, 0, 0, 0, 0, -1⟩ ⟨k, 0, 0, 0⟩ (.c_Find_1_1 ⟨k, 0, 0, 0⟩))⟩ = some (⟨b, k, w, 0⟩, T', M', ⟨b, k, w, 0, none⟩) ∧ T' = T ∧ M'.cells = M.cells ∧
    ((∃ y ∈ ks, y.key = k ∧ b = true ∧ w = y.val) ∨ ((∀ y ∈ ks, y.key ≠ k) ∧ b = false ∧ w = 0)) := by
  obtain ⟨m, rfl⟩ : ∃ m, n = m + 2 := ⟨n - 2, by omega⟩
  obtain ⟨x0, h0, hc⟩ := I.root
  have H := find_op (n := m) (C := ⟨false, k, 0, 0⟩) (k := ⟨k, 0, 0, 0⟩) I (by omega) rfl
  rw [dn0 h0 hc] at H
  obtain ⟨T', M', C', ⟨M2, b, w, h1, h2, h3⟩, h4⟩ := brun_ok H (by omega) (fun f ⟨_, _, _, _, hf, _⟩ => by rw [hf])
  cases h2
  exact ⟨_, _, b, w, h4, rfl, h1, h3⟩
theorem run_ins' (I : BInv T M l r ks j) (hj : j ≤ 300) (hn : 1000 ≤ n) : ∃ T' M' l' ks' b w, F_bst_Run n T M ⟨false, k, 0, 0, some (.c_down_1 ⟨0, 0, 0, 0, 0, -1⟩ ⟨k, 0, v, 0⟩ (.c_insert_2 ⟨k, 0, v, 0⟩ (.c_insert_1 ⟨k, 0, v, 0⟩)))⟩ = some (⟨b, k, w, 0⟩, T', M', ⟨b, k, w, 0, none⟩) ∧ BInv T' M' l' r ks' (j + 1) ∧
    ((∃ y ∈ ks, y.key = k ∧ b = false ∧ w = y.val ∧ ks' = ks ∧ T' = T ∧ l' = l) ∨ ((∀ y ∈ ks, y.key ≠ k) ∧ b = true ∧ w = v ∧ (∀ y, y ∈ ks' ↔ y ∈ ks ∨ y = ⟨k, 0, v, -1⟩) ∧ NExt T.nodes T'.nodes ∧ Grew T.nodes T'.nodes ⟨k, 0, v, 0⟩ l l')) := by
  obtain ⟨m, rfl⟩ : ∃ m, n = m + 3 := ⟨n - 3, by omega⟩
  obtain ⟨x0, h0, hc⟩ := I.root
  have H := ins_op (n := m) (C := ⟨false, k, 0, 0⟩) (k := ⟨k, 0, v, 0⟩) (th := .c_insert_1 ⟨k, 0, v, 0⟩) I (by omega) rfl
  rw [dn0 h0 hc] at H
  obtain ⟨T', M', C', h3, h4⟩ := brun_ok H (by omega) (fun f hf => by
    rcases hf with ⟨_, _, _, _, _, hf⟩ | ⟨_, _, _, _, _, _, _, _, hf⟩ <;> rw [hf])
  rcases h3 with ⟨M2, y, q1, q2, q3, q4⟩ | ⟨q1, T2, M2, l2, ks2, q2, q3, q4, q5⟩
  · cases q4
    exact ⟨_, _, l, ks, false, y.val, h4, (I.cells q1).mono (by omega), .inl ⟨y, q2, q3, rfl, rfl, rfl, rfl, rfl⟩⟩
  · cases q5
    exact ⟨_, _, l2, ks2, true, v, h4, q2, .inr ⟨q1, rfl, rfl, q4, q3.1, q3.2⟩⟩
theorem run_ins (I : BInv T M l r ks j) (hj : j ≤ 300) (hn : 1000 ≤ n) : ∃ T' M' l' ks' b w, F_bst_Run n T M ⟨false, k, 0, 0, some (.c_down_1 ⟨0, 0, 0, 0, 0, -1⟩ ⟨k, 0, v, 0⟩ (.c_insert_2 ⟨k, 0, v, 0⟩ (.c_insert_1 ⟨k, 0, v, 0⟩)))⟩ = some (⟨b, k, w, 0⟩, T', M', ⟨b, k, w, 0, none⟩) ∧ BInv T' M' l' r ks' (j + 1) ∧
    ((∃ y ∈ ks, y.key = k ∧ b = false ∧ w = y.val ∧ ks' = ks) ∨ ((∀ y ∈ ks, y.key ≠ k) ∧ b = true ∧ w = v ∧ ∀ y, y ∈ ks' ↔ y ∈ ks ∨ y = ⟨k, 0, v, -1⟩)) := by
  obtain ⟨T', M', l', ks', b, w, h1, h2, h3⟩ := run_ins' (k := k) (v := v) I hj hn
  refine ⟨T', M', l', ks', b, w, h1, h2, ?_⟩
  rcases h3 with ⟨y, q1, q2, q3, q4, q5, _⟩ | ⟨q1, q2, q3, q4, _⟩
  · exact .inl ⟨y, q1, q2, q3, q4, q5⟩
  · exact .inr ⟨q1, q2, q3, q4⟩
theorem run_del (I : BInv T M l r ks j) (hj : j ≤ 300) (hn : 1000 ≤ n) : ∃ T' M' l' ks' b w, F_bst_Run n T M ⟨false, k, 0, 0, some (.c_down_1 ⟨0, 0, 0, 0, 0, -1⟩ ⟨k, 0, 0, 0⟩ (.c_remove_2 ⟨k, 0, 0, 0⟩ (.c_remove_1 ⟨k, 0, 0, 0⟩)))⟩ = some (⟨b, k, w, 0⟩, T', M', ⟨b, k, w, 0, none⟩) ∧ BInv T' M' l' r ks' (j + 1) ∧
    ((∃ x ∈ ks, x.key = k ∧ b = true ∧ w = x.val ∧ ∀ y, y ∈ ks' ↔ y ∈ ks ∧ y ≠ x) ∨ ((∀ y ∈ ks, y.key ≠ k) ∧ b = false ∧ w = 0 ∧ ks' = ks)) := by
  obtain ⟨m, rfl⟩ : ∃ m, n = m + 4 := ⟨n - 4, by omega⟩
  obtain ⟨x0, h0, hc⟩ := I.root
  have H := del_op (n := m) (C := ⟨false, k, 0, 0⟩) (k := ⟨k, 0, 0, 0⟩) (th := .c_remove_1 ⟨k, 0, 0, 0⟩) I (by omega) rfl
  rw [dn0 h0 hc] at H
  obtain ⟨T', M', C', h3, h4⟩ := brun_ok H (by omega) (fun f hf => by
    rcases hf with ⟨_, _, _, hf⟩ | ⟨_, _, _, _, _, _, _, _, _, _, hf⟩ <;> rw [hf])
  rcases h3 with ⟨q1, M2, q2, q3⟩ | ⟨x, q1, q2, T2, M2, l2, ks2, q3, q4, q5, q6⟩
  · cases q3
    exact ⟨_, _, l, ks, false, 0, h4, (I.cells q2).mono (by omega), .inr ⟨q1, rfl, rfl, rfl⟩⟩
  · cases q6
    exact ⟨_, _, l2, ks2, true, x.val, h4, q3, .inl ⟨x, q1, q2, rfl, rfl, q5⟩⟩
end
theorem bnew_ok : F_bst_New ⟨[], 0⟩ = some (⟨[⟨ByteArray.empty, 2, 0, 0⟩, ⟨ByteArray.empty, 1, 0, -1⟩, ⟨ByteArray.empty, 2, 0, -1⟩], [⟨0, 0, 0, 0, 0⟩]⟩, ⟨[0, 1, 2], 2⟩) := by rfl
theorem inv0 : BInv ⟨[⟨ByteArray.empty, 2, 0, 0⟩, ⟨ByteArray.empty, 1, 0, -1⟩, ⟨ByteArray.empty, 2, 0, -1⟩], [⟨0, 0, 0, 0, 0⟩]⟩ ⟨[0, 1, 2], 2⟩ (.lf 1) (.lf 2) [] 0 := by
  constructor
  · exact ⟨_, 0, 0, rfl, rfl, by omega, rfl, rfl, by omega, rfl, rfl, ⟨_, rfl, rfl⟩, ⟨_, rfl, rfl⟩⟩
  · decide
  · refine ⟨fun j hj => ?_, fun j hj => ?_, trivial, trivial⟩
    · have : j = 1 := by simpa [BT.ids] using hj
      subst this; rfl
    · have : j = 2 := by simpa [BT.ids] using hj
      subst this
      exact lessN_irrefl _
  · have only : ∀ (i : Nat) (x : Tbst_node) (c : Nat), [(⟨ByteArray.empty, 2, 0, 0⟩ : Tbst_node), ⟨ByteArray.empty, 1, 0, -1⟩, ⟨ByteArray.empty, 2, 0, -1⟩][i]? = some x → x.cell = (c : Int) → i = 0 ∧ c = 0 := by
      intro i x c h hc
      match i, h with
      | 0, h => cases h; exact ⟨rfl, by simp at hc; omega⟩
      | 1, h => cases h; simp at hc
      | 2, h => cases h; simp at hc
      | i + 3, h => simp at h
    constructor
    · intro i i2 x y c d h1 h2 h3 h4 h5
      exact absurd ((only i x c h1 h3).1.trans (only i2 y d h2 h4).1.symm) h5
    · intro i x c h1 h2
      rw [(only i x c h1 h2).2]; simp
  · exact ⟨_, rfl, rfl⟩
  · exact ⟨⟨ByteArray.empty, 1, 0, -1⟩, rfl, rfl⟩
  · intro x hx
    have : x = ⟨ByteArray.empty, 2, 0, -1⟩ := by simpa [lvs, nk] using hx
    rw [this]
  · intro x hx; cases hx
  · decide
  · decide
  · decide
  · decide

/-! ### Entries -/
structure Ent (ks : List Tbst_node) (xs : List Timpostref15_Entry) : Prop where
  mem : ∀ e : Timpostref15_Entry, e ∈ xs ↔ ∃ y ∈ ks, y.key = e.Key ∧ y.val = e.Val
  uni : ∀ e ∈ xs, ∀ f ∈ xs, e.Key = f.Key → e = f
theorem do_L1 (c : Timpostref14_Call) : ∀ (xs : List Timpostref15_Entry) (i : Nat) (out : List Timpostref15_Entry) (w : Int) (b : Bool), out.length + xs.length ≤ 100000 → (∀ e ∈ xs, ∀ f ∈ xs, e.Key = f.Key → e = f) →
    ∃ w' b', F_ref15_Do_L1 c xs i out w b = some (out ++ xs.filter (fun e => !eqB e.Key c.Key), w', b') ∧ ((∃ e ∈ xs, e.Key = c.Key ∧ w' = e.Val ∧ b' = true) ∨ ((∀ e ∈ xs, e.Key ≠ c.Key) ∧ w' = w ∧ b' = b))
  | [], i, out, w, b, _, _ => ⟨w, b, by rw [F_ref15_Do_L1]; simp, .inr ⟨fun _ h => absurd h List.not_mem_nil, rfl, rfl⟩⟩
  | z :: xs, i, out, w, b, hl, hu => by
    rw [List.length_cons] at hl
    have hu' : ∀ e ∈ xs, ∀ f ∈ xs, e.Key = f.Key → e = f := fun e he f hf => hu e (List.mem_cons_of_mem _ he) f (List.mem_cons_of_mem _ hf)
    rw [F_ref15_Do_L1]
    by_cases hz : z.Key = c.Key
    · rw [if_pos (eqB_iff.mpr hz)]
      simp only [Option.bind_some]
      obtain ⟨w', b', h1, h2⟩ := do_L1 c xs (i + 1) out z.Val true (by omega) hu'
      refine ⟨w', b', by rw [h1, List.filter_cons, if_neg (by rw [eqB_iff.mpr hz]; simp)], .inl ⟨z, List.mem_cons_self, hz, ?_⟩⟩
      rcases h2 with ⟨e, q1, q2, q3, q4⟩ | ⟨q1, q2, q3⟩
      · have := hu e (List.mem_cons_of_mem _ q1) z List.mem_cons_self (q2.trans hz.symm)
        rw [this] at q3
        exact ⟨q3, q4⟩
      · exact ⟨q2, q3⟩
    · rw [if_neg (by rw [eqB_ne.mpr hz]; simp), appL_ok (by simp; omega) (by omega) (by omega)]
      simp only [Option.bind_some]
      obtain ⟨w', b', h1, h2⟩ := do_L1 c xs (i + 1) (out ++ [z]) w b (by simp; omega) hu'
      refine ⟨w', b', by rw [h1, List.filter_cons, if_pos (by rw [eqB_ne.mpr hz]; rfl)]; simp, ?_⟩
      rcases h2 with ⟨e, q1, q2⟩ | ⟨q1, q2⟩
      · exact .inl ⟨e, List.mem_cons_of_mem _ q1, q2⟩
      · refine .inr ⟨fun e he => ?_, q2⟩
        rcases List.mem_cons.mp he with q | q
        · rw [q]; exact hz
        · exact q1 e q
end Go.Proofs.Ytndhbaidibioeaa.V
