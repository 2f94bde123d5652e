/- The plain law of BstRuns.
   No condition: this is a law of plain functions. -/
import Derived.Test.YtndhbaidibioeaaGreatGi
namespace Go.Proofs.YtndhbaidibioeaaGreat.V
open Go
set_option linter.unusedVariables false
set_option linter.unusedSimpArgs false
set_option maxRecDepth 100000

theorem BInv.mono {T : Obst_Tree} {M : Omem_Mem} {l r : BT} {ks : List Tbst_node} {j j' : Nat} (I : BInv T M l r ks j) (h : j ≤ j') : BInv T M l r ks j' :=
  ⟨I.lay, I.nod, I.ord, I.dis, I.top0, I.lv, I.rv, I.kt, by have := I.b1; omega, by have := I.b2; omega, by have := I.b3; omega, by have := I.bi; omega⟩
theorem BInv.cells {T : Obst_Tree} {M M' : Omem_Mem} {l r : BT} {ks : List Tbst_node} {j : Nat} (I : BInv T M l r ks j) (h : M'.cells = M.cells) : BInv T M' l r ks j := by
  obtain ⟨a, b, c, d, e, f, g, k, b1, b2, b3, bi⟩ := I
  exact ⟨by rw [h]; exact a, b, c, by rw [h]; exact d, e, f, g, k, b1, b2, by rw [h]; exact b3, bi⟩
theorem BInv.kkey {T : Obst_Tree} {M : Omem_Mem} {l r : BT} {ks : List Tbst_node} {j : Nat} (I : BInv T M l r ks j) : (∀ x ∈ ks, x.cell = -1) ∧ ks.Pairwise (fun a b => lessB a.key b.key = true) := by
  obtain ⟨s1, e1, e2⟩ := I.lv
  refine ⟨fun x hx => lvs_cell I.lay (by rw [lvs, e1]; simp [hx]), ?_⟩
  have := lvs_sorted I.ord.2.2.1
  rw [e1, List.pairwise_append] at this
  refine this.1.imp_of_mem (fun {a b} ha hb q => ?_)
  rcases lessN_iff.mp q with w | w
  · have h1 := I.kt a ha; have h2 := I.kt b hb; omega
  · exact w.2
theorem lvs_len {N : List Tbst_node} : ∀ t : BT, (lvs N t).length = t.inn + 1
  | .lf i => rfl
  | .nd i l r => by rw [lvs, List.length_append, lvs_len l, lvs_len r, BT.inn]; omega

/-! ### Calls begun -/
section
variable {n : Nat} {T : Obst_Tree} {M : Omem_Mem} {x0 : Tbst_node} {k : ByteArray} {v : Int}
theorem dn0 {rc : RC} {C : Obst_Call} {kn : Tbst_node} {th : Clo} (h : T.nodes[0]? = some x0) (hc : 0 ≤ x0.cell) : F_bst_Tree_down rc T M C s0 kn th = some (some (.c_down_1 ⟨0, 0, 0, 0, 0, -1⟩ kn th), T, M, C) := down_nd (i := 0) rfl h hc
theorem beg_find (h : T.nodes[0]? = some x0) (hc : 0 ≤ x0.cell) : F_bst_Tree_Find n T M k = some (⟨false, k, 0, 0, some (.c_down_1 ⟨0, 0, 0, 0, 0, -1⟩ ⟨k, 0, 0, 0⟩ (.c_Find_1_1 ⟨k, 0, 0, 0⟩))⟩, T, M) := by
  unfold F_bst_Tree_Find F_bst_Tree_call_bst_Tree_Find_1 F_bst_Tree_Find_1 F_bst_Tree_search
  rw [dn0 h hc]; rfl
theorem beg_seek (h : T.nodes[0]? = some x0) (hc : 0 ≤ x0.cell) : F_bst_Tree_Seek n T M k = some (⟨false, k, 0, 0, some (.c_down_1 ⟨0, 0, 0, 0, 0, -1⟩ ⟨k, 0, 0, 0⟩ (.c_Seek_1_1 ⟨k, 0, 0, 0⟩))⟩, T, M) := by
  unfold F_bst_Tree_Seek F_bst_Tree_call_bst_Tree_Seek_1 F_bst_Tree_Seek_1 F_bst_Tree_search
  rw [dn0 h hc]; rfl
theorem beg_ins (h : T.nodes[0]? = some x0) (hc : 0 ≤ x0.cell) : F_bst_Tree_Insert n T M k v = some (⟨false, k, 0, 0, some (.c_down_1 ⟨0, 0, 0, 0, 0, -1⟩ ⟨k, 0, v, 0⟩ (.c_insert_2 ⟨k, 0, v, 0⟩ (.c_insert_1 ⟨k, 0, v, 0⟩)))⟩, T, M) := by
  unfold F_bst_Tree_Insert F_bst_Tree_call_bst_Tree_Insert_1 F_bst_Tree_Insert_1 F_bst_Tree_insert F_bst_Tree_search
  rw [dn0 h hc]; rfl
end
theorem BInv.root {T : Obst_Tree} {M : Omem_Mem} {l r : BT} {ks : List Tbst_node} {j : Nat} (I : BInv T M l r ks j) : ∃ x0, T.nodes[0]? = some x0 ∧ 0 ≤ x0.cell := by
  obtain ⟨x, c, w, h1, h2, _⟩ := I.lay
  exact ⟨x, h1, by omega⟩

/-! ### What a call does, all at once -/
section
variable {T : Obst_Tree} {M : Omem_Mem} {l r : BT} {ks : List Tbst_node} {j n : Nat} {k : ByteArray} {v : Int}
end
theorem bnew_ok : F_bst_New ⟨[], 0⟩ = some (⟨[⟨ByteArray.empty, 2, 0, 0⟩, ⟨ByteArray.empty, 1, 0, -1⟩, ⟨ByteArray.empty, 2, 0, -1⟩], [⟨0, 0, 0, 0, 0⟩]⟩, ⟨[0, 1, 2], 2⟩) := by rfl
theorem inv0 : BInv ⟨[⟨ByteArray.empty, 2, 0, 0⟩, ⟨ByteArray.empty, 1, 0, -1⟩, ⟨ByteArray.empty, 2, 0, -1⟩], [⟨0, 0, 0, 0, 0⟩]⟩ ⟨[0, 1, 2], 2⟩ (.lf 1) (.lf 2) [] 0 := by
  constructor
  · exact ⟨_, 0, 0, rfl, rfl, by omega, rfl, rfl, by omega, rfl, rfl, ⟨_, rfl, rfl⟩, ⟨_, rfl, rfl⟩⟩
  · decide
  · refine ⟨fun j hj => ?_, fun j hj => ?_, trivial, trivial⟩
    · have : j = 1 := by simpa [BT.ids] using hj
      subst this; rfl
    · have : j = 2 := by simpa [BT.ids] using hj
      subst this
      exact lessN_irrefl _
  · have only : ∀ (i : Nat) (x : Tbst_node) (c : Nat), [(⟨ByteArray.empty, 2, 0, 0⟩ : Tbst_node), ⟨ByteArray.empty, 1, 0, -1⟩, ⟨ByteArray.empty, 2, 0, -1⟩][i]? = some x → x.cell = (c : Int) → i = 0 ∧ c = 0 := by
      intro i x c h hc
      match i, h with
      | 0, h => cases h; exact ⟨rfl, by simp at hc; omega⟩
      | 1, h => cases h; simp at hc
      | 2, h => cases h; simp at hc
      | i + 3, h => simp at h
    constructor
    · intro i i2 x y c d h1 h2 h3 h4 h5
      exact absurd ((only i x c h1 h3).1.trans (only i2 y d h2 h4).1.symm) h5
    · intro i x c h1 h2
      rw [(only i x c h1 h2).2]; simp
  · exact ⟨_, rfl, rfl⟩
  · exact ⟨⟨ByteArray.empty, 1, 0, -1⟩, rfl, rfl⟩
  · intro x hx
    have : x = ⟨ByteArray.empty, 2, 0, -1⟩ := by simpa [lvs, nk] using hx
    rw [this]
  · intro x hx; cases hx
  · decide
  · decide
  · decide
  · decide

theorem uniq_key {ks : List Tbst_node} (hs : ks.Pairwise (fun a b => lessB a.key b.key = true)) {y z : Tbst_node} (hy : y ∈ ks) (hz : z ∈ ks) (h : y.key = z.key) : y = z := by
  induction ks with
  | nil => cases hy
  | cons a ks ih =>
    rw [List.pairwise_cons] at hs
    rcases List.mem_cons.mp hy with q | q <;> rcases List.mem_cons.mp hz with w | w
    · rw [q, w]
    · subst q; have := hs.1 z w; rw [h, less_irrefl] at this; cases this
    · subst w; have := hs.1 y q; rw [h, less_irrefl] at this; cases this
    · exact ih hs.2 q w
end Go.Proofs.YtndhbaidibioeaaGreat.V
