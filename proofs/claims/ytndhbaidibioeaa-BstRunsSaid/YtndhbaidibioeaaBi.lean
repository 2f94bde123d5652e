/- Calls run to their ends; keys; the document's answer.
   No condition: these are laws of plain functions. -/
import Derived.Test.YtndhbaidibioeaaBh
namespace Go.Proofs.Ytndhbaidibioeaa.V
open Go
set_option linter.unusedVariables false
set_option linter.unusedSimpArgs false
set_option maxRecDepth 100000

/-! ### Runs -/
theorem step_some {n : Nat} {T T2 : Obst_Tree} {M M2 : Omem_Mem} {C C2 : Obst_Call} {x : Clo} {o : Option Clo} (h : F_step n T M C x .u = some (o, T2, M2, C2)) :
    F_bst_Call_Step n T M ⟨C.told_Ok, C.told_Key, C.told_Val, C.told_Err, some x⟩ = some (o.isNone, T2, M2, ⟨C2.told_Ok, C2.told_Key, C2.told_Val, C2.told_Err, o⟩) := by
  unfold F_bst_Call_Step
  rw [if_neg (by simp)]
  simp only [Option.bind_some]
  rw [show (⟨C.told_Ok, C.told_Key, C.told_Val, C.told_Err⟩ : Obst_Call) = C from rfl, h]
  rfl
theorem runL_ok {n : Nat} : ∀ (k m : Nat) (T : Obst_Tree) (M : Omem_Mem) (C : Obst_Call) (x : Clo) (T' : Obst_Tree) (M' : Omem_Mem) (C' : Obst_Call), Rs n k T M C (some x) (T', M', C', none) → k ≤ m →
    F_bst_Run_L1 n m T.nodes T.infos M.cells M.count C.told_Ok C.told_Key C.told_Val C.told_Err (some x) = some (T'.nodes, T'.infos, M'.cells, M'.count, C'.told_Ok, C'.told_Key, C'.told_Val, C'.told_Err, none)
  | 0, _, _, _, _, _, _, _, _, h, _ => by cases h
  | k + 1, 0, _, _, _, _, _, _, _, _, hm => by omega
  | k + 1, m + 1, T, M, C, x, T', M', C', h, hm => by
    cases h with
    | @step _ _ T2 _ M2 _ C2 _ o _ h r =>
      rw [F_bst_Run_L1, show (⟨T.nodes, T.infos⟩ : Obst_Tree) = T from rfl, show (⟨M.cells, M.count⟩ : Omem_Mem) = M from rfl, step_some h]
      simp only [Option.bind_some]
      cases o with
      | none =>
        cases r
        rfl
      | some y =>
        rw [if_pos (by rfl)]
        exact runL_ok k m T2 M2 C2 y T' M' C' r (by omega)
theorem brun_ok {n b : Nat} {T : Obst_Tree} {M : Omem_Mem} {C : Obst_Call} {x : Clo} {P : Cfg → Prop} (h : Outc n (some (some x, T, M, C)) b P) (hb : b ≤ n) (hP : ∀ f, P f → f.2.2.2 = none) :
    ∃ T' M' C', P (T', M', C', none) ∧ F_bst_Run n T M ⟨C.told_Ok, C.told_Key, C.told_Val, C.told_Err, some x⟩ = some (⟨C'.told_Ok, C'.told_Key, C'.told_Val, C'.told_Err⟩, T', M', ⟨C'.told_Ok, C'.told_Key, C'.told_Val, C'.told_Err, none⟩) := by
  obtain ⟨o, T1, M1, C1, k, ⟨T', M', C', o'⟩, h1, h2, h3, h4⟩ := h
  cases h1
  have : o' = none := hP _ h4
  subst this
  refine ⟨T', M', C', h4, ?_⟩
  unfold F_bst_Run
  rw [runL_ok k n T M C x T' M' C' h3 (by omega)]
  rfl

/-! ### Keys -/
theorem pick_cell {T : Obst_Tree} {M : Omem_Mem} {a : Nat} {v : Nat} (h : M.cells[a]? = some ((v : Nat) : Int)) (hv : v < 1099511627776) : ∃ c, F_bst_Tree_peek T M (a : Int) = some ((v : Int), T, ⟨M.cells, c⟩) := by
  obtain ⟨c, hc⟩ := peek_ok h
  refine ⟨c, ?_⟩
  unfold F_bst_Tree_peek
  rw [hc]
  simp only [Option.bind_some]
  rw [wrap_id (by omega) (by omega)]
def keysT (N : List Tbst_node) (t : BT) : List ByteArray := ((lvs N t).filter (fun x => x.top == 0)).map (·.key)
theorem keys_ok {T : Obst_Tree} (hN : T.nodes.length < 1099511627776) : ∀ (t : BT) (M : Omem_Mem) (m : Nat) (acc : List ByteArray), Lay T.nodes M.cells t → t.inn < m → acc.length + (lvs T.nodes t).length ≤ 1000000 →
    ∃ c, F_bst_Tree_Keys_1 m T M (t.root : Int) ⟨acc⟩ = some (T, ⟨M.cells, c⟩, ⟨acc ++ keysT T.nodes t⟩)
  | .lf i, M, 0, acc, _, hm, _ => by omega
  | .lf i, M, m + 1, acc, ⟨x, h1, h2⟩, hm, ha => by
    rw [F_bst_Tree_Keys_1, BT.root, getI_nat, h1]
    simp only [Option.bind_some, F_bst_node_leaf, h2]
    rw [if_neg (by decide)]
    unfold keysT
    rw [lvs, nk_eq h1]
    by_cases ht : x.top = 0
    · rw [if_pos (by simpa using ht), appL_ok (by simp [lvs] at ha ⊢; omega) (by omega) (by omega)]
      exact ⟨M.count, by simp [ht]⟩
    · rw [if_neg (by simpa using ht)]
      exact ⟨M.count, by simp [ht]⟩
  | .nd i l r, M, 0, acc, _, hm, _ => by omega
  | .nd i l r, M, m + 1, acc, hL, hm, ha => by
    have hlt := hL.lt
    have hl : l.root < T.nodes.length := hlt _ (List.mem_cons_of_mem _ (List.mem_append_left _ l.root_mem))
    have hr : r.root < T.nodes.length := hlt _ (List.mem_cons_of_mem _ (List.mem_append_right _ r.root_mem))
    obtain ⟨x, c, w, h1, h2, h3, h4, h5, h6, h7, h8, h9, h10⟩ := hL
    rw [lvs, List.length_append] at ha
    simp only [BT.inn] at hm
    rw [F_bst_Tree_Keys_1, BT.root, getI_nat, h1]
    simp only [Option.bind_some, F_bst_node_leaf, h2]
    have e0 : decide ((c : Int) < 0) = false := decide_eq_false (by omega)
    rw [if_pos (by rw [e0]; rfl)]
    rw [show IntKind.wrap .i64 ((c : Int) + 1) = ((c + 1 : Nat) : Int) from by rw [wrap_id (by omega) (by omega)]; omega, show IntKind.wrap .i64 ((c : Int) + 2) = ((c + 2 : Nat) : Int) from by rw [wrap_id (by omega) (by omega)]; omega]
    obtain ⟨c1, e1⟩ := pick_cell (T := T) h7 (by omega)
    rw [e1]
    simp only [Option.bind_some]
    obtain ⟨c2, e2⟩ := keys_ok hN l ⟨M.cells, c1⟩ m acc h9 (by omega) (by omega)
    rw [show (⟨T.nodes, T.infos⟩ : Obst_Tree) = T from rfl, e2]
    simp only [Option.bind_some]
    obtain ⟨c3, e3⟩ := pick_cell (T := T) (M := ⟨M.cells, c2⟩) h8 (by omega)
    rw [show (⟨T.nodes, T.infos⟩ : Obst_Tree) = T from rfl, e3]
    simp only [Option.bind_some]
    have lk : (keysT T.nodes l).length ≤ (lvs T.nodes l).length := by unfold keysT; rw [List.length_map]; exact List.length_filter_le _ _
    obtain ⟨c4, e4⟩ := keys_ok hN r ⟨M.cells, c3⟩ m (acc ++ keysT T.nodes l) h10 (by omega) (by rw [List.length_append]; omega)
    rw [show (⟨T.nodes, T.infos⟩ : Obst_Tree) = T from rfl, e4]
    refine ⟨c4, ?_⟩
    simp [keysT, lvs]

/-! ### The document's answer -/
theorem keptL2 (z : ByteArray) : ∀ (A B : List ByteArray) (j : Nat), (∀ a ∈ A, lessB a z = true) → (∀ b ∈ B, lessB b z = false) → ∃ r, F_ref15_Kept_L2 z (A ++ B) j = some r ∧ r.1 = ((j + A.length : Nat) : Int)
  | [], B, j, _, h => by
    cases B with
    | nil => exact ⟨_, rfl, by simp⟩
    | cons b B =>
      rw [List.nil_append, F_ref15_Kept_L2, if_neg (by rw [h b List.mem_cons_self]; simp)]
      exact ⟨_, rfl, by simp⟩
  | a :: A, B, j, h1, h2 => by
    rw [List.cons_append, F_ref15_Kept_L2, if_pos (h1 a List.mem_cons_self)]
    obtain ⟨r, c, d⟩ := keptL2 z A B (j + 1) (fun x hx => h1 x (List.mem_cons_of_mem _ hx)) h2
    exact ⟨r, c, by rw [d, List.length_cons]; omega⟩
def SoK (l : List ByteArray) : Prop := l.Pairwise (fun a b => lessB a b = true)
theorem splitK {m : List ByteArray} (h : SoK m) (k : ByteArray) : ∃ A B, m = A ++ B ∧ (∀ a ∈ A, lessB a k = true) ∧ (∀ b ∈ B, lessB b k = false) := by
  induction m with
  | nil => exact ⟨[], [], rfl, fun _ h => absurd h List.not_mem_nil, fun _ h => absurd h List.not_mem_nil⟩
  | cons a m ih =>
    unfold SoK at h
    rw [List.pairwise_cons] at h
    cases hc : lessB a k with
    | true =>
      obtain ⟨A, B, e, h1, h2⟩ := ih h.2
      refine ⟨a :: A, B, by rw [e]; rfl, fun x hx => ?_, h2⟩
      rcases List.mem_cons.mp hx with q | q
      · subst q; exact hc
      · exact h1 x q
    | false =>
      refine ⟨[], a :: m, rfl, fun _ h => absurd h List.not_mem_nil, fun b hb => ?_⟩
      rcases List.mem_cons.mp hb with q | q
      · subst q; exact hc
      · cases e : lessB b k with
        | false => rfl
        | true => have := less_trans (h.1 b q) e; rw [hc] at this; cases this
theorem kept_ok : ∀ (l : List ByteArray) (i : Nat) (out : List ByteArray), SoK out → out.length + l.length ≤ 100000 → ∃ ys, F_ref15_Kept_L1 l i out = some ys ∧ SoK ys ∧ ∀ k, k ∈ ys ↔ k ∈ out ∨ k ∈ l
  | [], i, out, h, _ => ⟨out, rfl, h, fun k => by simp⟩
  | z :: l, i, out, h, hl => by
    rw [List.length_cons] at hl
    obtain ⟨A, B, rfl, hA, hB⟩ := splitK h z
    rw [List.length_append] at hl
    obtain ⟨s, g1, g2⟩ := keptL2 z A B 0 hA hB
    rw [Nat.zero_add] at g2
    rw [F_ref15_Kept_L1, g1]
    simp only [Option.bind_some]
    rw [g2]
    have ins : (∀ b ∈ B, b ≠ z) → ∃ ys, ((subL0 (A ++ B) 0 (A.length : Int)).bind fun x13 => (appL 16 ([] : List ByteArray) x13).bind fun x15 => (appL 16 (([] : List ByteArray) ++ x13) ([z] : List ByteArray)).bind fun x18 => (subL0 (A ++ B) (A.length : Int) ((A ++ B).length : Int)).bind fun x19 => (appL 16 ((([] : List ByteArray) ++ x13) ++ ([z] : List ByteArray)) x19).bind fun x20 => F_ref15_Kept_L1 l (i + 1) (((([] : List ByteArray) ++ x13) ++ ([z] : List ByteArray)) ++ x19)) = some ys ∧ SoK ys ∧ ∀ k, k ∈ ys ↔ k ∈ A ++ B ∨ k ∈ z :: l := by
      intro hne
      have e1 : subL0 (A ++ B) 0 (A.length : Int) = some A := by
        unfold subL0
        rw [if_pos ⟨by omega, by omega, by rw [List.length_append]; omega⟩]
        simp
      have e2 : subL0 (A ++ B) (A.length : Int) ((A ++ B).length : Int) = some B := by
        unfold subL0
        rw [if_pos ⟨by omega, by rw [List.length_append]; omega, by omega⟩, Int.toNat_natCast, Int.toNat_natCast, List.drop_left, List.take_of_length_le (by rw [List.length_append]; omega)]
      rw [e1, e2]
      simp only [Option.bind_some]
      rw [appL_ok (by simp; omega) (by omega) (by omega)]
      simp only [Option.bind_some]
      rw [appL_ok (by simp; omega) (by omega) (by omega)]
      simp only [Option.bind_some]
      rw [appL_ok (by simp; omega) (by omega) (by omega)]
      simp only [Option.bind_some, List.nil_append]
      have so : SoK (A ++ [z] ++ B) := by
        unfold SoK at h ⊢
        rw [List.pairwise_append] at h
        rw [List.append_assoc, List.pairwise_append]
        refine ⟨h.1, ?_, fun a ha b hb' => ?_⟩
        · rw [List.singleton_append, List.pairwise_cons]
          refine ⟨fun b hb' => ?_, h.2.1⟩
          cases w : lessB z b with
          | true => rfl
          | false => exact absurd (less_total w (hB b hb')).symm (hne b hb')
        · rw [List.singleton_append] at hb'
          rcases List.mem_cons.mp hb' with q | q
          · rw [q]; exact hA a ha
          · exact h.2.2 a ha b q
      obtain ⟨ys, k1, k2, k3⟩ := kept_ok l (i + 1) (A ++ [z] ++ B) so (by simp; omega)
      refine ⟨ys, k1, k2, fun k => ?_⟩
      rw [k3]
      simp only [List.mem_append, List.mem_cons, List.not_mem_nil, or_false]
      grind
    have there : (∃ b ∈ B, b = z) → ∃ B', B = z :: B' := by
      rintro ⟨b, hb, rfl⟩
      cases B with
      | nil => cases hb
      | cons c B' =>
        refine ⟨B', ?_⟩
        rcases List.mem_cons.mp hb with q | q
        · rw [q]
        · exfalso
          unfold SoK at h
          rw [List.pairwise_append, List.pairwise_cons] at h
          have := h.2.1.1 b q
          rw [hB c List.mem_cons_self] at this; cases this
    cases B with
    | nil =>
      rw [show decide ((A.length : Int) < ((A ++ ([] : List ByteArray)).length : Int)) = false from decide_eq_false (by simp)]
      simp only [Bool.false_eq_true, if_false, Option.bind_some]
      obtain ⟨ys, k1, k2⟩ := ins (fun b hb => absurd hb List.not_mem_nil)
      refine ⟨ys, ?_, k2⟩
      rw [← k1]
      simp only [Option.bind_assoc, Option.bind_some]
    | cons c B =>
      rw [show decide ((A.length : Int) < ((A ++ c :: B).length : Int)) = true from decide_eq_true (by simp; omega)]
      rw [if_pos rfl, getI_nat, show (A ++ c :: B)[A.length]? = some c from by simp]
      simp only [Option.bind_some]
      by_cases hc : c = z
      · subst hc
        rw [if_pos (eqB_self _)]
        simp only [Option.bind_some]
        obtain ⟨ys, k1, k2, k3⟩ := kept_ok l (i + 1) (A ++ c :: B) h (by simp at hl ⊢; omega)
        refine ⟨ys, k1, k2, fun k => ?_⟩
        rw [k3]
        simp only [List.mem_append, List.mem_cons]
        grind
      · rw [if_neg (by rw [eqB_ne.mpr hc]; simp)]
        have hne : ∀ b ∈ c :: B, b ≠ z := by
          intro b hb q
          obtain ⟨B', hB'⟩ := there ⟨b, hb, q⟩
          exact hc (List.cons.inj hB').1
        obtain ⟨ys, k1, k2⟩ := ins hne
        refine ⟨ys, ?_, k2⟩
        rw [← k1]
        simp only [Option.bind_assoc, Option.bind_some]
theorem sameB (p : List ByteArray) : F_ref15_Same p p = some true := by
  unfold F_ref15_Same
  rw [if_neg (by simp)]
  have : ∀ (r : List ByteArray) (i : Nat), p.drop i = r → F_ref15_Same_L1 p r i = some (.go ()) := by
    intro r
    induction r with
    | nil => intro i _; rw [F_ref15_Same_L1]
    | cons z r ih =>
      intro i h
      have hlt : i < p.length := by
        rcases Nat.lt_or_ge i p.length with q | q
        · exact q
        · rw [List.drop_of_length_le q] at h; cases h
      have hz : p[i] = z := by
        have := List.drop_eq_getElem_cons hlt
        rw [h] at this
        exact (List.cons.inj this).1.symm
      rw [F_ref15_Same_L1, getI_nat, List.getElem?_eq_getElem hlt]
      simp only [Option.bind_some]
      rw [hz, eqB_self]
      rw [if_neg (by simp)]
      exact ih (i + 1) (by rw [← List.drop_drop, h]; rfl)
  rw [this p 0 rfl]
  rfl
end Go.Proofs.Ytndhbaidibioeaa.V
