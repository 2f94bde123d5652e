/- Calls run to their ends; keys; the document's answer.
   No condition: these are laws of plain functions. -/
import Derived.Test.YtndhbaidibioeaaBh
namespace Go.Proofs.Ytndhbaidibioeaa.V
open Go
set_option linter.unusedVariables false
set_option linter.unusedSimpArgs false
set_option maxRecDepth 100000

/-! ### Runs -/
theorem step_some {n : Nat} {T T2 : Obst_Tree} {M M2 : Omem_Mem} {C C2 : Obst_Call} {x : Clo} {o : Option Clo} (h : F_step n T M C x .u = some (o, T2, M2, C2)) :
    F_bst_Call_Step n T M ⟨C.told_Ok, C.told_Key, C.told_Val, C.told_Err, some x⟩ = some (o.isNone, T2, M2, ⟨C2.told_Ok, C2.told_Key, C2.told_Val, C2.told_Err, o⟩) := by
  unfold F_bst_Call_Step
  rw [if_neg (by simp)]
  simp only [Option.bind_some]
  rw [show (⟨C.told_Ok, C.told_Key, C.told_Val, C.told_Err⟩ : Obst_Call) = C from rfl, h]
  rfl
theorem runL_ok {n : Nat} : ∀ (k m : Nat) (T : Obst_Tree) (M : Omem_Mem) (C : Obst_Call) (x : Clo) (T' : Obst_Tree) (M' : Omem_Mem) (C' : Obst_Call), Rs n k T M C (some x) (T', M', C', none) → k ≤ m →
    F_bst_Run_L1 n m T.nodes T.infos M.cells M.count C.told_Ok C.told_Key C.told_Val C.told_Err (some x) = some (T'.nodes, T'.infos, M'.cells, M'.count, C'.told_Ok, C'.told_Key, C'.told_Val, C'.told_Err, none)
  | 0, _, _, _, _, _, _, _, _, h, _ => by cases h
  | k + 1, 0, _, _, _, _, _, _, _, _, hm => by omega
  | k + 1, m + 1, T, M, C, x, T', M', C', h, hm => by
    cases h with
    | @step _ _ T2 _ M2 _ C2 _ o _ h r =>
      rw [F_bst_Run_L1, show (⟨T.nodes, T.infos⟩ : Obst_Tree) = T from rfl, show (⟨M.cells, M.count⟩ : Omem_Mem) = M from rfl, step_some h]
      simp only [Option.bind_some]
      cases o with
      | none =>
        cases r
        rfl
      | some y =>
        rw [if_pos (by rfl)]
        exact runL_ok k m T2 M2 C2 y T' M' C' r (by omega)
theorem brun_ok {n b : Nat} {T : Obst_Tree} {M : Omem_Mem} {C : Obst_Call} {x : Clo} {P : Cfg → Prop} (h : Outc n (some (some x, T, M, C)) b P) (hb : b ≤ n) (hP : ∀ f, P f → f.2.2.2 = none) :
    ∃ T' M' C', P (T', M', C', none) ∧ F_bst_Run n T M ⟨C.told_Ok, C.told_Key, C.told_Val, C.told_Err, some x⟩ = some (⟨C'.told_Ok, C'.told_Key, C'.told_Val, C'.told_Err⟩, T', M', ⟨C'.told_Ok, C'.told_Key, C'.told_Val, C'.told_Err, none⟩) := by
  obtain ⟨o, T1, M1, C1, k, ⟨T', M', C', o'⟩, h1, h2, h3, h4⟩ := h
  cases h1
  have : o' = none := hP _ h4
  subst this
  refine ⟨T', M', C', h4, ?_⟩
  unfold F_bst_Run
  rw [runL_ok k n T M C x T' M' C' h3 (by omega)]
  rfl

/-! ### Keys -/
theorem pick_cell {T : Obst_Tree} {M : Omem_Mem} {a : Nat} {v : Nat} (h : M.cells[a]? = some ((v : Nat) : Int)) (hv : v < 1099511627776) : ∃ c, F_bst_Tree_peek T M (a : Int) = some ((v : Int), T, ⟨M.cells, c⟩) := by
  obtain ⟨c, hc⟩ := peek_ok h
  refine ⟨c, ?_⟩
  unfold F_bst_Tree_peek
  rw [hc]
  simp only [Option.bind_some]
  rw [wrap_id (by omega) (by omega)]
def keysT (N : List Tbst_node) (t : BT) : List ByteArray := ((lvs N t).filter (fun x => x.top == 0)).map (·.key)
theorem keys_ok {T : Obst_Tree} (hN : T.nodes.length < 1099511627776) : ∀ (t : BT) (M : Omem_Mem) (m : Nat) (acc : List ByteArray), Lay T.nodes M.cells t → t.inn < m → acc.length + (lvs T.nodes t).length ≤ 1000000 →
    ∃ c, F_bst_Tree_Keys_1 m T M (t.root : Int) ⟨acc⟩ = some (T, ⟨M.cells, c⟩, ⟨acc ++ keysT T.nodes t⟩)
  | .lf i, M, 0, acc, _, hm, _ => by omega
  | .lf i, M, m + 1, acc, ⟨x, h1, h2⟩, hm, ha => by
    rw [F_bst_Tree_Keys_1, BT.root, getI_nat, h1]
    simp only [Option.bind_some, F_bst_node_leaf, h2]
    rw [if_neg (by decide)]
    unfold keysT
    rw [lvs, nk_eq h1]
    by_cases ht : x.top = 0
    · rw [if_pos (by simpa using ht), appL_ok (by simp [lvs] at ha ⊢; omega) (by omega) (by omega)]
      exact ⟨M.count, by simp [ht]⟩
    · rw [if_neg (by simpa using ht)]
      exact ⟨M.count, by simp [ht]⟩
  | .nd i l r, M, 0, acc, _, hm, _ => by omega
  | .nd i l r, M, m + 1, acc, hL, hm, ha => by
    have hlt := hL.lt
    have hl : l.root < T.nodes.length := hlt _ (List.mem_cons_of_mem _ (List.mem_append_left _ l.root_mem))
    have hr : r.root < T.nodes.length := hlt _ (List.mem_cons_of_mem _ (List.mem_append_right _ r.root_mem))
    obtain ⟨x, c, w, h1, h2, h3, h4, h5, h6, h7, h8, h9, h10⟩ := hL
    rw [lvs, List.length_append] at ha
    simp only [BT.inn] at hm
    rw [F_bst_Tree_Keys_1, BT.root, getI_nat, h1]
    simp only [Option.bind_some, F_bst_node_leaf, h2]
    have e0 : decide ((c : Int) < 0) = false := decide_eq_false (by omega)
    rw [if_pos (by rw [e0]; rfl)]
    rw [show IntKind.wrap .i64 ((c : Int) + 1) = ((c + 1 : Nat) : Int) from by rw [wrap_id (by omega) (by omega)]; omega, show IntKind.wrap .i64 ((c : Int) + 2) = ((c + 2 : Nat) : Int) from by rw [wrap_id (by omega) (by omega)]; omega]
    obtain ⟨c1, e1⟩ := pick_cell (T := T) h7 (by omega)
    rw [e1]
    simp only [Option.bind_some]
    obtain ⟨c2, e2⟩ := keys_ok hN l ⟨M.cells, c1⟩ m acc h9 (by omega) (by omega)
    rw [show (⟨T.nodes, T.infos⟩ : Obst_Tree) = T from rfl, e2]
    simp only [Option.bind_some]
    obtain ⟨c3, e3⟩ := pick_cell (T := T) (M := ⟨M.cells, c2⟩) h8 (by omega)
    rw [show (⟨T.nodes, T.infos⟩ : Obst_Tree) = T from rfl, e3]
    simp only [Option.bind_some]
    have lk : (keysT T.nodes l).length ≤ (lvs T.nodes l).length := by unfold keysT; rw [List.length_map]; exact List.length_filter_le _ _
    obtain ⟨c4, e4⟩ := keys_ok hN r ⟨M.cells, c3⟩ m (acc ++ keysT T.nodes l) h10 (by omega) (by rw [List.length_append]; omega)
    rw [show (⟨T.nodes, T.infos⟩ : Obst_Tree) = T from rfl, e4]
    refine ⟨c4, ?_⟩
    simp [keysT, lvs]

/-! ### The document's answer -/
end Go.Proofs.Ytndhbaidibioeaa.V
