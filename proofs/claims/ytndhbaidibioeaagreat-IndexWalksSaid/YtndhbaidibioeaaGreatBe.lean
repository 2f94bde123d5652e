/- The steps of an insertion and of a deletion.
   No condition: these are laws of plain functions. -/
import Derived.Test.YtndhbaidibioeaaGreatBd
namespace Go.Proofs.YtndhbaidibioeaaGreat.V
open Go
set_option linter.unusedVariables false
set_option linter.unusedSimpArgs false
set_option maxRecDepth 100000

theorem dsc_p {N : List Tbst_node} {K : List Int} {k : Tbst_node} : ∀ (t : BT) (s : Tbst_seen) (p : Nat), s.parent = (p : Int) → s.parentWord = wd K (nk N p).cell.toNat →
    (dsc N K k t s).parent = (parOf N k t p : Int) ∧ (dsc N K k t s).parentWord = wd K (nk N (parOf N k t p)).cell.toNat
  | .lf i, s, p, h1, h2 => ⟨h1, h2⟩
  | .nd i l r, s, p, h1, h2 => by
    rw [dsc, parOf]
    split
    · exact dsc_p l _ i rfl rfl
    · exact dsc_p r _ i rfl rfl
def isKey (x k : Tbst_node) : Bool := bif (x.top == 0) then (eqB x.key k.key) else false
theorem isKey_iff {x k : Tbst_node} : isKey x k = true ↔ x.top = 0 ∧ x.key = k.key := by
  unfold isKey
  by_cases h : x.top = 0
  · simp [h, eqB_iff]
  · have : (x.top == 0) = false := by rw [beq_eq_false_iff_ne]; exact h
    simp [this, h]
theorem is_ok {T : Obst_Tree} {M : Omem_Mem} {i : Nat} {x k : Tbst_node} (h : T.nodes[i]? = some x) : F_bst_Tree_is T M (i : Int) k = some (isKey x k, T, M) := by
  unfold F_bst_Tree_is
  rw [getI_nat, h]; rfl
theorem tell_ok {rc : RC} {T : Obst_Tree} {M : Omem_Mem} {C : Obst_Call} {b : Bool} {v : Int} : F_bst_Call_tell rc T M C b v = some (none, T, M, ⟨b, C.told_Key, v, C.told_Err⟩) := rfl
/-- A key is there already. -/
theorem ins_there {n : Nat} {T : Obst_Tree} {M : Omem_Mem} {C : Obst_Call} {s : Tbst_seen} {k : Tbst_node} {th : Clo} {i : Nat} {x : Tbst_node} (hs : s.leaf = (i : Int)) (h : T.nodes[i]? = some x) (hx : isKey x k = true) :
    F_step (n + 1) T M C (.c_insert_2 k th) (.s s) = some (none, T, M, ⟨false, C.told_Key, x.val, C.told_Err⟩) := by
  show F_bst_Tree_insert_2 (F_step n) T M C s k th = _
  unfold F_bst_Tree_insert_2
  rw [hs, is_ok h, hx]
  simp only [Option.bind_some, if_true]
  rw [getI_nat, h]
  simp only [Option.bind_some, tell_ok]
theorem find_ok {n : Nat} {T : Obst_Tree} {M : Omem_Mem} {C : Obst_Call} {s : Tbst_seen} {k : Tbst_node} {i : Nat} {x : Tbst_node} (hs : s.leaf = (i : Int)) (h : T.nodes[i]? = some x) :
    F_step (n + 1) T M C (.c_Find_1_1 k) (.s s) = some (none, T, M, ⟨isKey x k, C.told_Key, if isKey x k = true then x.val else 0, C.told_Err⟩) := by
  show F_bst_Tree_Find_1_1 (F_step n) T M C s k = _
  unfold F_bst_Tree_Find_1_1
  rw [hs, is_ok h]
  simp only [Option.bind_some]
  cases e : isKey x k with
  | true =>
    simp only [Bool.not_true, Bool.false_eq_true, if_false, if_true]
    rw [getI_nat, h]
    simp only [Option.bind_some, tell_ok]
  | false =>
    simp only [Bool.not_false, if_true, tell_ok, Option.bind_some, Bool.false_eq_true, if_false]
/-- The three new nodes, and what is to be done. -/
def lowOf (x k : Tbst_node) (L : Nat) : Nat := if lessN x k = true then L + 1 else L
def highOf (x k : Tbst_node) (L : Nat) : Nat := if lessN x k = true then L else L + 1
def innOf (x k : Tbst_node) (a : Nat) : Tbst_node := if lessN x k = true then ⟨k.key, k.top, 0, (a : Int)⟩ else ⟨x.key, x.top, 0, (a : Int)⟩
theorem innOf_cell (x k : Tbst_node) (a : Nat) : (innOf x k a).cell = (a : Int) := by unfold innOf; split <;> rfl
theorem ins_grow {n : Nat} {T : Obst_Tree} {M : Omem_Mem} {C : Obst_Call} {s : Tbst_seen} {k : Tbst_node} {th : Clo} {i p w : Nat} {x : Tbst_node} (hs : s.leaf = (i : Int)) (hp : s.parent = (p : Int)) (h : T.nodes[i]? = some x) (hx : isKey x k = false) (hw : s.parentWord = (w : Int)) (hw4 : w % 4 = 0) (hwb : w < 1099511627776)
    (hc : M.cells.length + 3 ≤ 65536) (hn : T.nodes.length ≤ 1000000) (hi : T.infos.length ≤ 1000000) :
    F_step (n + 1) T M C (.c_insert_2 k th) (.s s) = some (some (.c_grow_1 (M.cells.length : Int) (lowOf x k T.nodes.length : Int) (highOf x k T.nodes.length : Int) s (T.infos.length : Int) k),
      ⟨T.nodes ++ [⟨k.key, 0, k.val, -1⟩] ++ [⟨x.key, x.top, x.val, -1⟩] ++ [innOf x k M.cells.length], T.infos ++ [⟨0, (p : Int), (i : Int), ((T.nodes.length + 2 : Nat) : Int), 0⟩]⟩, ⟨M.cells ++ [0, 0, 0], M.count⟩, C) := by
  show F_bst_Tree_insert_2 (F_step n) T M C s k th = _
  unfold F_bst_Tree_insert_2
  rw [hs, is_ok h, hx, hw]
  simp only [Option.bind_some, Bool.false_eq_true, if_false]
  rw [wstate_ok w (by omega), hw4]
  simp only [Option.bind_some]
  rw [if_neg (by simp)]
  rw [grow_ok hc]
  simp only [Option.bind_some]
  rw [if_neg (by simp)]
  unfold F_bst_Tree_grow
  rw [hs, hp, getI_nat, h]
  simp only [Option.bind_some, F_bst_Tree_leaf, F_bst_Tree_node, F_bst_Tree_info]
  rw [appL_ok (by simp; omega) (by omega) (by omega)]
  simp only [Option.bind_some]
  rw [appL_ok (by simp; omega) (by omega) (by omega)]
  simp only [Option.bind_some, less_ok]
  have e1 : IntKind.wrap .i64 (((T.nodes ++ [(⟨k.key, 0, k.val, -1⟩ : Tbst_node)]).length : Int) - 1) = (T.nodes.length : Int) := by
    rw [List.length_append, List.length_singleton, wrap_id (by omega) (by omega)]; omega
  have e2 : IntKind.wrap .i64 (((T.nodes ++ [(⟨k.key, 0, k.val, -1⟩ : Tbst_node)] ++ [(⟨x.key, x.top, x.val, -1⟩ : Tbst_node)]).length : Int) - 1) = ((T.nodes.length + 1 : Nat) : Int) := by
    rw [List.length_append, List.length_append, List.length_singleton, List.length_singleton, wrap_id (by omega) (by omega)]; omega
  have e3 : ∀ y : Tbst_node, IntKind.wrap .i64 (((T.nodes ++ [(⟨k.key, 0, k.val, -1⟩ : Tbst_node)] ++ [(⟨x.key, x.top, x.val, -1⟩ : Tbst_node)] ++ [y]).length : Int) - 1) = ((T.nodes.length + 2 : Nat) : Int) := by
    intro y
    rw [List.length_append, List.length_append, List.length_append, List.length_singleton, List.length_singleton, List.length_singleton, wrap_id (by omega) (by omega)]; omega
  rw [e1, e2]
  have e4 : ∀ y : Tbst_info, IntKind.wrap .i64 (((T.infos ++ [y]).length : Int) - 1) = (T.infos.length : Int) := by
    intro y
    rw [List.length_append, List.length_singleton, wrap_id (by omega) (by omega)]; omega
  unfold lowOf highOf innOf
  cases e : lessN x k with
  | true =>
    simp only [if_true, Option.bind_some]
    rw [appL_ok (by simp; omega) (by omega) (by omega)]
    simp only [Option.bind_some]
    rw [appL_ok (by simp; omega) (by omega) (by omega)]
    simp only [Option.bind_some, e3, e4]
  | false =>
    simp only [Bool.false_eq_true, if_false, Option.bind_some]
    rw [appL_ok (by simp; omega) (by omega) (by omega)]
    simp only [Option.bind_some]
    rw [appL_ok (by simp; omega) (by omega) (by omega)]
    simp only [Option.bind_some, e3, e4]
theorem st_grow1 {n : Nat} {T : Obst_Tree} {M : Omem_Mem} {C : Obst_Call} {s : Tbst_seen} {k : Tbst_node} {a l h i : Nat} (ha : a + 3 ≤ M.cells.length) (hb : a < 1073741824) (hl : l < 1099511627776) :
    F_step (n + 1) T M C (.c_grow_1 (a : Int) (l : Int) (h : Int) s (i : Int) k) .u = some (some (.c_grow_1_1 (a : Int) (h : Int) s (i : Int) k), T, setc M (a + 1) (l : Int), C) := by
  show F_bst_Tree_grow_1 (F_step n) T M C (a : Int) (l : Int) (h : Int) s (i : Int) k = _
  unfold F_bst_Tree_grow_1
  rw [show IntKind.wrap .i64 ((a : Int) + 1) = ((a + 1 : Nat) : Int) from by rw [wrap_id (by omega) (by omega)]; omega, wrap_u64 (by omega) (by omega), store_ok (by omega)]
  rfl
theorem st_grow2 {n : Nat} {T : Obst_Tree} {M : Omem_Mem} {C : Obst_Call} {s : Tbst_seen} {k : Tbst_node} {a h i : Nat} (ha : a + 3 ≤ M.cells.length) (hb : a < 1073741824) (hl : h < 1099511627776) :
    F_step (n + 1) T M C (.c_grow_1_1 (a : Int) (h : Int) s (i : Int) k) .u = some (some (.c_grow_1_1_1 s (i : Int) k), T, setc M (a + 2) (h : Int), C) := by
  show F_bst_Tree_grow_1_1 (F_step n) T M C (a : Int) (h : Int) s (i : Int) k = _
  unfold F_bst_Tree_grow_1_1
  rw [show IntKind.wrap .i64 ((a : Int) + 2) = ((a + 2 : Nat) : Int) from by rw [wrap_id (by omega) (by omega)]; omega, wrap_u64 (by omega) (by omega), store_ok (by omega)]
  rfl
theorem st_grow3 {n : Nat} {T : Obst_Tree} {M : Omem_Mem} {C : Obst_Call} {s : Tbst_seen} {k x : Tbst_node} {p c i : Nat} {w : Int} {y : Tbst_info} {p' l' n' : Nat} (hp : s.parent = (p : Int)) (h : T.nodes[p]? = some x) (hc : x.cell = (c : Int)) (hb : c < 1073741824) (hw : M.cells[c]? = some w) (hs : s.parentWord = w) (hi : T.infos[i]? = some y) (hib : i < 1000000)
    (y1 : y.parent = (p' : Int)) (y2 : y.leaf = (l' : Int)) (y3 : y.next = (n' : Int)) :
    F_step (n + 1) T M C (.c_grow_1_1_1 s (i : Int) k) .u = some (some (.c_turn_1 (p' : Int) (n' : Int) (l' : Int) (.c_grows_1 y (i : Int) (.c_grow_1_1_1_2 k))), T, setc M c ((4 * i + 1 : Nat) : Int), C) := by
  show F_bst_Tree_grow_1_1_1 (F_step n) T M C s (i : Int) k = _
  unfold F_bst_Tree_grow_1_1_1
  rw [hp, show (0 : Int) = ((0 : Nat) : Int) from rfl, cell_ok h hc (by omega)]
  simp only [Option.bind_some, Nat.add_zero]
  rw [show (1 : Int) = ((1 : Nat) : Int) from rfl, wpack_ok i 1 (by omega) (by omega)]
  simp only [Option.bind_some]
  rw [hs, cas_ok hw]
  simp only [Option.bind_some, Bool.not_true, Bool.false_eq_true, if_false]
  unfold F_bst_Tree_grows F_bst_Tree_turn
  rw [getI_nat, hi]
  simp only [Option.bind_some, y1, y2, y3]
theorem st_turn {n : Nat} {T : Obst_Tree} {M : Omem_Mem} {C : Obst_Call} {th : Clo} {p nx o c : Nat} {x z : Tbst_node} (h : T.nodes[p]? = some x) (hc : x.cell = (c : Int)) (hb : c < 1073741824) (hz : T.nodes[nx]? = some z) (ho : o < 1099511627776) (hnx : nx < 1099511627776)
    (hw : M.cells[c + (if lessN z x = true then 1 else 2)]? = some (o : Int)) :
    F_step (n + 1) T M C (.c_turn_1 (p : Int) (nx : Int) (o : Int) th) .u = F_step n T (setc M (c + (if lessN z x = true then 1 else 2)) (nx : Int)) C th .u := by
  show F_bst_Tree_turn_1 (F_step n) T M C (p : Int) (nx : Int) (o : Int) th = _
  unfold F_bst_Tree_turn_1
  rw [getI_nat, hz]
  simp only [Option.bind_some]
  rw [side_ok h hc hb]
  simp only [Option.bind_some]
  rw [wrap_u64 (by omega) (by omega), wrap_u64 (by omega) (by omega), cas_ok hw]
  simp only [Option.bind_some]
  exact rb _
theorem st_clean {n : Nat} {T : Obst_Tree} {M : Omem_Mem} {C : Obst_Call} {th : Clo} {p i st c : Nat} {x : Tbst_node} (h : T.nodes[p]? = some x) (hc : x.cell = (c : Int)) (hb : c < 1073741824) (hi : i < 1000000) (hst : st < 4)
    (hw : M.cells[c]? = some ((4 * i + st : Nat) : Int)) :
    F_step (n + 1) T M C (.c_clean_1 (p : Int) (st : Int) (i : Int) th) .u = F_step n T (setc M c ((4 * i + 0 : Nat) : Int)) C th .u := by
  show F_bst_Tree_clean_1 (F_step n) T M C (p : Int) (st : Int) (i : Int) th = _
  unfold F_bst_Tree_clean_1
  have e0 : F_word_Pack 0 (i : Int) = some ((4 * i + 0 : Nat) : Int) := wpack_ok i 0 (by omega) (by omega)
  have e1 : F_bst_Tree_cell T M (p : Int) 0 = some (((c + 0 : Nat) : Int), T, M) := cell_ok (k := 0) h hc (by omega)
  rw [e1]
  simp only [Option.bind_some, Nat.add_zero]
  rw [wpack_ok i st (by omega) hst, e0]
  simp only [Option.bind_some]
  rw [cas_ok hw]
  simp only [Option.bind_some]
  exact rb _
theorem st_grows1 {n : Nat} {T : Obst_Tree} {M : Omem_Mem} {C : Obst_Call} {th : Clo} {y : Tbst_info} {i : Int} : F_step (n + 1) T M C (.c_grows_1 y i th) .u = some (some (.c_clean_1 y.parent 1 i th), T, M, C) := rfl
theorem st_told {n : Nat} {T : Obst_Tree} {M : Omem_Mem} {C : Obst_Call} {k : Tbst_node} : F_step (n + 1) T M C (.c_grow_1_1_1_2 k) .u = some (none, T, M, ⟨true, C.told_Key, k.val, C.told_Err⟩) := rfl

/-! ### A deletion -/
end Go.Proofs.YtndhbaidibioeaaGreat.V
