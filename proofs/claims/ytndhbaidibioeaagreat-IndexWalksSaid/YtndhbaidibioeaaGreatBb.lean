/- The tree as it lies in cells; going down.
   No condition: these are laws of plain functions. -/
import Derived.Test.YtndhbaidibioeaaGreatBa
namespace Go.Proofs.YtndhbaidibioeaaGreat.V
open Go
set_option linter.unusedVariables false
set_option linter.unusedSimpArgs false
set_option maxRecDepth 100000

inductive BT where
  | lf (i : Nat)
  | nd (i : Nat) (l r : BT)
namespace BT
def root : BT → Nat
  | lf i => i
  | nd i _ _ => i
def ids : BT → List Nat
  | lf i => [i]
  | nd i l r => i :: (ids l ++ ids r)
def inn : BT → Nat
  | lf _ => 0
  | nd _ l r => inn l + inn r + 1
def isNd : BT → Bool
  | lf _ => false
  | nd _ _ _ => true
theorem root_mem : ∀ t : BT, t.root ∈ t.ids
  | lf i => List.mem_cons_self
  | nd i l r => List.mem_cons_self
end BT
def nk (N : List Tbst_node) (i : Nat) : Tbst_node := N.getD i default
theorem nk_eq {N : List Tbst_node} {i : Nat} {x : Tbst_node} (h : N[i]? = some x) : nk N i = x := by
  unfold nk; rw [List.getD_eq_getElem?_getD, h]; rfl
def wd (K : List Int) (c : Nat) : Int := K.getD c 0
theorem wd_eq {K : List Int} {c : Nat} {w : Int} (h : K[c]? = some w) : wd K c = w := by
  unfold wd; rw [List.getD_eq_getElem?_getD, h]; rfl
/-- How a tree lies, with nobody at work on it. -/
def Lay (N : List Tbst_node) (K : List Int) : BT → Prop
  | .lf i => ∃ x, N[i]? = some x ∧ x.cell = -1
  | .nd i l r => ∃ x c w, N[i]? = some x ∧ x.cell = ((c : Nat) : Int) ∧ c < 1073741824 ∧ K[c]? = some ((w : Nat) : Int) ∧ w % 4 = 0 ∧ w < 1099511627776 ∧ K[c + 1]? = some ((l.root : Nat) : Int) ∧ K[c + 2]? = some ((r.root : Nat) : Int) ∧ Lay N K l ∧ Lay N K r
theorem Lay.lt {N : List Tbst_node} {K : List Int} : ∀ {t : BT}, Lay N K t → ∀ i ∈ t.ids, i < N.length
  | .lf i, ⟨x, h, _⟩, j, hj => by
    have : j = i := by simpa [BT.ids] using hj
    subst this
    exact (List.getElem?_eq_some_iff.mp h).1
  | .nd i l r, ⟨x, c, w, h, _, _, _, _, _, _, _, h1, h2⟩, j, hj => by
    rcases List.mem_cons.mp hj with q | q
    · subst q; exact (List.getElem?_eq_some_iff.mp h).1
    · rcases List.mem_append.mp q with q | q
      · exact Lay.lt h1 j q
      · exact Lay.lt h2 j q

/-! ### Runs -/
abbrev Cfg := Obst_Tree × Omem_Mem × Obst_Call × Option Clo
inductive Rs (n : Nat) : Nat → Obst_Tree → Omem_Mem → Obst_Call → Option Clo → Cfg → Prop
  | refl {T : Obst_Tree} {M : Omem_Mem} {C : Obst_Call} {o : Option Clo} : Rs n 0 T M C o (T, M, C, o)
  | step {k : Nat} {T T2 : Obst_Tree} {M M2 : Omem_Mem} {C C2 : Obst_Call} {x : Clo} {o : Option Clo} {f : Cfg} (h : F_step n T M C x .u = some (o, T2, M2, C2)) (r : Rs n k T2 M2 C2 o f) : Rs n (k + 1) T M C (some x) f
/-- What comes of a result, at most so many steps later. -/
def Outc (n : Nat) (r : Option Rsl) (b : Nat) (P : Cfg → Prop) : Prop := ∃ o T M C k f, r = some (o, T, M, C) ∧ k ≤ b ∧ Rs n k T M C o f ∧ P f
theorem Outc.done {n b : Nat} {o : Option Clo} {T : Obst_Tree} {M : Omem_Mem} {C : Obst_Call} {P : Cfg → Prop} (h : P (T, M, C, o)) : Outc n (some (o, T, M, C)) b P := ⟨o, T, M, C, 0, _, rfl, Nat.zero_le _, .refl, h⟩
theorem Outc.step {n b : Nat} {x : Clo} {T : Obst_Tree} {M : Omem_Mem} {C : Obst_Call} {P : Cfg → Prop} {r : Option Rsl} (e : F_step n T M C x .u = r) (h : Outc n r b P) : Outc n (some (some x, T, M, C)) (b + 1) P := by
  obtain ⟨o, T2, M2, C2, k, f, h1, h2, h3, h4⟩ := h
  exact ⟨some x, T, M, C, k + 1, f, rfl, by omega, .step (e.trans h1) h3, h4⟩
theorem Outc.le {n b c : Nat} {P : Cfg → Prop} {r : Option Rsl} (h : Outc n r b P) (hb : b ≤ c) : Outc n r c P := by
  obtain ⟨o, T2, M2, C2, k, f, h1, h2, h3, h4⟩ := h
  exact ⟨o, T2, M2, C2, k, f, h1, by omega, h3, h4⟩

/-! ### Going down -/
theorem down_lf {rc : RC} {T : Obst_Tree} {M : Omem_Mem} {C : Obst_Call} {s : Tbst_seen} {k : Tbst_node} {th : Clo} {i : Nat} {x : Tbst_node} (hs : s.leaf = (i : Int)) (h : T.nodes[i]? = some x) (hc : x.cell = -1) :
    F_bst_Tree_down rc T M C s k th = rc T M C th (.s s) := by
  unfold F_bst_Tree_down F_bst_node_leaf
  rw [hs, getI_nat, h]
  simp only [Option.bind_some, hc]
  rw [if_pos (by decide)]
  exact rb _
theorem down_nd {rc : RC} {T : Obst_Tree} {M : Omem_Mem} {C : Obst_Call} {s : Tbst_seen} {k : Tbst_node} {th : Clo} {i : Nat} {x : Tbst_node} (hs : s.leaf = (i : Int)) (h : T.nodes[i]? = some x) (hc : 0 ≤ x.cell) :
    F_bst_Tree_down rc T M C s k th = some (some (.c_down_1 ⟨s.parent, (i : Int), (i : Int), s.parentWord, s.parentWord, s.turn⟩ k th), T, M, C) := by
  unfold F_bst_Tree_down F_bst_node_leaf
  rw [hs, getI_nat, h]
  simp only [Option.bind_some]
  rw [if_neg (by rw [decide_eq_true_iff]; omega)]
theorem side_ok {T : Obst_Tree} {M : Omem_Mem} {i c : Nat} {x k : Tbst_node} (h : T.nodes[i]? = some x) (hc : x.cell = (c : Int)) (hb : c < 1073741824) :
    F_bst_Tree_side T M (i : Int) k = some (((c + (if lessN k x = true then 1 else 2) : Nat) : Int), T, M) := by
  unfold F_bst_Tree_side
  rw [getI_nat, h]
  simp only [Option.bind_some, less_ok]
  cases e : lessN k x with
  | true =>
    simp only [if_true]
    rw [show (1 : Int) = ((1 : Nat) : Int) from rfl, cell_ok h hc (by omega)]
    rfl
  | false =>
    simp only [Bool.false_eq_true, if_false]
    rw [show (2 : Int) = ((2 : Nat) : Int) from rfl, cell_ok h hc (by omega)]
    rfl
/-- A step loads the node's word. -/
theorem step_word {n : Nat} {T : Obst_Tree} {M : Omem_Mem} {C : Obst_Call} {s : Tbst_seen} {k : Tbst_node} {th : Clo} {i c : Nat} {x : Tbst_node} {w : Int} (hs : s.parent = (i : Int)) (h : T.nodes[i]? = some x) (hc : x.cell = (c : Int)) (hb : c < 1073741824) (hw : M.cells[c]? = some w) :
    F_step (n + 1) T M C (.c_down_1 s k th) .u = some (some (.c_down_1_1 ⟨s.grand, s.parent, s.leaf, s.grandWord, w, s.turn⟩ k th), T, tick M, C) := by
  show F_bst_Tree_down_1 (F_step n) T M C s k th = _
  unfold F_bst_Tree_down_1
  rw [hs, show (0 : Int) = ((0 : Nat) : Int) from rfl, cell_ok h hc (by omega)]
  simp only [Option.bind_some, Nat.add_zero]
  rw [load_ok hw]
  rfl
/-- A step loads the child. -/
theorem step_child {n : Nat} {T : Obst_Tree} {M : Omem_Mem} {C : Obst_Call} {s : Tbst_seen} {k : Tbst_node} {th : Clo} {i c j : Nat} {x : Tbst_node} (hs : s.parent = (i : Int)) (h : T.nodes[i]? = some x) (hc : x.cell = (c : Int)) (hb : c < 1073741824) (hj : j < 1099511627776)
    (hw : M.cells[c + (if lessN k x = true then 1 else 2)]? = some ((j : Nat) : Int)) :
    F_step (n + 1) T M C (.c_down_1_1 s k th) .u = F_bst_Tree_down (F_step n) T (tick M) C ⟨s.grand, s.parent, (j : Int), s.grandWord, s.parentWord, if lessN k x = true then (i : Int) else s.turn⟩ k th := by
  show F_bst_Tree_down_1_1 (F_step n) T M C s k th = _
  unfold F_bst_Tree_down_1_1
  rw [hs, side_ok h hc hb]
  simp only [Option.bind_some]
  rw [show (1 : Int) = ((1 : Nat) : Int) from rfl, cell_ok h hc (by omega)]
  simp only [Option.bind_some]
  have e : (if ((((c + (if lessN k x = true then 1 else 2) : Nat) : Int)) == (((c + 1 : Nat) : Int))) = true then some ((i : Nat) : Int) else some s.turn) = some (if lessN k x = true then (i : Int) else s.turn) := by
    cases lessN k x with
    | true => simp
    | false => rw [if_neg (by simp), if_neg (by simp)]
  rw [e]
  simp only [Option.bind_some]
  rw [load_ok hw]
  simp only [Option.bind_some]
  rw [show IntKind.wrap .i64 ((j : Nat) : Int) = (j : Int) from wrap_id (by omega) (by omega)]
  exact rb _
/-- What a search has seen at a tree's leaf. -/
def dsc (N : List Tbst_node) (K : List Int) (k : Tbst_node) : BT → Tbst_seen → Tbst_seen
  | .lf _, s => s
  | .nd i l r, s =>
    if lessN k (nk N i) = true then dsc N K k l ⟨s.parent, (i : Int), (l.root : Int), s.parentWord, wd K (nk N i).cell.toNat, (i : Int)⟩
    else dsc N K k r ⟨s.parent, (i : Int), (r.root : Int), s.parentWord, wd K (nk N i).cell.toNat, s.turn⟩
theorem search {n b : Nat} {T : Obst_Tree} {C : Obst_Call} {k : Tbst_node} {th : Clo} {P : Cfg → Prop} (hN : T.nodes.length < 1099511627776) : ∀ (t : BT) (s : Tbst_seen) (M : Omem_Mem), Lay T.nodes M.cells t → s.leaf = (t.root : Int) →
    (∀ M' : Omem_Mem, M'.cells = M.cells → Outc (n + 1) (F_step n T M' C th (.s (dsc T.nodes M.cells k t s))) b P) → Outc (n + 1) (F_bst_Tree_down (F_step n) T M C s k th) (b + 2 * t.inn) P := by
  intro t
  induction t with
  | lf i =>
    intro s M ⟨x, h1, h2⟩ hs H
    rw [down_lf hs h1 h2]
    exact (H M rfl).le (by omega)
  | nd i l r ihl ihr =>
    intro s M hL hs H
    have hL0 := hL
    obtain ⟨x, c, w, h1, h2, h3, h4, h5, h6, h7, h8, h9, h10⟩ := hL
    have hl : l.root < T.nodes.length := hL0.lt _ (List.mem_cons_of_mem _ (List.mem_append_left _ l.root_mem))
    have hr : r.root < T.nodes.length := hL0.lt _ (List.mem_cons_of_mem _ (List.mem_append_right _ r.root_mem))
    rw [down_nd hs h1 (by omega)]
    have e0 : nk T.nodes i = x := nk_eq h1
    have e1 : wd M.cells (nk T.nodes i).cell.toNat = ((w : Nat) : Int) := by rw [e0, h2, Int.toNat_natCast]; exact wd_eq h4
    refine (Outc.step (b := b + 2 * (l.inn + r.inn) + 1) (step_word rfl h1 h2 h3 h4) ?_).le (by simp only [BT.inn]; omega)
    refine Outc.step (b := b + 2 * (l.inn + r.inn)) rfl ?_
    cases e : lessN k x with
    | true =>
      rw [step_child (j := l.root) rfl h1 h2 h3 (by omega) (by rw [e]; exact h7)]
      rw [if_pos e]
      refine (ihl _ (tick (tick M)) h9 rfl (fun M' hM' => ?_)).le (by omega)
      have := H M' hM'
      rw [dsc, e0, if_pos e, ← e0, e1] at this
      exact this
    | false =>
      rw [step_child (j := r.root) rfl h1 h2 h3 (by omega) (by rw [e]; exact h8)]
      rw [if_neg (by rw [e]; simp)]
      refine (ihr _ (tick (tick M)) h10 rfl (fun M' hM' => ?_)).le (by omega)
      have := H M' hM'
      rw [dsc, e0, if_neg (by rw [e]; simp), ← e0, e1] at this
      exact this
end Go.Proofs.YtndhbaidibioeaaGreat.V
