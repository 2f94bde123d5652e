/- Whoever steps: nothing that it asks for is not there.
   No condition: these are laws of plain functions. -/
import Derived.Test.YtndhbaidibioeaaBj
namespace Go.Proofs.Ytndhbaidibioeaa.V
open Go
set_option linter.unusedVariables false
set_option linter.unusedSimpArgs false
set_option maxRecDepth 100000

/-! ### What is there -/
def Ndx (T : Obst_Tree) (i : Int) : Prop := ∃ m : Nat, i = (m : Int) ∧ m < T.nodes.length
def Inn (T : Obst_Tree) (i : Int) : Prop := ∃ (m c : Nat) (x : Tbst_node), i = (m : Int) ∧ T.nodes[m]? = some x ∧ x.cell = ((3 * c : Nat) : Int)
def Idx (T : Obst_Tree) (i : Int) : Prop := ∃ m : Nat, i = (m : Int) ∧ m < T.infos.length
def Wrd (T : Obst_Tree) (w : Int) : Prop := ∃ m : Nat, w = (m : Int) ∧ m / 4 < T.infos.length
structure Sn (T : Obst_Tree) (s : Tbst_seen) : Prop where
  g : Inn T s.grand
  p : Inn T s.parent
  l : Ndx T s.leaf
  t : s.turn < 0 ∨ Inn T s.turn
  gw : Wrd T s.grandWord
  pw : Wrd T s.parentWord
structure Ifo (T : Obst_Tree) (y : Tbst_info) : Prop where
  g : Inn T y.grand
  p : Inn T y.parent
  l : Ndx T y.leaf
  n : Ndx T y.next
structure SI (T : Obst_Tree) (M : Omem_Mem) (j : Nat) : Prop where
  nodes : ∀ x ∈ T.nodes, x.cell = -1 ∨ ∃ c : Nat, x.cell = ((3 * c : Nat) : Int) ∧ 3 * c + 3 ≤ M.cells.length
  root : Inn T 0
  one : 0 < T.infos.length
  cells : ∀ (a : Nat) (w : Int), M.cells[a]? = some w → (a % 3 = 0 → Wrd T w) ∧ (a % 3 ≠ 0 → Ndx T w)
  len : M.cells.length % 3 = 0 ∧ M.cells.length ≤ 65536
  infos : ∀ y ∈ T.infos, Ifo T y
  b1 : T.nodes.length ≤ 3 + 3 * j
  b2 : T.infos.length ≤ 1 + j
def TE (T T' : Obst_Tree) : Prop := (∃ A, T'.nodes = T.nodes ++ A) ∧ ∃ B, T'.infos = T.infos ++ B
theorem TE.refl (T : Obst_Tree) : TE T T := ⟨⟨[], by simp⟩, ⟨[], by simp⟩⟩
theorem TE.trans {T T' T2 : Obst_Tree} (a : TE T T') (b : TE T' T2) : TE T T2 := by
  obtain ⟨⟨A, a1⟩, ⟨B, a2⟩⟩ := a
  obtain ⟨⟨A', b1⟩, ⟨B', b2⟩⟩ := b
  exact ⟨⟨A ++ A', by rw [b1, a1, List.append_assoc]⟩, ⟨B ++ B', by rw [b2, a2, List.append_assoc]⟩⟩
section
variable {T T' : Obst_Tree} {M : Omem_Mem} {i w : Int}
theorem TE.nl (e : TE T T') : T.nodes.length ≤ T'.nodes.length := by
  obtain ⟨⟨A, a1⟩, _⟩ := e; rw [a1]; simp
theorem TE.il (e : TE T T') : T.infos.length ≤ T'.infos.length := by
  obtain ⟨_, ⟨A, a1⟩⟩ := e; rw [a1]; simp
theorem TE.nd (e : TE T T') {m : Nat} {x : Tbst_node} (h : T.nodes[m]? = some x) : T'.nodes[m]? = some x := by
  obtain ⟨⟨A, a1⟩, _⟩ := e
  rw [a1, List.getElem?_append_left (List.getElem?_eq_some_iff.mp h).1]; exact h
theorem Ndx.ext (h : Ndx T i) (e : TE T T') : Ndx T' i := by obtain ⟨m, a, b⟩ := h; exact ⟨m, a, by have := e.nl; omega⟩
theorem Inn.ext (h : Inn T i) (e : TE T T') : Inn T' i := by obtain ⟨m, c, x, a, b, d⟩ := h; exact ⟨m, c, x, a, e.nd b, d⟩
theorem Idx.ext (h : Idx T i) (e : TE T T') : Idx T' i := by obtain ⟨m, a, b⟩ := h; exact ⟨m, a, by have := e.il; omega⟩
theorem Wrd.ext (h : Wrd T i) (e : TE T T') : Wrd T' i := by obtain ⟨m, a, b⟩ := h; exact ⟨m, a, by have := e.il; omega⟩
theorem Sn.ext {s : Tbst_seen} (h : Sn T s) (e : TE T T') : Sn T' s := ⟨h.g.ext e, h.p.ext e, h.l.ext e, h.t.imp id (fun q => q.ext e), h.gw.ext e, h.pw.ext e⟩
theorem Ifo.ext {y : Tbst_info} (h : Ifo T y) (e : TE T T') : Ifo T' y := ⟨h.g.ext e, h.p.ext e, h.l.ext e, h.n.ext e⟩
theorem Inn.ndx (h : Inn T i) : Ndx T i := by obtain ⟨m, c, x, a, b, d⟩ := h; exact ⟨m, a, (List.getElem?_eq_some_iff.mp b).1⟩
end
theorem SI.mono {T : Obst_Tree} {M : Omem_Mem} {j k : Nat} (I : SI T M j) (h : j ≤ k) : SI T M k := ⟨I.nodes, I.root, I.one, I.cells, I.len, I.infos, by have := I.b1; omega, by have := I.b2; omega⟩
theorem SI.cong {T : Obst_Tree} {M M' : Omem_Mem} {j : Nat} (I : SI T M j) (h : M'.cells = M.cells) : SI T M' j := ⟨by rw [h]; exact I.nodes, I.root, I.one, by rw [h]; exact I.cells, by rw [h]; exact I.len, I.infos, I.b1, I.b2⟩

/-! ### Closures -/
inductive Kd where
  | u
  | s
  | b
  | w
inductive Ct (T : Obst_Tree) : Kd → Clo → Prop
  | seek {k : Tbst_node} : Ct T .s (.c_Seek_1_1 k)
  | find {k : Tbst_node} : Ct T .s (.c_Find_1_1 k)
  | ins {k : Tbst_node} {th : Clo} (h : Ct T .u th) : Ct T .s (.c_insert_2 k th)
  | rem {k : Tbst_node} {th : Clo} (h : Ct T .u th) : Ct T .s (.c_remove_2 k th)
  | ins1 {k : Tbst_node} : Ct T .u (.c_insert_1 k)
  | rem1 {k : Tbst_node} : Ct T .u (.c_remove_1 k)
  | rem211 {th : Clo} {v : Int} (h : Ct T .u th) : Ct T .b (.c_remove_2_1_1 th v)
  | help1 {th : Clo} (h : Ct T .u th) : Ct T .b (.c_help_1 th)
  | grow3 {k : Tbst_node} : Ct T .u (.c_grow_1_1_1_1 k)
  | grow4 {k : Tbst_node} : Ct T .u (.c_grow_1_1_1_2 k)
  | loses11 {th : Clo} (h : Ct T .b th) : Ct T .u (.c_loses_1_1 th)
  | loses12 {y : Tbst_info} {i : Int} {th : Clo} (hy : Ifo T y) (hi : Idx T i) (h : Ct T .b th) : Ct T .u (.c_loses_1_2 y i th)
  | loses121 {th : Clo} (h : Ct T .b th) : Ct T .u (.c_loses_1_2_1 th)
  | grows1 {y : Tbst_info} {i : Int} {th : Clo} (hy : Ifo T y) (hi : Idx T i) (h : Ct T .u th) : Ct T .u (.c_grows_1 y i th)
  | goes1 {y : Tbst_info} {i : Int} {th : Clo} (hy : Ifo T y) (hi : Idx T i) (h : Ct T .u th) : Ct T .w (.c_goes_1 y i th)
  | goes11 {y : Tbst_info} {i : Int} {th : Clo} (hy : Ifo T y) (hi : Idx T i) (h : Ct T .u th) : Ct T .u (.c_goes_1_1 y i th)
inductive Sti (T : Obst_Tree) : Clo → Prop
  | least {a : Nat} (h : a % 3 ≠ 0) : Sti T (.c_least_1 (a : Int))
  | down {s : Tbst_seen} {k : Tbst_node} {th : Clo} (hs : Sn T s) (h : Ct T .s th) : Sti T (.c_down_1 s k th)
  | down1 {s : Tbst_seen} {k : Tbst_node} {th : Clo} (hs : Sn T s) (h : Ct T .s th) : Sti T (.c_down_1_1 s k th)
  | rem21 {s : Tbst_seen} {i v : Int} {th : Clo} (hs : Sn T s) (hi : Idx T i) (h : Ct T .u th) : Sti T (.c_remove_2_1 s i th v)
  | grow1 {a : Nat} {l h i : Int} {s : Tbst_seen} {k : Tbst_node} (ha : a % 3 = 0) (hb : a < 65536) (hl : Ndx T l) (hh : Ndx T h) (hs : Sn T s) (hi : Idx T i) : Sti T (.c_grow_1 (a : Int) l h s i k)
  | grow11 {a : Nat} {h i : Int} {s : Tbst_seen} {k : Tbst_node} (ha : a % 3 = 0) (hb : a < 65536) (hh : Ndx T h) (hs : Sn T s) (hi : Idx T i) : Sti T (.c_grow_1_1 (a : Int) h s i k)
  | grow111 {i : Int} {s : Tbst_seen} {k : Tbst_node} (hs : Sn T s) (hi : Idx T i) : Sti T (.c_grow_1_1_1 s i k)
  | loses {y : Tbst_info} {m i : Int} {th : Clo} (hy : Ifo T y) (hm : Wrd T m) (hi : Idx T i) (h : Ct T .b th) : Sti T (.c_loses_1 y m i th)
  | goes2 {y : Tbst_info} {th : Clo} (hy : Ifo T y) (h : Ct T .w th) : Sti T (.c_goes_2 y th)
  | goes21 {y : Tbst_info} {th : Clo} (hy : Ifo T y) (h : Ct T .w th) : Sti T (.c_goes_2_1 y th)
  | clean {p st i : Int} {th : Clo} (hp : Inn T p) (hi : Idx T i) (h : Ct T .u th) : Sti T (.c_clean_1 p st i th)
  | turn {p nx o : Int} {th : Clo} (hp : Inn T p) (hn : Ndx T nx) (h : Ct T .u th) : Sti T (.c_turn_1 p nx o th)
theorem Ct.ext {T T' : Obst_Tree} {kd : Kd} {c : Clo} (h : Ct T kd c) (e : TE T T') : Ct T' kd c := by
  induction h with
  | seek => exact .seek
  | find => exact .find
  | ins _ ih => exact .ins ih
  | rem _ ih => exact .rem ih
  | ins1 => exact .ins1
  | rem1 => exact .rem1
  | rem211 _ ih => exact .rem211 ih
  | help1 _ ih => exact .help1 ih
  | grow3 => exact .grow3
  | grow4 => exact .grow4
  | loses11 _ ih => exact .loses11 ih
  | loses12 a b _ ih => exact .loses12 (a.ext e) (b.ext e) ih
  | loses121 _ ih => exact .loses121 ih
  | grows1 a b _ ih => exact .grows1 (a.ext e) (b.ext e) ih
  | goes1 a b _ ih => exact .goes1 (a.ext e) (b.ext e) ih
  | goes11 a b _ ih => exact .goes11 (a.ext e) (b.ext e) ih
theorem Sti.ext {T T' : Obst_Tree} {c : Clo} (h : Sti T c) (e : TE T T') : Sti T' c := by
  cases h with
  | least h => exact .least h
  | down a b => exact .down (a.ext e) (b.ext e)
  | down1 a b => exact .down1 (a.ext e) (b.ext e)
  | rem21 a b c => exact .rem21 (a.ext e) (b.ext e) (c.ext e)
  | grow1 a b c d f g => exact .grow1 a b (c.ext e) (d.ext e) (f.ext e) (g.ext e)
  | grow11 a b d f g => exact .grow11 a b (d.ext e) (f.ext e) (g.ext e)
  | grow111 f g => exact .grow111 (f.ext e) (g.ext e)
  | loses a b c d => exact .loses (a.ext e) (b.ext e) (c.ext e) (d.ext e)
  | goes2 a b => exact .goes2 (a.ext e) (b.ext e)
  | goes21 a b => exact .goes21 (a.ext e) (b.ext e)
  | clean a b c => exact .clean (a.ext e) (b.ext e) (c.ext e)
  | turn a b c => exact .turn (a.ext e) (b.ext e) (c.ext e)
def dep : Clo → Nat
  | .c_insert_2 _ t => dep t + 1
  | .c_remove_2 _ t => dep t + 1
  | .c_remove_2_1 _ _ t _ => dep t + 1
  | .c_remove_2_1_1 t _ => dep t + 1
  | .c_down_1 _ _ t => dep t + 1
  | .c_down_1_1 _ _ t => dep t + 1
  | .c_help_1 t => dep t + 1
  | .c_loses_1 _ _ _ t => dep t + 1
  | .c_loses_1_1 t => dep t + 1
  | .c_loses_1_2 _ _ t => dep t + 1
  | .c_loses_1_2_1 t => dep t + 1
  | .c_grows_1 _ _ t => dep t + 1
  | .c_goes_1 _ _ t => dep t + 1
  | .c_goes_1_1 _ _ t => dep t + 1
  | .c_goes_2 _ t => dep t + 1
  | .c_goes_2_1 _ t => dep t + 1
  | .c_clean_1 _ _ _ t => dep t + 1
  | .c_turn_1 _ _ _ t => dep t + 1
  | _ => 0
def AOk (T : Obst_Tree) : Kd → Arg → Prop
  | .u, .u => True
  | .s, .s x => Sn T x
  | .b, .b _ => True
  | .w, .w x => Ndx T x
  | _, _ => False
/-- What comes of it: all is in range still, and no cell was asked; or the fuel is gone. -/
def Gd (fu : Prop) (r : Option Rsl) (T : Obst_Tree) (M : Omem_Mem) (j d : Nat) : Prop :=
  (∃ o T' M' C', r = some (o, T', M', C') ∧ TE T T' ∧ SI T' M' (j + 1) ∧ M'.count = M.count ∧ ∀ x, o = some x → Sti T' x ∧ dep x ≤ d) ∨ (r = none ∧ fu)
theorem Gd.imp {fu fu' : Prop} {r : Option Rsl} {T : Obst_Tree} {M : Omem_Mem} {j d d' : Nat} (h : Gd fu r T M j d) (hf : fu → fu') (hd : d ≤ d') : Gd fu' r T M j d' := by
  rcases h with ⟨o, T', M', C', a, b, c, e, f⟩ | ⟨a, b⟩
  · exact .inl ⟨o, T', M', C', a, b, c, e, fun x hx => ⟨(f x hx).1, by have := (f x hx).2; omega⟩⟩
  · exact .inr ⟨a, hf b⟩
theorem Gd.here {fu : Prop} {o : Option Clo} {T : Obst_Tree} {M : Omem_Mem} {C : Obst_Call} {j d : Nat} (I : SI T M j) (h : ∀ x, o = some x → Sti T x ∧ dep x ≤ d) : Gd fu (some (o, T, M, C)) T M j d :=
  .inl ⟨o, T, M, C, rfl, TE.refl _, I.mono (by omega), rfl, h⟩
theorem Gd.to {fu : Prop} {x : Clo} {T : Obst_Tree} {M : Omem_Mem} {C : Obst_Call} {j d : Nat} (I : SI T M j) (h : Sti T x) (hd : dep x ≤ d) : Gd fu (some (some x, T, M, C)) T M j d :=
  .here I (fun y hy => by cases hy; exact ⟨h, hd⟩)
theorem Gd.end_ {fu : Prop} {T : Obst_Tree} {M : Omem_Mem} {C : Obst_Call} {j d : Nat} (I : SI T M j) : Gd fu (some (none, T, M, C)) T M j d := .here I (fun y hy => by cases hy)
def RcOk (rc : RC) (n : Nat) : Prop := ∀ (T : Obst_Tree) (M : Omem_Mem) (j : Nat) (C : Obst_Call) (kd : Kd) (c : Clo) (a : Arg), Ct T kd c → AOk T kd a → SI T M j → j ≤ 300000 → Gd (n ≤ dep c) (rc T M C c a) T M j (dep c + 4)

/-! ### What asks no cell -/
section
variable {rc : RC} {n j : Nat} {T : Obst_Tree} {M : Omem_Mem} {C : Obst_Call} {fu : Prop}
theorem SI.ifo (I : SI T M j) {i : Int} (h : Idx T i) : ∃ y, getI T.infos i = some y ∧ Ifo T y := by
  obtain ⟨m, rfl, hm⟩ := h
  exact ⟨T.infos[m], by rw [getI_nat, List.getElem?_eq_getElem hm], I.infos _ (List.getElem_mem hm)⟩
theorem SI.node (I : SI T M j) {i : Int} (h : Ndx T i) : ∃ (m : Nat) (x : Tbst_node), i = (m : Int) ∧ T.nodes[m]? = some x ∧ getI T.nodes i = some x ∧ x ∈ T.nodes := by
  obtain ⟨m, rfl, hm⟩ := h
  exact ⟨m, T.nodes[m], rfl, List.getElem?_eq_getElem hm, by rw [getI_nat, List.getElem?_eq_getElem hm], List.getElem_mem hm⟩
theorem turn_gd {p nx o : Int} {th : Clo} (I : SI T M j) (hp : Inn T p) (hn : Ndx T nx) (h : Ct T .u th) : Gd fu (F_bst_Tree_turn rc T M C p o nx th) T M j (dep th + 1) :=
  .to I (.turn hp hn h) (Nat.le_refl _)
theorem grows_gd {i : Int} {th : Clo} (I : SI T M j) (hi : Idx T i) (h : Ct T .u th) : Gd fu (F_bst_Tree_grows rc T M C i th) T M j (dep th + 2) := by
  obtain ⟨y, e, hy⟩ := I.ifo hi
  unfold F_bst_Tree_grows
  rw [e]
  simp only [Option.bind_some, rb]
  exact turn_gd I hy.p hy.n (.grows1 hy hi h)
theorem loses_gd {i : Int} {th : Clo} (I : SI T M j) (hj : j ≤ 300000) (hi : Idx T i) (h : Ct T .b th) : Gd fu (F_bst_Tree_loses rc T M C i th) T M j (dep th + 1) := by
  obtain ⟨y, e, hy⟩ := I.ifo hi
  obtain ⟨m, rfl, hm⟩ := hi
  have b2 := I.b2
  unfold F_bst_Tree_loses
  rw [e]
  simp only [Option.bind_some]
  rw [show (3 : Int) = ((3 : Nat) : Int) from rfl, wpack_ok m 3 (by omega) (by omega)]
  simp only [Option.bind_some]
  exact .to I (.loses hy ⟨_, rfl, by omega⟩ ⟨m, rfl, hm⟩ h) (Nat.le_refl _)
theorem goes_gd {i : Int} {th : Clo} (I : SI T M j) (hi : Idx T i) (h : Ct T .u th) : Gd fu (F_bst_Tree_goes rc T M C i th) T M j (dep th + 2) := by
  obtain ⟨y, e, hy⟩ := I.ifo hi
  unfold F_bst_Tree_goes
  rw [e]
  simp only [Option.bind_some]
  exact .to I (.goes2 hy (.goes1 hy hi h)) (Nat.le_refl _)
theorem clean_gd {p st i : Int} {th : Clo} (I : SI T M j) (hp : Inn T p) (hi : Idx T i) (h : Ct T .u th) : Gd fu (F_bst_Tree_clean rc T M C p st i th) T M j (dep th + 1) :=
  .to I (.clean hp hi h) (Nat.le_refl _)
theorem help_gd (Hr : RcOk rc n) {w : Int} {th : Clo} (I : SI T M j) (hj : j ≤ 300000) (hw : Wrd T w) (h : Ct T .u th) : Gd (n ≤ dep th) (F_bst_Tree_help rc T M C w th) T M j (dep th + 4) := by
  obtain ⟨m, rfl, hm⟩ := hw
  have b2 := I.b2
  unfold F_bst_Tree_help
  rw [winfo_ok m (by omega), wstate_ok m (by omega)]
  simp only [Option.bind_some, rb]
  have hi : Idx T ((m / 4 : Nat) : Int) := ⟨_, rfl, hm⟩
  split
  · exact (grows_gd I hi h).imp id (by omega)
  · split
    · exact (loses_gd I hj hi (.help1 h)).imp id (by simp only [dep]; omega)
    · split
      · exact (goes_gd I hi h).imp id (by omega)
      · exact Hr T M j C .u th .u h trivial I hj
theorem down_gd (Hr : RcOk rc n) {s : Tbst_seen} {k : Tbst_node} {th : Clo} (I : SI T M j) (hj : j ≤ 300000) (hs : Sn T s) (h : Ct T .s th) : Gd (n ≤ dep th) (F_bst_Tree_down rc T M C s k th) T M j (dep th + 4) := by
  obtain ⟨m, x, e, hx, e2, hm⟩ := I.node hs.l
  unfold F_bst_Tree_down
  rw [e2]
  simp only [Option.bind_some, F_bst_node_leaf, rb]
  split
  · exact Hr T M j C .s th (.s s) h hs I hj
  · rename_i q
    rcases I.nodes x hm with w | ⟨c, w, _⟩
    · rw [w] at q; simp at q
    · exact .to I (.down ⟨hs.p, ⟨m, c, x, e, hx, w⟩, hs.l, hs.t, hs.pw, hs.pw⟩ h) (by simp only [dep]; omega)
theorem SI.zero (I : SI T M j) : Wrd T 0 := ⟨0, rfl, I.one⟩
/-- A search never ends at once: its first node has children. -/
theorem search_to {k : Tbst_node} {th : Clo} (I : SI T M j) (h : Ct T .s th) : Gd fu (F_bst_Tree_search rc T M C k th) T M j (dep th + 1) := by
  obtain ⟨m, c, x, e, hx, w⟩ := I.root
  unfold F_bst_Tree_search F_bst_Tree_down
  rw [rb]
  have e2 : getI T.nodes 0 = some x := by rw [e, getI_nat]; exact hx
  simp only [e2, Option.bind_some, F_bst_node_leaf]
  rw [if_neg (by rw [w, decide_eq_true_iff]; omega)]
  exact .to I (.down ⟨I.root, I.root, I.root.ndx, .inl (by simp), I.zero, I.zero⟩ h) (Nat.le_refl _)
theorem cell_in {k : Nat} {i : Int} (h : Inn T i) (I : SI T M j) : ∃ c : Nat, F_bst_Tree_cell T M i (k : Int) = some (((3 * c + k : Nat) : Int), T, M) ∨ 3 < k := by
  obtain ⟨m, c, x, rfl, hx, w⟩ := h
  by_cases hk : 3 < k
  · exact ⟨0, .inr hk⟩
  · rcases I.nodes x (List.mem_of_getElem? hx) with q | ⟨c', q, hc⟩
    · rw [w] at q; omega
    · have := I.len.2
      exact ⟨c, .inl (cell_ok hx w (by omega))⟩
theorem cell3 {i : Int} (h : Inn T i) (I : SI T M j) (k : Nat) (hk : k ≤ 3) : ∃ c : Nat, F_bst_Tree_cell T M i (k : Int) = some (((3 * c + k : Nat) : Int), T, M) := by
  obtain ⟨c, w | w⟩ := cell_in (k := k) h I
  · exact ⟨c, w⟩
  · omega
theorem insert_to {k : Tbst_node} (I : SI T M j) : Gd fu (F_bst_Tree_insert rc T M C k) T M j 2 := by
  unfold F_bst_Tree_insert
  rw [rb]
  exact search_to I (.ins .ins1)
theorem remove_to {k : Tbst_node} (I : SI T M j) : Gd fu (F_bst_Tree_remove rc T M C k) T M j 2 := by
  unfold F_bst_Tree_remove
  rw [rb]
  exact search_to I (.rem .rem1)
end
end Go.Proofs.Ytndhbaidibioeaa.V
