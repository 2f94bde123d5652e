/- Whoever steps: nothing that it asks for is not there.
   No condition: these are laws of plain functions. -/
import Derived.Test.YtndhbaidibioeaaQB
namespace Go.Proofs.Ytndhbaidibioeaa.V
open Go
set_option linter.unusedVariables false
set_option linter.unusedSimpArgs false
set_option maxRecDepth 100000
def Ndx (T : Obst_Tree) (i : Int) : Prop := ∃ m : Nat, i = (m : Int) ∧ m < T.nodes.length
def Inn (T : Obst_Tree) (i : Int) : Prop := ∃ (m c : Nat) (x : Tbst_node), i = (m : Int) ∧ T.nodes[m]? = some x ∧ x.cell = ((3 * c : Nat) : Int)
def Idx (T : Obst_Tree) (i : Int) : Prop := ∃ m : Nat, i = (m : Int) ∧ m < T.infos.length
def Wrd (T : Obst_Tree) (w : Int) : Prop := ∃ m : Nat, w = (m : Int) ∧ m / 4 < T.infos.length
structure Sn (T : Obst_Tree) (s : Tbst_seen) : Prop where
 g : Inn T s.grand
 p : Inn T s.parent
 l : Ndx T s.leaf
 t : s.turn < 0 ∨ Inn T s.turn
 gw : Wrd T s.grandWord
 pw : Wrd T s.parentWord
structure Ifo (T : Obst_Tree) (y : Tbst_info) : Prop where
 g : Inn T y.grand
 p : Inn T y.parent
 l : Ndx T y.leaf
 n : Ndx T y.next
structure SI (T : Obst_Tree) (M : Omem_Mem) (j : Nat) : Prop where
 nodes : ∀ x ∈ T.nodes, x.cell = -1 ∨ ∃ c : Nat, x.cell = ((3 * c : Nat) : Int) ∧ 3 * c + 3 ≤ M.cells.length
 root : Inn T 0
 one : 0 < T.infos.length
 cells : ∀ (a : Nat) (w : Int), M.cells[a]? = some w → (a % 3 = 0 → Wrd T w) ∧ (a % 3 ≠ 0 → Ndx T w)
 len : M.cells.length % 3 = 0 ∧ M.cells.length ≤ 65536
 infos : ∀ y ∈ T.infos, Ifo T y
 b1 : T.nodes.length ≤ 3 + 3 * j
 b2 : T.infos.length ≤ 1 + j
 b3 : M.cells.length ≤ 3 + 3 * j
def TE (T T' : Obst_Tree) : Prop := (∃ A, T'.nodes = T.nodes ++ A) ∧ ∃ B, T'.infos = T.infos ++ B
theorem TE.refl (T : Obst_Tree) : TE T T := ⟨⟨[], by simp⟩, ⟨[], by simp⟩⟩
theorem TE.trans {T T' T2 : Obst_Tree} (a : TE T T') (b : TE T' T2) : TE T T2 := by
 obtain ⟨⟨A, a1⟩, ⟨B, a2⟩⟩ := a
 obtain ⟨⟨A', b1⟩, ⟨B', b2⟩⟩ := b
 exact ⟨⟨A ++ A', by rw [b1, a1, List.append_assoc]⟩, ⟨B ++ B', by rw [b2, a2, List.append_assoc]⟩⟩
section
variable {T T' : Obst_Tree} {M : Omem_Mem} {i w : Int}
theorem TE.nl (e : TE T T') : T.nodes.length ≤ T'.nodes.length := by
 obtain ⟨⟨A, a1⟩, _⟩ := e; rw [a1]; simp
theorem TE.il (e : TE T T') : T.infos.length ≤ T'.infos.length := by
 obtain ⟨_, ⟨A, a1⟩⟩ := e; rw [a1]; simp
theorem TE.nd (e : TE T T') {m : Nat} {x : Tbst_node} (h : T.nodes[m]? = some x) : T'.nodes[m]? = some x := by
 obtain ⟨⟨A, a1⟩, _⟩ := e
 rw [a1, List.getElem?_append_left (List.getElem?_eq_some_iff.mp h).1]; exact h
theorem Ndx.ext (h : Ndx T i) (e : TE T T') : Ndx T' i := by obtain ⟨m, a, b⟩ := h; exact ⟨m, a, by have := e.nl; omega⟩
theorem Inn.ext (h : Inn T i) (e : TE T T') : Inn T' i := by obtain ⟨m, c, x, a, b, d⟩ := h; exact ⟨m, c, x, a, e.nd b, d⟩
theorem Idx.ext (h : Idx T i) (e : TE T T') : Idx T' i := by obtain ⟨m, a, b⟩ := h; exact ⟨m, a, by have := e.il; omega⟩
theorem Wrd.ext (h : Wrd T i) (e : TE T T') : Wrd T' i := by obtain ⟨m, a, b⟩ := h; exact ⟨m, a, by have := e.il; omega⟩
theorem Sn.ext {s : Tbst_seen} (h : Sn T s) (e : TE T T') : Sn T' s := ⟨h.g.ext e, h.p.ext e, h.l.ext e, h.t.imp id (fun q => q.ext e), h.gw.ext e, h.pw.ext e⟩
theorem Ifo.ext {y : Tbst_info} (h : Ifo T y) (e : TE T T') : Ifo T' y := ⟨h.g.ext e, h.p.ext e, h.l.ext e, h.n.ext e⟩
theorem Inn.ndx (h : Inn T i) : Ndx T i := by obtain ⟨m, c, x, a, b, d⟩ := h; exact ⟨m, a, (List.getElem?_eq_some_iff.mp b).1⟩
end
theorem SI.mono {T : Obst_Tree} {M : Omem_Mem} {j k : Nat} (I : SI T M j) (h : j ≤ k) : SI T M k := ⟨I.nodes, I.root, I.one, I.cells, I.len, I.infos, by have := I.b1; omega, by have := I.b2; omega, by have := I.b3; omega⟩
theorem SI.cong {T : Obst_Tree} {M M' : Omem_Mem} {j : Nat} (I : SI T M j) (h : M'.cells = M.cells) : SI T M' j := ⟨by rw [h]; exact I.nodes, I.root, I.one, by rw [h]; exact I.cells, by rw [h]; exact I.len, I.infos, I.b1, I.b2, by rw [h]; exact I.b3⟩
inductive Kd where
 | u
 | s
 | b
 | w
inductive Ct (T : Obst_Tree) : Kd → Clo → Prop
 | seek {k : Tbst_node} : Ct T .s (.c_Seek_1_1 k)
 | find {k : Tbst_node} : Ct T .s (.c_Find_1_1 k)
 | ins {k : Tbst_node} {th : Clo} (h : Ct T .u th) : Ct T .s (.c_insert_2 k th)
 | rem {k : Tbst_node} {th : Clo} (h : Ct T .u th) : Ct T .s (.c_remove_2 k th)
 | ins1 {k : Tbst_node} : Ct T .u (.c_insert_1 k)
 | rem1 {k : Tbst_node} : Ct T .u (.c_remove_1 k)
 | rem211 {th : Clo} {v : Int} (h : Ct T .u th) : Ct T .b (.c_remove_2_1_1 th v)
 | help1 {th : Clo} (h : Ct T .u th) : Ct T .b (.c_help_1 th)
 | grow3 {k : Tbst_node} : Ct T .u (.c_grow_1_1_1_1 k)
 | grow4 {k : Tbst_node} : Ct T .u (.c_grow_1_1_1_2 k)
 | loses11 {th : Clo} (h : Ct T .b th) : Ct T .u (.c_loses_1_1 th)
 | loses12 {y : Tbst_info} {i : Int} {th : Clo} (hy : Ifo T y) (hi : Idx T i) (h : Ct T .b th) : Ct T .u (.c_loses_1_2 y i th)
 | loses121 {th : Clo} (h : Ct T .b th) : Ct T .u (.c_loses_1_2_1 th)
 | grows1 {y : Tbst_info} {i : Int} {th : Clo} (hy : Ifo T y) (hi : Idx T i) (h : Ct T .u th) : Ct T .u (.c_grows_1 y i th)
 | goes1 {y : Tbst_info} {i : Int} {th : Clo} (hy : Ifo T y) (hi : Idx T i) (h : Ct T .u th) : Ct T .w (.c_goes_1 y i th)
 | goes11 {y : Tbst_info} {i : Int} {th : Clo} (hy : Ifo T y) (hi : Idx T i) (h : Ct T .u th) : Ct T .u (.c_goes_1_1 y i th)
inductive Sti (T : Obst_Tree) : Clo → Prop
 | least {a : Nat} (h : a % 3 ≠ 0) : Sti T (.c_least_1 (a : Int))
 | down {s : Tbst_seen} {k : Tbst_node} {th : Clo} (hs : Sn T s) (h : Ct T .s th) : Sti T (.c_down_1 s k th)
 | down1 {s : Tbst_seen} {k : Tbst_node} {th : Clo} (hs : Sn T s) (h : Ct T .s th) : Sti T (.c_down_1_1 s k th)
 | rem21 {s : Tbst_seen} {i v : Int} {th : Clo} (hs : Sn T s) (hi : Idx T i) (h : Ct T .u th) : Sti T (.c_remove_2_1 s i th v)
 | grow1 {a : Nat} {l h i : Int} {s : Tbst_seen} {k : Tbst_node} (ha : a % 3 = 0) (hb : a < 65536) (hl : Ndx T l) (hh : Ndx T h) (hs : Sn T s) (hi : Idx T i) : Sti T (.c_grow_1 (a : Int) l h s i k)
 | grow11 {a : Nat} {h i : Int} {s : Tbst_seen} {k : Tbst_node} (ha : a % 3 = 0) (hb : a < 65536) (hh : Ndx T h) (hs : Sn T s) (hi : Idx T i) : Sti T (.c_grow_1_1 (a : Int) h s i k)
 | grow111 {i : Int} {s : Tbst_seen} {k : Tbst_node} (hs : Sn T s) (hi : Idx T i) : Sti T (.c_grow_1_1_1 s i k)
 | loses {y : Tbst_info} {m i : Int} {th : Clo} (hy : Ifo T y) (hm : Wrd T m) (hi : Idx T i) (h : Ct T .b th) : Sti T (.c_loses_1 y m i th)
 | goes2 {y : Tbst_info} {th : Clo} (hy : Ifo T y) (h : Ct T .w th) : Sti T (.c_goes_2 y th)
 | goes21 {y : Tbst_info} {th : Clo} (hy : Ifo T y) (h : Ct T .w th) : Sti T (.c_goes_2_1 y th)
 | clean {p st i : Int} {th : Clo} (hp : Inn T p) (hi : Idx T i) (h : Ct T .u th) : Sti T (.c_clean_1 p st i th)
 | turn {p nx o : Int} {th : Clo} (hp : Inn T p) (hn : Ndx T nx) (h : Ct T .u th) : Sti T (.c_turn_1 p nx o th)
theorem Ct.ext {T T' : Obst_Tree} {kd : Kd} {c : Clo} (h : Ct T kd c) (e : TE T T') : Ct T' kd c := by
 induction h with
 | seek => exact .seek
 | find => exact .find
 | ins _ ih => exact .ins ih
 | rem _ ih => exact .rem ih
 | ins1 => exact .ins1
 | rem1 => exact .rem1
 | rem211 _ ih => exact .rem211 ih
 | help1 _ ih => exact .help1 ih
 | grow3 => exact .grow3
 | grow4 => exact .grow4
 | loses11 _ ih => exact .loses11 ih
 | loses12 a b _ ih => exact .loses12 (a.ext e) (b.ext e) ih
 | loses121 _ ih => exact .loses121 ih
 | grows1 a b _ ih => exact .grows1 (a.ext e) (b.ext e) ih
 | goes1 a b _ ih => exact .goes1 (a.ext e) (b.ext e) ih
 | goes11 a b _ ih => exact .goes11 (a.ext e) (b.ext e) ih
theorem Sti.ext {T T' : Obst_Tree} {c : Clo} (h : Sti T c) (e : TE T T') : Sti T' c := by
 cases h with
 | least h => exact .least h
 | down a b => exact .down (a.ext e) (b.ext e)
 | down1 a b => exact .down1 (a.ext e) (b.ext e)
 | rem21 a b c => exact .rem21 (a.ext e) (b.ext e) (c.ext e)
 | grow1 a b c d f g => exact .grow1 a b (c.ext e) (d.ext e) (f.ext e) (g.ext e)
 | grow11 a b d f g => exact .grow11 a b (d.ext e) (f.ext e) (g.ext e)
 | grow111 f g => exact .grow111 (f.ext e) (g.ext e)
 | loses a b c d => exact .loses (a.ext e) (b.ext e) (c.ext e) (d.ext e)
 | goes2 a b => exact .goes2 (a.ext e) (b.ext e)
 | goes21 a b => exact .goes21 (a.ext e) (b.ext e)
 | clean a b c => exact .clean (a.ext e) (b.ext e) (c.ext e)
 | turn a b c => exact .turn (a.ext e) (b.ext e) (c.ext e)
def dep : Clo → Nat
 | .c_insert_2 _ t => dep t + 1
 | .c_remove_2 _ t => dep t + 1
 | .c_remove_2_1 _ _ t _ => dep t + 1
 | .c_remove_2_1_1 t _ => dep t + 1
 | .c_down_1 _ _ t => dep t + 1
 | .c_down_1_1 _ _ t => dep t + 1
 | .c_help_1 t => dep t + 1
 | .c_loses_1 _ _ _ t => dep t + 1
 | .c_loses_1_1 t => dep t + 1
 | .c_loses_1_2 _ _ t => dep t + 1
 | .c_loses_1_2_1 t => dep t + 1
 | .c_grows_1 _ _ t => dep t + 1
 | .c_goes_1 _ _ t => dep t + 1
 | .c_goes_1_1 _ _ t => dep t + 1
 | .c_goes_2 _ t => dep t + 1
 | .c_goes_2_1 _ t => dep t + 1
 | .c_clean_1 _ _ _ t => dep t + 1
 | .c_turn_1 _ _ _ t => dep t + 1
 | _ => 0
def AOk (T : Obst_Tree) : Kd → Arg → Prop
 | .u, .u => True
 | .s, .s x => Sn T x
 | .b, .b _ => True
 | .w, .w x => Ndx T x
 | _, _ => False
def Gd (fu : Prop) (r : Option Rsl) (T : Obst_Tree) (M : Omem_Mem) (C : Obst_Call) (j d : Nat) : Prop :=
 (∃ o T' M' C', r = some (o, T', M', C') ∧ TE T T' ∧ SI T' M' (j + 1) ∧ M'.count = M.count ∧ (j ≤ 21000 → C'.told_Err = C.told_Err) ∧ ∀ x, o = some x → Sti T' x ∧ dep x ≤ d) ∨ (r = none ∧ fu)
theorem Gd.imp {fu fu' : Prop} {r : Option Rsl} {T : Obst_Tree} {M : Omem_Mem} {C : Obst_Call} {j d d' : Nat} (h : Gd fu r T M C j d) (hf : fu → fu') (hd : d ≤ d') : Gd fu' r T M C j d' := by
 rcases h with ⟨o, T', M', C', a, b, c, e, q, f⟩ | ⟨a, b⟩
 ·
  exact .inl ⟨o, T', M', C', a, b, c, e, q, fun x hx => ⟨(f x hx).1, by have := (f x hx).2; omega⟩⟩
 ·
  exact .inr ⟨a, hf b⟩
theorem Gd.here {fu : Prop} {o : Option Clo} {T : Obst_Tree} {M : Omem_Mem} {C C' : Obst_Call} {j d : Nat} (I : SI T M j) (h : ∀ x, o = some x → Sti T x ∧ dep x ≤ d) (he : C'.told_Err = C.told_Err := by rfl) : Gd fu (some (o, T, M, C')) T M C j d :=
 .inl ⟨o, T, M, C', rfl, TE.refl _, I.mono (by omega), rfl, fun _ => he, h⟩
theorem Gd.to {fu : Prop} {x : Clo} {T : Obst_Tree} {M : Omem_Mem} {C : Obst_Call} {j d : Nat} (I : SI T M j) (h : Sti T x) (hd : dep x ≤ d) : Gd fu (some (some x, T, M, C)) T M C j d :=
 .here I (fun y hy => by cases hy; exact ⟨h, hd⟩)
theorem Gd.end_ {fu : Prop} {T : Obst_Tree} {M : Omem_Mem} {C C' : Obst_Call} {j d : Nat} (I : SI T M j) (he : C'.told_Err = C.told_Err := by rfl) : Gd fu (some (none, T, M, C')) T M C j d := .here I (fun y hy => by cases hy) he
def RcOk (rc : RC) (n : Nat) : Prop := ∀ (T : Obst_Tree) (M : Omem_Mem) (j : Nat) (C : Obst_Call) (kd : Kd) (c : Clo) (a : Arg), Ct T kd c → AOk T kd a → SI T M j → j ≤ 300000 → Gd (n ≤ dep c) (rc T M C c a) T M C j (dep c + 4)
section
variable {rc : RC} {n j : Nat} {T : Obst_Tree} {M : Omem_Mem} {C : Obst_Call} {fu : Prop}
theorem SI.ifo (I : SI T M j) {i : Int} (h : Idx T i) : ∃ y, getI T.infos i = some y ∧ Ifo T y := by
 obtain ⟨m, rfl, hm⟩ := h
 exact ⟨T.infos[m], by rw [getI_nat, List.getElem?_eq_getElem hm], I.infos _ (List.getElem_mem hm)⟩
theorem SI.node (I : SI T M j) {i : Int} (h : Ndx T i) : ∃ (m : Nat) (x : Tbst_node), i = (m : Int) ∧ T.nodes[m]? = some x ∧ getI T.nodes i = some x ∧ x ∈ T.nodes := by
 obtain ⟨m, rfl, hm⟩ := h
 exact ⟨m, T.nodes[m], rfl, List.getElem?_eq_getElem hm, by rw [getI_nat, List.getElem?_eq_getElem hm], List.getElem_mem hm⟩
theorem turn_gd {p nx o : Int} {th : Clo} (I : SI T M j) (hp : Inn T p) (hn : Ndx T nx) (h : Ct T .u th) : Gd fu (F_bst_Tree_turn rc T M C p o nx th) T M C j (dep th + 1) :=
 .to I (.turn hp hn h) (Nat.le_refl _)
theorem grows_gd {i : Int} {th : Clo} (I : SI T M j) (hi : Idx T i) (h : Ct T .u th) : Gd fu (F_bst_Tree_grows rc T M C i th) T M C j (dep th + 2) := by
 obtain ⟨y, e, hy⟩ := I.ifo hi
 unfold F_bst_Tree_grows
 rw [e]
 simp only [Option.bind_some, rb]
 exact turn_gd I hy.p hy.n (.grows1 hy hi h)
theorem loses_gd {i : Int} {th : Clo} (I : SI T M j) (hj : j ≤ 300000) (hi : Idx T i) (h : Ct T .b th) : Gd fu (F_bst_Tree_loses rc T M C i th) T M C j (dep th + 1) := by
 obtain ⟨y, e, hy⟩ := I.ifo hi
 obtain ⟨m, rfl, hm⟩ := hi
 have b2 := I.b2
 unfold F_bst_Tree_loses
 rw [e]
 simp only [Option.bind_some]
 rw [show (3 : Int) = ((3 : Nat) : Int) from rfl, wpack_ok m 3 (by omega) (by omega)]
 simp only [Option.bind_some]
 exact .to I (.loses hy ⟨_, rfl, by omega⟩ ⟨m, rfl, hm⟩ h) (Nat.le_refl _)
theorem goes_gd {i : Int} {th : Clo} (I : SI T M j) (hi : Idx T i) (h : Ct T .u th) : Gd fu (F_bst_Tree_goes rc T M C i th) T M C j (dep th + 2) := by
 obtain ⟨y, e, hy⟩ := I.ifo hi
 unfold F_bst_Tree_goes
 rw [e]
 simp only [Option.bind_some]
 exact .to I (.goes2 hy (.goes1 hy hi h)) (Nat.le_refl _)
theorem clean_gd {p st i : Int} {th : Clo} (I : SI T M j) (hp : Inn T p) (hi : Idx T i) (h : Ct T .u th) : Gd fu (F_bst_Tree_clean rc T M C p st i th) T M C j (dep th + 1) :=
 .to I (.clean hp hi h) (Nat.le_refl _)
theorem help_gd (Hr : RcOk rc n) {w : Int} {th : Clo} (I : SI T M j) (hj : j ≤ 300000) (hw : Wrd T w) (h : Ct T .u th) : Gd (n ≤ dep th) (F_bst_Tree_help rc T M C w th) T M C j (dep th + 4) := by
 obtain ⟨m, rfl, hm⟩ := hw
 have b2 := I.b2
 unfold F_bst_Tree_help
 rw [winfo_ok m (by omega), wstate_ok m (by omega)]
 simp only [Option.bind_some, rb]
 have hi : Idx T ((m / 4 : Nat) : Int) := ⟨_, rfl, hm⟩
 split
 ·
  exact (grows_gd I hi h).imp id (by omega)
 ·
  split
  ·
   exact (loses_gd I hj hi (.help1 h)).imp id (by simp only [dep]; omega)
  ·
   split
   ·
    exact (goes_gd I hi h).imp id (by omega)
   ·
    exact Hr T M j C .u th .u h trivial I hj
theorem down_gd (Hr : RcOk rc n) {s : Tbst_seen} {k : Tbst_node} {th : Clo} (I : SI T M j) (hj : j ≤ 300000) (hs : Sn T s) (h : Ct T .s th) : Gd (n ≤ dep th) (F_bst_Tree_down rc T M C s k th) T M C j (dep th + 4) := by
 obtain ⟨m, x, e, hx, e2, hm⟩ := I.node hs.l
 unfold F_bst_Tree_down
 rw [e2]
 simp only [Option.bind_some, F_bst_node_leaf, rb]
 split
 ·
  exact Hr T M j C .s th (.s s) h hs I hj
 ·
  rename_i q
  rcases I.nodes x hm with w | ⟨c, w, _⟩
  ·
   rw [w] at q; simp at q
  ·
   exact .to I (.down ⟨hs.p, ⟨m, c, x, e, hx, w⟩, hs.l, hs.t, hs.pw, hs.pw⟩ h) (by simp only [dep]; omega)
theorem SI.zero (I : SI T M j) : Wrd T 0 := ⟨0, rfl, I.one⟩
theorem search_to {k : Tbst_node} {th : Clo} (I : SI T M j) (h : Ct T .s th) : Gd fu (F_bst_Tree_search rc T M C k th) T M C j (dep th + 1) := by
 obtain ⟨m, c, x, e, hx, w⟩ := I.root
 unfold F_bst_Tree_search F_bst_Tree_down
 rw [rb]
 have e2 : getI T.nodes 0 = some x := by rw [e, getI_nat]; exact hx
 simp only [e2, Option.bind_some, F_bst_node_leaf]
 rw [if_neg (by rw [w, decide_eq_true_iff]; omega)]
 exact .to I (.down ⟨I.root, I.root, I.root.ndx, .inl (by simp), I.zero, I.zero⟩ h) (Nat.le_refl _)
theorem cell_in {k : Nat} {i : Int} (h : Inn T i) (I : SI T M j) : ∃ c : Nat, F_bst_Tree_cell T M i (k : Int) = some (((3 * c + k : Nat) : Int), T, M) ∨ 3 < k := by
 obtain ⟨m, c, x, rfl, hx, w⟩ := h
 by_cases hk : 3 < k
 ·
  exact ⟨0, .inr hk⟩
 ·
  rcases I.nodes x (List.mem_of_getElem? hx) with q | ⟨c', q, hc⟩
  ·
   rw [w] at q; omega
  ·
   have := I.len.2
   exact ⟨c, .inl (cell_ok hx w (by omega))⟩
theorem cell3 {i : Int} (h : Inn T i) (I : SI T M j) (k : Nat) (hk : k ≤ 3) : ∃ c : Nat, F_bst_Tree_cell T M i (k : Int) = some (((3 * c + k : Nat) : Int), T, M) := by
 obtain ⟨c, w | w⟩ := cell_in (k := k) h I
 ·
  exact ⟨c, w⟩
 ·
  omega
theorem insert_to {k : Tbst_node} (I : SI T M j) : Gd fu (F_bst_Tree_insert rc T M C k) T M C j 2 := by
 unfold F_bst_Tree_insert
 rw [rb]
 exact search_to I (.ins .ins1)
theorem remove_to {k : Tbst_node} (I : SI T M j) : Gd fu (F_bst_Tree_remove rc T M C k) T M C j 2 := by
 unfold F_bst_Tree_remove
 rw [rb]
 exact search_to I (.rem .rem1)
end
theorem grow_no {M : Omem_Mem} (h : M.cells.length ≤ 65536) (h2 : ¬ M.cells.length + 3 ≤ 65536) : F_mem_Mem_Grow M 3 = some (0, 7, M) := by
 unfold F_mem_Mem_Grow
 have e : decide ((3 : Int) > IntKind.i64.wrap (65536 - (M.cells.length : Int))) = true := by
  rw [wrap_id (by omega) (by omega)]
  exact decide_eq_true (by omega)
 rw [e]
 simp
section
variable {n j : Nat} {T : Obst_Tree} {M : Omem_Mem} {C : Obst_Call} {fu : Prop}
theorem insert2_gd (Hr : RcOk (F_step n) n) {s : Tbst_seen} {k : Tbst_node} {th : Clo} (I : SI T M j) (hj : j ≤ 300000) (hs : Sn T s) (h : Ct T .u th) : Gd (n ≤ dep th) (F_step (n + 1) T M C (.c_insert_2 k th) (.s s)) T M C j (dep th + 4) := by
 obtain ⟨i, x, e, hx, e2, hm⟩ := I.node hs.l
 have b1 := I.b1
 have b2 := I.b2
 obtain ⟨w, hw, hw2⟩ := hs.pw
 by_cases hk : isKey x k = true
 ·
  rw [ins_there e hx hk]
  exact Gd.end_ I
 ·
  have hk : isKey x k = false := by simpa using hk
  by_cases w4 : w % 4 = 0
  ·
   by_cases hc : M.cells.length + 3 ≤ 65536
   ·
    obtain ⟨p, pc, px, hp, hp2, hp3⟩ := hs.p
    rw [ins_grow (n := n) e hp hx hk hw w4 (by omega) hc (by omega) (by omega)]
    generalize hT' : (⟨T.nodes ++ [⟨k.key, 0, k.val, -1⟩] ++ [⟨x.key, x.top, x.val, -1⟩] ++ [innOf x k M.cells.length], T.infos ++ [⟨0, (p : Int), (i : Int), ((T.nodes.length + 2 : Nat) : Int), 0⟩]⟩ : Obst_Tree) = T'
    have hN' : T'.nodes = T.nodes ++ [⟨k.key, 0, k.val, -1⟩] ++ [⟨x.key, x.top, x.val, -1⟩] ++ [innOf x k M.cells.length] := by rw [← hT']
    have hI' : T'.infos = T.infos ++ [⟨0, (p : Int), (i : Int), ((T.nodes.length + 2 : Nat) : Int), 0⟩] := by rw [← hT']
    have te : TE T T' := ⟨⟨_, by rw [hN', List.append_assoc, List.append_assoc]⟩, ⟨_, hI'⟩⟩
    have l3 := I.len.1
    have hlN : T'.nodes.length = T.nodes.length + 3 := by rw [hN']; simp
    have hlI : T'.infos.length = T.infos.length + 1 := by rw [hI']; simp
    refine .inl ⟨_, T', _, C, rfl, te, ⟨fun y hy => ?_, I.root.ext te, by have := I.one; omega, fun a v hv => ?_, ⟨by simp; omega, by simpa using hc⟩, fun y hy => ?_, by omega, by omega, by have := I.b3; simp; omega⟩, rfl, fun _ => rfl, fun y hy => ?_⟩
    ·
     rw [hN'] at hy
     simp only [List.mem_append, List.mem_singleton] at hy
     rcases hy with ((q | q) | q) | q
     ·
      rcases I.nodes y q with r | ⟨c, r, r2⟩
      ·
       exact .inl r
      ·
       exact .inr ⟨c, r, by simp; omega⟩
     ·
      rw [q]; exact .inl rfl
     ·
      rw [q]; exact .inl rfl
     ·
      rw [q, innOf_cell]
      exact .inr ⟨M.cells.length / 3, by omega, by simp; omega⟩
    ·
     by_cases ha : a < M.cells.length
     ·
      rw [List.getElem?_append_left ha] at hv
      have := I.cells a v hv
      exact ⟨fun q => (this.1 q).ext te, fun q => (this.2 q).ext te⟩
     ·
      rw [List.getElem?_append_right (by omega)] at hv
      have : v = 0 := by
       have := List.mem_of_getElem? hv
       simpa using this
      rw [this]
      exact ⟨fun _ => I.zero.ext te, fun _ => I.root.ndx.ext te⟩
    ·
     rw [hI'] at hy
     rcases List.mem_append.mp hy with q | q
     ·
      exact (I.infos y q).ext te
     ·
      rw [List.mem_singleton] at q
      rw [q]
      exact ⟨I.root.ext te, (show Inn T' (p : Int) from by rw [← hp]; exact hs.p.ext te), (show Ndx T' (i : Int) from by rw [← e]; exact hs.l.ext te), ⟨_, rfl, by omega⟩⟩
    ·
     cases hy
     have lb : lowOf x k T.nodes.length ≤ T.nodes.length + 1 := by unfold lowOf; split <;> omega
     have hb : highOf x k T.nodes.length ≤ T.nodes.length + 1 := by unfold highOf; split <;> omega
     exact ⟨.grow1 l3 (by omega) ⟨_, rfl, by omega⟩ ⟨_, rfl, by omega⟩ (hs.ext te) ⟨_, rfl, by omega⟩, by simp [dep]⟩
   ·
    show Gd _ (F_bst_Tree_insert_2 (F_step n) T M C s k th) _ _ _ _ _
    unfold F_bst_Tree_insert_2
    rw [e, is_ok hx, hk, hw]
    simp only [Option.bind_some, Bool.false_eq_true, if_false]
    rw [wstate_ok w (by omega), w4]
    simp only [Option.bind_some]
    rw [if_neg (by simp), grow_no I.len.2 hc]
    simp only [Option.bind_some]
    rw [if_pos (by rfl)]
    exact .inl ⟨_, _, _, _, rfl, TE.refl _, I.mono (by omega), rfl, fun q => absurd q (by have := I.b3; omega), fun y hy => by cases hy⟩
  ·
   show Gd _ (F_bst_Tree_insert_2 (F_step n) T M C s k th) _ _ _ _ _
   unfold F_bst_Tree_insert_2
   rw [e, is_ok hx, hk]
   simp only [Option.bind_some, Bool.false_eq_true, if_false]
   rw [hw, wstate_ok w (by omega)]
   simp only [Option.bind_some, rb]
   rw [if_pos (by simp; omega)]
   exact help_gd Hr I hj ⟨w, rfl, hw2⟩ h
theorem rem_help1 (Hr : RcOk (F_step n) n) {s : Tbst_seen} {k x : Tbst_node} {th : Clo} {i w : Nat} (I : SI T M j) (hj : j ≤ 300000) (e : s.leaf = (i : Int)) (hx : T.nodes[i]? = some x) (hk : isKey x k = true) (hw : s.grandWord = (w : Int)) (hw2 : w / 4 < T.infos.length) (w4 : w % 4 ≠ 0) (h : Ct T .u th) : Gd (n ≤ dep th) (F_bst_Tree_remove_2 (F_step n) T M C s k th) T M C j (dep th + 4) := by
 have b2 := I.b2
 unfold F_bst_Tree_remove_2
 rw [e, is_ok hx, hk, hw, Option.bind_some]
 rw [if_neg (by simp), wstate_ok w (by omega), Option.bind_some]
 rw [if_pos (by simp; omega), rb]
 exact help_gd Hr I hj ⟨w, rfl, hw2⟩ h
theorem rem_help2 (Hr : RcOk (F_step n) n) {s : Tbst_seen} {k x : Tbst_node} {th : Clo} {i w v : Nat} (I : SI T M j) (hj : j ≤ 300000) (e : s.leaf = (i : Int)) (hx : T.nodes[i]? = some x) (hk : isKey x k = true) (hw : s.grandWord = (w : Int)) (hw2 : w / 4 < T.infos.length) (w4 : w % 4 = 0) (hv : s.parentWord = (v : Int)) (hv2 : v / 4 < T.infos.length) (v4 : v % 4 ≠ 0) (h : Ct T .u th) : Gd (n ≤ dep th) (F_bst_Tree_remove_2 (F_step n) T M C s k th) T M C j (dep th + 4) := by
 have b2 := I.b2
 unfold F_bst_Tree_remove_2
 rw [e, is_ok hx, hk, hw, hv, Option.bind_some]
 rw [if_neg (by simp), wstate_ok w (by omega), w4, Option.bind_some]
 rw [if_neg (by simp), wstate_ok v (by omega), Option.bind_some]
 rw [if_pos (by simp; omega), rb]
 exact help_gd Hr I hj ⟨v, rfl, hv2⟩ h
theorem remove2_gd (Hr : RcOk (F_step n) n) {s : Tbst_seen} {k : Tbst_node} {th : Clo} (I : SI T M j) (hj : j ≤ 300000) (hs : Sn T s) (h : Ct T .u th) : Gd (n ≤ dep th) (F_step (n + 1) T M C (.c_remove_2 k th) (.s s)) T M C j (dep th + 4) := by
 obtain ⟨i, x, e, hx, e2, hm⟩ := I.node hs.l
 have b1 := I.b1
 have b2 := I.b2
 obtain ⟨w, hw, hw2⟩ := hs.gw
 obtain ⟨v, hv, hv2⟩ := hs.pw
 obtain ⟨p, pc, px, hp, hp2, hp3⟩ := hs.p
 obtain ⟨g, gc, gx, hg, hg2, hg3⟩ := hs.g
 by_cases hk : isKey x k = true
 ·
  by_cases w4 : w % 4 = 0
  ·
   by_cases v4 : v % 4 = 0
   ·
    rw [rem_begin (n := n) e hg hp hx hk hw w4 (by omega) hv v4 (by omega) (by omega)]
    generalize hT' : (⟨T.nodes, T.infos ++ [⟨(g : Int), (p : Int), (i : Int), 0, (v : Int)⟩]⟩ : Obst_Tree) = T'
    have hN' : T'.nodes = T.nodes := by rw [← hT']
    have hI' : T'.infos = T.infos ++ [⟨(g : Int), (p : Int), (i : Int), 0, (v : Int)⟩] := by rw [← hT']
    have te : TE T T' := ⟨⟨[], by rw [hN']; simp⟩, ⟨_, hI'⟩⟩
    have hlI : T'.infos.length = T.infos.length + 1 := by rw [hI']; simp
    refine .inl ⟨_, T', _, C, rfl, te, ⟨fun y hy => I.nodes y (by rw [hN'] at hy; exact hy), I.root.ext te, by have := I.one; omega, fun a v hv => ⟨fun q => ((I.cells a v hv).1 q).ext te, fun q => ((I.cells a v hv).2 q).ext te⟩, I.len, fun y hy => ?_, by rw [hN']; omega, by omega, by have := I.b3; omega⟩, rfl, fun _ => rfl, fun y hy => ?_⟩
    ·
     rw [hI'] at hy
     rcases List.mem_append.mp hy with q | q
     ·
      exact (I.infos y q).ext te
     ·
      rw [List.mem_singleton] at q
      rw [q]
      exact ⟨(show Inn T' (g : Int) from by rw [← hg]; exact hs.g.ext te), (show Inn T' (p : Int) from by rw [← hp]; exact hs.p.ext te), (show Ndx T' (i : Int) from by rw [← e]; exact hs.l.ext te), I.root.ndx.ext te⟩
    ·
     cases hy
     exact ⟨.rem21 (hs.ext te) ⟨_, rfl, by omega⟩ (h.ext te), by simp only [dep]; omega⟩
   ·
    exact rem_help2 Hr I hj e hx hk hw hw2 w4 hv hv2 v4 h
  ·
   exact rem_help1 Hr I hj e hx hk hw hw2 w4 h
 ·
  rw [rem_none e hx (by simpa using hk)]
  exact Gd.end_ I
theorem find_gd {s : Tbst_seen} {k : Tbst_node} (I : SI T M j) (hs : Sn T s) : Gd fu (F_step (n + 1) T M C (.c_Find_1_1 k) (.s s)) T M C j 4 := by
 obtain ⟨i, x, e, hx, e2, hm⟩ := I.node hs.l
 rw [find_ok e hx]
 exact Gd.end_ I
theorem seek_gd {s : Tbst_seen} {k : Tbst_node} (I : SI T M j) (hs : Sn T s) : Gd fu (F_step (n + 1) T M C (.c_Seek_1_1 k) (.s s)) T M C j 4 := by
 obtain ⟨i, x, e, hx, e2, hm⟩ := I.node hs.l
 show Gd _ (F_bst_Tree_Seek_1_1 (F_step n) T M C s k) _ _ _ _ _
 unfold F_bst_Tree_Seek_1_1
 rw [e2]
 simp only [Option.bind_some, less_ok]
 have : ∃ b, (if (x.top == 0) = true then some (!lessN x k) else some false : Option Bool) = some b := by split <;> exact ⟨_, rfl⟩
 obtain ⟨b, hb⟩ := this
 rw [hb]
 simp only [Option.bind_some, rb, tell_ok]
 split
 ·
  exact Gd.end_ I
 ·
  split
  ·
   exact Gd.end_ I
  ·
   rename_i q
   rcases hs.t with w | w
   ·
    exact absurd (decide_eq_true w) q
   ·
    obtain ⟨c, hc⟩ := cell3 w I 2 (by omega)
    rw [show (2 : Int) = ((2 : Nat) : Int) from rfl, hc]
    simp only [Option.bind_some]
    exact .to I (.least (by omega)) (by simp [dep])
end
theorem step_rc : ∀ n, RcOk (F_step n) n := by
 intro n
 induction n with
 | zero => intro T M j C kd c a hc ha I hj; exact .inr ⟨rfl, by omega⟩
 | succ n ih =>
  intro T M j C kd c a hc ha I hj
  cases hc with
  | seek => cases a <;> simp only [AOk] at ha; exact (seek_gd (fu := False) I ha).imp (fun f => f.elim) (by omega)
  | find => cases a <;> simp only [AOk] at ha; exact (find_gd (fu := False) I ha).imp (fun f => f.elim) (by omega)
  | ins h => cases a <;> simp only [AOk] at ha; exact (insert2_gd ih I hj ha h).imp (fun f => by simp only [dep]; omega) (by simp only [dep]; omega)
  | rem h => cases a <;> simp only [AOk] at ha; exact (remove2_gd ih I hj ha h).imp (fun f => by simp only [dep]; omega) (by simp only [dep]; omega)
  | @ins1 k =>
   cases a <;> simp only [AOk] at ha
   show Gd _ (F_bst_Tree_insert_1 (F_step n) T M C k) _ _ _ _ _
   unfold F_bst_Tree_insert_1
   rw [rb]
   exact (insert_to (fu := False) I).imp (fun f => f.elim) (by omega)
  | @rem1 k =>
   cases a <;> simp only [AOk] at ha
   show Gd _ (F_bst_Tree_remove_1 (F_step n) T M C k) _ _ _ _ _
   unfold F_bst_Tree_remove_1
   rw [rb]
   exact (remove_to (fu := False) I).imp (fun f => f.elim) (by omega)
  | @rem211 th v h =>
   cases a <;> simp only [AOk] at ha
   rename_i b
   show Gd _ (F_bst_Tree_remove_2_1_1 (F_step n) T M C b th v) _ _ _ _ _
   unfold F_bst_Tree_remove_2_1_1
   simp only [rb, tell_ok]
   split
   ·
    exact (ih T M j C .u th .u h trivial I hj).imp (fun f => by simp only [dep]; omega) (by simp only [dep]; omega)
   ·
    exact Gd.end_ I
  | @help1 th h =>
   cases a <;> simp only [AOk] at ha
   rename_i b
   show Gd _ (F_bst_Tree_help_1 (F_step n) T M C b th) _ _ _ _ _
   unfold F_bst_Tree_help_1
   rw [rb]
   exact (ih T M j C .u th .u h trivial I hj).imp (fun f => by simp only [dep]; omega) (by simp only [dep]; omega)
  | @grow3 k =>
   cases a <;> simp only [AOk] at ha
   show Gd _ (F_bst_Tree_grow_1_1_1_1 (F_step n) T M C k) _ _ _ _ _
   unfold F_bst_Tree_grow_1_1_1_1
   rw [rb]
   exact (insert_to (fu := False) I).imp (fun f => f.elim) (by omega)
  | @grow4 k =>
   cases a <;> simp only [AOk] at ha
   show Gd _ (F_bst_Tree_grow_1_1_1_2 (F_step n) T M C k) _ _ _ _ _
   unfold F_bst_Tree_grow_1_1_1_2
   rw [rb]
   exact Gd.end_ I
  | @loses11 th h =>
   cases a <;> simp only [AOk] at ha
   show Gd _ (F_bst_Tree_loses_1_1 (F_step n) T M C th) _ _ _ _ _
   unfold F_bst_Tree_loses_1_1
   rw [rb]
   exact (ih T M j C .b th (.b true) h trivial I hj).imp (fun f => by simp only [dep]; omega) (by simp only [dep]; omega)
  | @loses12 y i th hy hi h =>
   cases a <;> simp only [AOk] at ha
   show Gd _ (F_bst_Tree_loses_1_2 (F_step n) T M C y i th) _ _ _ _ _
   unfold F_bst_Tree_loses_1_2
   rw [rb]
   exact (clean_gd (fu := False) I hy.g hi (.loses121 h)).imp (fun f => f.elim) (by simp only [dep]; omega)
  | @loses121 th h =>
   cases a <;> simp only [AOk] at ha
   show Gd _ (F_bst_Tree_loses_1_2_1 (F_step n) T M C th) _ _ _ _ _
   unfold F_bst_Tree_loses_1_2_1
   rw [rb]
   exact (ih T M j C .b th (.b false) h trivial I hj).imp (fun f => by simp only [dep]; omega) (by simp only [dep]; omega)
  | @grows1 y i th hy hi h =>
   cases a <;> simp only [AOk] at ha
   show Gd _ (F_bst_Tree_grows_1 (F_step n) T M C y i th) _ _ _ _ _
   unfold F_bst_Tree_grows_1
   rw [rb]
   exact (clean_gd (fu := False) I hy.p hi h).imp (fun f => f.elim) (by simp only [dep]; omega)
  | @goes1 y i th hy hi h =>
   cases a <;> simp only [AOk] at ha
   rename_i w
   show Gd _ (F_bst_Tree_goes_1 (F_step n) T M C w y i th) _ _ _ _ _
   unfold F_bst_Tree_goes_1
   rw [rb]
   have hw : IntKind.i64.wrap w = w := by
    obtain ⟨m, rfl, hm⟩ := ha
    have := I.b1
    exact wrap_id (by omega) (by omega)
   rw [hw]
   exact (turn_gd (fu := False) I hy.g ha (.goes11 hy hi h)).imp (fun f => f.elim) (by simp only [dep]; omega)
  | @goes11 y i th hy hi h =>
   cases a <;> simp only [AOk] at ha
   show Gd _ (F_bst_Tree_goes_1_1 (F_step n) T M C y i th) _ _ _ _ _
   unfold F_bst_Tree_goes_1_1
   rw [rb]
   exact (clean_gd (fu := False) I hy.g hi h).imp (fun f => f.elim) (by simp only [dep]; omega)
def Cnt (M M' : Omem_Mem) : Prop := M'.count = M.count ∨ M'.count = IntKind.i64.wrap (M.count + 1)
def Gs (fu : Prop) (r : Option Rsl) (T : Obst_Tree) (M : Omem_Mem) (C : Obst_Call) (j d : Nat) : Prop :=
 (∃ o T' M' C', r = some (o, T', M', C') ∧ TE T T' ∧ SI T' M' (j + 1) ∧ Cnt M M' ∧ (j ≤ 21000 → C'.told_Err = C.told_Err) ∧ ∀ x, o = some x → Sti T' x ∧ dep x ≤ d) ∨ (r = none ∧ fu)
theorem Gd.gs {fu fu' : Prop} {r : Option Rsl} {T : Obst_Tree} {M M' : Omem_Mem} {C : Obst_Call} {j d d' : Nat} (h : Gd fu r T M' C j d) (hc : Cnt M M') (hf : fu → fu') (hd : d ≤ d') : Gs fu' r T M C j d' := by
 rcases h with ⟨o, T', M2, C', a, b, c, e, q, f⟩ | ⟨a, b⟩
 ·
  refine .inl ⟨o, T', M2, C', a, b, c, ?_, q, fun x hx => ⟨(f x hx).1, by have := (f x hx).2; omega⟩⟩
  unfold Cnt at hc ⊢
  rw [e]; exact hc
 ·
  exact .inr ⟨a, hf b⟩
section
variable {n j : Nat} {T : Obst_Tree} {M : Omem_Mem} {C : Obst_Call} {fu : Prop}
theorem load_any (I : SI T M j) (a : Nat) : ∃ v e M', F_mem_Mem_Load M (a : Int) = some (v, e, M') ∧ SI T M' j ∧ Cnt M M' ∧ (a % 3 = 0 → Wrd T v) ∧ (a % 3 ≠ 0 → Ndx T v) := by
 cases h : M.cells[a]? with
 | some v => exact ⟨v, 0, tick M, load_ok h, I.cong rfl, .inr rfl, I.cells a v h⟩
 | none => exact ⟨0, 1, M, by unfold F_mem_Mem_Load; rw [getI_nat, h], I, .inl rfl, fun _ => I.zero, fun _ => I.root.ndx⟩
theorem SI.set (I : SI T M j) {a : Nat} {x : Int} (h1 : a % 3 = 0 → Wrd T x) (h2 : a % 3 ≠ 0 → Ndx T x) : SI T (setc M a x) j := by
 refine ⟨fun y hy => ?_, I.root, I.one, fun b w hb => ?_, by simp only [setc, List.length_set]; exact I.len, I.infos, I.b1, I.b2, by simp only [setc, List.length_set]; exact I.b3⟩
 ·
  rcases I.nodes y hy with r | ⟨c, r, r2⟩
  ·
   exact .inl r
  ·
   exact .inr ⟨c, r, by simp only [setc, List.length_set]; exact r2⟩
 ·
  simp only [setc] at hb
  by_cases q : a = b
  ·
   subst q
   have hl : a < M.cells.length := by
    have := (List.getElem?_eq_some_iff.mp hb).1
    simpa using this
   rw [gs_eq hl] at hb
   cases hb
   exact ⟨h1, h2⟩
  ·
   rw [gs_ne q] at hb
   exact I.cells b w hb
theorem cas_any (I : SI T M j) (a : Nat) (o : Int) {x : Int} (h1 : a % 3 = 0 → Wrd T x) (h2 : a % 3 ≠ 0 → Ndx T x) : ∃ v b M', F_mem_Mem_CAS M (a : Int) o x = some (v, b, M') ∧ SI T M' j ∧ Cnt M M' ∧ (a % 3 = 0 → Wrd T v) := by
 cases h : M.cells[a]? with
 | some v =>
  by_cases e : v = o
  ·
   subst e; exact ⟨v, true, _, cas_ok h, I.set h1 h2, .inr rfl, (I.cells a v h).1⟩
  ·
   exact ⟨v, false, _, cas_no h e, I.cong rfl, .inr rfl, (I.cells a v h).1⟩
 | none => exact ⟨0, false, M, by unfold F_mem_Mem_CAS; rw [getI_nat, h], I, .inl rfl, fun _ => I.zero⟩
theorem store_any (I : SI T M j) (a : Nat) {x : Int} (h1 : a % 3 = 0 → Wrd T x) (h2 : a % 3 ≠ 0 → Ndx T x) : ∃ e M', F_mem_Mem_Store M (a : Int) x = some (e, M') ∧ SI T M' j ∧ Cnt M M' := by
 cases h : M.cells[a]? with
 | some v => exact ⟨0, _, store_ok (List.getElem?_eq_some_iff.mp h).1, I.set h1 h2, .inr rfl⟩
 | none => exact ⟨1, M, by unfold F_mem_Mem_Store; rw [getI_nat, h], I, .inl rfl⟩
theorem side_any (I : SI T M j) {p : Int} (hp : Inn T p) (k : Tbst_node) : ∃ a : Nat, F_bst_Tree_side T M p k = some ((a : Int), T, M) ∧ a % 3 ≠ 0 := by
 obtain ⟨m, c, x, rfl, hx, w⟩ := hp
 rcases I.nodes x (List.mem_of_getElem? hx) with q | ⟨c', q, hc⟩
 ·
  rw [w] at q; omega
 ·
  have := I.len.2
  exact ⟨_, side_ok hx w (by omega), by split <;> omega⟩
theorem Ndx.wrap (I : SI T M j) (hj : j ≤ 300000) {v : Int} (h : Ndx T v) : IntKind.i64.wrap v = v ∧ IntKind.u64.wrap v = v := by
 obtain ⟨m, rfl, hm⟩ := h
 have := I.b1
 exact ⟨wrap_id (by omega) (by omega), wrap_u64 (by omega) (by omega)⟩
theorem pack_wrd (I : SI T M j) (hj : j ≤ 300000) {i : Int} (h : Idx T i) (st : Nat) (hs : st < 4) : ∃ w, F_word_Pack (st : Int) i = some w ∧ Wrd T w := by
 obtain ⟨m, rfl, hm⟩ := h
 have := I.b2
 exact ⟨_, wpack_ok m st (by omega) hs, _, rfl, by omega⟩
theorem to_gs {x : Clo} {M' : Omem_Mem} {d : Nat} (I : SI T M' j) (hc : Cnt M M') (h : Sti T x) (hd : dep x ≤ d) : Gs fu (some (some x, T, M', C)) T M C j d :=
 (Gd.to (fu := False) I h hd).gs hc (fun f => f.elim) (Nat.le_refl _)
theorem end_gs {M' : Omem_Mem} {C' : Obst_Call} {d : Nat} (I : SI T M' j) (hc : Cnt M M') (he : C'.told_Err = C.told_Err := by rfl) : Gs fu (some (none, T, M', C')) T M C j d :=
 (Gd.end_ (fu := False) (d := d) I he).gs hc (fun f => f.elim) (Nat.le_refl _)
theorem stp_gs {x : Clo} (hx : Sti T x) (I : SI T M j) (hj : j ≤ 300000) : Gs (n ≤ dep x) (F_step (n + 1) T M C x .u) T M C j (dep x + 4) := by
 have Hr := step_rc n
 cases hx with
 | @least a ha =>
  show Gs _ (F_bst_Tree_least_1 (F_step n) T M C _) _ _ _ _ _
  unfold F_bst_Tree_least_1
  obtain ⟨v, e, M', h1, I', hc, h2, h3⟩ := load_any I a
  have hv := h3 ha
  obtain ⟨m, x, rfl, hx, e2, hm⟩ := I.node hv
  rw [h1]
  simp only [Option.bind_some]
  rw [e2]
  simp only [Option.bind_some, F_bst_node_leaf, rb, tell_ok]
  split
  ·
   rename_i q
   rcases I.nodes x hm with w | ⟨c, w, _⟩
   ·
    rw [w] at q; simp at q
   ·
    rw [(Ndx.wrap I hj hv).1]
    obtain ⟨c', hc'⟩ := cell3 (⟨m, c, x, rfl, hx, w⟩ : Inn T (m : Int)) I' 1 (by omega)
    rw [show (1 : Int) = ((1 : Nat) : Int) from rfl, hc']
    simp only [Option.bind_some]
    exact to_gs I' hc (.least (by omega)) (by simp [dep])
  ·
   split
   ·
    exact end_gs I' hc
   ·
    rw [show F_bst_Call_found (F_step n) T M' C x = some (Option.none, T, M', ⟨true, x.key, x.val, C.told_Err⟩) from rfl]
    exact end_gs I' hc
 | @down s k th hs h =>
  show Gs _ (F_bst_Tree_down_1 (F_step n) T M C s k th) _ _ _ _ _
  unfold F_bst_Tree_down_1
  obtain ⟨c, hcell⟩ := cell3 hs.p I 0 (by omega)
  rw [show (0 : Int) = ((0 : Nat) : Int) from rfl, hcell]
  simp only [Option.bind_some]
  obtain ⟨v, e, M', h1, I', hc, h2, h3⟩ := load_any I (3 * c + 0)
  rw [h1]
  simp only [Option.bind_some]
  exact to_gs I' hc (.down1 ⟨hs.g, hs.p, hs.l, hs.t, hs.gw, h2 (by omega)⟩ h) (by simp only [dep]; omega)
 | @down1 s k th hs h =>
  show Gs _ (F_bst_Tree_down_1_1 (F_step n) T M C s k th) _ _ _ _ _
  unfold F_bst_Tree_down_1_1
  obtain ⟨a, ha, ha3⟩ := side_any I hs.p k
  obtain ⟨c, hcell⟩ := cell3 hs.p I 1 (by omega)
  rw [ha]
  simp only [Option.bind_some]
  rw [show (1 : Int) = ((1 : Nat) : Int) from rfl, hcell]
  simp only [Option.bind_some]
  have : ∃ t, (if (((a : Nat) : Int) == ((3 * c + 1 : Nat) : Int)) = true then some s.parent else some s.turn : Option Int) = some t ∧ (t < 0 ∨ Inn T t) := by
   split
   ·
    exact ⟨_, rfl, .inr hs.p⟩
   ·
    exact ⟨_, rfl, hs.t⟩
  obtain ⟨t, ht, ht2⟩ := this
  rw [ht]
  simp only [Option.bind_some]
  obtain ⟨v, e, M', h1, I', hc, h2, h3⟩ := load_any I a
  have hv := h3 ha3
  rw [h1]
  simp only [Option.bind_some, rb]
  rw [(Ndx.wrap I hj hv).1]
  exact (down_gd (C := C) (k := k) (s := ⟨s.grand, s.parent, v, s.grandWord, s.parentWord, t⟩) Hr I' hj ⟨hs.g, hs.p, hv, ht2, hs.gw, hs.pw⟩ h).gs hc (fun f => by simp only [dep]; omega) (by simp only [dep]; omega)
 | @rem21 s i v th hs hi h =>
  show Gs _ (F_bst_Tree_remove_2_1 (F_step n) T M C s i th v) _ _ _ _ _
  unfold F_bst_Tree_remove_2_1
  obtain ⟨c, hcell⟩ := cell3 hs.g I 0 (by omega)
  obtain ⟨w, hw, hw2⟩ := pack_wrd I hj hi 2 (by omega)
  rw [show (0 : Int) = ((0 : Nat) : Int) from rfl, hcell]
  simp only [Option.bind_some]
  rw [show (2 : Int) = ((2 : Nat) : Int) from rfl, hw]
  simp only [Option.bind_some]
  obtain ⟨x, b, M', h1, I', hc, h2⟩ := cas_any I (3 * c + 0) s.grandWord (x := w) (fun _ => hw2) (fun q => absurd (by omega) q)
  rw [h1]
  simp only [Option.bind_some, rb]
  split
  ·
   exact (help_gd (C := C) Hr I' hj (h2 (by omega)) h).gs hc (fun f => by simp only [dep]; omega) (by simp only [dep]; omega)
  ·
   exact (loses_gd (fu := False) (C := C) (rc := F_step n) I' hj hi (.rem211 (v := v) h)).gs hc (fun f => f.elim) (by simp only [dep]; omega)
 | @grow1 a l h i s k ha hb hl hh hs hi =>
  show Gs _ (F_bst_Tree_grow_1 (F_step n) T M C _ l h s i k) _ _ _ _ _
  unfold F_bst_Tree_grow_1
  rw [show IntKind.i64.wrap ((a : Int) + 1) = ((a + 1 : Nat) : Int) from by rw [wrap_id (by omega) (by omega)]; omega, (Ndx.wrap I hj hl).2]
  obtain ⟨e, M', h1, I', hc⟩ := store_any I (a + 1) (x := l) (fun q => absurd q (by omega)) (fun _ => hl)
  rw [h1]
  simp only [Option.bind_some]
  exact to_gs I' hc (.grow11 ha hb hh hs hi) (by simp [dep])
 | @grow11 a h i s k ha hb hh hs hi =>
  show Gs _ (F_bst_Tree_grow_1_1 (F_step n) T M C _ h s i k) _ _ _ _ _
  unfold F_bst_Tree_grow_1_1
  rw [show IntKind.i64.wrap ((a : Int) + 2) = ((a + 2 : Nat) : Int) from by rw [wrap_id (by omega) (by omega)]; omega, (Ndx.wrap I hj hh).2]
  obtain ⟨e, M', h1, I', hc⟩ := store_any I (a + 2) (x := h) (fun q => absurd q (by omega)) (fun _ => hh)
  rw [h1]
  simp only [Option.bind_some]
  exact to_gs I' hc (.grow111 hs hi) (by simp [dep])
 | @grow111 i s k hs hi =>
  show Gs _ (F_bst_Tree_grow_1_1_1 (F_step n) T M C s i k) _ _ _ _ _
  unfold F_bst_Tree_grow_1_1_1
  obtain ⟨c, hcell⟩ := cell3 hs.p I 0 (by omega)
  obtain ⟨w, hw, hw2⟩ := pack_wrd I hj hi 1 (by omega)
  rw [show (0 : Int) = ((0 : Nat) : Int) from rfl, hcell]
  simp only [Option.bind_some]
  rw [show (1 : Int) = ((1 : Nat) : Int) from rfl, hw]
  simp only [Option.bind_some]
  obtain ⟨x, b, M', h1, I', hc, h2⟩ := cas_any I (3 * c + 0) s.parentWord (x := w) (fun _ => hw2) (fun q => absurd (by omega) q)
  rw [h1]
  simp only [Option.bind_some, rb]
  split
  ·
   exact (help_gd (C := C) Hr I' hj (h2 (by omega)) (.grow3 (k := k))).gs hc (fun f => by simp only [dep] at f ⊢; omega) (by simp only [dep]; omega)
  ·
   exact (grows_gd (fu := False) (C := C) (rc := F_step n) I' hi (.grow4 (k := k))).gs hc (fun f => f.elim) (by simp only [dep]; omega)
 | @loses y m i th hy hm hi h =>
  show Gs _ (F_bst_Tree_loses_1 (F_step n) T M C y m i th) _ _ _ _ _
  unfold F_bst_Tree_loses_1
  obtain ⟨c, hcell⟩ := cell3 hy.p I 0 (by omega)
  rw [show (0 : Int) = ((0 : Nat) : Int) from rfl, hcell]
  simp only [Option.bind_some]
  obtain ⟨x, b, M', h1, I', hc, h2⟩ := cas_any I (3 * c + 0) y.was (x := m) (fun _ => hm) (fun q => absurd (by omega) q)
  rw [h1]
  simp only [Option.bind_some, rb]
  split
  ·
   exact (goes_gd (fu := False) (C := C) (rc := F_step n) I' hi (.loses11 h)).gs hc (fun f => f.elim) (by simp only [dep]; omega)
  ·
   exact (help_gd (C := C) Hr I' hj (h2 (by omega)) (.loses12 hy hi h)).gs hc (fun f => by simp only [dep] at f ⊢; omega) (by simp only [dep]; omega)
 | @goes2 y th hy h =>
  show Gs _ (F_bst_Tree_goes_2 (F_step n) T M C y th) _ _ _ _ _
  unfold F_bst_Tree_goes_2
  obtain ⟨c, hcell⟩ := cell3 hy.p I 2 (by omega)
  rw [show (2 : Int) = ((2 : Nat) : Int) from rfl, hcell]
  simp only [Option.bind_some]
  obtain ⟨v, e, M', h1, I', hc, h2, h3⟩ := load_any I (3 * c + 2)
  have hv := h3 (by omega)
  rw [h1]
  simp only [Option.bind_some, rb]
  split
  ·
   exact (Hr T M' j C .w th (.w v) h hv I' hj).gs hc (fun f => by simp only [dep]; omega) (by simp only [dep]; omega)
  ·
   exact to_gs I' hc (.goes21 hy h) (by simp only [dep]; omega)
 | @goes21 y th hy h =>
  show Gs _ (F_bst_Tree_goes_2_1 (F_step n) T M C y th) _ _ _ _ _
  unfold F_bst_Tree_goes_2_1
  obtain ⟨c, hcell⟩ := cell3 hy.p I 1 (by omega)
  rw [show (1 : Int) = ((1 : Nat) : Int) from rfl, hcell]
  simp only [Option.bind_some]
  obtain ⟨v, e, M', h1, I', hc, h2, h3⟩ := load_any I (3 * c + 1)
  have hv := h3 (by omega)
  rw [h1]
  simp only [Option.bind_some, rb]
  exact (Hr T M' j C .w th (.w v) h hv I' hj).gs hc (fun f => by simp only [dep]; omega) (by simp only [dep]; omega)
 | @clean p st i th hp hi h =>
  show Gs _ (F_bst_Tree_clean_1 (F_step n) T M C p st i th) _ _ _ _ _
  unfold F_bst_Tree_clean_1
  obtain ⟨c, hcell⟩ := cell3 hp I 0 (by omega)
  obtain ⟨w, hw, hw2⟩ := pack_wrd I hj hi 0 (by omega)
  obtain ⟨w1, hw1⟩ : ∃ w1, F_word_Pack st i = some w1 := ⟨_, rfl⟩
  rw [show (0 : Int) = ((0 : Nat) : Int) from rfl, hcell, hw1, hw]
  simp only [Option.bind_some]
  obtain ⟨x, b, M', h1, I', hc, h2⟩ := cas_any I (3 * c + 0) w1 (x := w) (fun _ => hw2) (fun q => absurd (by omega) q)
  rw [h1]
  simp only [Option.bind_some, rb]
  exact (Hr T M' j C .u th .u h trivial I' hj).gs hc (fun f => by simp only [dep]; omega) (by simp only [dep]; omega)
 | @turn p nx o th hp hn h =>
  show Gs _ (F_bst_Tree_turn_1 (F_step n) T M C p nx o th) _ _ _ _ _
  unfold F_bst_Tree_turn_1
  obtain ⟨m, x, e, hx, e2, hm⟩ := I.node hn
  obtain ⟨a, ha, ha3⟩ := side_any I hp x
  rw [e2]
  simp only [Option.bind_some]
  rw [ha]
  simp only [Option.bind_some]
  rw [(Ndx.wrap I hj hn).2]
  obtain ⟨v, b, M', h1, I', hc, h2⟩ := cas_any I a (IntKind.u64.wrap o) (x := nx) (fun q => absurd q ha3) (fun _ => hn)
  rw [h1]
  simp only [Option.bind_some, rb]
  exact (Hr T M' j C .u th .u h trivial I' hj).gs hc (fun f => by simp only [dep]; omega) (by simp only [dep]; omega)
end
theorem Cnt.le {M M' : Omem_Mem} (h : Cnt M M') {b : Nat} (h0 : 0 ≤ M.count) (h1 : M.count ≤ b) (hb : b ≤ 1000000) : 0 ≤ M'.count ∧ M'.count ≤ ((b + 1 : Nat) : Int) ∧ ¬ M'.count > IntKind.i64.wrap (M.count + 1) := by
 have e : IntKind.i64.wrap (M.count + 1) = M.count + 1 := wrap_id (by omega) (by omega)
 rcases h with w | w
 ·
  rw [w, e]; omega
 ·
  rw [w, e]; omega
def CS (T : Obst_Tree) (o : Option Clo) (D : Nat) : Prop := ∀ x, o = some x → Sti T x ∧ dep x ≤ D
theorem CS.mono {T : Obst_Tree} {o : Option Clo} {D E : Nat} (h : CS T o D) (e : D ≤ E) : CS T o E := fun x hx => ⟨(h x hx).1, by have := (h x hx).2; omega⟩
theorem CS.ext {T T' : Obst_Tree} {o : Option Clo} {D : Nat} (h : CS T o D) (e : TE T T') : CS T' o D := fun x hx => ⟨(h x hx).1.ext e, (h x hx).2⟩
section
variable {n j D : Nat} {T : Obst_Tree} {M : Omem_Mem} {C : Obst_Call} {o : Option Clo}
theorem Step_ok (I : SI T M j) (hj : j ≤ 300000) (ho : CS T o D) (hn : D + 2 ≤ n) : ∃ (T' : Obst_Tree) (M' : Omem_Mem) (C' : Obst_Call) (o' : Option Clo), F_bst_Call_Step n T M ⟨C.told_Ok, C.told_Key, C.told_Val, C.told_Err, o⟩ = some (o'.isNone, T', M', ⟨C'.told_Ok, C'.told_Key, C'.told_Val, C'.told_Err, o'⟩) ∧ TE T T' ∧ SI T' M' (j + 1) ∧ Cnt M M' ∧ CS T' o' (D + 4) ∧ (o = none → M' = M) ∧ (j ≤ 21000 → C'.told_Err = C.told_Err) := by
 cases o with
 | none => exact ⟨T, M, C, Option.none, by unfold F_bst_Call_Step; rfl, TE.refl _, I.mono (by omega), .inl rfl, (fun x hx => by cases hx), fun _ => rfl, fun _ => rfl⟩
 | some x =>
  obtain ⟨d, rfl⟩ : ∃ d, n = d + 1 := ⟨n - 1, by omega⟩
  obtain ⟨h1, h2⟩ := ho x rfl
  rcases stp_gs (n := d) (C := C) h1 I hj with ⟨o', T', M', C', g1, g2, g3, g4, ge, g5⟩ | ⟨_, g⟩
  ·
   exact ⟨T', M', C', o', step_some g1, g2, g3, g4, (fun y hy => ⟨(g5 y hy).1, by have := (g5 y hy).2; omega⟩), fun h => (by cases h), ge⟩
  ·
   omega
theorem SI.sn0 (I : SI T M j) : Sn T ⟨0, 0, 0, 0, 0, -1⟩ := ⟨I.root, I.root, I.root.ndx, .inl (by simp), I.zero, I.zero⟩
theorem SI.r0 (I : SI T M j) : ∃ x0, T.nodes[0]? = some x0 ∧ 0 ≤ x0.cell := by
 obtain ⟨m, c, x, e, hx, w⟩ := I.root
 obtain rfl : m = 0 := by omega
 exact ⟨x, hx, by omega⟩
theorem ins_si (I : SI T M j) (k : ByteArray) (v : Int) : ∃ C2, F_bst_Tree_Insert n T M k v = some (C2, T, M) ∧ CS T C2.next 4 ∧ C2.told_Err = 0 := by
 obtain ⟨x0, h0, hc⟩ := I.r0
 rw [beg_ins h0 hc]
 exact ⟨_, rfl, fun x hx => (by cases hx; exact ⟨.down I.sn0 (.ins .ins1), by simp [dep]⟩), rfl⟩
theorem del_si (I : SI T M j) (k : ByteArray) : ∃ C2, F_bst_Tree_Delete n T M k = some (C2, T, M) ∧ CS T C2.next 4 ∧ C2.told_Err = 0 := by
 obtain ⟨x0, h0, hc⟩ := I.r0
 rw [beg_del h0 hc]
 exact ⟨_, rfl, fun x hx => (by cases hx; exact ⟨.down I.sn0 (.rem .rem1), by simp [dep]⟩), rfl⟩
theorem find_si (I : SI T M j) (k : ByteArray) : ∃ C2, F_bst_Tree_Find n T M k = some (C2, T, M) ∧ CS T C2.next 4 ∧ C2.told_Err = 0 := by
 obtain ⟨x0, h0, hc⟩ := I.r0
 rw [beg_find h0 hc]
 exact ⟨_, rfl, fun x hx => (by cases hx; exact ⟨.down I.sn0 .find, by simp [dep]⟩), rfl⟩
theorem si0 : SI ⟨[⟨ByteArray.empty, 2, 0, 0⟩, ⟨ByteArray.empty, 1, 0, -1⟩, ⟨ByteArray.empty, 2, 0, -1⟩], [⟨0, 0, 0, 0, 0⟩]⟩ ⟨[0, 1, 2], 2⟩ 0 := by
 have r : Inn ⟨[⟨ByteArray.empty, 2, 0, 0⟩, ⟨ByteArray.empty, 1, 0, -1⟩, ⟨ByteArray.empty, 2, 0, -1⟩], [⟨0, 0, 0, 0, 0⟩]⟩ 0 := ⟨0, 0, _, rfl, rfl, rfl⟩
 refine ⟨fun x hx => ?_, r, by simp, fun a w h => ?_, ⟨rfl, by simp⟩, fun y hy => ?_, by simp, by simp, by simp⟩
 ·
  simp only [List.mem_cons, List.not_mem_nil, or_false] at hx
  rcases hx with rfl | rfl | rfl
  ·
   exact .inr ⟨0, rfl, by simp⟩
  ·
   exact .inl rfl
  ·
   exact .inl rfl
 ·
  match a, h with
  | 0, h => cases h; exact ⟨fun _ => ⟨0, rfl, by simp⟩, fun q => by simp at q⟩
  | 1, h => cases h; exact ⟨fun q => by simp at q, fun _ => ⟨1, rfl, by simp⟩⟩
  | 2, h => cases h; exact ⟨fun q => by simp at q, fun _ => ⟨2, rfl, by simp⟩⟩
  | a + 3, h => simp at h
 ·
  rw [List.mem_singleton] at hy
  rw [hy]
  exact ⟨r, r, r.ndx, r.ndx⟩
end
def Thok (T : Obst_Tree) (L : List Torder_Call) (k : Nat) (x : Th Obst_Call_2) : Prop :=
 (x.at_ = -1 ∧ x.call = none) ∨ ∃ (a : Nat) (C : Obst_Call_2) (y : Torder_Call), x.at_ = (a : Int) ∧ x.call = some C ∧ CS T C.next (4 + 4 * k) ∧ C.told_Err = 0 ∧ L[a]? = some y ∧ y.Ret = -1
def opn (y : Torder_Call) : Bool := decide (y.Ret < 0)
def bsy (x : Th Obst_Call_2) : Bool := decide (0 ≤ x.at_)
structure CI (T : Obst_Tree) (M : Omem_Mem) (W : Ocrowd_Crowd) (k : Nat) : Prop where
 si : SI T M k
 tl : W.threads.length = 4
 th : ∀ x ∈ W.threads, Thok T W.calls k x
 ap : ∀ (i j : Nat) (x y : Th Obst_Call_2), W.threads[i]? = some x → W.threads[j]? = some y → i ≠ j → x.at_ < 0 ∨ x.at_ ≠ y.at_
 cl : W.calls.length ≤ k
 c0 : 0 ≤ W.clock ∧ W.clock ≤ k
 inv : W.calls.Pairwise (fun a b => a.Inv < b.Inv)
 lt : ∀ y ∈ W.calls, 0 ≤ y.Inv ∧ y.Inv < W.clock ∧ (y.Ret = -1 ∨ y.Inv < y.Ret)
 cnt : W.calls.countP opn = W.threads.countP bsy
theorem seti_same {α : Type} {l : List α} {t : Int} {x : α} (h : getI l t = some x) : setI l t x = l := by
 unfold getI at h
 split at h
 ·
  unfold setI
  obtain ⟨h1, h2⟩ := List.getElem?_eq_some_iff.mp h
  rw [← h2]; exact List.set_getElem_self h1
 ·
  cases h
theorem getI_mem {α : Type} {l : List α} {t : Int} {x : α} (h : getI l t = some x) : ∃ n : Nat, t = (n : Int) ∧ l[n]? = some x ∧ n < l.length ∧ x ∈ l := by
 unfold getI at h
 split at h
 ·
  exact ⟨t.toNat, by omega, h, (List.getElem?_eq_some_iff.mp h).1, List.mem_of_getElem? h⟩
 ·
  cases h
theorem setI_nat {α : Type} (l : List α) (n : Nat) (x : α) : setI l (n : Int) x = l.set n x := by unfold setI; rfl
theorem countP_set' {α : Type} (p : α → Bool) : ∀ (l : List α) (i : Nat) (a x : α), l[i]? = some x → (l.set i a).countP p + (if p x then 1 else 0) = l.countP p + (if p a then 1 else 0)
 | [], i, a, x, h => by simp at h
 | y :: l, 0, a, x, h => by
  have : y = x := by simpa using h
  subst this
  simp only [List.set_cons_zero, List.countP_cons]
  omega
 | y :: l, i + 1, a, x, h => by
  have h : l[i]? = some x := by simpa using h
  have := countP_set' p l i a x h
  simp only [List.set_cons_succ, List.countP_cons]
  omega
theorem idle_ok {W : Ocrowd_Crowd} {t : Int} : F_crowd_Crowd_Idle W t = some ((match getI W.threads t with | none => false | some x => decide (x.at_ < 0)), W) := by
 unfold F_crowd_Crowd_Idle
 cases h : getI W.threads t with
 | none => rfl
 | some x =>
  dsimp only
  rw [show setI W.threads _ ⟨x.call, x.at_⟩ = W.threads from seti_same h]
section
variable {T T' : Obst_Tree} {M M' : Omem_Mem} {W : Ocrowd_Crowd} {k n : Nat}
theorem Thok.ext {L : List Torder_Call} {x : Th Obst_Call_2} (h : Thok T L k x) (e : TE T T') : Thok T' L (k + 1) x := by
 rcases h with w | ⟨a, C, y, h1, h2, h3, h4, h5, h6⟩
 ·
  exact .inl w
 ·
  exact .inr ⟨a, C, y, h1, h2, (h3.ext e).mono (by omega), h4, h5, h6⟩
theorem CI.more (I : CI T M W k) : CI T M W (k + 1) :=
 ⟨I.si.mono (by omega), I.tl, fun x hx => (I.th x hx).ext (.refl _), I.ap, by have := I.cl; omega, by have := I.c0; omega, I.inv, I.lt, I.cnt⟩
theorem begin_ok (I : CI T M W k) (hk : k ≤ 500) {t kind : Int} {key : ByteArray} {C : Obst_Call_2} (hC : CS T C.next 4) (h0 : C.told_Err = 0) :
 (getI W.threads t = none ∧ F_crowd_Crowd_Begin W t C kind key = some (1, W)) ∨
 (∃ x, getI W.threads t = some x ∧ 0 ≤ x.at_ ∧ F_crowd_Crowd_Begin W t C kind key = some (8, W)) ∨
 ∃ x W', getI W.threads t = some x ∧ x.at_ < 0 ∧ F_crowd_Crowd_Begin W t C kind key = some (0, W') ∧ CI T M W' (k + 1) ∧ W'.calls.length = W.calls.length + 1 ∧ W'.clock = W.clock + 1 := by
 unfold F_crowd_Crowd_Begin
 cases h : getI W.threads t with
 | none => exact .inl ⟨rfl, rfl⟩
 | some x =>
  right
  dsimp only
  by_cases hx : 0 ≤ x.at_
  ·
   left
   rw [if_pos (decide_eq_true hx), show setI W.threads _ ⟨x.call, x.at_⟩ = W.threads from seti_same h]
   exact ⟨x, rfl, hx, rfl⟩
  ·
   right
   have cl := I.cl
   have c0 := I.c0
   rw [if_neg (by rw [decide_eq_true_iff]; exact hx)]
   unfold F_crowd_Crowd_note
   have hr : roomy (W.calls.length + 1) 48 = true := roomy_le (by omega) (by omega) (by omega)
   rw [appL_if]
   dsimp only [List.length_cons, List.length_nil]
   rw [if_pos hr]
   simp only [Option.bind_some]
   rw [show IntKind.i64.wrap (W.clock + 1) = W.clock + 1 from wrap_id (by omega) (by omega)]
   obtain ⟨q, rfl, hq, hql, hqm⟩ := getI_mem h
   rw [setI_nat]
   refine ⟨x, _, rfl, by omega, rfl, ⟨I.si.mono (by omega), by simp [I.tl], fun z hz => ?_, fun i j y z hi hj hij => ?_, by simp; omega, by show 0 ≤ W.clock + 1 ∧ W.clock + 1 ≤ _; omega, ?_, fun y hy => ?_, ?_⟩, by simp, rfl⟩
   ·
    rcases List.mem_or_eq_of_mem_set hz with w | w
    ·
     rcases I.th z w with v | ⟨a, D, y, h1, h2, h3, h4, h5, h6⟩
     ·
      exact .inl v
     ·
      exact .inr ⟨a, D, y, h1, h2, h3.mono (by omega), h4, by
       show (W.calls ++ [_])[a]? = _
       rw [List.getElem?_append_left (List.getElem?_eq_some_iff.mp h5).1]; exact h5, h6⟩
    ·
     rw [w]
     exact .inr ⟨W.calls.length, C, ⟨kind, key, false, W.clock, -1⟩, rfl, rfl, hC.mono (by omega), h0, by simp, rfl⟩
   ·
    have old : ∀ (i : Nat) (y : Th Obst_Call_2), W.threads[i]? = some y → y.at_ < (W.calls.length : Int) := fun i y hy => by
     rcases I.th y (List.mem_of_getElem? hy) with v | ⟨a, D, y, h1, h2, h3, h4, h5, h6⟩
     ·
      rw [v.1]; omega
     ·
      rw [h1]; have := (List.getElem?_eq_some_iff.mp h5).1; omega
    by_cases qi : q = i
    ·
     subst qi
     rw [List.getElem?_set_self hql] at hi
     cases hi
     have hj' : W.threads[j]? = some z := by rw [← hj]; exact (List.getElem?_set_ne hij).symm
     have := old j z hj'
     exact .inr (by show (W.calls.length : Int) ≠ _; omega)
    ·
     have hi' : W.threads[i]? = some y := by rw [← hi]; exact (List.getElem?_set_ne qi).symm
     by_cases qj : q = j
     ·
      subst qj
      rw [List.getElem?_set_self hql] at hj
      cases hj
      have := old i y hi'
      exact .inr (by show _ ≠ (W.calls.length : Int); omega)
     ·
      have hj' : W.threads[j]? = some z := by rw [← hj]; exact (List.getElem?_set_ne qj).symm
      exact I.ap i j y z hi' hj' hij
   ·
    show (W.calls ++ [_]).Pairwise _
    rw [List.pairwise_append]
    refine ⟨I.inv, by simp, fun a ha b hb => ?_⟩
    rw [List.mem_singleton] at hb
    rw [hb]
    exact (I.lt a ha).2.1
   ·
    have hy : y ∈ W.calls ++ [(⟨kind, key, false, W.clock, -1⟩ : Torder_Call)] := hy
    rcases List.mem_append.mp hy with w | w
    ·
     obtain ⟨a, b, c⟩ := I.lt y w
     exact ⟨a, by show y.Inv < W.clock + 1; omega, c⟩
    ·
     rw [List.mem_singleton] at w
     rw [w]
     exact ⟨c0.1, by show W.clock < W.clock + 1; omega, .inl rfl⟩
   ·
    show (W.calls ++ [(⟨kind, key, false, W.clock, -1⟩ : Torder_Call)]).countP opn = (W.threads.set q _).countP bsy
    have e := countP_set' bsy W.threads q ⟨some C, (W.calls.length : Int)⟩ x hq
    have b1 : bsy x = false := decide_eq_false hx
    have b2 : bsy ⟨some C, (W.calls.length : Int)⟩ = true := decide_eq_true (by show (0 : Int) ≤ (W.calls.length : Int); omega)
    rw [b1, b2] at e
    have := I.cnt
    rw [List.countP_append, List.countP_singleton]
    have b3 : opn (⟨kind, key, false, W.clock, -1⟩ : Torder_Call) = true := rfl
    rw [b3]
    simp only [Bool.false_eq_true, if_false, if_true] at e ⊢
    omega
theorem pick_ok (I : CI T M W k) (hk : k ≤ 500) (hn : 5000 ≤ n) {t : Int} :
 ∃ T' M' W' b, F_crowd_Crowd_Pick n T M W t = some (b, T', M', W') ∧ CI T' M' W' (k + 1) ∧ W'.calls.length = W.calls.length ∧ W'.clock = W.clock + (bif (getI W.threads t).any bsy then 1 else 0) := by
 unfold F_crowd_Crowd_Pick
 cases h : getI W.threads t with
 | none => exact ⟨T, M, W, _, rfl, I.more, rfl, by simp⟩
 | some x =>
  dsimp only
  obtain ⟨q, rfl, hq, hql, hqm⟩ := getI_mem h
  have c0 := I.c0
  have cl := I.cl
  have wk : IntKind.i64.wrap (W.clock + 1) = W.clock + 1 := wrap_id (by omega) (by omega)
  rcases I.th x hqm with ⟨w, w2⟩ | ⟨a, C, y, h1, h2, h3, h4, h5, h6⟩
  ·
   rw [if_pos (decide_eq_true (by omega)), show setI W.threads _ ⟨x.call, x.at_⟩ = W.threads from seti_same h]
   have bx : bsy x = false := decide_eq_false (by omega)
   exact ⟨T, M, W, _, rfl, I.more, rfl, by rw [Option.any_some, bx]; simp⟩
  ·
   rw [if_neg (by rw [decide_eq_true_iff, h1]; omega), h2]
   simp only [Option.bind_some]
   obtain ⟨ok, key, val, err, o⟩ := C
   obtain ⟨T', M', C', o', g1, g2, g3, g4, g5, g6, g7⟩ := Step_ok (n := n) (C := ⟨ok, key, val, err⟩) I.si (by omega) h3 (by omega)
   rw [g1]
   simp only [Option.bind_some]
   rw [wk]
   simp only [setI_nat]
   rw [h1]
   have b1 : bsy x = true := decide_eq_true (by rw [h1]; omega)
   rw [Option.any_some, b1, cond_true]
   have hex : C'.told_Err = 0 := (g7 (by omega)).trans h4
   cases o' with
   | none =>
    rw [if_pos (by rfl)]
    have ea : F_bst_Call_Answer T' M' ⟨C'.told_Ok, C'.told_Key, C'.told_Val, C'.told_Err, none⟩ = some (⟨C'.told_Ok, C'.told_Key, C'.told_Val, C'.told_Err⟩, true, T', M', ⟨C'.told_Ok, C'.told_Key, C'.told_Val, C'.told_Err, none⟩) := rfl
    rw [ea]
    simp only [Option.bind_some]
    rw [getI_nat, h5]
    simp only [Option.bind_some]
    rw [hex, if_pos (by rfl), setI_nat, setI_nat, List.set_set]
    have hal := (List.getElem?_eq_some_iff.mp h5).1
    obtain ⟨l1, l2, l3⟩ := I.lt y (List.mem_of_getElem? h5)
    have hat : ∀ (i : Nat) (z : Th Obst_Call_2), W.threads[i]? = some z → q ≠ i → z.at_ < 0 ∨ z.at_ ≠ (a : Int) := fun i z hz hne => by
     have := I.ap i q z x hz hq (Ne.symm hne)
     rw [h1] at this; exact this
    refine ⟨T', M', _, _, rfl, ⟨g3, by simp [I.tl], fun z hz => ?_, fun i j u v hi hj hij => ?_, by simp; omega, by show 0 ≤ W.clock + 1 ∧ W.clock + 1 ≤ _; omega, ?_, fun u hu => ?_, ?_⟩, by simp, rfl⟩
    ·
     obtain ⟨i, hi⟩ := List.mem_iff_getElem?.mp hz
     by_cases qi : q = i
     ·
      subst qi
      rw [List.getElem?_set_self hql] at hi
      cases hi
      exact .inl ⟨rfl, rfl⟩
     ·
      have hi' : W.threads[i]? = some z := by rw [← hi]; exact (List.getElem?_set_ne qi).symm
      rcases I.th z (List.mem_of_getElem? hi') with v | ⟨b, D, u, f1, f2, f3, f4, f5, f6⟩
      ·
       exact .inl v
      ·
       refine .inr ⟨b, D, u, f1, f2, (f3.ext g2).mono (by omega), f4, ?_, f6⟩
       show (W.calls.set a _)[b]? = _
       rw [List.getElem?_set_ne]
       ·
        exact f5
       ·
        intro e
        rcases hat i z hi' qi with w | w
        ·
         omega
        ·
         omega
    ·
     by_cases qi : q = i
     ·
      subst qi
      rw [List.getElem?_set_self hql] at hi
      cases hi
      exact .inl (by show (-1 : Int) < 0; omega)
     ·
      have hi' : W.threads[i]? = some u := by rw [← hi]; exact (List.getElem?_set_ne qi).symm
      by_cases qj : q = j
      ·
       subst qj
       rw [List.getElem?_set_self hql] at hj
       cases hj
       rcases Int.lt_or_le u.at_ 0 with w | w
       ·
        exact .inl w
       ·
        exact .inr (by show u.at_ ≠ -1; omega)
      ·
       have hj' : W.threads[j]? = some v := by rw [← hj]; exact (List.getElem?_set_ne qj).symm
       exact I.ap i j u v hi' hj' hij
    ·
     have hI : ∀ (i : Nat) (u : Torder_Call), (W.calls.set a (⟨y.Kind, y.Key, C'.told_Ok, y.Inv, W.clock⟩ : Torder_Call))[i]? = some u → ∃ v : Torder_Call, W.calls[i]? = some v ∧ v.Inv = u.Inv := fun i u hu => by
      by_cases e : a = i
      ·
       subst e
       rw [List.getElem?_set_self hal] at hu
       cases hu
       exact ⟨y, h5, rfl⟩
      ·
       exact ⟨u, by rw [← hu]; exact (List.getElem?_set_ne e).symm, rfl⟩
     show (W.calls.set a _).Pairwise _
     rw [List.pairwise_iff_getElem]
     intro i j hi hj hij
     obtain ⟨v, v1, v2⟩ := hI i _ (List.getElem?_eq_getElem hi)
     obtain ⟨w, w1, w2⟩ := hI j _ (List.getElem?_eq_getElem hj)
     rw [← v2, ← w2]
     obtain ⟨hi', rfl⟩ := List.getElem?_eq_some_iff.mp v1
     obtain ⟨hj', rfl⟩ := List.getElem?_eq_some_iff.mp w1
     exact List.pairwise_iff_getElem.mp I.inv i j hi' hj' hij
    ·
     rcases List.mem_or_eq_of_mem_set (show u ∈ W.calls.set a _ from hu) with w | w
     ·
      obtain ⟨p1, p2, p3⟩ := I.lt u w
      exact ⟨p1, by show u.Inv < W.clock + 1; omega, p3⟩
     ·
      rw [w]
      exact ⟨l1, by show y.Inv < W.clock + 1; omega, .inr l2⟩
    ·
     show (W.calls.set a _).countP opn = (W.threads.set q _).countP bsy
     have e := countP_set' bsy W.threads q ⟨none, -1⟩ x hq
     have e2 := countP_set' opn W.calls a ⟨y.Kind, y.Key, C'.told_Ok, y.Inv, W.clock⟩ y h5
     have b1 : bsy x = true := decide_eq_true (by rw [h1]; omega)
     have b2 : bsy ⟨none, -1⟩ = false := rfl
     have b3 : opn y = true := decide_eq_true (by rw [h6]; omega)
     have b4 : opn (⟨y.Kind, y.Key, C'.told_Ok, y.Inv, W.clock⟩ : Torder_Call) = false := decide_eq_false (by show ¬ W.clock < 0; omega)
     rw [b1, b2] at e
     rw [b3, b4] at e2
     have := I.cnt
     simp only [Bool.false_eq_true, if_false, if_true] at e e2
     omega
   | some z =>
    rw [if_neg (by simp)]
    refine ⟨T', M', _, _, rfl, ⟨g3, by simp [I.tl], fun u hu => ?_, fun i j u v hi hj hij => ?_, by show W.calls.length ≤ k + 1; omega, by show 0 ≤ W.clock + 1 ∧ W.clock + 1 ≤ _; omega, I.inv, fun u hu => ?_, ?_⟩, rfl, rfl⟩
    ·
     rcases List.mem_or_eq_of_mem_set hu with w | w
     ·
      rcases I.th u w with v | ⟨b, D, u', f1, f2, f3, f4, f5, f6⟩
      ·
       exact .inl v
      ·
       exact .inr ⟨b, D, u', f1, f2, (f3.ext g2).mono (by omega), f4, f5, f6⟩
     ·
      rw [w]
      exact .inr ⟨a, _, y, rfl, rfl, g5.mono (by omega), hex, h5, h6⟩
    ·
     have key : ∀ (i : Nat) (u : Th Obst_Call_2), (W.threads.set q ⟨some ⟨C'.told_Ok, C'.told_Key, C'.told_Val, C'.told_Err, some z⟩, (a : Int)⟩)[i]? = some u → ∃ v, W.threads[i]? = some v ∧ v.at_ = u.at_ := fun i u hu => by
      by_cases e : q = i
      ·
       subst e
       rw [List.getElem?_set_self hql] at hu
       cases hu
       exact ⟨x, hq, h1⟩
      ·
       exact ⟨u, by rw [← hu]; exact (List.getElem?_set_ne e).symm, rfl⟩
     obtain ⟨u', u1, u2⟩ := key i u hi
     obtain ⟨v', v1, v2⟩ := key j v hj
     rw [← u2, ← v2]
     exact I.ap i j u' v' u1 v1 hij
    ·
     obtain ⟨p1, p2, p3⟩ := I.lt u hu
     exact ⟨p1, by show u.Inv < W.clock + 1; omega, p3⟩
    ·
     show W.calls.countP opn = (W.threads.set q _).countP bsy
     have e := countP_set' bsy W.threads q ⟨some ⟨C'.told_Ok, C'.told_Key, C'.told_Val, C'.told_Err, some z⟩, (a : Int)⟩ x hq
     have b1 : bsy x = true := decide_eq_true (by rw [h1]; omega)
     have b2 : bsy ⟨some ⟨C'.told_Ok, C'.told_Key, C'.told_Val, C'.told_Err, some z⟩, (a : Int)⟩ = true := decide_eq_true (by show (0 : Int) ≤ (a : Int); omega)
     rw [b1, b2] at e
     have := I.cnt
     simp only [if_true] at e
     omega
end
def bg (d : Timpostlaw16_Deed) : Bool := decide (1 ≤ d.Kind ∧ d.Kind ≤ 3)
section
variable {T : Obst_Tree} {M : Omem_Mem} {W : Ocrowd_Crowd} {k n : Nat}
theorem do_beg {kind : Int} {key : ByteArray} {t : Int} {C : Obst_Call_2} (I : CI T M W k) (hk : k ≤ 500) (hC : CS T C.next 4) (h0 : C.told_Err = 0) :
 ∃ e W', F_crowd_Crowd_Begin W t C kind key = some (e, W') ∧ CI T M W' (k + 1) ∧
  (
   (getI W.threads t = none ∧ e = 1 ∧ W'.calls.length = W.calls.length ∧ W'.clock = W.clock) ∨
   (∃ x, getI W.threads t = some x ∧ 0 ≤ x.at_ ∧ e = 8 ∧ W'.calls.length = W.calls.length ∧ W'.clock = W.clock) ∨
   (∃ x, getI W.threads t = some x ∧ x.at_ < 0 ∧ e = 0 ∧ W'.calls.length = W.calls.length + 1 ∧ W'.clock = W.clock + 1)) := by
 rcases begin_ok (kind := kind) (key := key) (t := t) I hk hC h0 with ⟨h1, h2⟩ | ⟨x, h1, h2, h3⟩ | ⟨x, W', h1, h2, h3, h4, h5, h6⟩
 ·
  exact ⟨1, W, h2, I.more, .inl ⟨h1, rfl, rfl, rfl⟩⟩
 ·
  exact ⟨8, W, h3, I.more, .inr (.inl ⟨x, h1, h2, rfl, rfl, rfl⟩)⟩
 ·
  exact ⟨0, W', h3, h4, .inr (.inr ⟨x, h1, h2, rfl, h5, h6⟩)⟩
theorem do_ok (I : CI T M W k) (hk : k ≤ 500) (hn : 5000 ≤ n) (d : Timpostlaw16_Deed) :
 ∃ e T' M' W', F_law16_do n T M W d = some (e, T', M', W') ∧ CI T' M' W' (k + 1) ∧
  (
   (bg d = true ∧ ((getI W.threads d.T = none ∧ e = 1 ∧ W'.calls.length = W.calls.length ∧ W'.clock = W.clock) ∨
   (∃ x, getI W.threads d.T = some x ∧ 0 ≤ x.at_ ∧ e = 8 ∧ W'.calls.length = W.calls.length ∧ W'.clock = W.clock) ∨
   (∃ x, getI W.threads d.T = some x ∧ x.at_ < 0 ∧ e = 0 ∧ W'.calls.length = W.calls.length + 1 ∧ W'.clock = W.clock + 1))) ∨
   (bg d = false ∧ e = 0 ∧ W'.calls.length = W.calls.length ∧ W'.clock = W.clock + (bif (getI W.threads d.T).any bsy then 1 else 0))) := by
 unfold F_law16_do
 by_cases k1 : d.Kind = 1
 ·
  rw [if_pos (by rw [k1]; rfl)]
  obtain ⟨C, h1, h2, h3⟩ := ins_si (n := n) I.si d.Key 5
  rw [h1]
  simp only [Option.bind_some]
  obtain ⟨e, W', h4, h5, h6⟩ := do_beg (kind := 1) (key := d.Key) (t := d.T) I hk h2 h3
  rw [h4]
  exact ⟨e, T, M, W', rfl, h5, .inl ⟨decide_eq_true (by omega), h6⟩⟩
 ·
  rw [if_neg (by simpa using k1)]
  by_cases k2 : d.Kind = 2
  ·
   rw [if_pos (by rw [k2]; rfl)]
   obtain ⟨C, h1, h2, h3⟩ := del_si (n := n) I.si d.Key
   rw [h1]
   simp only [Option.bind_some]
   obtain ⟨e, W', h4, h5, h6⟩ := do_beg (kind := 2) (key := d.Key) (t := d.T) I hk h2 h3
   rw [h4]
   exact ⟨e, T, M, W', rfl, h5, .inl ⟨decide_eq_true (by omega), h6⟩⟩
  ·
   rw [if_neg (by simpa using k2)]
   by_cases k3 : d.Kind = 3
   ·
    rw [if_pos (by rw [k3]; rfl)]
    obtain ⟨C, h1, h2, h3⟩ := find_si (n := n) I.si d.Key
    rw [h1]
    simp only [Option.bind_some]
    obtain ⟨e, W', h4, h5, h6⟩ := do_beg (kind := 3) (key := d.Key) (t := d.T) I hk h2 h3
    rw [h4]
    exact ⟨e, T, M, W', rfl, h5, .inl ⟨decide_eq_true (by omega), h6⟩⟩
   ·
    rw [if_neg (by simpa using k3)]
    obtain ⟨T', M', W', b, h1, h2, h3, h4⟩ := pick_ok (t := d.T) I hk hn
    rw [h1]
    exact ⟨0, T', M', W', rfl, h2, .inr ⟨decide_eq_false (by omega), rfl, h3, h4⟩⟩
theorem there_ok (h : W.threads.length = 4) (t : Int) : ∃ b, (if (decide (t ≥ 0)) = true then (some (true, (decide (t < 4)))) else (some (false, false)) : Option (Bool × Bool)) = some (b, (getI W.threads t).isSome) := by
 unfold getI
 by_cases q : 0 ≤ t
 ·
  rw [if_pos (decide_eq_true q), if_pos q]
  refine ⟨true, ?_⟩
  by_cases w : t < 4
  ·
   rw [decide_eq_true w, List.getElem?_eq_getElem (by omega)]; rfl
  ·
   rw [decide_eq_false w, List.getElem?_eq_none (by omega)]; rfl
 ·
  rw [if_neg (by rw [decide_eq_true_iff]; exact q), if_neg q]
  exact ⟨false, rfl⟩
theorem begs_ok (d : Timpostlaw16_Deed) : ∃ b, (if (decide (d.Kind ≥ 1)) = true then (some (true, (decide (d.Kind ≤ 3)))) else (some (false, false)) : Option (Bool × Bool)) = some (b, bg d) := by
 unfold bg
 by_cases q : 1 ≤ d.Kind
 ·
  rw [if_pos (decide_eq_true q)]
  exact ⟨true, by simp [q]⟩
 ·
  rw [if_neg (by rw [decide_eq_true_iff]; exact q)]
  exact ⟨false, by simp [q]⟩
theorem calls_ok (h : W.calls.length ≤ 1000) : F_crowd_Crowd_Calls W = some (W.calls, W) := by
 unfold F_crowd_Crowd_Calls cloneL
 have hr : roomy (0 + W.calls.length) 48 = true := roomy_le (by omega) (by omega) (by omega)
 rw [appL_if, List.length_nil, if_pos hr]
 rfl
end
theorem notes_L2 {n : Nat} (hn : 5000 ≤ n) : ∀ (q : List Timpostlaw16_Deed) (i k : Nat) (T : Obst_Tree) (M : Omem_Mem) (W : Ocrowd_Crowd) (c m : Int), CI T M W k → c = W.clock → m = (W.calls.length : Int) → k + q.length ≤ 400 →
 ∃ T' M' W', F_law16_CrowdNotes_L2 n q i c m (T, M) W = some (.go ((T', M'), W')) ∧ CI T' M' W' 400
 | [], i, k, T, M, W, c, m, I, hc, hm, hk => by
  rw [F_law16_CrowdNotes_L2]
  refine ⟨T, M, W, rfl, ?_⟩
  have hk : k ≤ 400 := by simpa using hk
  exact ⟨I.si.mono hk, I.tl, fun x hx => by
   rcases I.th x hx with w | ⟨a, C, y, h1, h2, h3, h4⟩
   ·
    exact .inl w
   ·
    exact .inr ⟨a, C, y, h1, h2, h3.mono (by omega), h4⟩, I.ap, by have := I.cl; omega, by have := I.c0; omega, I.inv, I.lt, I.cnt⟩
 | d :: q, i, k, T, M, W, c, m, I, hc, hm, hk => by
  rw [List.length_cons] at hk
  rw [F_law16_CrowdNotes_L2]
  rw [idle_ok]
  simp only [Option.bind_some]
  obtain ⟨b1, e1⟩ := there_ok I.tl d.T
  rw [e1]
  simp only [Option.bind_some]
  obtain ⟨e, T', M', W', h1, I', h3⟩ := do_ok (n := n) I (by omega) hn d
  rw [h1]
  simp only [Option.bind_some]
  obtain ⟨b2, e2⟩ := begs_ok d
  rw [e2]
  simp only [Option.bind_some]
  have cl' := I'.cl
  have cl := I.cl
  have c0 := I.c0
  have ck : F_crowd_Crowd_Clock W' = some (W'.clock, W') := rfl
  have fin : ∀ (c' m' : Int), c' = W'.clock → m' = (W'.calls.length : Int) → ((F_crowd_Crowd_Clock W').bind fun x44 => (if (x44.1 != c') = true then (some (true, true, x44.2)) else ((F_crowd_Crowd_Calls x44.2).bind fun x48 => some (false, ((x48.1.length : Int) != m'), x48.2)) : Option (Bool × Bool × (Ocrowd_Crowd))).bind fun s46 => if s46.2.1 = true then (some (.out false)) else (F_law16_CrowdNotes_L2 n q (i + 1) c' m' (T', M') s46.2.2)) = F_law16_CrowdNotes_L2 n q (i + 1) c' m' (T', M') W' := fun c' m' a b => by
   rw [ck]
   simp only [Option.bind_some]
   rw [if_neg (by rw [a]; simp), calls_ok (by omega)]
   simp only [Option.bind_some]
   rw [if_neg (by rw [b]; simp)]
  have go : ∀ (c' m' : Int), c' = W'.clock → m' = (W'.calls.length : Int) → ∃ T2 M2 W2, F_law16_CrowdNotes_L2 n q (i + 1) c' m' (T', M') W' = some (.go ((T2, M2), W2)) ∧ CI T2 M2 W2 400 := fun c' m' a b =>
   notes_L2 hn q (i + 1) (k + 1) T' M' W' c' m' I' a b (by omega)
  have wc : IntKind.i64.wrap (c + 1) = c + 1 := wrap_id (by omega) (by omega)
  have wm : IntKind.i64.wrap (m + 1) = m + 1 := wrap_id (by omega) (by omega)
  rcases h3 with ⟨hb, ⟨g, rfl, q1, q2⟩ | ⟨x, g, gx, rfl, q1, q2⟩ | ⟨x, g, gx, rfl, q1, q2⟩⟩ | ⟨hb, rfl, q1, q2⟩
  ·
   rw [hb, g]
   simp only [Option.isSome_none, cond_true, cond_false, Bool.not_false, Bool.not_true, beq_self_eq_true, bne_self_eq_false, Bool.false_eq_true, if_false, Option.bind_some, show ((1 : Int) == 0) = false from rfl, if_true]
   rw [fin _ _ (by omega) (by omega)]
   exact go _ _ (by omega) (by omega)
  ·
   rw [hb, g]
   have : decide (x.at_ < 0) = false := decide_eq_false (by omega)
   simp only [Option.isSome_some, this, cond_true, cond_false, Bool.not_false, Bool.not_true, beq_self_eq_true, bne_self_eq_false, Bool.false_eq_true, if_false, Option.bind_some, show ((8 : Int) == 0) = false from rfl, if_true]
   rw [fin _ _ (by omega) (by omega)]
   exact go _ _ (by omega) (by omega)
  ·
   rw [hb, g]
   have : decide (x.at_ < 0) = true := decide_eq_true gx
   simp only [Option.isSome_some, this, cond_true, cond_false, Bool.not_false, Bool.not_true, beq_self_eq_true, bne_self_eq_false, Bool.false_eq_true, if_false, Option.bind_some, if_true]
   rw [wc, wm]
   rw [fin _ _ (by omega) (by omega)]
   exact go _ _ (by omega) (by omega)
  ·
   rw [hb]
   cases g : getI W.threads d.T with
   | none =>
    rw [g] at q2
    simp only [Option.any_none, Option.isSome_none, cond_true, cond_false, Bool.not_false, Bool.not_true, beq_self_eq_true, bne_self_eq_false, Bool.false_eq_true, if_false, Option.bind_some, if_true] at q2 ⊢
    rw [fin _ _ (by omega) (by omega)]
    exact go _ _ (by omega) (by omega)
   | some x =>
    rw [g] at q2
    by_cases w : x.at_ < 0
    ·
     have h1 : decide (x.at_ < 0) = true := decide_eq_true w
     have h2 : bsy x = false := decide_eq_false (by omega)
     simp only [h1, h2, Option.any_some, Option.isSome_some, cond_true, cond_false, Bool.not_false, Bool.not_true, beq_self_eq_true, bne_self_eq_false, Bool.false_eq_true, if_false, Option.bind_some, if_true] at q2 ⊢
     rw [fin _ _ (by omega) (by omega)]
     exact go _ _ (by omega) (by omega)
    ·
     have h1 : decide (x.at_ < 0) = false := decide_eq_false w
     have h2 : bsy x = true := decide_eq_true (by omega)
     simp only [h1, h2, Option.any_some, Option.isSome_some, cond_true, cond_false, Bool.not_false, Bool.not_true, beq_self_eq_true, bne_self_eq_false, Bool.false_eq_true, if_false, Option.bind_some, if_true] at q2 ⊢
     rw [wc]
     rw [fin _ _ (by omega) (by omega)]
     exact go _ _ (by omega) (by omega)
theorem notes_L1 {X : (List Torder_Call) × Ocrowd_Crowd} (h1 : X.1.Pairwise (fun a b => a.Inv < b.Inv)) (h2 : ∀ y ∈ X.1, y.Ret = -1 ∨ y.Inv < y.Ret) : ∀ (q pre : List Torder_Call) (y : Int), X.1 = pre ++ q → 0 ≤ y → y + q.length ≤ 100000 → pre.length + q.length ≤ 100000 →
 F_law16_CrowdNotes_L1 X q pre.length y = some (.go (y + (q.countP opn : Int)))
 | [], pre, y, _, _, _, _ => by rw [F_law16_CrowdNotes_L1]; simp
 | z :: q, pre, y, e, y0, hy, hl => by
  rw [F_law16_CrowdNotes_L1]
  rw [List.length_cons] at hy hl
  have e3 : (if (decide (z.Ret < 0)) = true then (some (IntKind.i64.wrap (y + 1))) else (some y) : Option (Int)) = some (y + (if opn z = true then 1 else 0)) := by
   unfold opn
   by_cases q : z.Ret < 0
   ·
    rw [decide_eq_true q, if_pos rfl, if_pos rfl, wrap_id (by omega) (by omega)]
   ·
    rw [decide_eq_false q, if_neg (by simp), if_neg (by simp), Int.add_zero]
  rw [e3]
  simp only [Option.bind_some]
  have e4 : ∃ b, (if (decide (((pre.length : Nat) : Int) > 0)) = true then ((getI X.1 (IntKind.i64.wrap (((pre.length : Nat) : Int) - 1))).bind fun x25 => some (true, (decide (z.Inv ≤ x25.Inv)))) else (some (false, false)) : Option (Bool × Bool)) = some (b, false) := by
   by_cases w : pre.length = 0
   ·
    rw [w, if_neg (by decide)]; exact ⟨_, rfl⟩
   ·
    rw [if_pos (decide_eq_true (by omega)), wrap_id (by omega) (by omega), show ((pre.length : Nat) : Int) - 1 = ((pre.length - 1 : Nat) : Int) from by omega, getI_nat, e, List.getElem?_append_left (by omega), List.getElem?_eq_getElem (by omega)]
    refine ⟨true, ?_⟩
    simp only [Option.bind_some]
    rw [e, List.pairwise_append] at h1
    have := h1.2.2 _ (List.getElem_mem (show pre.length - 1 < pre.length by omega)) z List.mem_cons_self
    rw [decide_eq_false (by omega)]
  obtain ⟨b, e4⟩ := e4
  rw [e4]
  simp only [Option.bind_some, Bool.false_eq_true, if_false]
  have e5 : ∃ b, (if (decide (z.Ret ≥ 0)) = true then (some (true, (decide (z.Ret ≤ z.Inv)))) else (some (false, false)) : Option (Bool × Bool)) = some (b, false) := by
   by_cases w : 0 ≤ z.Ret
   ·
    rw [if_pos (decide_eq_true w)]
    rcases h2 z (by rw [e]; simp) with v | v
    ·
     omega
    ·
     exact ⟨true, by rw [decide_eq_false (by omega)]⟩
   ·
    rw [if_neg (by rw [decide_eq_true_iff]; exact w)]
    exact ⟨_, rfl⟩
  obtain ⟨b', e5⟩ := e5
  rw [e5]
  simp only [Option.bind_some, Bool.false_eq_true, if_false]
  have := notes_L1 h1 h2 q (pre ++ [z]) (y + (if opn z = true then 1 else 0)) (by rw [e]; simp) (by split <;> omega) (by split <;> omega) (by simp; omega)
  rw [List.length_append, List.length_singleton] at this
  rw [this, List.countP_cons]
  congr 2
  split <;> omega
theorem ci0 : CI ⟨[⟨ByteArray.empty, 2, 0, 0⟩, ⟨ByteArray.empty, 1, 0, -1⟩, ⟨ByteArray.empty, 2, 0, -1⟩], [⟨0, 0, 0, 0, 0⟩]⟩ ⟨[0, 1, 2], 2⟩ ⟨List.replicate 4 ⟨none, -1⟩, [], 0⟩ 0 :=
 ⟨si0, rfl, fun x hx => .inl (by rw [List.eq_of_mem_replicate hx]; exact ⟨rfl, rfl⟩), fun i j x y hx hy hij => .inl (by rw [List.eq_of_mem_replicate (List.mem_of_getElem? hx)]; show (-1 : Int) < 0; omega), Nat.le_refl _, by simp, .nil, fun y hy => (by cases hy), rfl⟩
theorem plain_CrowdNotes (p0 : List Timpostlaw16_Deed) (w0 : (∀ a ∈ p0, W_Timpostlaw16_Deed a) ∧ p0.length ≤ maxLen) : ∃ n, F_law16_CrowdNotes n p0 = some true := by
 refine ⟨5000, ?_⟩
 unfold F_law16_CrowdNotes
 by_cases hl : p0.length ≤ 400
 ·
  rw [if_neg (by rw [decide_eq_true_iff]; omega)]
  unfold F_law16_begun F_mem_New_nil
  simp only [Option.bind_some]
  rw [bnew_ok]
  simp only [Option.bind_some]
  rw [F_law16_begun_L1]
  simp only [Option.bind_some]
  have e4 : F_crowd_New_nil = some ⟨List.replicate 4 ⟨none, -1⟩, [], 0⟩ := rfl
  rw [e4]
  simp only [Option.bind_some]
  obtain ⟨T, M, W, h, I⟩ := notes_L2 (n := 5000) (by omega) p0 0 0 _ _ _ 0 0 ci0 rfl rfl (by omega)
  rw [h]
  simp only [Option.bind_some, lpK]
  have cl := I.cl
  rw [calls_ok (by omega)]
  simp only [Option.bind_some]
  have := notes_L1 (X := (W.calls, W)) I.inv (fun y hy => (I.lt y hy).2.2) W.calls [] 0 rfl (by omega) (by show (0 : Int) + (W.calls.length : Int) ≤ _; omega) (by simp; omega)
  rw [List.length_nil] at this
  rw [this]
  simp only [Option.bind_some, lpK]
  have hc := I.cnt
  have : W.threads.countP bsy ≤ 4 := by rw [← I.tl]; exact List.countP_le_length
  rw [decide_eq_true (by omega)]
 ·
  rw [if_pos (decide_eq_true (by omega))]
end Go.Proofs.Ytndhbaidibioeaa.V
