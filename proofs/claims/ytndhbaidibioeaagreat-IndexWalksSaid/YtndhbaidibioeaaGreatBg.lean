/- One call after the other: what a search, an insertion, and a deletion tell, and leave.
   No condition: these are laws of plain functions. -/
import Derived.Test.YtndhbaidibioeaaGreatBf
namespace Go.Proofs.YtndhbaidibioeaaGreat.V
open Go
set_option linter.unusedVariables false
set_option linter.unusedSimpArgs false
set_option maxRecDepth 100000

structure BInv (T : Obst_Tree) (M : Omem_Mem) (l r : BT) (ks : List Tbst_node) (j : Nat) : Prop where
  lay : Lay T.nodes M.cells (.nd 0 l r)
  nod : (BT.nd 0 l r).ids.Nodup
  ord : Ord T.nodes (.nd 0 l r)
  dis : Dis T.nodes M.cells
  top0 : ∃ x0, T.nodes[0]? = some x0 ∧ x0.top = 2
  lv : ∃ s1, lvs T.nodes l = ks ++ [s1] ∧ s1.top = 1
  rv : ∀ x ∈ lvs T.nodes r, x.top = 2
  kt : ∀ x ∈ ks, x.top = 0
  b1 : T.nodes.length ≤ 3 + 3 * j
  b2 : T.infos.length ≤ 1 + j
  b3 : M.cells.length ≤ 3 + 3 * j
  bi : (BT.nd 0 l r).inn ≤ 1 + j
abbrev s0 : Tbst_seen := ⟨0, 0, 0, 0, 0, -1⟩
theorem gs_ne {l : List Int} {a b : Nat} {v : Int} (h : a ≠ b) : (l.set a v)[b]? = l[b]? := List.getElem?_set_ne h
theorem gs_eq {l : List Int} {a : Nat} {v : Int} (h : a < l.length) : (l.set a v)[a]? = some v := List.getElem?_set_self h
theorem dsc_nd {N : List Tbst_node} {K : List Int} {k : Tbst_node} {i : Nat} {l r : BT} (s : Tbst_seen) (g : Nat) : (dsc N K k (.nd i l r) s).parent = (parOf N k (.nd i l r) g : Int) ∧ (dsc N K k (.nd i l r) s).parentWord = wd K (nk N (parOf N k (.nd i l r) g)).cell.toNat := by
  rw [dsc, parOf]
  split
  · exact dsc_p l _ i rfl rfl
  · exact dsc_p r _ i rfl rfl
section
variable {T : Obst_Tree} {M : Omem_Mem} {l r : BT} {ks : List Tbst_node} {j : Nat}
theorem BInv.dir (I : BInv T M l r ks j) {k : Tbst_node} (hk : k.top = 0) : dirN T.nodes k 0 = true := by
  obtain ⟨x0, h1, h2⟩ := I.top0
  unfold dirN
  rw [nk_eq h1, lessN_iff]
  exact .inl (by omega)
theorem BInv.leaf (I : BInv T M l r ks j) {k : Tbst_node} (hk : k.top = 0) : leafOf T.nodes k (.nd 0 l r) = leafOf T.nodes k l := by
  have := I.dir hk
  unfold dirN at this
  rw [leafOf, if_pos this]
theorem BInv.cases (I : BInv T M l r ks j) {k : Tbst_node} (hk : k.top = 0) : ∃ x, T.nodes[leafOf T.nodes k (.nd 0 l r)]? = some x ∧ x.cell = -1 ∧ x ∈ lvs T.nodes l ∧
    ((isKey x k = true ∧ x ∈ ks ∧ x.key = k.key) ∨ (isKey x k = false ∧ ∀ y ∈ ks, y.key ≠ k.key)) := by
  obtain ⟨x, h1, h2⟩ := leafOf_lf (k := k) _ I.lay
  obtain ⟨s1, e1, e2⟩ := I.lv
  have e0 : nk T.nodes (leafOf T.nodes k l) = x := by rw [← I.leaf hk]; exact nk_eq h1
  have hx : x ∈ lvs T.nodes l := by rw [← e0]; exact leaf_lvs l
  refine ⟨x, h1, h2, hx, ?_⟩
  cases e : isKey x k with
  | true =>
    left
    obtain ⟨a, b⟩ := isKey_iff.mp e
    refine ⟨rfl, ?_, b⟩
    rw [e1] at hx
    rcases List.mem_append.mp hx with q | q
    · exact q
    · rw [List.mem_singleton] at q; rw [q, e2] at a; omega
  | false =>
    right
    refine ⟨rfl, fun y hy hyk => ?_⟩
    have ht := I.kt y hy
    have l1 : lessN k y = false := lessN_neg.mpr (.inr ⟨by rw [hk, ht], by rw [hyk]; exact less_irrefl _⟩)
    have l2 : lessN y k = false := lessN_neg.mpr (.inr ⟨by rw [hk, ht], by rw [hyk]; exact less_irrefl _⟩)
    have := leaf_key (N := T.nodes) l1 l2 (t := l) I.ord.2.2.1 (by rw [e1]; exact List.mem_append_left _ hy)
    rw [e0] at this
    have w := isKey_iff.mpr (show x.top = 0 ∧ x.key = k.key from by rw [this]; exact ⟨ht, hyk⟩)
    rw [e] at w; cases w
/-- The leaf lies where the key would. -/
theorem leaf_side {N : List Tbst_node} {k : Tbst_node} : ∀ (t : BT), Ord N t → t.isNd = true → ∀ (g : Nat) (y' : Tbst_node), N[parOf N k t g]? = some y' → lessN (nk N (leafOf N k t)) y' = lessN k y' := by
  intro t
  induction t with
  | lf _ => intro _ h; cases h
  | nd i a b iha ihb =>
    intro ⟨o1, o2, o3, o4⟩ _ g y' hy'
    rw [leafOf]
    rw [parOf] at hy'
    split
    · rename_i q
      rw [if_pos q] at hy'
      cases a with
      | lf m =>
        have ey := nk_eq hy'
        rw [show parOf N k (.lf m) i = i from rfl] at ey
        rw [← ey, q]
        exact o1 m List.mem_cons_self
      | nd m a1 a2 => exact iha o3 rfl i y' hy'
    · rename_i q
      rw [if_neg q] at hy'
      have q : lessN k (nk N i) = false := by simpa using q
      cases b with
      | lf m =>
        have ey := nk_eq hy'
        rw [show parOf N k (.lf m) i = i from rfl] at ey
        rw [← ey, q]
        exact o2 m List.mem_cons_self
      | nd m a1 a2 => exact ihb o4 rfl i y' hy'
theorem lessN_congr {a b c d : Tbst_node} (h1 : a.key = b.key) (h2 : a.top = b.top) (h3 : c.key = d.key) (h4 : c.top = d.top) : lessN a c = lessN b d := by unfold lessN; rw [h1, h2, h3, h4]
theorem gt_of {x k : Tbst_node} (h : lessN x k = false) (hx : isKey x k = false) (hk : k.top = 0) : lessN k x = true := by
  rw [lessN_iff]
  rcases lessN_neg.mp h with q | ⟨q1, q2⟩
  · exact .inl q
  · right
    refine ⟨q1.symm, ?_⟩
    cases e : lessB k.key x.key with
    | true => rfl
    | false =>
      have := less_total q2 e
      have w := isKey_iff.mpr (show x.top = 0 ∧ x.key = k.key from ⟨by omega, this⟩)
      rw [hx] at w; cases w
theorem find_op {n : Nat} {C : Obst_Call} {k : Tbst_node} (I : BInv T M l r ks j) (hj : j ≤ 1000) (hk : k.top = 0) :
    Outc (n + 2) (F_bst_Tree_down (F_step (n + 1)) T M C s0 k (.c_Find_1_1 k)) (2 * (j + 1)) (fun f => ∃ M' b v, M'.cells = M.cells ∧ f = (T, M', ⟨b, C.told_Key, v, C.told_Err⟩, none) ∧
      ((∃ y ∈ ks, y.key = k.key ∧ b = true ∧ v = y.val) ∨ ((∀ y ∈ ks, y.key ≠ k.key) ∧ b = false ∧ v = 0))) := by
  have b1 := I.b1
  have bi := I.bi
  refine (search (b := 0) (by omega) (.nd 0 l r) s0 M I.lay rfl (fun M' hM' => ?_)).le (by omega)
  obtain ⟨x, h1, h2, h3, h4⟩ := I.cases hk
  rw [find_ok (dsc_leaf _ _ rfl) h1]
  refine Outc.done ⟨M', _, _, hM', rfl, ?_⟩
  rcases h4 with ⟨e, h5, h6⟩ | ⟨e, h5⟩
  · rw [e]; exact .inl ⟨x, h5, h6, rfl, rfl⟩
  · rw [e]; exact .inr ⟨h5, rfl, rfl⟩
/-- A leaf made two: the keys. -/
theorem split_ks {A B : List Tbst_node} {x s1 n a b : Tbst_node} (h : A ++ x :: B = ks ++ [s1]) (hs : s1.top = 1) (hk : ∀ y ∈ ks, y.top = 0) (hn : n.top = 0) (hab : (a = n ∧ b = x) ∨ (a = x ∧ b = n)) (hb : lessN x n = true → b = n) (hb2 : lessN x n = false → b = x) :
    ∃ ks', A ++ [a, b] ++ B = ks' ++ [s1] ∧ ∀ y, y ∈ ks' ↔ y ∈ ks ∨ y = n := by
  rcases List.eq_nil_or_concat B with q | ⟨B', z, q⟩
  · subst q
    have h' := List.append_inj' h rfl
    obtain ⟨h1, h2⟩ := h'
    have h2 : x = s1 := by simpa using h2
    subst h1 h2
    have e : lessN x n = false := lessN_neg.mpr (.inl (by omega))
    have hb' := hb2 e
    rcases hab with ⟨q1, q2⟩ | ⟨q1, q2⟩
    · exact ⟨A ++ [n], by rw [q1, q2]; simp, fun y => by simp⟩
    · exfalso
      rw [hb'] at q2
      rw [q2] at hs; omega
  · subst q
    have h' : (A ++ x :: B') ++ [z] = ks ++ [s1] := by rw [← h]; simp
    obtain ⟨h1, h2⟩ := List.append_inj' h' rfl
    have h2 : z = s1 := by simpa using h2
    subst h2
    refine ⟨A ++ [a, b] ++ B', by simp, fun y => ?_⟩
    rw [← h1]
    rcases hab with ⟨q1, q2⟩ | ⟨q1, q2⟩
    · rw [q1, q2]; simp only [List.mem_append, List.mem_cons, List.not_mem_nil, or_false]; grind
    · rw [q1, q2]; simp only [List.mem_append, List.mem_cons, List.not_mem_nil, or_false]; grind
/-- Grown by a leaf. -/
def Grew (N N' : List Tbst_node) (k : Tbst_node) (l l' : BT) : Prop := ∃ f, l' = updT N k f l ∧ ∀ z ∈ lvs N' f, z = nk N (leafOf N k l) ∨ z = ⟨k.key, 0, k.val, -1⟩
/-- What lies aside: cells that are no node's. -/
def Free (N : List Tbst_node) (a : Nat) : Prop := ∀ (i : Nat) (x : Tbst_node) (c : Nat), N[i]? = some x → x.cell = (c : Int) → a < c ∨ c + 3 ≤ a
def Aside (T T' : Obst_Tree) (M M' : Omem_Mem) : Prop := ∀ a, a < M.cells.length → Free T.nodes a → Free T'.nodes a ∧ M'.cells[a]? = M.cells[a]?
theorem ins_op {n : Nat} {C : Obst_Call} {k : Tbst_node} {th : Clo} (I : BInv T M l r ks j) (hj : j ≤ 1000) (hk : k.top = 0) :
    Outc (n + 3) (F_bst_Tree_down (F_step (n + 2)) T M C s0 k (.c_insert_2 k th)) (2 * (j + 1) + 6) (fun f =>
      (∃ M' y, M'.cells = M.cells ∧ y ∈ ks ∧ y.key = k.key ∧ f = (T, M', ⟨false, C.told_Key, y.val, C.told_Err⟩, none)) ∨
      ((∀ y ∈ ks, y.key ≠ k.key) ∧ ∃ T' M' l' ks', BInv T' M' l' r ks' (j + 1) ∧ (NExt T.nodes T'.nodes ∧ Grew T.nodes T'.nodes k l l' ∧ Aside T T' M M') ∧ (∀ y, y ∈ ks' ↔ y ∈ ks ∨ y = ⟨k.key, 0, k.val, -1⟩) ∧ f = (T', M', ⟨true, C.told_Key, k.val, C.told_Err⟩, none))) := by
  have b1 := I.b1
  have b2 := I.b2
  have b3 := I.b3
  have bi := I.bi
  refine (search (b := 6) (by omega) (.nd 0 l r) s0 M I.lay rfl (fun M1 hM1 => ?_)).le (by omega)
  obtain ⟨x, h1, h2, h3, h4⟩ := I.cases hk
  have hlf := dsc_leaf (N := T.nodes) (K := M.cells) (k := k) (.nd 0 l r) s0 rfl
  rcases h4 with ⟨e, h5, h6⟩ | ⟨e, h5⟩
  · rw [ins_there hlf h1 e]
    exact Outc.done (.inl ⟨M1, x, hM1, h5, h6, rfl⟩)
  · obtain ⟨hp, hpw⟩ := dsc_nd (N := T.nodes) (K := M.cells) (k := k) (i := 0) (l := l) (r := r) s0 0
    obtain ⟨pm, y, c, w, g1, g2, g3, g4, g5, g6, g7, up⟩ := par_ok (k := k) I.dis (.nd 0 l r) 0 rfl I.lay I.nod
    rw [nk_eq g1, g2, Int.toNat_natCast, wd_eq g4] at hpw
    generalize dsc T.nodes M.cells k (.nd 0 l r) s0 = s at hlf hp hpw ⊢
    generalize hpp : parOf T.nodes k (.nd 0 l r) 0 = p at hp g1 pm ⊢
    obtain ⟨s1, e1, e2⟩ := I.lv
    have hlt := I.lay.lt
    have hc : c + 3 ≤ M.cells.length := I.dis.room _ _ _ g1 g2
    have hlf' : leafOf T.nodes k (.nd 0 l r) < T.nodes.length := (List.getElem?_eq_some_iff.mp h1).1
    generalize hLF : leafOf T.nodes k (.nd 0 l r) = lf at *
    rw [ins_grow (n := n + 1) hlf hp h1 e hpw g5 g6 (by rw [hM1]; omega) (by omega) (by omega), hM1]
    -- names
    have hL : T.nodes.length = T.nodes.length := rfl
    generalize hT' : (⟨T.nodes ++ [⟨k.key, 0, k.val, -1⟩] ++ [⟨x.key, x.top, x.val, -1⟩] ++ [innOf x k M.cells.length], T.infos ++ [⟨0, (p : Int), (lf : Int), ((T.nodes.length + 2 : Nat) : Int), 0⟩]⟩ : Obst_Tree) = T'
    have hN' : T'.nodes = T.nodes ++ [⟨k.key, 0, k.val, -1⟩] ++ [⟨x.key, x.top, x.val, -1⟩] ++ [innOf x k M.cells.length] := by rw [← hT']
    have hI' : T'.infos = T.infos ++ [⟨0, (p : Int), (lf : Int), ((T.nodes.length + 2 : Nat) : Int), 0⟩] := by rw [← hT']
    have ext : NExt T.nodes T'.nodes := by
      intro i z hz
      rw [hN', List.append_assoc, List.append_assoc]
      exact NExt.app _ _ i z hz
    have n0 : T'.nodes[T.nodes.length]? = some ⟨k.key, 0, k.val, -1⟩ := by rw [hN']; simp
    have n1 : T'.nodes[T.nodes.length + 1]? = some ⟨x.key, x.top, x.val, -1⟩ := by
      rw [hN', List.getElem?_append_left (by simp), List.getElem?_append_right (by simp)]; simp
    have n2 : T'.nodes[T.nodes.length + 2]? = some (innOf x k M.cells.length) := by
      rw [hN', List.getElem?_append_right (by simp)]; simp
    have i0 : T'.infos[T.infos.length]? = some ⟨0, (p : Int), (lf : Int), ((T.nodes.length + 2 : Nat) : Int), 0⟩ := by rw [hI']; simp
    have hxx : (⟨x.key, x.top, x.val, -1⟩ : Tbst_node) = x := by rw [← h2]
    have lb : lowOf x k T.nodes.length ≤ T.nodes.length + 1 := by unfold lowOf; split <;> omega
    have hb : highOf x k T.nodes.length ≤ T.nodes.length + 1 := by unfold highOf; split <;> omega
    -- the direction
    have hz : lessN (innOf x k M.cells.length) y = lessN k y := by
      unfold innOf
      split
      · rfl
      · rename_i q
        have q : lessN x k = false := by simpa using q
        have := leaf_side (N := T.nodes) (k := k) (.nd 0 l r) I.ord rfl 0 y (by rw [hpp]; exact g1)
        rw [hLF, nk_eq h1] at this
        exact this
    -- the steps
    have hcd : c + (if lessN k y = true then 1 else 2) < c + 3 := by split <;> omega
    have hcd0 : c < c + (if lessN k y = true then 1 else 2) := by split <;> omega
    refine Outc.step (b := 5) (st_grow1 (n := n + 2) (T := T') (a := M.cells.length) (l := lowOf x k T.nodes.length) (h := highOf x k T.nodes.length) (i := T.infos.length) (by simp) (by omega) (by omega)) ?_
    refine Outc.step (b := 4) (st_grow2 (n := n + 2) (a := M.cells.length) (by simp [setc]) (by omega) (by omega)) ?_
    have w0 : (M.cells ++ [0, 0, 0])[c]? = some ((w : Nat) : Int) := by rw [List.getElem?_append_left (by omega)]; exact g4
    refine Outc.step (b := 3) (st_grow3 (n := n + 2) hp (ext _ _ g1) g2 g3 (w := (w : Int)) (by simp only [setc]; rw [gs_ne (by omega), gs_ne (by omega)]; exact w0) hpw i0 (by omega) rfl rfl rfl) ?_
    have w1 : (M.cells ++ [0, 0, 0])[c + (if lessN k y = true then 1 else 2)]? = some ((lf : Nat) : Int) := by rw [List.getElem?_append_left (by omega)]; exact g7
    refine Outc.step (b := 2) (st_turn (n := n + 2) (nx := T.nodes.length + 2) (o := lf) (ext _ _ g1) g2 g3 n2 (by omega) (by omega) (by simp only [setc]; rw [hz, gs_ne (by omega), gs_ne (by omega), gs_ne (by omega)]; exact w1)) ?_
    rw [hz, st_grows1]
    refine Outc.step (b := 1) (st_clean (n := n + 2) (p := p) (i := T.infos.length) (st := 1) (c := c) (ext _ _ g1) g2 g3 (by omega) (by omega) (by simp only [setc]; rw [gs_ne (by omega), gs_eq (by simp; omega)])) ?_
    rw [st_told]
    -- what it leaves
    have hu : ∀ f, updT T.nodes k f (.nd 0 l r) = .nd 0 (updT T.nodes k f l) r := fun f => by
      have := I.dir hk
      unfold dirN at this
      rw [updT, if_pos this]
    have hll : ∀ i ∈ l.ids, i < T.nodes.length := fun i hi => hlt i (List.mem_cons_of_mem _ (List.mem_append_left _ hi))
    have hrl : ∀ i ∈ r.ids, i < T.nodes.length := fun i hi => hlt i (List.mem_cons_of_mem _ (List.mem_append_right _ hi))
    have m0 := nk_eq n0
    have m1 := nk_eq n1
    have m2 := nk_eq n2
    have ex : nk T.nodes lf = x := nk_eq h1
    have hlow : T'.nodes[lowOf x k T.nodes.length]? = some (if lessN x k = true then ⟨x.key, x.top, x.val, -1⟩ else ⟨k.key, 0, k.val, -1⟩) := by unfold lowOf; split <;> assumption
    have hhigh : T'.nodes[highOf x k T.nodes.length]? = some (if lessN x k = true then ⟨k.key, 0, k.val, -1⟩ else ⟨x.key, x.top, x.val, -1⟩) := by unfold highOf; split <;> assumption
    have lne : lowOf x k T.nodes.length ≠ highOf x k T.nodes.length := by unfold lowOf highOf; split <;> omega
    have lge : T.nodes.length ≤ lowOf x k T.nodes.length := by unfold lowOf; split <;> omega
    have hge : T.nodes.length ≤ highOf x k T.nodes.length := by unfold highOf; split <;> omega
    generalize hlo : lowOf x k T.nodes.length = lo at *
    generalize hhi : highOf x k T.nodes.length = hi at *
    have hlfl : leafOf T.nodes k l = lf := by rw [← I.leaf hk]; exact hLF
    obtain ⟨A, B, a1, a2⟩ := lvs_upd (N' := T'.nodes) (k := k) (f := .nd (T.nodes.length + 2) (.lf lo) (.lf hi)) ext hll
    rw [hlfl, ex] at a1
    have hsp := split_ks (n := ⟨k.key, 0, k.val, -1⟩) (a := nk T'.nodes lo) (b := nk T'.nodes hi) (a1.symm.trans e1) e2 I.kt rfl
      (by rw [nk_eq hlow, nk_eq hhigh]; cases q : lessN x k <;> simp [hxx])
      (fun q => by rw [nk_eq hhigh, if_pos (by rw [← q]; exact lessN_congr rfl rfl rfl hk)])
      (fun q => by rw [nk_eq hhigh, if_neg (by rw [show lessN x k = lessN x ⟨k.key, 0, k.val, -1⟩ from lessN_congr rfl rfl rfl hk, q]; simp)]; exact hxx)
    obtain ⟨ks', k1, k2⟩ := hsp
    have ordf : Ord T'.nodes (.nd (T.nodes.length + 2) (.lf lo) (.lf hi)) := by
      refine ⟨fun q hq => ?_, fun q hq => ?_, trivial, trivial⟩
      · have hq : q = lo := by simpa [BT.ids] using hq
        rw [hq, nk_eq hlow, m2]
        cases q2 : lessN x k with
        | true => rw [if_pos rfl]; unfold innOf; rw [if_pos q2, ← q2]; exact lessN_congr rfl rfl rfl rfl
        | false => rw [if_neg (by simp)]; unfold innOf; rw [if_neg (by rw [q2]; simp), ← gt_of q2 e hk]; exact lessN_congr rfl hk.symm rfl rfl
      · have hq : q = hi := by simpa [BT.ids] using hq
        rw [hq, nk_eq hhigh, m2]
        cases q2 : lessN x k with
        | true => rw [if_pos rfl]; unfold innOf; rw [if_pos q2, ← lessN_irrefl k]; exact lessN_congr rfl hk.symm rfl rfl
        | false => rw [if_neg (by simp)]; unfold innOf; rw [if_neg (by rw [q2]; simp), ← lessN_irrefl x]; exact lessN_congr rfl rfl rfl rfl
    have fid : ∀ q ∈ (BT.nd (T.nodes.length + 2) (.lf lo) (.lf hi)).ids, q = T.nodes.length + 2 ∨ q = lo ∨ q = hi := fun q hq => by simpa [BT.ids] using hq
    have main : ∀ Mf : Omem_Mem, Mf.cells = (((((M.cells ++ [0, 0, 0]).set (M.cells.length + 1) (lo : Int)).set (M.cells.length + 2) (hi : Int)).set c ((4 * T.infos.length + 1 : Nat) : Int)).set (c + (if lessN k y = true then 1 else 2)) ((T.nodes.length + 2 : Nat) : Int)).set c ((4 * T.infos.length + 0 : Nat) : Int) →
        BInv T' Mf (updT T.nodes k (.nd (T.nodes.length + 2) (.lf lo) (.lf hi)) l) r ks' (j + 1) := by
      intro Mf hMf
      constructor
      · -- lay
        rw [← hu]
        refine up T'.nodes _ _ (4 * T.infos.length + 0) ext (fun b v hb1 hb2 hv => ?_) ?_ (by omega) (by omega) ?_ ?_
        · have hbl := (List.getElem?_eq_some_iff.mp hv).1
          rw [hMf, gs_ne (by omega), gs_ne (by omega), gs_ne (by omega), gs_ne (by omega), gs_ne (by omega), List.getElem?_append_left hbl]; exact hv
        · rw [hMf, gs_eq (by simp; omega)]
        · rw [hMf, gs_ne (by omega), gs_eq (by simp; omega)]; rfl
        · refine ⟨_, M.cells.length, 0, n2, innOf_cell _ _ _, by omega, ?_, rfl, by omega, ?_, ?_, ⟨_, hlow, by split <;> rfl⟩, ⟨_, hhigh, by split <;> rfl⟩⟩
          · rw [hMf, gs_ne (by omega), gs_ne (by omega), gs_ne (by omega), gs_ne (by omega), gs_ne (by omega)]; simp
          · rw [hMf, gs_ne (by omega), gs_ne (by omega), gs_ne (by omega), gs_ne (by omega), gs_eq (by simp)]; rfl
          · rw [hMf, gs_ne (by omega), gs_ne (by omega), gs_ne (by omega), gs_eq (by simp)]; rfl
      · -- nod
        rw [← hu]
        refine upd_nodup ?_ I.nod (fun q hq hq2 => ?_)
        · simp [BT.ids]; omega
        · have := hlt q hq2
          rcases fid q hq with w | w | w <;> omega
      · -- ord
        rw [← hu]
        refine upd_ord ext ordf hlt I.ord (fun q hq y' hy' => ?_)
        rw [hLF, ex] at hy'
        rcases fid q hq with w | w | w
        · rw [w, m2]; unfold innOf; split
          · exact lessN_congr rfl rfl rfl rfl
          · rw [← hy']; exact lessN_congr rfl rfl rfl rfl
        · rw [w, nk_eq hlow]; split
          · rw [← hy']; exact lessN_congr rfl rfl rfl rfl
          · exact lessN_congr rfl hk.symm rfl rfl
        · rw [w, nk_eq hhigh]; split
          · exact lessN_congr rfl hk.symm rfl rfl
          · rw [← hy']; exact lessN_congr rfl rfl rfl rfl
      · -- dis
        have old : ∀ (i : Nat) (z : Tbst_node) (q : Nat), T'.nodes[i]? = some z → z.cell = (q : Int) → (T.nodes[i]? = some z) ∨ (i = T.nodes.length + 2 ∧ q = M.cells.length) := by
          intro i z q hz hq
          have hi3 := (List.getElem?_eq_some_iff.mp hz).1
          rw [hN'] at hi3
          simp at hi3
          by_cases c1 : i < T.nodes.length
          · left
            have := ext i _ (List.getElem?_eq_getElem c1)
            rw [hz] at this
            rw [List.getElem?_eq_getElem c1]; exact this.symm
          · by_cases c2 : i = T.nodes.length
            · subst c2; rw [n0] at hz; cases hz; simp at hq
            · by_cases c3 : i = T.nodes.length + 1
              · subst c3; rw [n1] at hz; cases hz; simp at hq
              · have c4 : i = T.nodes.length + 2 := by omega
                subst c4
                rw [n2] at hz
                cases hz
                rw [innOf_cell] at hq
                exact .inr ⟨rfl, by omega⟩
        constructor
        · intro i i2 z z2 q q2 hz hz2 hq hq2 hne
          rcases old i z q hz hq with w | ⟨w, w2⟩ <;> rcases old i2 z2 q2 hz2 hq2 with u | ⟨u, u2⟩
          · exact I.dis.apart i i2 z z2 q q2 w u hq hq2 hne
          · have := I.dis.room i z q w hq; omega
          · have := I.dis.room i2 z2 q2 u hq2; omega
          · omega
        · intro i z q hz hq
          rw [hMf]; simp only [List.length_set, List.length_append, List.length_cons, List.length_nil]
          rcases old i z q hz hq with w | ⟨w, w2⟩
          · have := I.dis.room i z q w hq; omega
          · omega
      · obtain ⟨x0, t1, t2⟩ := I.top0
        exact ⟨x0, ext _ _ t1, t2⟩
      · exact ⟨s1, by rw [a2, ← k1]; simp [lvs], e2⟩
      · intro z hz
        rw [lvs_ext ext hrl] at hz
        exact I.rv z hz
      · intro z hz
        rcases (k2 z).mp hz with w | w
        · exact I.kt z w
        · rw [w]
      · rw [hN']; simp; omega
      · rw [hI']; simp; omega
      · rw [hMf]; simp; omega
      · rw [← hu, upd_inn]
        simp only [BT.inn] at bi ⊢
        omega
    have gr : ∀ z ∈ lvs T'.nodes (.nd (T.nodes.length + 2) (.lf lo) (.lf hi)), z = nk T.nodes (leafOf T.nodes k l) ∨ z = ⟨k.key, 0, k.val, -1⟩ := by
      intro z hz
      rw [hlfl, ex]
      simp only [lvs, List.mem_append, List.mem_singleton] at hz
      rw [nk_eq hlow, nk_eq hhigh, hxx] at hz
      rcases hz with w | w <;> split at w <;> simp [w]
    have aw : ∀ Mf : Omem_Mem, Mf.cells = (((((M.cells ++ [0, 0, 0]).set (M.cells.length + 1) (lo : Int)).set (M.cells.length + 2) (hi : Int)).set c ((4 * T.infos.length + 1 : Nat) : Int)).set (c + (if lessN k y = true then 1 else 2)) ((T.nodes.length + 2 : Nat) : Int)).set c ((4 * T.infos.length + 0 : Nat) : Int) → Aside T T' M Mf := by
      intro Mf hMf a ha hf
      have hfc := hf p y c g1 g2
      refine ⟨fun i z q hz hq => ?_, ?_⟩
      · have hi3 := (List.getElem?_eq_some_iff.mp hz).1
        rw [hN'] at hi3
        simp at hi3
        by_cases c1 : i < T.nodes.length
        · have := ext i _ (List.getElem?_eq_getElem c1)
          rw [hz] at this
          refine hf i z q ?_ hq
          rw [List.getElem?_eq_getElem c1]; exact this.symm
        · by_cases c2 : i = T.nodes.length
          · subst c2; rw [n0] at hz; cases hz; simp at hq
          · by_cases c3 : i = T.nodes.length + 1
            · subst c3; rw [n1] at hz; cases hz; simp at hq
            · have c4 : i = T.nodes.length + 2 := by omega
              subst c4
              rw [n2] at hz
              cases hz
              rw [innOf_cell] at hq
              left; omega
      · rw [hMf, gs_ne (by omega), gs_ne (by omega), gs_ne (by omega), gs_ne (by omega), gs_ne (by omega), List.getElem?_append_left ha]
    exact Outc.done (.inr ⟨h5, T', _, _, ks', main _ rfl, ⟨ext, ⟨_, rfl, gr⟩, aw _ rfl⟩, k2, rfl⟩)
end
end Go.Proofs.YtndhbaidibioeaaGreat.V
