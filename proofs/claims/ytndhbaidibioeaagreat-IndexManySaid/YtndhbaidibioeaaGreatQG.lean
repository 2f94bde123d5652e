/- Many at once at a tree into which only is inserted: what one has begun, and another may end.
   No condition: these are laws of plain functions. -/
import Derived.Test.YtndhbaidibioeaaGreatQB
import Derived.Test.YtndhbaidibioeaaGreatQN
namespace Go.Proofs.YtndhbaidibioeaaGreat.V
open Go
set_option linter.unusedVariables false
set_option linter.unusedSimpArgs false
set_option maxRecDepth 100000
structure Inf (N : List Tbst_node) (y : Tbst_info) (p lf L : Nat) (xp x kn : Tbst_node) (c cp : Nat) : Prop where
 hp : y.parent = (p : Int)
 hl : y.leaf = (lf : Int)
 hn : y.next = ((L + 2 : Nat) : Int)
 np : N[p]? = some xp
 cpe : xp.cell = (cp : Int)
 nl : N[lf]? = some x
 xl : x.cell = -1
 n0 : N[L]? = some kn
 k0 : kn.cell = -1
 kt : kn.top = 0
 n1 : N[L + 1]? = some x
 n2 : N[L + 2]? = some (innOf x kn c)
 ne : isKey x kn = false
 sd : lessN (innOf x kn c) xp = lessN kn xp
theorem Inf.ext {N N' : List Tbst_node} {y : Tbst_info} {p lf L c cp : Nat} {xp x kn : Tbst_node} (F : Inf N y p lf L xp x kn c cp) (e : NExt N N') : Inf N' y p lf L xp x kn c cp :=
 ⟨F.hp, F.hl, F.hn, e _ _ F.np, F.cpe, e _ _ F.nl, F.xl, e _ _ F.n0, F.k0, F.kt, e _ _ F.n1, e _ _ F.n2, F.ne, F.sd⟩
abbrev fOf (x kn : Tbst_node) (L : Nat) : BT := .nd (L + 2) (.lf (lowOf x kn L)) (.lf (highOf x kn L))
structure Un (N : List Tbst_node) (K : List Int) (t : BT) (p lf L : Nat) (x kn : Tbst_node) (c : Nat) : Prop where
 leaf : leafOf N kn t = lf
 par : parOf N kn t 0 = p
 new : ∀ q ∈ t.ids, q < L ∨ L + 2 < q
 w : K[c]? = some ((0 : Nat) : Int)
 low : K[c + 1]? = some ((lowOf x kn L : Nat) : Int)
 high : K[c + 2]? = some ((highOf x kn L : Nat) : Int)
section
variable {T : Obst_Tree} {M : Omem_Mem} {l r : BT} {ks : List Tbst_node} {j : Nat} {y : Tbst_info} {p lf L c cp : Nat} {xp x kn : Tbst_node}
theorem kn_eq (F : Inf T.nodes y p lf L xp x kn c cp) : (⟨kn.key, 0, kn.val, -1⟩ : Tbst_node) = kn := by
 have h1 := F.kt; have h2 := F.k0
 cases kn
 dsimp only at h1 h2
 rw [h1, h2]
theorem turn_op (I : BInv T M l r ks j) (hj : j ≤ 100000) (F : Inf T.nodes y p lf L xp x kn c cp) (U : Un T.nodes M.cells (.nd 0 l r) p lf L x kn c) (cnt : Int) :
 M.cells[cp + dn (lessN kn xp)]? = some (lf : Int) ∧ ∃ ks', BInv T ⟨M.cells.set (cp + dn (lessN kn xp)) ((L + 2 : Nat) : Int), cnt⟩ (updT T.nodes kn (fOf x kn L) l) r ks' (j + 1) ∧ (∀ y, y ∈ ks' ↔ y ∈ ks ∨ y = kn) ∧ Grew T.nodes T.nodes kn l (updT T.nodes kn (fOf x kn L) l) := by
 have b1 := I.b1
 have b2 := I.b2
 have b3 := I.b3
 have bi := I.bi
 have hk := F.kt
 obtain ⟨pm, y', c', w, g1, g2, g3, g4, g5, g6, g7, up⟩ := par_ok (k := kn) I.dis (.nd 0 l r) 0 rfl I.lay I.nod
 rw [U.par] at g1 pm
 rw [F.np] at g1
 cases g1
 have : c' = cp := by have := F.cpe; rw [g2] at this; omega
 subst this
 rw [U.leaf] at g7
 refine ⟨g7, ?_⟩
 have ed : ∀ b : Bool, dn b = if b = true then 1 else 2 := fun b => rfl
 have hlt := I.lay.lt
 obtain ⟨s1, e1, e2⟩ := I.lv
 have hu : ∀ f, updT T.nodes kn f (.nd 0 l r) = .nd 0 (updT T.nodes kn f l) r := fun f => by
  have := I.dir hk
  unfold dirN at this
  rw [updT, if_pos this]
 have hll : ∀ i ∈ l.ids, i < T.nodes.length := fun i hi => hlt i (List.mem_cons_of_mem _ (List.mem_append_left _ hi))
 have ex : nk T.nodes lf = x := nk_eq F.nl
 have m2 := nk_eq F.n2
 have hlow : T.nodes[lowOf x kn L]? = some (if lessN x kn = true then x else kn) := by
  unfold lowOf; split
  ·
   exact F.n1
  ·
   exact F.n0
 have hhigh : T.nodes[highOf x kn L]? = some (if lessN x kn = true then kn else x) := by
  unfold highOf; split
  ·
   exact F.n0
  ·
   exact F.n1
 have lne : lowOf x kn L ≠ highOf x kn L := by unfold lowOf highOf; split <;> omega
 have lb : L ≤ lowOf x kn L ∧ lowOf x kn L ≤ L + 1 := by unfold lowOf; split <;> omega
 have hb : L ≤ highOf x kn L ∧ highOf x kn L ≤ L + 1 := by unfold highOf; split <;> omega
 have hU := U.low
 have hU2 := U.high
 unfold fOf
 generalize hlo : lowOf x kn L = lo at *
 generalize hhi : highOf x kn L = hi at *
 have hlfl : leafOf T.nodes kn l = lf := by rw [← I.leaf hk]; exact U.leaf
 obtain ⟨A, B, a1, a2⟩ := lvs_upd (N' := T.nodes) (k := kn) (f := .nd (L + 2) (.lf lo) (.lf hi)) (fun _ _ h => h) hll
 rw [hlfl, ex] at a1
 obtain ⟨ks', k1, k2⟩ := split_ks (n := kn) (a := nk T.nodes lo) (b := nk T.nodes hi) (a1.symm.trans e1) e2 I.kt F.kt
  (by rw [nk_eq hlow, nk_eq hhigh]; cases q : lessN x kn <;> simp)
  (fun q => by rw [nk_eq hhigh, if_pos q])
  (fun q => by rw [nk_eq hhigh, if_neg (by rw [q]; simp)])
 have ordf : Ord T.nodes (.nd (L + 2) (.lf lo) (.lf hi)) := by
  refine ⟨fun q hq => ?_, fun q hq => ?_, trivial, trivial⟩
  ·
   have hq : q = lo := by simpa [BT.ids] using hq
   rw [hq, nk_eq hlow, m2]
   cases q2 : lessN x kn with
   | true => rw [if_pos rfl]; unfold innOf; rw [if_pos q2, ← q2]; exact lessN_congr rfl rfl rfl rfl
   | false => rw [if_neg (by simp)]; unfold innOf; rw [if_neg (by rw [q2]; simp), ← gt_of q2 F.ne hk]; exact lessN_congr rfl rfl rfl rfl
  ·
   have hq : q = hi := by simpa [BT.ids] using hq
   rw [hq, nk_eq hhigh, m2]
   cases q2 : lessN x kn with
   | true => rw [if_pos rfl]; unfold innOf; rw [if_pos q2, ← lessN_irrefl kn]; exact lessN_congr rfl rfl rfl rfl
   | false => rw [if_neg (by simp)]; unfold innOf; rw [if_neg (by rw [q2]; simp), ← lessN_irrefl x]; exact lessN_congr rfl rfl rfl rfl
 have fid : ∀ q ∈ (BT.nd (L + 2) (.lf lo) (.lf hi)).ids, q = L + 2 ∨ q = lo ∨ q = hi := fun q hq => by simpa [BT.ids] using hq
 have v1 := U.w
 have hcr : c + 3 ≤ M.cells.length := I.dis.room _ _ _ F.n2 (innOf_cell _ _ _)
 have hpL : p ≠ L + 2 := fun h => by have := U.new p pm; omega
 have hap := I.dis.apart _ _ _ _ _ _ F.np F.n2 g2 (innOf_cell _ _ _) hpL
 have hcpr : c' + 3 ≤ M.cells.length := I.dis.room _ _ _ F.np g2
 have hd := dn_pos (lessN kn xp)
 have gr : ∀ z ∈ lvs T.nodes (.nd (L + 2) (.lf lo) (.lf hi)), z = nk T.nodes (leafOf T.nodes kn l) ∨ z = ⟨kn.key, 0, kn.val, -1⟩ := by
  intro z hz
  rw [hlfl, ex, kn_eq F]
  simp only [lvs, List.mem_append, List.mem_singleton] at hz
  rw [nk_eq hlow, nk_eq hhigh] at hz
  rcases hz with w | w <;> split at w <;> simp [w]
 refine ⟨ks', ?_, k2, ⟨_, rfl, gr⟩⟩
 constructor
 ·
  rw [← hu]
  refine up T.nodes _ _ w (fun _ _ h => h) (fun b v hb1 hb2 hv => ?_) ?_ g5 g6 ?_ ?_
  ·
   rw [gs_ne (by rw [ed]; exact Ne.symm hb2)]; exact hv
  ·
   rw [gs_ne (by omega)]; exact g4
  ·
   rw [ed, gs_eq (by rw [← ed]; omega)]; rfl
  ·
   refine ⟨_, c, 0, F.n2, innOf_cell _ _ _, ?_, ?_, by omega, by omega, ?_, ?_, ⟨_, hlow, ?_⟩, ⟨_, hhigh, ?_⟩⟩
   ·
    omega
   ·
    rw [gs_ne (by omega)]; exact v1
   ·
    rw [gs_ne (by omega)]; exact hU
   ·
    rw [gs_ne (by omega)]; exact hU2
   ·
    split
    ·
     exact F.xl
    ·
     exact F.k0
   ·
    split
    ·
     exact F.k0
    ·
     exact F.xl
 ·
  rw [← hu]
  refine upd_nodup ?_ I.nod (fun q hq hq2 => ?_)
  ·
   simp [BT.ids]; omega
  ·
   have := U.new q hq2
   rcases fid q hq with w | w | w <;> omega
 ·
  rw [← hu]
  refine upd_ord (fun _ _ h => h) ordf hlt I.ord (fun q hq y' hy' => ?_)
  rw [U.leaf, ex] at hy'
  rcases fid q hq with w | w | w
  ·
   rw [w, m2]; unfold innOf; split
   ·
    exact lessN_congr rfl rfl rfl rfl
   ·
    rw [← hy']; exact lessN_congr rfl rfl rfl rfl
  ·
   rw [w, nk_eq hlow]; split
   ·
    exact hy'
   ·
    rfl
  ·
   rw [w, nk_eq hhigh]; split
   ·
    rfl
   ·
    exact hy'
 ·
  refine ⟨I.dis.apart, fun i z q h1 h2 => ?_⟩
  have := I.dis.room i z q h1 h2
  simpa using this
 ·
  exact I.top0
 ·
  exact ⟨s1, by rw [a2, ← k1]; simp [lvs], e2⟩
 ·
  exact I.rv
 ·
  intro z hz
  rcases (k2 z).mp hz with w | w
  ·
   exact I.kt z w
  ·
   rw [w]; exact F.kt
 ·
  omega
 ·
  omega
 ·
  simpa using by omega
 ·
  rw [← hu, upd_inn]
  simp only [BT.inn] at bi ⊢
  omega
end
structure ID where
 p : Nat
 lf : Nat
 L : Nat
 c : Nat
 cp : Nat
 xp : Tbst_node
 x : Tbst_node
 kn : Tbst_node
abbrev InfD (N : List Tbst_node) (y : Tbst_info) (d : ID) : Prop := Inf N y d.p d.lf d.L d.xp d.x d.kn d.c d.cp
abbrev UnD (N : List Tbst_node) (K : List Int) (t : BT) (d : ID) : Prop := Un N K t d.p d.lf d.L d.x d.kn d.c
theorem InfD.uniq {N : List Tbst_node} {y : Tbst_info} {d e : ID} (h : InfD N y d) (g : InfD N y e) : d = e := by
 obtain ⟨a1, a2, a3, a4, a5, a6, a7, a8, a9, a10, a11, a12, a13, a14⟩ := h
 obtain ⟨b1, b2, b3, b4, b5, b6, b7, b8, b9, b10, b11, b12, b13, b14⟩ := g
 have e1 : d.p = e.p := by rw [a1] at b1; omega
 have e2 : d.lf = e.lf := by rw [a2] at b2; omega
 have e3 : d.L = e.L := by rw [a3] at b3; omega
 rw [← e1, a4] at b4
 rw [← e2, a6] at b6
 rw [← e3, a8] at b8
 have e4 : d.xp = e.xp := Option.some.inj b4
 have e5 : d.x = e.x := Option.some.inj b6
 have e6 : d.kn = e.kn := Option.some.inj b8
 rw [← e3, a12, ← e5, ← e6] at b12
 have e7 : d.c = e.c := by
  have := congrArg (fun o : Option Tbst_node => (o.map (·.cell)).getD 0) b12
  simp only [Option.map_some, Option.getD_some, innOf_cell] at this
  omega
 have e8 : d.cp = e.cp := by rw [← e4, a5] at b5; omega
 obtain ⟨p, lf, L, c, cp, xp, x, kn⟩ := d
 obtain ⟨p', lf', L', c', cp', xp', x', kn'⟩ := e
 dsimp only at e1 e2 e3 e4 e5 e6 e7 e8
 rw [e1, e2, e3, e4, e5, e6, e7, e8]
def ID.at_ (d : ID) : Nat := d.cp + dn (lessN d.kn d.xp)
structure Dne (K : List Int) (ks : List Tbst_node) (d : ID) : Prop where
 ch : ∃ v : Int, K[d.at_]? = some v ∧ v ≠ (d.lf : Int)
 mem : d.kn ∈ ks
structure CX (T : Obst_Tree) (M : Omem_Mem) (l r : BT) (ks : List Tbst_node) (j : Nat) : Prop where
 inv : BInv T M l r ks j
 inf : ∀ (a : Nat) (y : Tbst_info), 1 ≤ a → T.infos[a]? = some y → ∃ d, InfD T.nodes y d
 tri : ∀ (a b : Nat) (y z : Tbst_info) (d e : ID), 1 ≤ a → 1 ≤ b → a ≠ b → T.infos[a]? = some y → T.infos[b]? = some z → InfD T.nodes y d → InfD T.nodes z e → d.L + 2 < e.L ∨ e.L + 2 < d.L
 wrd : ∀ i ∈ (BT.nd 0 l r).ids, ∀ (x : Tbst_node) (c w : Nat), T.nodes[i]? = some x → x.cell = (c : Int) → M.cells[c]? = some (w : Int) → w / 4 < T.infos.length
 two : ∀ i ∈ (BT.nd 0 l r).ids, ∀ (x : Tbst_node) (c : Nat), T.nodes[i]? = some x → x.cell = (c : Int) → ∃ w : Nat, M.cells[c]? = some (w : Int) ∧ w % 4 < 2
 flg : ∀ i ∈ (BT.nd 0 l r).ids, ∀ (x : Tbst_node) (c w : Nat), T.nodes[i]? = some x → x.cell = (c : Int) → M.cells[c]? = some (w : Int) → w % 4 = 1 →
  1 ≤ w / 4 ∧ ∃ y d, T.infos[w / 4]? = some y ∧ InfD T.nodes y d ∧ d.p = i ∧ (UnD T.nodes M.cells (.nd 0 l r) d ∨ Dne M.cells ks d)
def OnP (N : List Tbst_node) (t : BT) (k : Tbst_node) (i : Nat) : Prop := ∃ a b tn, Atk N k t (-1) (.nd i a b) tn
theorem Atk.mem {N : List Tbst_node} {k : Tbst_node} {t u : BT} {t0 tn : Int} (a : Atk N k t t0 u tn) : u.root ∈ t.ids := by
 induction a with
 | here => exact BT.root_mem _
 | inl _ _ ih => exact List.mem_cons_of_mem _ (List.mem_append_left _ ih)
 | inr _ _ ih => exact List.mem_cons_of_mem _ (List.mem_append_right _ ih)
theorem OnP.mem {N : List Tbst_node} {t : BT} {k : Tbst_node} {i : Nat} (h : OnP N t k i) : i ∈ t.ids := by
 obtain ⟨a, b, tn, h⟩ := h
 exact h.mem
def Pb (T : Obst_Tree) (M : Omem_Mem) (ks : List Tbst_node) (a : Nat) (d : ID) : Prop := M.cells[d.cp]? = some ((4 * a + 1 : Nat) : Int) ∨ Dne M.cells ks d
structure Seen (T : Obst_Tree) (M : Omem_Mem) (ks : List Tbst_node) (i c w : Nat) : Prop where
 le : ∀ w', M.cells[c]? = some ((w' : Nat) : Int) → w / 4 ≤ w' / 4 ∧ (w % 4 = 0 → w' / 4 = w / 4 → w' = w)
 lt : w / 4 < T.infos.length
 two : w % 4 < 2
 flg : w % 4 = 1 → 1 ≤ w / 4 ∧ ∃ y d, T.infos[w / 4]? = some y ∧ InfD T.nodes y d ∧ d.p = i ∧ Pb T M ks (w / 4) d
structure New (T : Obst_Tree) (M : Omem_Mem) (t : BT) (a : Nat) (d : ID) : Prop where
 one : 1 ≤ a
 at_ : ∃ y, T.infos[a]? = some y ∧ InfD T.nodes y d
 new : ∀ q ∈ t.ids, q < d.L ∨ d.L + 2 < q
 on : OnP T.nodes t d.kn d.p
 w0 : M.cells[d.c]? = some 0
 unp : ∀ w : Nat, M.cells[d.cp]? = some (w : Int) → w / 4 ≠ a
structure Sees (K : List Int) (a : Nat) (d : ID) (w : Nat) : Prop where
 two : w % 4 = 0
 lt : w / 4 < a
 le : ∀ w', K[d.cp]? = some ((w' : Nat) : Int) → w / 4 ≤ w' / 4 ∧ (w' / 4 = w / 4 → w' = w ∧ K[d.at_]? = some (d.lf : Int))
structure Stab (T : Obst_Tree) (M : Omem_Mem) (l r : BT) (ks : List Tbst_node) (T' : Obst_Tree) (M' : Omem_Mem) (l' : BT) (ks' : List Tbst_node) (own : Option Nat) (out : Option Nat := none) : Prop where
 ne : NExt T.nodes T'.nodes
 ie : ∀ (a : Nat) (y : Tbst_info), T.infos[a]? = some y → T'.infos[a]? = some y
 gr : (l' = l ∧ ks' = ks) ∨ ∃ kn, kn.top = 0 ∧ Grew T.nodes T'.nodes kn l l' ∧ (∀ y, y ∈ ks' ↔ y ∈ ks ∨ y = ⟨kn.key, 0, kn.val, -1⟩) ∧ (∀ y ∈ ks, y.key ≠ kn.key) ∧ ∃ a y d, 1 ≤ a ∧ T.infos[a]? = some y ∧ InfD T.nodes y d ∧ d.kn = kn
 wr : ∀ i ∈ (BT.nd 0 l r).ids, ∀ (x : Tbst_node) (c w' : Nat), T.nodes[i]? = some x → x.cell = (c : Int) → M'.cells[c]? = some (w' : Int) → ∃ w : Nat, M.cells[c]? = some (w : Int) ∧ w / 4 ≤ w' / 4 ∧ (w' / 4 = w / 4 → w % 4 = 0 → w' = w) ∧ ((w' / 4 = w / 4) ∨ own = some (w' / 4) ∧ w' % 4 = 1)
 ch : ∀ (d : ID) (a : Nat) (y : Tbst_info), 1 ≤ a → T.infos[a]? = some y → InfD T.nodes y d → d.p ∈ (BT.nd 0 l r).ids → Dne M.cells ks d → Dne M'.cells ks' d
 pb : ∀ (d : ID) (a : Nat) (y : Tbst_info), 1 ≤ a → T.infos[a]? = some y → InfD T.nodes y d → d.p ∈ (BT.nd 0 l r).ids → M.cells[d.cp]? = some ((4 * a + 1 : Nat) : Int) → Pb T' M' ks' a d
 cw : ∀ i ∈ (BT.nd 0 l r).ids, ∀ (x : Tbst_node) (c w s : Nat), T.nodes[i]? = some x → x.cell = (c : Int) → M.cells[c]? = some (w : Int) → w % 4 = 0 → M'.cells[c]? = some (w : Int) → 0 < s → s < 3 → M'.cells[c + s]? = M.cells[c + s]?
 fr : (out = none ∧ Aside T T' M M') ∨ ∃ q, out = some q ∧ ∀ a, a < M.cells.length → Free T.nodes a → Free T'.nodes a ∧ a < M'.cells.length ∧ (a ≠ q → M'.cells[a]? = M.cells[a]?)
 pr : ∀ (b : Nat) (d : ID), New T M (.nd 0 l r) b d → own ≠ some b → (∀ q ∈ (BT.nd 0 l' r).ids, q < d.L ∨ d.L + 2 < q) ∧ ∀ s, s < 3 → M'.cells[d.c + s]? = M.cells[d.c + s]?
 cl : M.cells.length ≤ M'.cells.length
section
variable {T T' : Obst_Tree} {M M' : Omem_Mem} {l l' r : BT} {ks ks' : List Tbst_node} {j : Nat} {own out : Option Nat}
theorem OnP.stab {k : Tbst_node} {i : Nat} (I : BInv T M l r ks j) (S : Stab T M l r ks T' M' l' ks' own out) (h : OnP T.nodes (.nd 0 l r) k i) : OnP T'.nodes (.nd 0 l' r) k i := by
 obtain ⟨a, b, tn, h⟩ := h
 rcases S.gr with ⟨rfl, _⟩ | ⟨kn, hk, ⟨f, rfl, _⟩, _⟩
 ·
  exact ⟨a, b, tn, h.ext S.ne I.lay.lt⟩
 ·
  have hu : BT.nd 0 (updT T.nodes kn f l) r = updT T.nodes kn f (.nd 0 l r) := by
   have := I.dir hk
   unfold dirN at this
   rw [updT, if_pos this]
  rw [hu]
  obtain ⟨a', b', w⟩ := h.upd S.ne I.lay.lt (f := f) (k' := kn)
  exact ⟨a', b', tn, w⟩
theorem Stab.ksub (S : Stab T M l r ks T' M' l' ks' own out) {y : Tbst_node} (h : y ∈ ks) : y ∈ ks' := by
 rcases S.gr with ⟨_, rfl⟩ | ⟨kn, _, _, w⟩
 ·
  exact h
 ·
  exact (w.1 y).mpr (.inl h)
theorem Pb.stab (S : Stab T M l r ks T' M' l' ks' own out) {a : Nat} {d : ID} {y : Tbst_info} (ha : 1 ≤ a) (hy : T.infos[a]? = some y) (hd : InfD T.nodes y d) (hp : d.p ∈ (BT.nd 0 l r).ids) (h : Pb T M ks a d) : Pb T' M' ks' a d := by
 rcases h with w | w
 ·
  exact S.pb d a y ha hy hd hp w
 ·
  exact .inr (S.ch d a y ha hy hd hp w)
theorem Stab.free (S : Stab T M l r ks T' M' l' ks' own out) {a : Nat} (h : a < M.cells.length) (hf : Free T.nodes a) : Free T'.nodes a ∧ a < M'.cells.length ∧ (out ≠ some a → M'.cells[a]? = M.cells[a]?) := by
 rcases S.fr with ⟨e, g⟩ | ⟨q, e, g⟩
 ·
  obtain ⟨h1, h2⟩ := g a h hf
  rw [List.getElem?_eq_getElem h] at h2
  exact ⟨h1, (List.getElem?_eq_some_iff.mp h2).1, fun _ => by rw [h2, List.getElem?_eq_getElem h]⟩
 ·
  obtain ⟨h1, h2, h3⟩ := g a h hf
  exact ⟨h1, h2, fun n => h3 (fun w => n (by rw [e, w]))⟩
theorem ilen (S : Stab T M l r ks T' M' l' ks' own out) {a : Nat} (h : a < T.infos.length) : a < T'.infos.length := by
 have := S.ie a _ (List.getElem?_eq_getElem h)
 exact (List.getElem?_eq_some_iff.mp this).1
theorem Seen.stab (S : Stab T M l r ks T' M' l' ks' own out) {i c w : Nat} {x : Tbst_node} (hi : i ∈ (BT.nd 0 l r).ids) (hx : T.nodes[i]? = some x) (hc : x.cell = (c : Int)) (h : Seen T M ks i c w) : Seen T' M' ks' i c w := by
 refine ⟨fun w' hw' => ?_, ilen S h.lt, h.two, fun q => ?_⟩
 ·
  obtain ⟨w1, g1, g2, g3, _⟩ := S.wr i hi x c w' hx hc hw'
  obtain ⟨h1, h2⟩ := h.le w1 g1
  refine ⟨by omega, fun q1 q2 => ?_⟩
  have e1 : w1 / 4 = w / 4 := by omega
  have e2 := h2 q1 e1
  have := g3 (by omega) (by rw [e2]; exact q1)
  omega
 ·
  obtain ⟨h1, y, d, h2, h3, h4, h5⟩ := h.flg q
  exact ⟨h1, y, d, S.ie _ _ h2, h3.ext S.ne, h4, h5.stab S h1 h2 h3 (by rw [h4]; exact hi)⟩
theorem New.stab (I : BInv T M l r ks j) (S : Stab T M l r ks T' M' l' ks' own out) {a : Nat} {d : ID} (ho : own ≠ some a) (h : New T M (.nd 0 l r) a d) : New T' M' (.nd 0 l' r) a d := by
 obtain ⟨y, h1, h2⟩ := h.at_
 obtain ⟨g1, g2⟩ := S.pr a d h ho
 refine ⟨h.one, ⟨y, S.ie _ _ h1, h2.ext S.ne⟩, g1, h.on.stab I S, ?_, fun w' hw' => ?_⟩
 ·
  have := g2 0 (by omega)
  rw [Nat.add_zero] at this
  rw [this]; exact h.w0
 ·
  obtain ⟨w1, q1, q2, q3, q4⟩ := S.wr d.p h.on.mem d.xp d.cp w' h2.np h2.cpe hw'
  rcases q4 with q | ⟨q, _⟩
  ·
   rw [q]; exact h.unp w1 q1
  ·
   intro e; rw [e] at q; exact ho q
theorem Sees.stab (S : Stab T M l r ks T' M' l' ks' own out) {a w : Nat} {d : ID} (n : New T M (.nd 0 l r) a d) (h : Sees M.cells a d w) : Sees M'.cells a d w := by
 obtain ⟨y, h1, h2⟩ := n.at_
 refine ⟨h.two, h.lt, fun w' hw' => ?_⟩
 obtain ⟨w1, q1, q2, q3, q4⟩ := S.wr d.p n.on.mem d.xp d.cp w' h2.np h2.cpe hw'
 obtain ⟨g1, g2⟩ := h.le w1 q1
 refine ⟨by omega, fun e => ?_⟩
 have e1 : w1 / 4 = w / 4 := by omega
 obtain ⟨e2, e3⟩ := g2 e1
 have e4 := q3 (by omega) (by rw [e2]; exact h.two)
 refine ⟨by omega, ?_⟩
 have hd := dn_pos (lessN d.kn d.xp)
 have := S.cw d.p n.on.mem d.xp d.cp w1 (dn (lessN d.kn d.xp)) h2.np h2.cpe q1 (by rw [e2]; exact h.two) (by rw [hw', e4]) hd.1 hd.2
 unfold ID.at_
 rw [this]
 exact e3
end
theorem cell_ne {N : List Tbst_node} {K : List Int} (D : Dis N K) {i i' c c' z z' : Nat} {x x' : Tbst_node} (h : N[i]? = some x) (hc : x.cell = (c : Int)) (h' : N[i']? = some x') (hc' : x'.cell = (c' : Int)) (hz : z < 3) (hz' : z' < 3) (ne : i ≠ i' ∨ z ≠ z') : c + z ≠ c' + z' := by
 by_cases q : i = i'
 ·
  subst q
  rw [h] at h'
  cases h'
  have : c = c' := by rw [hc] at hc'; omega
  rcases ne with w | w
  ·
   exact absurd rfl w
  ·
   omega
 ·
  rcases D.apart i i' x x' c c' h h' hc hc' q with w | w <;> omega
theorem Lay.word {N : List Tbst_node} {K : List Int} (D : Dis N K) {p cp w' : Nat} {xp : Tbst_node} (hp : N[p]? = some xp) (hc : xp.cell = (cp : Int)) (h2 : w' % 4 < 2) (h3 : w' < 1099511627776) : ∀ {t : BT}, Lay N K t → Lay N (K.set cp (w' : Int)) t
 | .lf i, h => h
 | .nd i l r, ⟨x, c, w, a1, a2, a3, a4, a5, a6, a7, a8, a9, a10⟩ => by
  have e1 := cell_ne D (z := 1) (z' := 0) a1 a2 hp hc (by omega) (by omega) (.inr (by omega))
  have e2 := cell_ne D (z := 2) (z' := 0) a1 a2 hp hc (by omega) (by omega) (.inr (by omega))
  simp only [Nat.add_zero] at e1 e2
  have q1 : (K.set cp (w' : Int))[c + 1]? = some ((l.root : Nat) : Int) := by rw [gs_ne (Ne.symm e1)]; exact a7
  have q2 : (K.set cp (w' : Int))[c + 2]? = some ((r.root : Nat) : Int) := by rw [gs_ne (Ne.symm e2)]; exact a8
  by_cases q : c = cp
  ·
   subst q
   exact ⟨x, c, w', a1, a2, a3, gs_eq (List.getElem?_eq_some_iff.mp a4).1, h2, h3, q1, q2, a9.word D hp hc h2 h3, a10.word D hp hc h2 h3⟩
  ·
   exact ⟨x, c, w, a1, a2, a3, by rw [gs_ne (Ne.symm q)]; exact a4, a5, a6, q1, q2, a9.word D hp hc h2 h3, a10.word D hp hc h2 h3⟩
section
variable {T : Obst_Tree} {M M' : Omem_Mem} {l r : BT} {ks : List Tbst_node} {j : Nat} {own : Option Nat} {a : Nat} {y : Tbst_info} {d : ID}
theorem Stab.same (X : CX T M l r ks j) (h : M'.cells = M.cells) : Stab T M l r ks T M' l ks own :=
 ⟨fun _ _ h => h, fun _ _ h => h, .inl ⟨rfl, rfl⟩, fun i _ x c w' _ _ hw => ⟨w', by rw [← h]; exact hw, Nat.le_refl _, fun _ _ => rfl, .inl rfl⟩,
  fun _ _ _ _ _ _ _ w => ⟨by rw [h]; exact w.ch, w.mem⟩, fun _ _ _ _ _ _ _ w => .inl (by rw [h]; exact w), fun _ _ _ _ _ _ _ _ _ _ _ _ _ => by rw [h],
  .inl ⟨rfl, fun a ha hf => ⟨hf, by rw [h]⟩⟩, fun b d n _ => ⟨n.new, fun s _ => by rw [h]⟩, Nat.le_of_eq (by rw [h])⟩
theorem CX.cells (X : CX T M l r ks j) (h : M'.cells = M.cells) : CX T M' l r ks j :=
 ⟨X.inv.cells h, X.inf, X.tri, by rw [h]; exact X.wrd, by rw [h]; exact X.two, by rw [h]; exact X.flg⟩
theorem BInv.word (I : BInv T M l r ks j) {p cp w' : Nat} {xp : Tbst_node} (hp : T.nodes[p]? = some xp) (hc : xp.cell = (cp : Int)) (h2 : w' % 4 < 2) (h3 : w' < 1099511627776) (cnt : Int) : BInv T ⟨M.cells.set cp (w' : Int), cnt⟩ l r ks j := by
 obtain ⟨a1, a2, a3, a4, a5, a6, a7, a8, b1, b2, b3, bi⟩ := I
 refine ⟨a1.word a4 hp hc h2 h3, a2, a3, ⟨a4.apart, fun i x c h1 h2 => ?_⟩, a5, a6, a7, a8, b1, b2, by simpa using b3, bi⟩
 have := a4.room i x c h1 h2
 simpa using this
theorem Un.word (I : BInv T M l r ks j) {e : ID} {z : Tbst_info} (he : InfD T.nodes z e) {p cp : Nat} {xp : Tbst_node} (hp : T.nodes[p]? = some xp) (hc : xp.cell = (cp : Int)) (hm : p ∈ (BT.nd 0 l r).ids) (v : Int) (U : UnD T.nodes M.cells (.nd 0 l r) e) : UnD T.nodes (M.cells.set cp v) (.nd 0 l r) e := by
 have ne : e.L + 2 ≠ p := fun h => by have := U.new p hm; omega
 have q : ∀ s, s < 3 → e.c + s ≠ cp + 0 := fun s hs => cell_ne I.dis (z := s) (z' := 0) he.n2 (innOf_cell _ _ _) hp hc hs (by omega) (.inl ne)
 have q0 := q 0 (by omega)
 have q1 := q 1 (by omega)
 have q2 := q 2 (by omega)
 simp only [Nat.add_zero] at q0 q1 q2
 exact ⟨U.leaf, U.par, U.new, by rw [gs_ne (Ne.symm q0)]; exact U.w, by rw [gs_ne (Ne.symm q1)]; exact U.low, by rw [gs_ne (Ne.symm q2)]; exact U.high⟩
theorem Dne.word (I : BInv T M l r ks j) {e : ID} {z : Tbst_info} (he : InfD T.nodes z e) {p cp : Nat} {xp : Tbst_node} (hp : T.nodes[p]? = some xp) (hc : xp.cell = (cp : Int)) (v : Int) (h : Dne M.cells ks e) : Dne (M.cells.set cp v) ks e := by
 have hd := dn_pos (lessN e.kn e.xp)
 have q := cell_ne I.dis (z := dn (lessN e.kn e.xp)) (z' := 0) he.np he.cpe hp hc (by omega) (by omega) (.inr (by omega))
 obtain ⟨w, h1, h2⟩ := h.ch
 simp only [Nat.add_zero] at q
 exact ⟨⟨w, by rw [gs_ne (by unfold ID.at_; exact Ne.symm q)]; exact h1, h2⟩, h.mem⟩
theorem clean_op (X : CX T M l r ks j) (ha : 1 ≤ a) (hy : T.infos[a]? = some y) (hd : InfD T.nodes y d) (hm : d.p ∈ (BT.nd 0 l r).ids) (hw : M.cells[d.cp]? = some ((4 * a + 1 : Nat) : Int)) (D : Dne M.cells ks d) (hj : j ≤ 100000) (cnt : Int) :
 CX T ⟨M.cells.set d.cp ((4 * a : Nat) : Int), cnt⟩ l r ks j ∧ Stab T M l r ks T ⟨M.cells.set d.cp ((4 * a : Nat) : Int), cnt⟩ l ks own := by
 have I := X.inv
 have b2 := I.b2
 have hal := (List.getElem?_eq_some_iff.mp hy).1
 have hcl := (List.getElem?_eq_some_iff.mp hw).1
 have get : ∀ (c : Nat), (M.cells.set d.cp ((4 * a : Nat) : Int))[c]? = if c = d.cp then some ((4 * a : Nat) : Int) else M.cells[c]? := fun c => by
  by_cases q : c = d.cp
  ·
   rw [if_pos q, q]; exact gs_eq hcl
  ·
   rw [if_neg q]; exact gs_ne (Ne.symm q)
 refine ⟨⟨I.word hd.np hd.cpe (by omega) (by omega) cnt, X.inf, X.tri, fun i hi x c w hx hc hw' => ?_, fun i hi x c hx hc => ?_, fun i hi x c w hx hc hw' h1 => ?_⟩,
  ⟨fun _ _ h => h, fun _ _ h => h, .inl ⟨rfl, rfl⟩, fun i hi x c w' hx hc hw' => ?_, fun e b z _ _ he _ h => h.word I he hd.np hd.cpe _, fun e b z hb hz he hp h => ?_, fun i hi x c w s hx hc h1 h2 h3 s1 s2 => ?_, .inl ⟨rfl, fun q hq hf => ⟨hf, ?_⟩⟩, fun b e n _ => ⟨n.new, fun s hs => ?_⟩, by simp⟩⟩
 ·
  dsimp only at hw'
  rw [get] at hw'
  split at hw'
  ·
   cases hw'; omega
  ·
   exact X.wrd i hi x c w hx hc hw'
 ·
  dsimp only
  rw [get]
  split
  ·
   exact ⟨4 * a, rfl, by omega⟩
  ·
   exact X.two i hi x c hx hc
 ·
  dsimp only at hw'
  rw [get] at hw'
  split at hw'
  ·
   cases hw'; omega
  ·
   obtain ⟨g1, z, e, g2, g3, g4, g5⟩ := X.flg i hi x c w hx hc hw' h1
   exact ⟨g1, z, e, g2, g3, g4, g5.imp (fun u => u.word I g3 hd.np hd.cpe hm _) (fun u => u.word I g3 hd.np hd.cpe _)⟩
 ·
  dsimp only at hw'
  rw [get] at hw'
  split at hw'
  ·
   rename_i q
   cases hw'
   exact ⟨4 * a + 1, by rw [q]; exact hw, by omega, fun _ _ => by omega, .inl (by omega)⟩
  ·
   exact ⟨w', hw', Nat.le_refl _, fun _ _ => rfl, .inl rfl⟩
 ·
  by_cases q : e.cp = d.cp
  ·
   rw [q, hw] at h
   have : a = b := by have := Option.some.inj h; omega
   subst this
   rw [hy] at hz
   cases hz
   obtain rfl := hd.uniq he
   exact .inr (D.word I hd hd.np hd.cpe _)
  ·
   exact .inl (by dsimp only; rw [get, if_neg q]; exact h)
 ·
  have q := cell_ne I.dis (z := s) (z' := 0) hx hc hd.np hd.cpe s2 (by omega) (.inr (by omega))
  simp only [Nat.add_zero] at q
  dsimp only
  rw [get, if_neg q]
 ·
  have q := hf d.p d.xp d.cp hd.np hd.cpe
  dsimp only
  rw [get, if_neg (by omega)]
 ·
  obtain ⟨z, hz, he⟩ := n.at_
  have ne : e.L + 2 ≠ d.p := fun h => by have := n.new d.p hm; omega
  have q := cell_ne I.dis (z := s) (z' := 0) he.n2 (innOf_cell _ _ _) hd.np hd.cpe hs (by omega) (.inl ne)
  simp only [Nat.add_zero] at q
  dsimp only
  rw [get, if_neg q]
end
theorem onp_leaf {N : List Tbst_node} {K : List Int} {k xp x : Tbst_node} {i cp lf : Nat} (hx : N[i]? = some xp) (hc : xp.cell = (cp : Int)) (hch : K[cp + dn (lessN k xp)]? = some (lf : Int)) (hl : N[lf]? = some x) (hlc : x.cell = -1) :
 ∀ {t : BT} {a b : BT} {t0 tn : Int}, Atk N k t t0 (.nd i a b) tn → Lay N K t → leafOf N k t = lf ∧ ∀ g, parOf N k t g = i := by
 intro t a b t0 tn h
 generalize hu : BT.nd i a b = u at h
 induction h with
 | here =>
  intro hL
  subst hu
  obtain ⟨x', c', w, a1, a2, a3, a4, a5, a6, a7, a8, a9, a10⟩ := hL
  rw [hx] at a1
  cases a1
  have : c' = cp := by rw [hc] at a2; omega
  subst this
  have key : ∀ u : BT, Lay N K u → u.root = lf → u = .lf lf := fun u hu hr => by
   cases u with
   | lf q => have hr : q = lf := hr; rw [hr]
   | nd q u1 u2 =>
    obtain ⟨z, c2, w2, b1, b2, _⟩ := hu
    have hr : q = lf := hr
    rw [hr, hl] at b1
    cases b1
    rw [hlc] at b2; omega
  unfold dn at hch
  rw [leafOf]
  rw [nk_eq hx]
  cases e : lessN k xp with
  | true =>
   rw [e, if_pos rfl, a7] at hch
   have := key a a9 (by have := Option.some.inj hch; omega)
   subst this
   refine ⟨by rw [if_pos rfl, leafOf], fun g => ?_⟩
   rw [parOf, nk_eq hx, e, if_pos rfl, parOf]
  | false =>
   rw [e, if_neg (by simp), a8] at hch
   have := key b a10 (by have := Option.some.inj hch; omega)
   subst this
   refine ⟨by rw [if_neg (by simp), leafOf], fun g => ?_⟩
   rw [parOf, nk_eq hx, e, if_neg (by simp), parOf]
 | inl q p ih =>
  rintro ⟨x', c', w, a1, a2, a3, a4, a5, a6, a7, a8, a9, a10⟩
  obtain ⟨g1, g2⟩ := ih hu a9
  exact ⟨by rw [leafOf, if_pos q]; exact g1, fun g => by rw [parOf, if_pos q]; exact g2 _⟩
 | inr q p ih =>
  rintro ⟨x', c', w, a1, a2, a3, a4, a5, a6, a7, a8, a9, a10⟩
  obtain ⟨g1, g2⟩ := ih hu a10
  exact ⟨by rw [leafOf, if_neg (by rw [q]; simp)]; exact g1, fun g => by rw [parOf, if_neg (by rw [q]; simp)]; exact g2 _⟩
section
variable {T : Obst_Tree} {M M' : Omem_Mem} {l r : BT} {ks : List Tbst_node} {j b w : Nat} {y : Tbst_info} {d : ID}
theorem flag_op (X : CX T M l r ks j) (n : New T M (.nd 0 l r) b d) (s : Sees M.cells b d w) (hw : M.cells[d.cp]? = some (w : Int)) (hlo : M.cells[d.c + 1]? = some ((lowOf d.x d.kn d.L : Nat) : Int)) (hhi : M.cells[d.c + 2]? = some ((highOf d.x d.kn d.L : Nat) : Int)) (hj : j ≤ 100000) (cnt : Int) :
 CX T ⟨M.cells.set d.cp ((4 * b + 1 : Nat) : Int), cnt⟩ l r ks j ∧ Stab T M l r ks T ⟨M.cells.set d.cp ((4 * b + 1 : Nat) : Int), cnt⟩ l ks (some b) := by
 have I := X.inv
 have b2 := I.b2
 obtain ⟨y, hy, hd⟩ := n.at_
 have hm := n.on.mem
 have hal := (List.getElem?_eq_some_iff.mp hy).1
 have hcl := (List.getElem?_eq_some_iff.mp hw).1
 have sl := s.lt
 have st := s.two
 have get : ∀ (c : Nat), (M.cells.set d.cp ((4 * b + 1 : Nat) : Int))[c]? = if c = d.cp then some ((4 * b + 1 : Nat) : Int) else M.cells[c]? := fun c => by
  by_cases q : c = d.cp
  ·
   rw [if_pos q, q]; exact gs_eq hcl
  ·
   rw [if_neg q]; exact gs_ne (Ne.symm q)
 obtain ⟨oa, ob, otn, on⟩ := n.on
 obtain ⟨lf1, lf2⟩ := onp_leaf hd.np hd.cpe ((s.le w hw).2 rfl).2 hd.nl hd.xl on I.lay
 have hU : UnD T.nodes M.cells (.nd 0 l r) d := ⟨lf1, lf2 0, n.new, n.w0, hlo, hhi⟩
 refine ⟨⟨I.word hd.np hd.cpe (by omega) (by omega) cnt, X.inf, X.tri, fun i hi x c w hx hc hw' => ?_, fun i hi x c hx hc => ?_, fun i hi x c w hx hc hw' h1 => ?_⟩,
  ⟨fun _ _ h => h, fun _ _ h => h, .inl ⟨rfl, rfl⟩, fun i hi x c w' hx hc hw' => ?_, fun e a z _ _ he _ h => h.word I he hd.np hd.cpe _, fun e a z ha hz he hp h => ?_, fun i hi x c w1 s1 hx hc h1 h2 h3 s2 s3 => ?_, .inl ⟨rfl, fun q hq hf => ⟨hf, ?_⟩⟩, fun a e n' _ => ⟨n'.new, fun s1 hs => ?_⟩, by simp⟩⟩
 ·
  dsimp only at hw'
  rw [get] at hw'
  split at hw'
  ·
   have := Option.some.inj hw'; omega
  ·
   exact X.wrd i hi x c w hx hc hw'
 ·
  dsimp only
  rw [get]
  split
  ·
   exact ⟨4 * b + 1, rfl, by omega⟩
  ·
   exact X.two i hi x c hx hc
 ·
  dsimp only at hw'
  rw [get] at hw'
  split at hw'
  ·
   rename_i q
   have e1 : w = 4 * b + 1 := by have := Option.some.inj hw'; omega
   have e2 : w / 4 = b := by omega
   rw [e2]
   have e3 : d.p = i := by
    by_cases ne : d.p = i
    ·
     exact ne
    ·
     have := I.dis.apart d.p i d.xp x d.cp c hd.np hx hd.cpe hc ne
     omega
   exact ⟨n.one, y, d, hy, hd, e3, .inl (hU.word I hd hd.np hd.cpe hm _)⟩
  ·
   obtain ⟨g1, z, e, g2, g3, g4, g5⟩ := X.flg i hi x c w hx hc hw' h1
   exact ⟨g1, z, e, g2, g3, g4, g5.imp (fun u => u.word I g3 hd.np hd.cpe hm _) (fun u => u.word I g3 hd.np hd.cpe _)⟩
 ·
  dsimp only at hw'
  rw [get] at hw'
  split at hw'
  ·
   rename_i q
   have e1 : w' = 4 * b + 1 := by have := Option.some.inj hw'; omega
   exact ⟨w, by rw [q]; exact hw, by omega, fun _ _ => by omega, .inr ⟨by rw [e1]; congr 1; omega, by omega⟩⟩
  ·
   exact ⟨w', hw', Nat.le_refl _, fun _ _ => rfl, .inl rfl⟩
 ·
  by_cases q : e.cp = d.cp
  ·
   rw [q, hw] at h
   have := Option.some.inj h
   omega
  ·
   exact .inl (by dsimp only; rw [get, if_neg q]; exact h)
 ·
  have q := cell_ne I.dis (z := s1) (z' := 0) hx hc hd.np hd.cpe s3 (by omega) (.inr (by omega))
  simp only [Nat.add_zero] at q
  dsimp only
  rw [get, if_neg q]
 ·
  have q := hf d.p d.xp d.cp hd.np hd.cpe
  dsimp only
  rw [get, if_neg (by omega)]
 ·
  obtain ⟨z, hz, he⟩ := n'.at_
  have ne : e.L + 2 ≠ d.p := fun h => by have := n'.new d.p hm; omega
  have q := cell_ne I.dis (z := s1) (z' := 0) he.n2 (innOf_cell _ _ _) hd.np hd.cpe hs (by omega) (.inl ne)
  simp only [Nat.add_zero] at q
  dsimp only
  rw [get, if_neg q]
theorem Lay.away {N : List Tbst_node} {K : List Int} (D : Dis N K) {p cp s : Nat} {xp : Tbst_node} (hp : N[p]? = some xp) (hc : xp.cell = (cp : Int)) (hs : s < 3) {t : BT} (hm : p ∉ t.ids) (v : Int) (h : Lay N K t) : Lay N (K.set (cp + s) v) t :=
 h.frame (fun _ _ h => h) (fun i hi x c hx hxc z u hz hu => by
  have q := cell_ne D (z := z) (z' := s) hx hxc hp hc hz hs (.inl (fun q => hm (q ▸ hi)))
  rw [gs_ne (Ne.symm q)]; exact hu)
theorem store_op (X : CX T M l r ks j) (n : New T M (.nd 0 l r) b d) {s : Nat} (h0 : 0 < s) (h3 : s < 3) (v : Int) (cnt : Int) :
 CX T ⟨M.cells.set (d.c + s) v, cnt⟩ l r ks j ∧ Stab T M l r ks T ⟨M.cells.set (d.c + s) v, cnt⟩ l ks (some b) ∧ New T ⟨M.cells.set (d.c + s) v, cnt⟩ (.nd 0 l r) b d := by
 have I := X.inv
 obtain ⟨y, hy, hd⟩ := n.at_
 have hnm : d.L + 2 ∉ (BT.nd 0 l r).ids := fun h => by have := n.new _ h; omega
 have away : ∀ (i : Nat) (x : Tbst_node) (c z : Nat), T.nodes[i]? = some x → x.cell = (c : Int) → i ≠ d.L + 2 → z < 3 → (M.cells.set (d.c + s) v)[c + z]? = M.cells[c + z]? := fun i x c z hx hc ne hz => by
  have q := cell_ne I.dis (z := z) (z' := s) hx hc hd.n2 (innOf_cell _ _ _) hz h3 (.inl ne)
  exact gs_ne (Ne.symm q)
 have tr : ∀ i ∈ (BT.nd 0 l r).ids, i ≠ d.L + 2 := fun i hi q => hnm (q ▸ hi)
 have aw0 : ∀ i ∈ (BT.nd 0 l r).ids, ∀ (x : Tbst_node) (c : Nat), T.nodes[i]? = some x → x.cell = (c : Int) → (M.cells.set (d.c + s) v)[c]? = M.cells[c]? := fun i hi x c hx hc => by
  have := away i x c 0 hx hc (tr i hi) (by omega)
  simpa using this
 have dne : ∀ {e : ID} {z : Tbst_info}, InfD T.nodes z e → e.p ∈ (BT.nd 0 l r).ids → Dne M.cells ks e → Dne (M.cells.set (d.c + s) v) ks e := fun {e z} he hp h => by
  obtain ⟨u, g1, g2⟩ := h.ch
  have hdn := dn_pos (lessN e.kn e.xp)
  exact ⟨⟨u, by unfold ID.at_ at g1 ⊢; rw [away e.p e.xp e.cp _ he.np he.cpe (tr _ hp) hdn.2]; exact g1, g2⟩, h.mem⟩
 have hB : BInv T ⟨M.cells.set (d.c + s) v, cnt⟩ l r ks j := by
  obtain ⟨a1, a2, a3, a4, a5, a6, a7, a8, b1, b2, b3, bi⟩ := I
  refine ⟨a1.away a4 hd.n2 (innOf_cell _ _ _) h3 hnm v, a2, a3, ⟨a4.apart, fun i x c h1 h2 => ?_⟩, a5, a6, a7, a8, b1, b2, by simpa using b3, bi⟩
  have := a4.room i x c h1 h2
  simpa using this
 refine ⟨⟨hB, X.inf, X.tri, fun i hi x c w hx hc hw' => ?_, fun i hi x c hx hc => ?_, fun i hi x c w hx hc hw' h1 => ?_⟩,
  ⟨fun _ _ h => h, fun _ _ h => h, .inl ⟨rfl, rfl⟩, fun i hi x c w' hx hc hw' => ?_, fun e a z _ _ he hp h => dne he hp h, fun e a z ha hz he hp h => ?_, fun i hi x c w1 s1 hx hc h1 h2 h3 s2 s3 => away i x c s1 hx hc (tr i hi) s3, .inl ⟨rfl, fun q hq hf => ⟨hf, ?_⟩⟩, fun a e n' ho => ⟨n'.new, fun s1 hs => ?_⟩, by simp⟩,
  ⟨n.one, n.at_, n.new, n.on, ?_, fun w hw => n.unp w ?_⟩⟩
 ·
  dsimp only at hw'
  rw [aw0 i hi x c hx hc] at hw'
  exact X.wrd i hi x c w hx hc hw'
 ·
  dsimp only
  rw [aw0 i hi x c hx hc]
  exact X.two i hi x c hx hc
 ·
  dsimp only at hw'
  rw [aw0 i hi x c hx hc] at hw'
  obtain ⟨g1, z, e, g2, g3, g4, g5⟩ := X.flg i hi x c w hx hc hw' h1
  refine ⟨g1, z, e, g2, g3, g4, g5.imp (fun u => ?_) (fun u => dne g3 (by rw [g4]; exact hi) u)⟩
  have ne : e.L + 2 ≠ d.L + 2 := by
   by_cases q : w / 4 = b
   ·
    exfalso
    rw [q, hy] at g2
    cases g2
    obtain rfl := hd.uniq g3
    have ec : d.cp = c := by
     have h1 := hd.np; have h2 := hd.cpe
     rw [g4, hx] at h1
     cases h1
     omega
    exact n.unp w (by rw [ec]; exact hw') q
   ·
    have := X.tri (w / 4) b z y e d g1 n.one q g2 hy g3 hd
    omega
  have q := fun s1 hs => away (e.L + 2) _ e.c s1 g3.n2 (innOf_cell _ _ _) ne hs
  have q0 := q 0 (by omega)
  simp only [Nat.add_zero] at q0
  exact ⟨u.leaf, u.par, u.new, by dsimp only; rw [q0]; exact u.w, by dsimp only; rw [q 1 (by omega)]; exact u.low, by dsimp only; rw [q 2 (by omega)]; exact u.high⟩
 ·
  dsimp only at hw'
  rw [aw0 i hi x c hx hc] at hw'
  exact ⟨w', hw', Nat.le_refl _, fun _ _ => rfl, .inl rfl⟩
 ·
  exact .inl (by dsimp only; rw [aw0 e.p hp e.xp e.cp he.np he.cpe]; exact h)
 ·
  have q := hf (d.L + 2) _ d.c hd.n2 (innOf_cell _ _ _)
  dsimp only
  rw [gs_ne (by omega)]
 ·
  obtain ⟨z, hz, he⟩ := n'.at_
  have ne : e.L + 2 ≠ d.L + 2 := by
   have q : a ≠ b := fun q => ho (by rw [q])
   have := X.tri a b z y e d n'.one n.one q hz hy he hd
   omega
  exact away (e.L + 2) _ e.c s1 he.n2 (innOf_cell _ _ _) ne hs
 ·
  dsimp only
  rw [gs_ne (by omega)]; exact n.w0
 ·
  have := aw0 d.p n.on.mem d.xp d.cp hd.np hd.cpe
  dsimp only at hw
  rw [this] at hw; exact hw
end
theorem upd_other {N : List Tbst_node} {k k' : Tbst_node} {f : BT} : ∀ {t : BT}, leafOf N k' t ≠ leafOf N k t → leafOf N k' (updT N k f t) = leafOf N k' t ∧ ∀ g, parOf N k' (updT N k f t) g = parOf N k' t g
 | .lf i, h => absurd rfl h
 | .nd i l r, h => by
  rw [updT]
  rw [leafOf, leafOf] at h
  cases e : lessN k (nk N i) <;> cases e' : lessN k' (nk N i) <;> simp only [e, e', if_true, if_false, Bool.false_eq_true] at h ⊢
  ·
   obtain ⟨g1, g2⟩ := upd_other (f := f) h
   exact ⟨by simp only [leafOf, e', Bool.false_eq_true, if_false]; exact g1, fun g => by simp only [parOf, e', Bool.false_eq_true, if_false]; exact g2 _⟩
  ·
   exact ⟨by simp only [leafOf, e', if_true], fun g => by simp only [parOf, e', if_true]⟩
  ·
   exact ⟨by simp only [leafOf, e', Bool.false_eq_true, if_false], fun g => by simp only [parOf, e', Bool.false_eq_true, if_false]⟩
  ·
   obtain ⟨g1, g2⟩ := upd_other (f := f) h
   exact ⟨by simp only [leafOf, e', if_true]; exact g1, fun g => by simp only [parOf, e', if_true]; exact g2 _⟩
theorem same_par {N : List Tbst_node} {k k' : Tbst_node} : ∀ {t : BT}, t.ids.Nodup → leafOf N k' t = leafOf N k t → ∀ g, parOf N k' t g = parOf N k t g
 | .lf i, _, _, g => rfl
 | .nd i l r, hn, h, g => by
  unfold BT.ids at hn
  rw [List.nodup_cons, List.nodup_append] at hn
  obtain ⟨n0, n1, n2, n3⟩ := hn
  rw [leafOf, leafOf] at h
  rw [parOf, parOf]
  cases e : lessN k (nk N i) <;> cases e' : lessN k' (nk N i) <;> simp only [e, e', if_true, if_false, Bool.false_eq_true] at h ⊢
  ·
   exact same_par n2 h _
  ·
   exact absurd h (n3 _ (leafOf_mem l) _ (leafOf_mem r))
  ·
   exact absurd h.symm (n3 _ (leafOf_mem l) _ (leafOf_mem r))
  ·
   exact same_par n1 h _
theorem upd_keep {N : List Tbst_node} {k : Tbst_node} {f : BT} {q : Nat} : ∀ {t : BT}, q ∈ t.ids → q ≠ leafOf N k t → q ∈ (updT N k f t).ids
 | .lf i, h, hn => by
  have : q = i := by simpa [BT.ids] using h
  exact absurd this hn
 | .nd i l r, h, hn => by
  rw [updT]
  rw [leafOf] at hn
  rcases List.mem_cons.mp h with w | w
  ·
   split <;> (rw [w]; exact List.mem_cons_self)
  ·
   rcases List.mem_append.mp w with u | u
   ·
    split
    ·
     rename_i e
     rw [if_pos e] at hn
     exact List.mem_cons_of_mem _ (List.mem_append_left _ (upd_keep u hn))
    ·
     exact List.mem_cons_of_mem _ (List.mem_append_left _ u)
   ·
    split
    ·
     exact List.mem_cons_of_mem _ (List.mem_append_right _ u)
    ·
     rename_i e
     rw [if_neg e] at hn
     exact List.mem_cons_of_mem _ (List.mem_append_right _ (upd_keep u hn))
section
variable {T : Obst_Tree} {M M' : Omem_Mem} {l r : BT} {ks : List Tbst_node} {j a : Nat} {y : Tbst_info} {d : ID} {own : Option Nat}
theorem turn_cx (X : CX T M l r ks j) (ha : 1 ≤ a) (hy : T.infos[a]? = some y) (hd : InfD T.nodes y d) (hm : d.p ∈ (BT.nd 0 l r).ids) (hw : M.cells[d.cp]? = some ((4 * a + 1 : Nat) : Int)) (hch : M.cells[d.at_]? = some (d.lf : Int)) (hj : j ≤ 100000) (cnt : Int) :
 ∃ l' ks', l' = updT T.nodes d.kn (fOf d.x d.kn d.L) l ∧ UnD T.nodes M.cells (.nd 0 l r) d ∧ CX T ⟨M.cells.set d.at_ ((d.L + 2 : Nat) : Int), cnt⟩ l' r ks' (j + 1) ∧ Stab T M l r ks T ⟨M.cells.set d.at_ ((d.L + 2 : Nat) : Int), cnt⟩ l' ks' own ∧ Dne (M.cells.set d.at_ ((d.L + 2 : Nat) : Int)) ks' d := by
 have I := X.inv
 have hU : UnD T.nodes M.cells (.nd 0 l r) d := by
  obtain ⟨_, z, e, g2, g3, g4, g5⟩ := X.flg d.p hm d.xp d.cp (4 * a + 1) hd.np hd.cpe hw (by omega)
  have : (4 * a + 1) / 4 = a := by omega
  rw [this, hy] at g2
  cases g2
  obtain rfl := hd.uniq g3
  rcases g5 with w | w
  ·
   exact w
  ·
   obtain ⟨v, v1, v2⟩ := w.ch
   rw [hch] at v1
   exact absurd (Option.some.inj v1).symm v2
 obtain ⟨_, ks', hB, hks, hG⟩ := turn_op I hj hd hU cnt
 have hk := hd.kt
 have hat : d.at_ < M.cells.length := (List.getElem?_eq_some_iff.mp hch).1
 have knew : ∀ z ∈ ks, z.key ≠ d.kn.key := by
  obtain ⟨z, k1, k2, k3, k4⟩ := I.cases hk
  rw [hU.leaf, hd.nl] at k1
  cases k1
  rcases k4 with ⟨k5, _⟩ | ⟨_, k6⟩
  ·
   rw [hd.ne] at k5; cases k5
  ·
   exact k6
 have hdn := dn_pos (lessN d.kn d.xp)
 have hu : BT.nd 0 (updT T.nodes d.kn (fOf d.x d.kn d.L) l) r = updT T.nodes d.kn (fOf d.x d.kn d.L) (.nd 0 l r) := by
  have := I.dir hk
  unfold dirN at this
  rw [updT, if_pos this]
 have idn : ∀ q ∈ (BT.nd 0 (updT T.nodes d.kn (fOf d.x d.kn d.L) l) r).ids, q ∈ (BT.nd 0 l r).ids ∨ (d.L ≤ q ∧ q ≤ d.L + 2) := fun q hq => by
  rw [hu] at hq
  rcases upd_ids hq with h | h
  ·
   right
   have h : q = d.L + 2 ∨ q = lowOf d.x d.kn d.L ∨ q = highOf d.x d.kn d.L := by simpa [BT.ids] using h
   unfold lowOf highOf at h
   rcases h with h | h | h
   ·
    omega
   ·
    split at h <;> omega
   ·
    split at h <;> omega
  ·
   exact .inl h
 have away : ∀ (i : Nat) (x : Tbst_node) (c z : Nat), T.nodes[i]? = some x → x.cell = (c : Int) → z < 3 → (i ≠ d.p ∨ z ≠ dn (lessN d.kn d.xp)) → (M.cells.set d.at_ ((d.L + 2 : Nat) : Int))[c + z]? = M.cells[c + z]? := fun i x c z hx hc hz ne => by
  have q := cell_ne I.dis (z := z) (z' := dn (lessN d.kn d.xp)) hx hc hd.np hd.cpe hz hdn.2 ne
  exact gs_ne (Ne.symm q)
 have awo : ∀ (i : Nat) (x : Tbst_node) (c : Nat), T.nodes[i]? = some x → x.cell = (c : Int) → (M.cells.set d.at_ ((d.L + 2 : Nat) : Int))[c]? = M.cells[c]? := fun i x c hx hc => by
  have := away i x c 0 hx hc (by omega) (.inr (by omega))
  simpa using this
 have hD : Dne (M.cells.set d.at_ ((d.L + 2 : Nat) : Int)) ks' d := by
  refine ⟨⟨_, gs_eq hat, fun h => ?_⟩, (hks _).mpr (.inr rfl)⟩
  have e : d.L + 2 = d.lf := by omega
  have h1 := hd.nl
  rw [← e, hd.n2] at h1
  have h2 := congrArg (fun o : Option Tbst_node => (o.map (·.cell)).getD 0) h1
  simp only [Option.map_some, Option.getD_some, innOf_cell, hd.xl] at h2
  omega
 have dne : ∀ {e : ID} {z : Tbst_info}, InfD T.nodes z e → Dne M.cells ks e → Dne (M.cells.set d.at_ ((d.L + 2 : Nat) : Int)) ks' e := fun {e z} he h => by
  refine ⟨?_, (hks _).mpr (.inl h.mem)⟩
  obtain ⟨v, v1, v2⟩ := h.ch
  by_cases q : e.at_ = d.at_
  ·
   refine ⟨((d.L + 2 : Nat) : Int), by rw [q]; exact gs_eq hat, fun h => ?_⟩
   have e1 : d.L + 2 = e.lf := by omega
   have h1 := he.nl
   rw [← e1, hd.n2] at h1
   have h2 := congrArg (fun o : Option Tbst_node => (o.map (·.cell)).getD 0) h1
   simp only [Option.map_some, Option.getD_some, innOf_cell, he.xl] at h2
   omega
  ·
   exact ⟨v, by rw [gs_ne (Ne.symm q)]; exact v1, v2⟩
 have leafs : ∀ i, i ∈ (BT.nd 0 (updT T.nodes d.kn (fOf d.x d.kn d.L) l) r).ids → ∀ (x : Tbst_node) (c : Nat), T.nodes[i]? = some x → x.cell = (c : Int) → i ∈ (BT.nd 0 l r).ids ∨ (i = d.L + 2 ∧ c = d.c) := fun i hi x c hx hc => by
  rcases idn i hi with h | h
  ·
   exact .inl h
  ·
   have : i = d.L ∨ i = d.L + 1 ∨ i = d.L + 2 := by omega
   rcases this with h | h | h
   ·
    subst h; rw [hd.n0] at hx; cases hx; rw [hd.k0] at hc; omega
   ·
    subst h; rw [hd.n1] at hx; cases hx; rw [hd.xl] at hc; omega
   ·
    subst h; rw [hd.n2] at hx; cases hx; rw [innOf_cell] at hc; exact .inr ⟨rfl, by omega⟩
 have hal := (List.getElem?_eq_some_iff.mp hy).1
 have c0 : (M.cells.set d.at_ ((d.L + 2 : Nat) : Int))[d.c]? = some ((0 : Nat) : Int) := by
  rw [awo (d.L + 2) _ d.c hd.n2 (innOf_cell _ _ _)]; exact hU.w
 refine ⟨_, ks', rfl, hU, ⟨hB, X.inf, X.tri, fun i hi x c w hx hc hw' => ?_, fun i hi x c hx hc => ?_, fun i hi x c w hx hc hw' h1 => ?_⟩,
  ⟨fun _ _ h => h, fun _ _ h => h, .inr ⟨d.kn, hk, hG, fun q => by rw [kn_eq hd]; exact hks q, knew, a, y, d, ha, hy, hd, rfl⟩, fun i hi x c w' hx hc hw' => ?_, fun e b z _ _ he _ h => dne he h, fun e b z hb hz he hp h => ?_, fun i hi x c w s hx hc h1 h2 h3 s1 s2 => ?_, .inl ⟨rfl, fun q hq hf => ⟨hf, ?_⟩⟩, fun b e n _ => ⟨fun q hq => ?_, fun s hs => ?_⟩, by simp⟩, hD⟩
 ·
  dsimp only at hw'
  rcases leafs i hi x c hx hc with h | ⟨h, h2⟩
  ·
   rw [awo i x c hx hc] at hw'
   exact X.wrd i h x c w hx hc hw'
  ·
   rw [h2, c0] at hw'
   have := Option.some.inj hw'; omega
 ·
  dsimp only
  rcases leafs i hi x c hx hc with h | ⟨h, h2⟩
  ·
   rw [awo i x c hx hc]
   exact X.two i h x c hx hc
  ·
   rw [h2]; exact ⟨0, c0, by omega⟩
 ·
  dsimp only at hw'
  rcases leafs i hi x c hx hc with h | ⟨h, h2⟩
  ·
   rw [awo i x c hx hc] at hw'
   obtain ⟨g1, z, e, g2, g3, g4, g5⟩ := X.flg i h x c w hx hc hw' h1
   refine ⟨g1, z, e, g2, g3, g4, ?_⟩
   by_cases q : i = d.p
   ·
    right
    have ec : c = d.cp := by
     have h1 := hd.np; have h2 := hd.cpe
     rw [← q, hx] at h1
     cases h1
     omega
    rw [ec, hw] at hw'
    have e4 : w / 4 = a := by have := Option.some.inj hw'; omega
    rw [e4, hy] at g2
    cases g2
    obtain rfl := hd.uniq g3
    exact hD
   ·
    refine g5.imp (fun u => ?_) (fun u => dne g3 u)
    have nl : leafOf T.nodes e.kn (.nd 0 l r) ≠ leafOf T.nodes d.kn (.nd 0 l r) := fun h => by
     have := same_par I.nod h 0
     rw [u.par, hU.par, g4] at this
     exact q this
    obtain ⟨o1, o2⟩ := upd_other (f := fOf d.x d.kn d.L) nl
    have nL : e.L + 2 ≠ d.p := fun h => by have := u.new d.p hm; omega
    have c' := fun s hs => away (e.L + 2) _ e.c s g3.n2 (innOf_cell _ _ _) hs (.inl nL)
    have c0 := c' 0 (by omega)
    simp only [Nat.add_zero] at c0
    refine ⟨by rw [hu]; exact o1.trans u.leaf, by rw [hu]; exact (o2 0).trans u.par, fun q' hq' => ?_, by dsimp only; rw [c0]; exact u.w, by dsimp only; rw [c' 1 (by omega)]; exact u.low, by dsimp only; rw [c' 2 (by omega)]; exact u.high⟩
    rcases idn q' hq' with v | v
    ·
     exact u.new q' v
    ·
     have ne : w / 4 ≠ a := fun h => by
      rw [h, hy] at g2
      cases g2
      obtain rfl := hd.uniq g3
      exact q g4.symm
     have := X.tri _ _ z y e d g1 ha ne g2 hy g3 hd
     omega
  ·
   rw [h2, c0] at hw'
   have := Option.some.inj hw'; omega
 ·
  dsimp only at hw'
  rw [awo i x c hx hc] at hw'
  exact ⟨w', hw', Nat.le_refl _, fun _ _ => rfl, .inl rfl⟩
 ·
  exact .inl (by dsimp only; rw [awo e.p e.xp e.cp he.np he.cpe]; exact h)
 ·
  by_cases q : i = d.p
  ·
   exfalso
   have ec : c = d.cp := by
    have h1 := hd.np; have h2 := hd.cpe
    rw [← q, hx] at h1
    cases h1
    omega
   rw [ec, hw] at h1
   have := Option.some.inj h1; omega
  ·
   exact away i x c s hx hc s2 (.inl q)
 ·
  have q := hf d.p d.xp d.cp hd.np hd.cpe
  dsimp only
  rw [gs_ne (by unfold ID.at_; omega)]
 ·
  obtain ⟨z, hz, he⟩ := n.at_
  have ne : b ≠ a := fun h => by
   subst h
   rw [hy] at hz
   cases hz
   obtain rfl := hd.uniq he
   exact n.unp _ hw (by omega)
  have := X.tri b a z y e d n.one ha ne hz hy he hd
  rcases idn q hq with w | w
  ·
   exact n.new q w
  ·
   omega
 ·
  obtain ⟨z, hz, he⟩ := n.at_
  have nL : e.L + 2 ≠ d.p := fun h => by have := n.new d.p hm; omega
  exact away (e.L + 2) _ e.c s he.n2 (innOf_cell _ _ _) hs (.inl nL)
end
theorem leafOf_ext {N N' : List Tbst_node} (e : NExt N N') {k : Tbst_node} : ∀ {t : BT}, (∀ i ∈ t.ids, i < N.length) → leafOf N' k t = leafOf N k t ∧ ∀ g, parOf N' k t g = parOf N k t g
 | .lf i, _ => ⟨rfl, fun _ => rfl⟩
 | .nd i l r, h => by
  have h0 := e.nk (h i List.mem_cons_self)
  obtain ⟨a1, a2⟩ := leafOf_ext e (k := k) (t := l) (fun q hq => h q (List.mem_cons_of_mem _ (List.mem_append_left _ hq)))
  obtain ⟨b1, b2⟩ := leafOf_ext e (k := k) (t := r) (fun q hq => h q (List.mem_cons_of_mem _ (List.mem_append_right _ hq)))
  refine ⟨by rw [leafOf, leafOf, h0, a1, b1], fun g => ?_⟩
  rw [parOf, parOf, h0, a2, b2]
theorem Ord.ext {N N' : List Tbst_node} (e : NExt N N') : ∀ {t : BT}, (∀ i ∈ t.ids, i < N.length) → Ord N t → Ord N' t
 | .lf i, _, h => h
 | .nd i l r, h, ⟨a1, a2, a3, a4⟩ => by
  have h0 := e.nk (h i List.mem_cons_self)
  have hl : ∀ q ∈ l.ids, q < N.length := fun q hq => h q (List.mem_cons_of_mem _ (List.mem_append_left _ hq))
  have hr : ∀ q ∈ r.ids, q < N.length := fun q hq => h q (List.mem_cons_of_mem _ (List.mem_append_right _ hq))
  exact ⟨fun q hq => by rw [e.nk (hl q hq), h0]; exact a1 q hq, fun q hq => by rw [e.nk (hr q hq), h0]; exact a2 q hq, a3.ext e hl, a4.ext e hr⟩
theorem Atk.congr {N : List Tbst_node} {k k' : Tbst_node} (h : ∀ z, lessN k' z = lessN k z) {t u : BT} {t0 tn : Int} (a : Atk N k t t0 u tn) : Atk N k' t t0 u tn := by
 induction a with
 | here => exact .here
 | inl q _ ih => exact .inl ((h _).trans q) ih
 | inr q _ ih => exact .inr ((h _).trans q) ih
theorem nth_app' {α : Type} {l : List α} {a : Nat} {v : α} {m : List α} (h : l[a]? = some v) : (l ++ m)[a]? = some v := by
 rw [List.getElem?_append_left (List.getElem?_eq_some_iff.mp h).1]; exact h
theorem ne_of {x k : Tbst_node} (h : isKey x k = false) : isKey x (⟨k.key, 0, k.val, -1⟩ : Tbst_node) = false := h
section
variable {T : Obst_Tree} {M : Omem_Mem} {l r : BT} {ks : List Tbst_node} {j p lf cp w : Nat} {own : Option Nat} {k x xp : Tbst_node}
abbrev knOf (k : Tbst_node) : Tbst_node := ⟨k.key, 0, k.val, -1⟩
abbrev growT (T : Obst_Tree) (M : Omem_Mem) (k x : Tbst_node) (p lf : Nat) : Obst_Tree :=
 ⟨T.nodes ++ [knOf k] ++ [⟨x.key, x.top, x.val, -1⟩] ++ [innOf x k M.cells.length], T.infos ++ [⟨0, (p : Int), (lf : Int), ((T.nodes.length + 2 : Nat) : Int), 0⟩]⟩
abbrev growD (T : Obst_Tree) (M : Omem_Mem) (k x xp : Tbst_node) (p lf cp : Nat) : ID := ⟨p, lf, T.nodes.length, M.cells.length, cp, xp, x, knOf k⟩
theorem alloc_op (X : CX T M l r ks j) (hj : j ≤ 100000) (hk : k.top = 0) (on : OnP T.nodes (.nd 0 l r) k p) (np : T.nodes[p]? = some xp) (hcp : xp.cell = (cp : Int)) (nl : T.nodes[lf]? = some x) (xl : x.cell = -1) (ne : isKey x k = false)
 (sn : Seen T M ks p cp w) (w0 : w % 4 = 0) (hch : M.cells[cp + dn (lessN k xp)]? = some (lf : Int)) (cnt : Int) :
 CX (growT T M k x p lf) ⟨M.cells ++ [0, 0, 0], cnt⟩ l r ks (j + 1) ∧ Stab T M l r ks (growT T M k x p lf) ⟨M.cells ++ [0, 0, 0], cnt⟩ l ks own ∧
 New (growT T M k x p lf) ⟨M.cells ++ [0, 0, 0], cnt⟩ (.nd 0 l r) T.infos.length (growD T M k x xp p lf cp) ∧ Sees (M.cells ++ [0, 0, 0]) T.infos.length (growD T M k x xp p lf cp) w := by
 have I := X.inv
 obtain ⟨I1, I2, I3, I4, I5, I6, I7, I8, b1, b2, b3, bi⟩ := X.inv
 have hlt := I.lay.lt
 have less : ∀ z, lessN (knOf k) z = lessN k z := fun z => lessN_congr rfl hk.symm rfl rfl
 have less2 : ∀ z, lessN z (knOf k) = lessN z k := fun z => lessN_congr rfl rfl rfl hk.symm
 have hinn : innOf x (knOf k) M.cells.length = innOf x k M.cells.length := by
  unfold innOf
  rw [less2, hk]
 have hxx : (⟨x.key, x.top, x.val, -1⟩ : Tbst_node) = x := by rw [← xl]
 generalize hT' : growT T M k x p lf = T'
 have hN' : T'.nodes = T.nodes ++ [knOf k] ++ [x] ++ [innOf x k M.cells.length] := by rw [← hT', growT, hxx]
 have hI' : T'.infos = T.infos ++ [⟨0, (p : Int), (lf : Int), ((T.nodes.length + 2 : Nat) : Int), 0⟩] := by rw [← hT']
 have ext : NExt T.nodes T'.nodes := by
  intro i z hz
  rw [hN', List.append_assoc, List.append_assoc]
  exact NExt.app _ _ i z hz
 have iext : ∀ (a : Nat) (y : Tbst_info), T.infos[a]? = some y → T'.infos[a]? = some y := fun a y h => by
  rw [hI']; exact nth_app' h
 have back : ∀ (a : Nat) (y : Tbst_info), T'.infos[a]? = some y → T.infos[a]? = some y ∨ (a = T.infos.length ∧ y = ⟨0, (p : Int), (lf : Int), ((T.nodes.length + 2 : Nat) : Int), 0⟩) := fun a y h => by
  rw [hI', List.getElem?_append] at h
  split at h
  ·
   exact .inl h
  ·
   rename_i q
   have hb := (List.getElem?_eq_some_iff.mp h).1
   have : a = T.infos.length := by simp at hb; omega
   subst this
   simp at h
   exact .inr ⟨rfl, h.symm⟩
 have n0 : T'.nodes[T.nodes.length]? = some (knOf k) := by rw [hN']; simp
 have n1 : T'.nodes[T.nodes.length + 1]? = some x := by
  rw [hN', List.getElem?_append_left (by simp), List.getElem?_append_right (by simp)]; simp
 have n2 : T'.nodes[T.nodes.length + 2]? = some (innOf x k M.cells.length) := by
  rw [hN', List.getElem?_append_right (by simp)]; simp
 have sd : lessN (innOf x (knOf k) M.cells.length) xp = lessN (knOf k) xp := by
  obtain ⟨oa, ob, otn, o1⟩ := on
  obtain ⟨u1, u2⟩ := onp_leaf (k := knOf k) np hcp (by rw [less]; exact hch) nl xl (o1.congr less) I.lay
  unfold innOf
  split
  ·
   rfl
  ·
   have := leaf_side (N := T.nodes) (k := knOf k) (.nd 0 l r) I.ord rfl 0 xp (by rw [u2]; exact np)
   rw [u1, nk_eq nl] at this
   exact this
 have hD : InfD T'.nodes ⟨0, (p : Int), (lf : Int), ((T.nodes.length + 2 : Nat) : Int), 0⟩ (growD T M k x xp p lf cp) :=
  ⟨rfl, rfl, rfl, ext _ _ np, hcp, ext _ _ nl, xl, n0, rfl, rfl, n1, by rw [show (growD T M k x xp p lf cp).kn = knOf k from rfl, hinn]; exact n2, ne_of ne, sd⟩
 have old : ∀ (i : Nat) (z : Tbst_node) (q : Nat), T'.nodes[i]? = some z → z.cell = (q : Int) → (T.nodes[i]? = some z) ∨ (i = T.nodes.length + 2 ∧ q = M.cells.length) := by
  intro i z q hz hq
  have hi3 := (List.getElem?_eq_some_iff.mp hz).1
  rw [hN'] at hi3
  simp at hi3
  by_cases c1 : i < T.nodes.length
  ·
   left
   have := ext i _ (List.getElem?_eq_getElem c1)
   rw [hz] at this
   rw [List.getElem?_eq_getElem c1]; exact this.symm
  ·
   by_cases c2 : i = T.nodes.length
   ·
    subst c2; rw [n0] at hz; cases hz; simp at hq
   ·
    by_cases c3 : i = T.nodes.length + 1
    ·
     subst c3; rw [n1] at hz; cases hz; rw [xl] at hq; omega
    ·
     have c4 : i = T.nodes.length + 2 := by omega
     subst c4
     rw [n2] at hz
     cases hz
     rw [innOf_cell] at hq
     exact .inr ⟨rfl, by omega⟩
 have app : ∀ (c : Nat), c < M.cells.length → (M.cells ++ [0, 0, 0])[c]? = M.cells[c]? := fun c h => List.getElem?_append_left h
 have inold : ∀ i ∈ (BT.nd 0 l r).ids, ∀ z, T'.nodes[i]? = some z → T.nodes[i]? = some z := fun i hi z hz => by
  have := ext i _ (List.getElem?_eq_getElem (hlt i hi))
  rw [hz] at this
  rw [List.getElem?_eq_getElem (hlt i hi)]; exact this.symm
 have hinf : 0 < T.infos.length := by
  obtain ⟨z, c, w1, q1, q2, q3, q4, _⟩ := I.lay
  have := X.wrd 0 List.mem_cons_self z c w1 q1 q2 q4
  omega
 have same : ∀ (a : Nat) (y : Tbst_info) (d : ID), 1 ≤ a → T.infos[a]? = some y → InfD T'.nodes y d → InfD T.nodes y d := fun a y d ha hy hd => by
  obtain ⟨d0, h0⟩ := X.inf a y ha hy
  have q0 : InfD T'.nodes y d0 := h0.ext ext
  obtain rfl := q0.uniq hd
  exact h0
 have dne : ∀ {e : ID} {z : Tbst_info}, InfD T.nodes z e → Dne M.cells ks e → Dne (M.cells ++ [0, 0, 0]) ks e := fun {e z} he h => by
  obtain ⟨u, g1, g2⟩ := h.ch
  exact ⟨⟨u, by rw [app _ (List.getElem?_eq_some_iff.mp g1).1]; exact g1, g2⟩, h.mem⟩
 have hB : BInv T' ⟨M.cells ++ [0, 0, 0], cnt⟩ l r ks (j + 1) := by
  refine ⟨I1.frame ext (fun i hi z c hz hc s v hs hv => by dsimp only; rw [app _ (List.getElem?_eq_some_iff.mp hv).1]; exact hv), I2, I3.ext ext hlt, ⟨?_, ?_⟩, ?_, ?_, ?_, I8, ?_, ?_, ?_, by omega⟩
  ·
   intro i i2 z z2 q q2 hz hz2 hq hq2 hne
   rcases old i z q hz hq with w | ⟨w, w2⟩ <;> rcases old i2 z2 q2 hz2 hq2 with u | ⟨u, u2⟩
   ·
    exact I4.apart i i2 z z2 q q2 w u hq hq2 hne
   ·
    have := I4.room i z q w hq; omega
   ·
    have := I4.room i2 z2 q2 u hq2; omega
   ·
    omega
  ·
   intro i z q hz hq
   simp only [List.length_append, List.length_cons, List.length_nil]
   rcases old i z q hz hq with w | ⟨w, w2⟩
   ·
    have := I4.room i z q w hq; omega
   ·
    omega
  ·
   obtain ⟨z, h1, h2⟩ := I5
   exact ⟨z, ext _ _ h1, h2⟩
  ·
   obtain ⟨s1, e1, e2⟩ := I6
   exact ⟨s1, by rw [lvs_ext ext (fun i hi => hlt i (List.mem_cons_of_mem _ (List.mem_append_left _ hi)))]; exact e1, e2⟩
  ·
   intro z hz
   rw [lvs_ext ext (fun i hi => hlt i (List.mem_cons_of_mem _ (List.mem_append_right _ hi)))] at hz
   exact I7 z hz
  ·
   rw [hN']; simp; omega
  ·
   rw [hI']; simp; omega
  ·
   simp; omega
 have hil : T'.infos.length = T.infos.length + 1 := by rw [hI']; simp
 refine ⟨⟨hB, fun a y ha hy => ?_, fun a b y z d e ha hb hne hy hz hd he => ?_, fun i hi z c w' hz hc hw => ?_, fun i hi z c hz hc => ?_, fun i hi z c w' hz hc hw h1 => ?_⟩,
  ⟨ext, iext, .inl ⟨rfl, rfl⟩, fun i hi z c w' hz hc hw => ?_, fun e a z _ _ he _ h => dne he h, fun e a z ha hz he hp h => .inl ?_, fun i hi z c w' s hz hc h1 h2 h3 s1 s2 => ?_, .inl ⟨rfl, fun q hq hf => ⟨fun i z c hz hc => ?_, app q hq⟩⟩, fun a e n _ => ⟨n.new, fun s hs => ?_⟩, by simp⟩,
  ⟨hinf, ⟨_, by rw [hI']; simp, hD⟩, fun q hq => .inl (hlt q hq), ?_, ?_, fun w' hw => ?_⟩, ⟨w0, sn.lt, fun w' hw => ?_⟩⟩
 ·
  rcases back a y hy with h | ⟨_, h⟩
  ·
   obtain ⟨d, hd⟩ := X.inf a y ha h
   exact ⟨d, hd.ext ext⟩
  ·
   rw [h]; exact ⟨_, hD⟩
 ·
  rcases back a y hy with h | ⟨h, h'⟩ <;> rcases back b z hz with g | ⟨g, g'⟩
  ·
   exact X.tri a b y z d e ha hb hne h g (same a y d ha h hd) (same b z e hb g he)
  ·
   have q := (List.getElem?_eq_some_iff.mp (same a y d ha h hd).n2).1
   rw [g'] at he
   obtain rfl := hD.uniq he
   left; exact q
  ·
   have q := (List.getElem?_eq_some_iff.mp (same b z e hb g he).n2).1
   rw [h'] at hd
   obtain rfl := hD.uniq hd
   right; exact q
  ·
   omega
 ·
  have hz' := inold i hi z hz
  have hr := I4.room i z c hz' hc
  dsimp only at hw
  rw [app c (by omega)] at hw
  have := X.wrd i hi z c w' hz' hc hw
  omega
 ·
  have hz' := inold i hi z hz
  have hr := I4.room i z c hz' hc
  dsimp only
  rw [app c (by omega)]
  exact X.two i hi z c hz' hc
 ·
  have hz' := inold i hi z hz
  have hr := I4.room i z c hz' hc
  dsimp only at hw
  rw [app c (by omega)] at hw
  obtain ⟨g1, y, e, g2, g3, g4, g5⟩ := X.flg i hi z c w' hz' hc hw h1
  refine ⟨g1, y, e, iext _ _ g2, g3.ext ext, g4, g5.imp (fun u => ?_) (fun u => dne g3 u)⟩
  obtain ⟨o1, o2⟩ := leafOf_ext ext (k := e.kn) hlt
  have hr2 := I4.room _ _ _ g3.n2 (innOf_cell _ _ _)
  exact ⟨o1.trans u.leaf, (o2 0).trans u.par, u.new, by dsimp only; rw [app _ (by omega)]; exact u.w, by dsimp only; rw [app _ (by omega)]; exact u.low, by dsimp only; rw [app _ (by omega)]; exact u.high⟩
 ·
  have hr := I4.room i z c hz hc
  dsimp only at hw
  rw [app c (by omega)] at hw
  exact ⟨w', hw, Nat.le_refl _, fun _ _ => rfl, .inl rfl⟩
 ·
  dsimp only
  rw [app _ (List.getElem?_eq_some_iff.mp h).1]; exact h
 ·
  have hr := I4.room i z c hz hc
  exact app _ (by omega)
 ·
  rcases old i z c hz hc with w | ⟨_, w2⟩
  ·
   exact hf i z c w hc
  ·
   left; omega
 ·
  obtain ⟨y, hy, he⟩ := n.at_
  have hr2 := I4.room _ _ _ he.n2 (innOf_cell _ _ _)
  exact app _ (by omega)
 ·
  obtain ⟨a, b, tn, h⟩ := on
  exact ⟨a, b, tn, (h.congr less).ext ext hlt⟩
 ·
  show (M.cells ++ [0, 0, 0])[M.cells.length]? = some 0
  simp
 ·
  have hr := I4.room p xp cp np hcp
  dsimp only at hw
  rw [app _ (by omega)] at hw
  have := X.wrd p on.mem xp cp w' np hcp hw
  omega
 ·
  have hr := I4.room p xp cp np hcp
  dsimp only at hw
  rw [app _ (by omega)] at hw
  obtain ⟨s1, s2⟩ := sn.le w' hw
  refine ⟨s1, fun q => ⟨s2 w0 q, ?_⟩⟩
  have hdn := dn_pos (lessN k xp)
  show (M.cells ++ [0, 0, 0])[cp + dn (lessN (knOf k) xp)]? = some (lf : Int)
  rw [less, app _ (by omega)]
  exact hch
end
inductive ThI (kn0 : Tbst_node) (d : ID) : Clo → Prop
 | own (h : d.kn = knOf kn0) : ThI kn0 d (.c_grow_1_1_1_2 kn0)
 | ins : ThI kn0 d (.c_insert_1 kn0)
 | gro : ThI kn0 d (.c_grow_1_1_1_1 kn0)
abbrev ins2 (kn0 : Tbst_node) : Clo := .c_insert_2 kn0 (.c_insert_1 kn0)
inductive PI (T : Obst_Tree) (M : Omem_Mem) (t : BT) (ks : List Tbst_node) (kn0 : Tbst_node) : Option Nat → Obst_Call → Option Clo → Prop
 | down {C : Obst_Call} {s : Tbst_seen} {i : Nat} (on : OnP T.nodes t kn0 i) (hp : s.parent = (i : Int)) (he : C.told_Err = 0) : PI T M t ks kn0 none C (some (.c_down_1 s kn0 (ins2 kn0)))
 | side {C : Obst_Call} {s : Tbst_seen} {i c w : Nat} {xp : Tbst_node} (on : OnP T.nodes t kn0 i) (hp : s.parent = (i : Int)) (np : T.nodes[i]? = some xp) (hc : xp.cell = (c : Int)) (sw : s.parentWord = (w : Int)) (sn : Seen T M ks i c w) (he : C.told_Err = 0) : PI T M t ks kn0 none C (some (.c_down_1_1 s kn0 (ins2 kn0)))
 | g1 {C : Obst_Call} {s : Tbst_seen} {b w : Nat} {d : ID} (n : New T M t b d) (se : Sees M.cells b d w) (hk : d.kn = knOf kn0) (hp : s.parent = (d.p : Int)) (sw : s.parentWord = (w : Int)) (he : C.told_Err = 0) : PI T M t ks kn0 (some b) C (some (.c_grow_1 d.c (lowOf d.x d.kn d.L : Nat) (highOf d.x d.kn d.L : Nat) s b kn0))
 | g2 {C : Obst_Call} {s : Tbst_seen} {b w : Nat} {d : ID} (n : New T M t b d) (se : Sees M.cells b d w) (hk : d.kn = knOf kn0) (hp : s.parent = (d.p : Int)) (sw : s.parentWord = (w : Int)) (lo : M.cells[d.c + 1]? = some ((lowOf d.x d.kn d.L : Nat) : Int)) (he : C.told_Err = 0) : PI T M t ks kn0 (some b) C (some (.c_grow_1_1 d.c (highOf d.x d.kn d.L : Nat) s b kn0))
 | g3 {C : Obst_Call} {s : Tbst_seen} {b w : Nat} {d : ID} (n : New T M t b d) (se : Sees M.cells b d w) (hk : d.kn = knOf kn0) (hp : s.parent = (d.p : Int)) (sw : s.parentWord = (w : Int)) (lo : M.cells[d.c + 1]? = some ((lowOf d.x d.kn d.L : Nat) : Int)) (hi : M.cells[d.c + 2]? = some ((highOf d.x d.kn d.L : Nat) : Int)) (he : C.told_Err = 0) : PI T M t ks kn0 (some b) C (some (.c_grow_1_1_1 s b kn0))
 | turn {C : Obst_Call} {y : Tbst_info} {a : Nat} {d : ID} {th : Clo} (ha : 1 ≤ a) (hy : T.infos[a]? = some y) (hd : InfD T.nodes y d) (hm : d.p ∈ t.ids) (pb : Pb T M ks a d) (ht : ThI kn0 d th) (he : C.told_Err = 0) : PI T M t ks kn0 none C (some (.c_turn_1 d.p ((d.L + 2 : Nat) : Int) d.lf (.c_grows_1 y a th)))
 | clean {C : Obst_Call} {y : Tbst_info} {a : Nat} {d : ID} {th : Clo} (ha : 1 ≤ a) (hy : T.infos[a]? = some y) (hd : InfD T.nodes y d) (hm : d.p ∈ t.ids) (dn : Dne M.cells ks d) (ht : ThI kn0 d th) (he : C.told_Err = 0) : PI T M t ks kn0 none C (some (.c_clean_1 d.p 1 a th))
 | done {C : Obst_Call} {y : Tbst_node} (hy : y ∈ ks) (hk : y.key = kn0.key) (hv : C.told_Val = y.val) (he : C.told_Err = 0) : PI T M t ks kn0 none C none
section
variable {T T' : Obst_Tree} {M M' : Omem_Mem} {l l' r : BT} {ks ks' : List Tbst_node} {j : Nat} {own held out : Option Nat} {kn0 : Tbst_node} {C : Obst_Call} {o : Option Clo}
theorem mem_stab (I : BInv T M l r ks j) (S : Stab T M l r ks T' M' l' ks' own out) {i c : Nat} {x : Tbst_node} (hx : T.nodes[i]? = some x) (hc : x.cell = (c : Int)) (h : i ∈ (BT.nd 0 l r).ids) : i ∈ (BT.nd 0 l' r).ids := by
 rcases S.gr with ⟨rfl, _⟩ | ⟨kn, hk, ⟨f, rfl, _⟩, _⟩
 ·
  exact h
 ·
  have hu : BT.nd 0 (updT T.nodes kn f l) r = updT T.nodes kn f (.nd 0 l r) := by
   have := I.dir hk
   unfold dirN at this
   rw [updT, if_pos this]
  rw [hu]
  refine upd_keep h (fun q => ?_)
  obtain ⟨z, z1, z2⟩ := leafOf_lf (k := kn) _ I.lay
  rw [← q, hx] at z1
  cases z1
  rw [hc] at z2; omega
theorem ne_none {b : Nat} {own : Option Nat} (h : own = none ∨ own ≠ some b) : own ≠ some b := by
 rcases h with h | h
 ·
  rw [h]; exact fun q => by cases q
 ·
  exact h
theorem PI.stab (I : BInv T M l r ks j) (S : Stab T M l r ks T' M' l' ks' own out) (hne : own = none ∨ own ≠ held) (h : PI T M (.nd 0 l r) ks kn0 held C o) : PI T' M' (.nd 0 l' r) ks' kn0 held C o := by
 have priv : ∀ {b : Nat} {d : ID}, New T M (.nd 0 l r) b d → own = none ∨ own ≠ some b → ∀ s, s < 3 → M'.cells[d.c + s]? = M.cells[d.c + s]? := fun n h => (S.pr _ _ n (ne_none h)).2
 cases h with
 | down on hp he => exact .down (on.stab I S) hp he
 | side on hp np hc sw sn he => exact .side (on.stab I S) hp (S.ne _ _ np) hc sw (sn.stab S on.mem np hc) he
 | g1 n se hk hp sw he => exact .g1 (n.stab I S (ne_none hne)) (se.stab S n) hk hp sw he
 | g2 n se hk hp sw lo he => exact .g2 (n.stab I S (ne_none hne)) (se.stab S n) hk hp sw (by rw [priv n hne 1 (by omega)]; exact lo) he
 | g3 n se hk hp sw lo hi he => exact .g3 (n.stab I S (ne_none hne)) (se.stab S n) hk hp sw (by rw [priv n hne 1 (by omega)]; exact lo) (by rw [priv n hne 2 (by omega)]; exact hi) he
 | turn ha hy hd hm pb ht he => exact .turn ha (S.ie _ _ hy) (hd.ext S.ne) (mem_stab I S hd.np hd.cpe hm) (pb.stab S ha hy hd hm) ht he
 | clean ha hy hd hm dn ht he => exact .clean ha (S.ie _ _ hy) (hd.ext S.ne) (mem_stab I S hd.np hd.cpe hm) (S.ch _ _ _ ha hy hd hm dn) ht he
 | done hy hk hv he => exact .done (S.ksub hy) hk hv he
end
def flB (N : List Tbst_node) (K : List Int) (i : Nat) : Bool := match N[i]? with
 | some x => if 0 ≤ x.cell then (wd K x.cell.toNat % 4 == 1) else false
 | none => false
def nfl (N : List Tbst_node) (K : List Int) (t : BT) : Nat := t.ids.countP (flB N K)
theorem flB_eq {N : List Tbst_node} {K : List Int} {i c : Nat} {x : Tbst_node} (hx : N[i]? = some x) (hc : x.cell = (c : Int)) : flB N K i = (wd K c % 4 == 1) := by
 unfold flB
 rw [hx]
 dsimp only
 rw [if_pos (by omega), hc]
 rfl
theorem flB_leaf {N : List Tbst_node} {K : List Int} {i : Nat} {x : Tbst_node} (hx : N[i]? = some x) (hc : x.cell = -1) : flB N K i = false := by
 unfold flB
 rw [hx]
 dsimp only
 rw [if_neg (by omega)]
theorem countP_le {l : List Nat} {p q : Nat → Bool} (h : ∀ i ∈ l, q i = true → p i = true) : l.countP q ≤ l.countP p := by
 induction l with
 | nil => simp
 | cons a l ih =>
  have ih := ih (fun i hi => h i (List.mem_cons_of_mem _ hi))
  have h0 := h a List.mem_cons_self
  rw [List.countP_cons, List.countP_cons]
  cases e : q a with
  | false => simp; omega
  | true => rw [h0 e]; simp; omega
theorem countP_lt {l : List Nat} {p q : Nat → Bool} (h : ∀ i ∈ l, q i = true → p i = true) {a : Nat} (ha : a ∈ l) (hp : p a = true) (hq : q a = false) : l.countP q < l.countP p := by
 induction l with
 | nil => cases ha
 | cons b l ih =>
  have h' : ∀ i ∈ l, q i = true → p i = true := fun i hi => h i (List.mem_cons_of_mem _ hi)
  rw [List.countP_cons, List.countP_cons]
  rcases List.mem_cons.mp ha with w | w
  ·
   subst w
   have := countP_le h'
   rw [hp, hq]; simp; omega
  ·
   have ih := ih h' w
   have h0 := h b List.mem_cons_self
   cases e : q b with
   | false => simp; omega
   | true => rw [h0 e]; simp; omega
theorem upd_count {N : List Tbst_node} {k : Tbst_node} {f : BT} {p : Nat → Bool} : ∀ {t : BT}, (updT N k f t).ids.countP p ≤ t.ids.countP p + f.ids.countP p
 | .lf i => by rw [updT]; omega
 | .nd i l r => by
  have hl := upd_count (N := N) (k := k) (f := f) (p := p) (t := l)
  have hr := upd_count (N := N) (k := k) (f := f) (p := p) (t := r)
  rw [updT]
  split <;> simp only [BT.ids, List.countP_cons, List.countP_append] <;> omega
section
variable {T : Obst_Tree} {M : Omem_Mem} {l r : BT} {ks : List Tbst_node} {j a : Nat} {y : Tbst_info} {d : ID}
theorem nfl_away {K K' : List Int} {N : List Tbst_node} {t : BT} (h : ∀ i ∈ t.ids, ∀ (x : Tbst_node) (c : Nat), N[i]? = some x → x.cell = (c : Int) → K'[c]? = K[c]?) : nfl N K' t ≤ nfl N K t := by
 refine countP_le (fun i hi q => ?_)
 unfold flB at q ⊢
 cases e : N[i]? with
 | none => rw [e] at q; cases q
 | some x =>
  rw [e] at q
  dsimp only at q ⊢
  split at q
  ·
   rename_i hc
   rw [if_pos hc]
   obtain ⟨c, hc'⟩ : ∃ c : Nat, x.cell = (c : Int) := ⟨x.cell.toNat, by omega⟩
   have := h i hi x c e hc'
   rw [hc'] at q ⊢
   unfold wd at q ⊢
   simp only [Int.toNat_natCast] at q ⊢
   rw [List.getD_eq_getElem?_getD] at q ⊢
   rw [this] at q
   exact q
  ·
   cases q
theorem nfl_clean (I : BInv T M l r ks j) {p cp w' : Nat} {xp : Tbst_node} (hp : T.nodes[p]? = some xp) (hc : xp.cell = (cp : Int)) (hm : p ∈ (BT.nd 0 l r).ids) {w : Nat} (hw : M.cells[cp]? = some (w : Int)) (h1 : w % 4 = 1) (h0 : w' % 4 = 0) :
 nfl T.nodes (M.cells.set cp (w' : Int)) (.nd 0 l r) < nfl T.nodes M.cells (.nd 0 l r) := by
 have hcl := (List.getElem?_eq_some_iff.mp hw).1
 have e1 : flB T.nodes M.cells p = true := by
  rw [flB_eq hp hc, wd_eq hw]
  exact beq_iff_eq.mpr (by omega)
 have e2 : flB T.nodes (M.cells.set cp (w' : Int)) p = false := by
  rw [flB_eq hp hc, wd_eq (gs_eq hcl)]
  exact beq_eq_false_iff_ne.mpr (by omega)
 refine countP_lt (fun i hi q => ?_) hm e1 e2
 by_cases hip : i = p
 ·
  subst hip; exact e1
 ·
  unfold flB at q ⊢
  cases e : T.nodes[i]? with
  | none => rw [e] at q; cases q
  | some x =>
   rw [e] at q
   dsimp only at q ⊢
   split at q
   ·
    rename_i hc0
    rw [if_pos hc0]
    obtain ⟨c, hc'⟩ : ∃ c : Nat, x.cell = (c : Int) := ⟨x.cell.toNat, by omega⟩
    have ne := cell_ne I.dis (z := 0) (z' := 0) e hc' hp hc (by omega) (by omega) (.inl hip)
    simp only [Nat.add_zero] at ne
    rw [hc'] at q ⊢
    unfold wd at q ⊢
    simp only [Int.toNat_natCast] at q ⊢
    rw [List.getD_eq_getElem?_getD] at q ⊢
    rw [gs_ne (Ne.symm ne)] at q
    exact q
   ·
    cases q
end
inductive Rk (T : Obst_Tree) (M : Omem_Mem) (t : BT) (kn0 : Tbst_node) : Option Clo → Nat → Nat → Prop
 | down {s : Tbst_seen} {i : Nat} {a b : BT} {tn : Int} (h : Atk T.nodes kn0 t (-1) (.nd i a b) tn) (hp : s.parent = (i : Int)) : Rk T M t kn0 (some (.c_down_1 s kn0 (ins2 kn0))) (100000 * (2 * nfl T.nodes M.cells t) + 2 * (a.inn + b.inn) + 20) (4 * (2 * nfl T.nodes M.cells t) + 3)
 | side {s : Tbst_seen} {i c w st : Nat} {xp : Tbst_node} {a b : BT} {tn : Int} (h : Atk T.nodes kn0 t (-1) (.nd i a b) tn) (hp : s.parent = (i : Int)) (np : T.nodes[i]? = some xp) (hc : xp.cell = (c : Int)) (sw : s.parentWord = (w : Int)) (h1 : st ≤ 1) (h0 : st = 0 → M.cells[c]? = some (w : Int)) : Rk T M t kn0 (some (.c_down_1_1 s kn0 (ins2 kn0))) (100000 * (2 * nfl T.nodes M.cells t + st) + 2 * (a.inn + b.inn) + 19) (4 * (2 * nfl T.nodes M.cells t + st) + 3)
 | g1 {s : Tbst_seen} {b w st : Nat} {y : Tbst_info} {d : ID} {x1 x2 x3 : Int} (hy : T.infos[b]? = some y) (hd : InfD T.nodes y d) (sw : s.parentWord = (w : Int)) (h1 : st ≤ 1) (h0 : st = 0 → M.cells[d.cp]? = some (w : Int)) : Rk T M t kn0 (some (.c_grow_1 x1 x2 x3 s b kn0)) (100000 * (2 * nfl T.nodes M.cells t + st) + 15) (4 * (2 * nfl T.nodes M.cells t + st) + 2)
 | g2 {s : Tbst_seen} {b w st : Nat} {y : Tbst_info} {d : ID} {x1 x3 : Int} (hy : T.infos[b]? = some y) (hd : InfD T.nodes y d) (sw : s.parentWord = (w : Int)) (h1 : st ≤ 1) (h0 : st = 0 → M.cells[d.cp]? = some (w : Int)) : Rk T M t kn0 (some (.c_grow_1_1 x1 x3 s b kn0)) (100000 * (2 * nfl T.nodes M.cells t + st) + 14) (4 * (2 * nfl T.nodes M.cells t + st) + 2)
 | g3 {s : Tbst_seen} {b w st : Nat} {y : Tbst_info} {d : ID} (hy : T.infos[b]? = some y) (hd : InfD T.nodes y d) (sw : s.parentWord = (w : Int)) (h1 : st ≤ 1) (h0 : st = 0 → M.cells[d.cp]? = some (w : Int)) : Rk T M t kn0 (some (.c_grow_1_1_1 s b kn0)) (100000 * (2 * nfl T.nodes M.cells t + st) + 13) (4 * (2 * nfl T.nodes M.cells t + st) + 2)
 | ownT {x1 x2 x3 a : Int} {y : Tbst_info} : Rk T M t kn0 (some (.c_turn_1 x1 x2 x3 (.c_grows_1 y a (.c_grow_1_1_1_2 kn0)))) 2 1
 | ownC {x1 x2 a : Int} : Rk T M t kn0 (some (.c_clean_1 x1 x2 a (.c_grow_1_1_1_2 kn0))) 1 0
 | helpT {x1 x2 x3 : Int} {y : Tbst_info} {a st : Nat} {d : ID} {th : Clo} (hy : T.infos[a]? = some y) (hd : InfD T.nodes y d) (ht : th = .c_insert_1 kn0 ∨ th = .c_grow_1_1_1_1 kn0) (h1 : st ≤ 1) (h0 : st = 0 → M.cells[d.cp]? = some ((4 * a + 1 : Nat) : Int)) : Rk T M t kn0 (some (.c_turn_1 x1 x2 x3 (.c_grows_1 y a th))) (100000 * (2 * nfl T.nodes M.cells t + st) + 12) (4 * (2 * nfl T.nodes M.cells t + st) + 2)
 | helpC {x1 x2 : Int} {y : Tbst_info} {a st : Nat} {d : ID} {th : Clo} (hy : T.infos[a]? = some y) (hd : InfD T.nodes y d) (ht : th = .c_insert_1 kn0 ∨ th = .c_grow_1_1_1_1 kn0) (h1 : st ≤ 1) (h0 : st = 0 → M.cells[d.cp]? = some ((4 * a + 1 : Nat) : Int)) : Rk T M t kn0 (some (.c_clean_1 x1 x2 a th)) (100000 * (2 * nfl T.nodes M.cells t + st) + 11) (4 * (2 * nfl T.nodes M.cells t + st) + 1)
 | done : Rk T M t kn0 none 0 0
theorem turn_fail {n : Nat} {T : Obst_Tree} {M : Omem_Mem} {C : Obst_Call} {th : Clo} {p nx o c : Nat} {x z : Tbst_node} {v : Int} (h : T.nodes[p]? = some x) (hc : x.cell = (c : Int)) (hb : c < 1073741824) (hz : T.nodes[nx]? = some z) (ho : o < 1099511627776) (hnx : nx < 1099511627776)
 (hw : M.cells[c + (if lessN z x = true then 1 else 2)]? = some v) (hv : v ≠ (o : Int)) :
 F_step (n + 1) T M C (.c_turn_1 (p : Int) (nx : Int) (o : Int) th) .u = F_step n T (tick M) C th .u := by
 show F_bst_Tree_turn_1 (F_step n) T M C (p : Int) (nx : Int) (o : Int) th = _
 unfold F_bst_Tree_turn_1
 rw [getI_nat, hz]
 simp only [Option.bind_some]
 rw [side_ok h hc hb]
 simp only [Option.bind_some]
 rw [wrap_u64 (by omega) (by omega), wrap_u64 (by omega) (by omega), cas_no hw hv]
 simp only [Option.bind_some]
 exact rb _
theorem clean_fail {n : Nat} {T : Obst_Tree} {M : Omem_Mem} {C : Obst_Call} {th : Clo} {p i st c : Nat} {x : Tbst_node} {v : Int} (h : T.nodes[p]? = some x) (hc : x.cell = (c : Int)) (hb : c < 1073741824) (hi : i < 1000000) (hst : st < 4)
 (hw : M.cells[c]? = some v) (hv : v ≠ ((4 * i + st : Nat) : Int)) :
 F_step (n + 1) T M C (.c_clean_1 (p : Int) (st : Int) (i : Int) th) .u = F_step n T (tick M) C th .u := by
 show F_bst_Tree_clean_1 (F_step n) T M C (p : Int) (st : Int) (i : Int) th = _
 unfold F_bst_Tree_clean_1
 have e0 : F_word_Pack 0 (i : Int) = some ((4 * i + 0 : Nat) : Int) := wpack_ok i 0 (by omega) (by omega)
 have e1 : F_bst_Tree_cell T M (p : Int) 0 = some (((c + 0 : Nat) : Int), T, M) := cell_ok (k := 0) h hc (by omega)
 rw [e1]
 simp only [Option.bind_some, Nat.add_zero]
 rw [wpack_ok i st (by omega) hst, e0]
 simp only [Option.bind_some]
 rw [cas_no hw hv]
 simp only [Option.bind_some]
 exact rb _
theorem help_flag {rc : RC} {T : Obst_Tree} {M : Omem_Mem} {C : Obst_Call} {th : Clo} {w : Nat} {y : Tbst_info} (hb : w < 9223372036854775808) (h1 : w % 4 = 1) (hy : T.infos[w / 4]? = some y) :
 F_bst_Tree_help rc T M C (w : Int) th = some (some (.c_turn_1 y.parent y.next y.leaf (.c_grows_1 y ((w / 4 : Nat) : Int) th)), T, M, C) := by
 unfold F_bst_Tree_help
 rw [winfo_ok w hb, wstate_ok w hb, h1]
 simp only [Option.bind_some]
 rw [if_pos (by decide)]
 unfold F_bst_Tree_grows F_bst_Tree_turn
 rw [getI_nat, hy]
 rfl
theorem help_clean {rc : RC} {T : Obst_Tree} {M : Omem_Mem} {C : Obst_Call} {th : Clo} {w : Nat} (hb : w < 9223372036854775808) (h0 : w % 4 = 0) : F_bst_Tree_help rc T M C (w : Int) th = rc T M C th .u := by
 unfold F_bst_Tree_help
 rw [winfo_ok w hb, wstate_ok w hb, h0]
 simp only [Option.bind_some]
 rw [if_neg (by decide), if_neg (by decide), if_neg (by decide)]
 exact rb _
theorem ins_help {n : Nat} {T : Obst_Tree} {M : Omem_Mem} {C : Obst_Call} {s : Tbst_seen} {k : Tbst_node} {th : Clo} {i w : Nat} {x : Tbst_node} (hs : s.leaf = (i : Int)) (h : T.nodes[i]? = some x) (hx : isKey x k = false) (hw : s.parentWord = (w : Int)) (hw4 : w % 4 = 1) (hwb : w < 9223372036854775808) :
 F_step (n + 1) T M C (.c_insert_2 k th) (.s s) = F_bst_Tree_help (F_step n) T M C (w : Int) th := by
 show F_bst_Tree_insert_2 (F_step n) T M C s k th = _
 unfold F_bst_Tree_insert_2
 rw [hs, is_ok h, hx]
 simp only [Option.bind_some, Bool.false_eq_true, if_false]
 rw [hw, wstate_ok w hwb, hw4]
 simp only [Option.bind_some]
 rw [if_pos (by decide)]
 exact rb _
theorem flag_fail {n : Nat} {T : Obst_Tree} {M : Omem_Mem} {C : Obst_Call} {s : Tbst_seen} {k x : Tbst_node} {p c i w v : Nat} (hp : s.parent = (p : Int)) (h : T.nodes[p]? = some x) (hc : x.cell = (c : Int)) (hb : c < 1073741824) (hw : M.cells[c]? = some (v : Int)) (hs : s.parentWord = (w : Int)) (hv : v ≠ w) (hib : i < 1000000) :
 F_step (n + 1) T M C (.c_grow_1_1_1 s (i : Int) k) .u = F_bst_Tree_help (F_step n) T (tick M) C (v : Int) (.c_grow_1_1_1_1 k) := by
 show F_bst_Tree_grow_1_1_1 (F_step n) T M C s (i : Int) k = _
 unfold F_bst_Tree_grow_1_1_1
 rw [hp, show (0 : Int) = ((0 : Nat) : Int) from rfl, cell_ok h hc (by omega)]
 simp only [Option.bind_some, Nat.add_zero]
 rw [show (1 : Int) = ((1 : Nat) : Int) from rfl, wpack_ok i 1 (by omega) (by omega)]
 simp only [Option.bind_some]
 rw [hs, cas_no hw (by omega)]
 simp only [Option.bind_some, Bool.not_false, if_true]
 exact rb _
def Cn (M M' : Omem_Mem) : Prop := M'.count = M.count ∨ M'.count = IntKind.i64.wrap (M.count + 1)
section
variable {T : Obst_Tree} {M : Omem_Mem} {l r : BT} {ks : List Tbst_node} {j n : Nat} {kn0 : Tbst_node} {C : Obst_Call} {held : Option Nat}
theorem ins_root {rc : RC} (I : BInv T M l r ks j) : F_bst_Tree_insert rc T M C kn0 = some (some (.c_down_1 ⟨0, 0, 0, 0, 0, -1⟩ kn0 (ins2 kn0)), T, M, C) := by
 obtain ⟨x0, h0, hc⟩ := I.root
 unfold F_bst_Tree_insert F_bst_Tree_search
 rw [dn0 h0 hc]; rfl
theorem onp0 : OnP T.nodes (.nd 0 l r) kn0 0 := ⟨l, r, -1, .here⟩
theorem seen_now (X : CX T M l r ks j) {i c w : Nat} {x : Tbst_node} (hi : i ∈ (BT.nd 0 l r).ids) (hx : T.nodes[i]? = some x) (hc : x.cell = (c : Int)) (hw : M.cells[c]? = some (w : Int)) : Seen T M ks i c w := by
 obtain ⟨w', g1, g2⟩ := X.two i hi x c hx hc
 rw [hw] at g1
 have : w = w' := by have := Option.some.inj g1; omega
 subst this
 refine ⟨fun w' hw' => ?_, X.wrd i hi x c w hx hc hw, g2, fun h1 => ?_⟩
 ·
  rw [hw] at hw'
  have : w = w' := by have := Option.some.inj hw'; omega
  subst this
  exact ⟨Nat.le_refl _, fun _ _ => rfl⟩
 ·
  obtain ⟨q1, y, d, q2, q3, q4, q5⟩ := X.flg i hi x c w hx hc hw h1
  refine ⟨q1, y, d, q2, q3, q4, .inl ?_⟩
  have e : d.cp = c := by
   have h1 := q3.np; have h2 := q3.cpe
   rw [q4, hx] at h1
   cases h1
   omega
  rw [e, hw]
  congr 1; omega
theorem CX.mono {j' : Nat} (X : CX T M l r ks j) (h : j ≤ j') : CX T M l r ks j' := ⟨X.inv.mono h, X.inf, X.tri, X.wrd, X.two, X.flg⟩
end
theorem flB_ext {N N' : List Tbst_node} {K K' : List Int} {i : Nat} (e : NExt N N') (hi : i < N.length) (h : ∀ (x : Tbst_node) (c : Nat), N[i]? = some x → x.cell = (c : Int) → K'[c]? = K[c]?) (q : flB N' K' i = true) : flB N K i = true := by
 have hx := List.getElem?_eq_getElem hi
 have hx' := e _ _ hx
 by_cases hc : 0 ≤ N[i].cell
 ·
  obtain ⟨c, hc'⟩ : ∃ c : Nat, N[i].cell = (c : Int) := ⟨N[i].cell.toNat, by omega⟩
  rw [flB_eq hx' hc'] at q
  rw [flB_eq hx hc']
  have := h _ c hx hc'
  unfold wd at q ⊢
  rw [List.getD_eq_getElem?_getD] at q ⊢
  rw [this] at q
  exact q
 ·
  unfold flB at q
  rw [hx'] at q
  dsimp only at q
  rw [if_neg hc] at q
  cases q
theorem nfl_ext {N N' : List Tbst_node} {K K' : List Int} {t : BT} (e : NExt N N') (hi : ∀ i ∈ t.ids, i < N.length) (h : ∀ i ∈ t.ids, ∀ (x : Tbst_node) (c : Nat), N[i]? = some x → x.cell = (c : Int) → K'[c]? = K[c]?) : nfl N' K' t ≤ nfl N K t :=
 countP_le (fun i hm q => flB_ext e (hi i hm) (h i hm) q)
theorem child_of {N : List Tbst_node} {K : List Int} {k xp : Tbst_node} {t a b : BT} {t0 tn : Int} {i c j : Nat} (h : Atk N k t t0 (.nd i a b) tn) (hL : Lay N K t) (np : N[i]? = some xp) (hc : xp.cell = (c : Int)) (hch : K[c + (if lessN k xp = true then 1 else 2)]? = some ((j : Nat) : Int)) :
 ∃ u tn', u.root = j ∧ Lay N K u ∧ Atk N k t t0 u tn' ∧ u.inn ≤ a.inn + b.inn := by
 obtain ⟨y, c', w, h1, h2, h3, h4, h5, h6, h7, h8, h9, h10⟩ := h.lay hL
 rw [np] at h1
 cases h1
 have : c' = c := by rw [hc] at h2; omega
 subst this
 obtain ⟨d1, d2⟩ := h.child
 rw [nk_eq np] at d1 d2
 cases e : lessN k xp with
 | true =>
  rw [e, if_pos rfl, h7] at hch
  exact ⟨a, _, by have := Option.some.inj hch; omega, h9, d1 e, by omega⟩
 | false =>
  rw [e, if_neg (by simp), h8] at hch
  exact ⟨b, _, by have := Option.some.inj hch; omega, h10, d2 e, by omega⟩
theorem inner_of {N : List Tbst_node} {K : List Int} {u : BT} {z : Tbst_node} {j : Nat} (hr : u.root = j) (hL : Lay N K u) (hz : N[j]? = some z) (hc : 0 ≤ z.cell) : ∃ a b, u = .nd j a b := by
 cases u with
 | lf q =>
  obtain ⟨x, h1, h2⟩ := hL
  have hr : q = j := hr
  rw [hr, hz] at h1
  cases h1
  omega
 | nd q a b =>
  have hr : q = j := hr
  exact ⟨a, b, by rw [hr]⟩
section
variable {T : Obst_Tree} {M : Omem_Mem} {l r : BT} {ks : List Tbst_node} {j : Nat} {y : Tbst_info} {d : ID}
theorem nfl_turn (I : BInv T M l r ks j) (hd : InfD T.nodes y d) (hw : M.cells[d.c]? = some ((0 : Nat) : Int)) (v : Int) (hk : d.kn.top = 0) :
 nfl T.nodes (M.cells.set d.at_ v) (.nd 0 (updT T.nodes d.kn (fOf d.x d.kn d.L) l) r) ≤ nfl T.nodes M.cells (.nd 0 l r) := by
 have hu : BT.nd 0 (updT T.nodes d.kn (fOf d.x d.kn d.L) l) r = updT T.nodes d.kn (fOf d.x d.kn d.L) (.nd 0 l r) := by
  have := I.dir hk
  unfold dirN at this
  rw [updT, if_pos this]
 have hdn := dn_pos (lessN d.kn d.xp)
 have words : ∀ (i : Nat) (x : Tbst_node) (c : Nat), T.nodes[i]? = some x → x.cell = (c : Int) → (M.cells.set d.at_ v)[c]? = M.cells[c]? := fun i x c hx hc => by
  have q := cell_ne I.dis (z := 0) (z' := dn (lessN d.kn d.xp)) hx hc hd.np hd.cpe (by omega) hdn.2 (.inr (by omega))
  exact gs_ne (by unfold ID.at_; omega)
 refine Nat.le_trans (nfl_away (K := M.cells) (fun i _ x c hx hc => words i x c hx hc)) ?_
 unfold nfl
 rw [hu]
 refine Nat.le_trans upd_count ?_
 have : (fOf d.x d.kn d.L).ids.countP (flB T.nodes M.cells) = 0 := by
  rw [List.countP_eq_zero]
  intro q hq
  have h : q = d.L + 2 ∨ q = d.L ∨ q = d.L + 1 := by
   have h : q = d.L + 2 ∨ q = lowOf d.x d.kn d.L ∨ q = highOf d.x d.kn d.L := by simpa [BT.ids] using hq
   unfold lowOf highOf at h
   rcases h with h | h | h
   ·
    exact .inl h
   ·
    split at h <;> omega
   ·
    split at h <;> omega
  rcases h with h | h | h
  ·
   rw [h, flB_eq hd.n2 (innOf_cell _ _ _), wd_eq hw]; decide
  ·
   rw [h, flB_leaf hd.n0 hd.k0]; simp
  ·
   rw [h, flB_leaf hd.n1 hd.xl]; simp
 omega
end
def Fl (T : Obst_Tree) (K : List Int) (t : BT) (a : Nat) : Prop := ∃ i ∈ t.ids, ∃ (x : Tbst_node) (c : Nat), T.nodes[i]? = some x ∧ x.cell = (c : Int) ∧ K[c]? = some ((4 * a + 1 : Nat) : Int)
def ownOf : Option Clo → Option Int
 | some (.c_turn_1 _ _ _ (.c_grows_1 _ a (.c_grow_1_1_1_2 _))) => some a
 | some (.c_clean_1 _ _ a (.c_grow_1_1_1_2 _)) => some a
 | _ => none
def FlS (T : Obst_Tree) (K : List Int) (t : BT) (x : Clo) (T' : Obst_Tree) (K' : List Int) (t' : BT) (o : Option Clo) : Prop :=
 ∀ a : Nat, Fl T' K' t' a → (Fl T K t a ∧ ownOf (some x) ≠ some (a : Int)) ∨ ownOf o = some (a : Int)
def Ni (T T' : Obst_Tree) (ks : List Tbst_node) (kn0 : Tbst_node) : Prop :=
 T' = T ∨ ((∀ z ∈ ks, z.key ≠ kn0.key) ∧ ∃ y d, T'.infos = T.infos ++ [y] ∧ InfD T'.nodes y d ∧ d.kn = knOf kn0 ∧ 1 ≤ T.infos.length)
section
variable {T : Obst_Tree} {M : Omem_Mem} {l r : BT} {ks : List Tbst_node} {j a : Nat} {y : Tbst_info} {d : ID}
theorem Fl.back {T' : Obst_Tree} {K K' : List Int} {t : BT} (e : NExt T.nodes T'.nodes) (hi : ∀ i ∈ t.ids, i < T.nodes.length) (h : ∀ i ∈ t.ids, ∀ (x : Tbst_node) (c : Nat), T.nodes[i]? = some x → x.cell = (c : Int) → K'[c]? = K[c]?) (f : Fl T' K' t a) : Fl T K t a := by
 obtain ⟨i, h1, x, c, h2, h3, h4⟩ := f
 have hx := List.getElem?_eq_getElem (hi i h1)
 have := e _ _ hx
 rw [h2] at this
 cases this
 exact ⟨i, h1, _, c, hx, h3, by rw [← h i h1 _ c hx h3]; exact h4⟩
theorem Fl.away {K K' : List Int} {t : BT} (h : ∀ i ∈ t.ids, ∀ (x : Tbst_node) (c : Nat), T.nodes[i]? = some x → x.cell = (c : Int) → K'[c]? = K[c]?) (f : Fl T K' t a) : Fl T K t a := by
 obtain ⟨i, h1, x, c, h2, h3, h4⟩ := f
 exact ⟨i, h1, x, c, h2, h3, by rw [← h i h1 x c h2 h3]; exact h4⟩
theorem Fl.word (I : BInv T M l r ks j) {p cp w' : Nat} {xp : Tbst_node} (hp : T.nodes[p]? = some xp) (hc : xp.cell = (cp : Int)) {b : Nat} (f : Fl T (M.cells.set cp (w' : Int)) (.nd 0 l r) b) : w' = 4 * b + 1 ∨ ∃ i ∈ (BT.nd 0 l r).ids, i ≠ p ∧ ∃ (x : Tbst_node) (c : Nat), T.nodes[i]? = some x ∧ x.cell = (c : Int) ∧ M.cells[c]? = some ((4 * b + 1 : Nat) : Int) := by
 obtain ⟨i, h1, x, c, h2, h3, h4⟩ := f
 by_cases e : i = p
 ·
  left
  subst e
  rw [hp] at h2
  cases h2
  obtain rfl : cp = c := by rw [hc] at h3; omega
  have hl : cp < M.cells.length := by
   have := (List.getElem?_eq_some_iff.mp h4).1
   simpa using this
  rw [gs_eq hl] at h4
  have := Option.some.inj h4
  omega
 ·
  right
  have ne := cell_ne I.dis (z := 0) (z' := 0) h2 h3 hp hc (by omega) (by omega) (.inl e)
  simp only [Nat.add_zero] at ne
  rw [gs_ne (Ne.symm ne)] at h4
  exact ⟨i, h1, e, x, c, h2, h3, h4⟩
theorem fl_at (X : CX T M l r ks j) (hy : T.infos[a]? = some y) (hd : InfD T.nodes y d) (f : Fl T M.cells (.nd 0 l r) a) : M.cells[d.cp]? = some ((4 * a + 1 : Nat) : Int) := by
 obtain ⟨i, h1, x, c, h2, h3, h4⟩ := f
 obtain ⟨_, z, e, g2, g3, g4, g5⟩ := X.flg i h1 x c (4 * a + 1) h2 h3 h4 (by omega)
 have : (4 * a + 1) / 4 = a := by omega
 rw [this, hy] at g2
 cases g2
 obtain rfl := hd.uniq g3
 have n1 := hd.np
 rw [g4, h2] at n1
 cases n1
 obtain rfl : c = d.cp := by have := hd.cpe; rw [h3] at this; omega
 exact h4
theorem fl_node (X : CX T M l r ks j) (hy : T.infos[a]? = some y) (hd : InfD T.nodes y d) {i c : Nat} {x : Tbst_node} (h1 : i ∈ (BT.nd 0 l r).ids) (h2 : T.nodes[i]? = some x) (h3 : x.cell = (c : Int)) (h4 : M.cells[c]? = some ((4 * a + 1 : Nat) : Int)) : i = d.p := by
 obtain ⟨_, z, e, g2, g3, g4, g5⟩ := X.flg i h1 x c (4 * a + 1) h2 h3 h4 (by omega)
 have : (4 * a + 1) / 4 = a := by omega
 rw [this, hy] at g2
 cases g2
 obtain rfl := hd.uniq g3
 exact g4.symm
theorem fl_clean (X : CX T M l r ks j) (hy : T.infos[a]? = some y) (hd : InfD T.nodes y d) {b : Nat} (f : Fl T (M.cells.set d.cp ((4 * a : Nat) : Int)) (.nd 0 l r) b) : Fl T M.cells (.nd 0 l r) b ∧ b ≠ a := by
 rcases Fl.word X.inv hd.np hd.cpe f with w | ⟨i, h1, h2, x, c, h3, h4, h5⟩
 ·
  omega
 ·
  refine ⟨⟨i, h1, x, c, h3, h4, h5⟩, fun e => ?_⟩
  subst e
  exact h2 (fl_node X hy hd h1 h3 h4 h5)
theorem fl_flag (X : CX T M l r ks j) (hd : InfD T.nodes y d) {b : Nat} (f : Fl T (M.cells.set d.cp ((4 * a + 1 : Nat) : Int)) (.nd 0 l r) b) : Fl T M.cells (.nd 0 l r) b ∨ b = a := by
 rcases Fl.word X.inv hd.np hd.cpe f with w | ⟨i, h1, h2, x, c, h3, h4, h5⟩
 ·
  right; omega
 ·
  exact .inl ⟨i, h1, x, c, h3, h4, h5⟩
theorem fl_turn (I : BInv T M l r ks j) (hd : InfD T.nodes y d) (hw : M.cells[d.c]? = some ((0 : Nat) : Int)) (v : Int) (hk : d.kn.top = 0) {b : Nat} (f : Fl T (M.cells.set d.at_ v) (.nd 0 (updT T.nodes d.kn (fOf d.x d.kn d.L) l) r) b) : Fl T M.cells (.nd 0 l r) b := by
 have hu : BT.nd 0 (updT T.nodes d.kn (fOf d.x d.kn d.L) l) r = updT T.nodes d.kn (fOf d.x d.kn d.L) (.nd 0 l r) := by
  have := I.dir hk
  unfold dirN at this
  rw [updT, if_pos this]
 have hdn := dn_pos (lessN d.kn d.xp)
 obtain ⟨i, h1, x, c, h2, h3, h4⟩ := f
 have w : (M.cells.set d.at_ v)[c]? = M.cells[c]? := by
  have q := cell_ne I.dis (z := 0) (z' := dn (lessN d.kn d.xp)) h2 h3 hd.np hd.cpe (by omega) hdn.2 (.inr (by omega))
  exact gs_ne (by unfold ID.at_; omega)
 rw [w] at h4
 rw [hu] at h1
 rcases upd_ids h1 with h | h
 ·
  have h : i = d.L + 2 ∨ i = lowOf d.x d.kn d.L ∨ i = highOf d.x d.kn d.L := by simpa [BT.ids] using h
  have h : i = d.L ∨ i = d.L + 1 ∨ i = d.L + 2 := by
   unfold lowOf highOf at h
   rcases h with h | h | h
   ·
    omega
   ·
    split at h <;> omega
   ·
    split at h <;> omega
  rcases h with h | h | h
  ·
   subst h; rw [hd.n0] at h2; cases h2; rw [hd.k0] at h3; omega
  ·
   subst h; rw [hd.n1] at h2; cases h2; rw [hd.xl] at h3; omega
  ·
   subst h
   rw [hd.n2] at h2
   cases h2
   rw [innOf_cell] at h3
   obtain rfl : d.c = c := by omega
   rw [hw] at h4
   have := Option.some.inj h4
   omega
 ·
  exact ⟨i, h, x, c, h2, h3, h4⟩
theorem nfl_own (X : CX T M l r ks j) {os : List Int} (h : ∀ b : Nat, Fl T M.cells (.nd 0 l r) b → (b : Int) ∈ os) : nfl T.nodes M.cells (.nd 0 l r) ≤ os.length := by
 have hn := X.inv.nod
 have key : ∀ (is : List Nat), is.Nodup → (∀ i ∈ is, i ∈ (BT.nd 0 l r).ids) → ∀ os : List Int, (∀ i ∈ is, ∀ (x : Tbst_node) (c b : Nat), T.nodes[i]? = some x → x.cell = (c : Int) → M.cells[c]? = some ((4 * b + 1 : Nat) : Int) → (b : Int) ∈ os) → is.countP (flB T.nodes M.cells) ≤ os.length := by
  intro is
  induction is with
  | nil => intro _ _ os _; simp
  | cons i is ih =>
   intro hnd hm os ho
   rw [List.nodup_cons] at hnd
   rw [List.countP_cons]
   cases e : flB T.nodes M.cells i with
   | false =>
    have := ih hnd.2 (fun q hq => hm q (List.mem_cons_of_mem _ hq)) os (fun q hq => ho q (List.mem_cons_of_mem _ hq))
    simpa using this
   | true =>
    have him := hm i List.mem_cons_self
    obtain ⟨x, hx⟩ : ∃ x, T.nodes[i]? = some x := ⟨_, List.getElem?_eq_getElem (X.inv.lay.lt i him)⟩
    obtain ⟨c, hc⟩ : ∃ c : Nat, x.cell = (c : Int) := by
     unfold flB at e
     rw [hx] at e
     dsimp only at e
     split at e
     ·
      exact ⟨x.cell.toNat, by omega⟩
     ·
      cases e
    obtain ⟨w, w1, w2⟩ := X.two i him x c hx hc
    rw [flB_eq hx hc, wd_eq w1] at e
    have e : w % 4 = 1 := by have e := beq_iff_eq.mp e; omega
    have ew : w = 4 * (w / 4) + 1 := by omega
    rw [ew] at w1
    have hb := ho i List.mem_cons_self x c (w / 4) hx hc w1
    obtain ⟨s, t, rfl⟩ := List.append_of_mem hb
    have := ih hnd.2 (fun q hq => hm q (List.mem_cons_of_mem _ hq)) (s ++ t) (fun q hq x' c' b' hx' hc' hw' => by
     have hb' := ho q (List.mem_cons_of_mem _ hq) x' c' b' hx' hc' hw'
     rw [List.mem_append, List.mem_cons] at hb'
     rw [List.mem_append]
     rcases hb' with u | u | u
     ·
      exact .inl u
     ·
      exfalso
      obtain ⟨_, z, d, g2, g3, g4, g5⟩ := X.flg i him x c (4 * (w / 4) + 1) hx hc w1 (by omega)
      have e1 : (4 * (w / 4) + 1) / 4 = b' := by omega
      rw [e1] at g2
      have := fl_node X g2 g3 (hm q (List.mem_cons_of_mem _ hq)) hx' hc' hw'
      rw [this, g4] at hq
      exact hnd.1 hq
     ·
      exact .inr u)
    simp only [List.length_append, List.length_cons] at this ⊢
    simp
    omega
 exact key _ hn (fun _ h => h) os (fun i hi x c b hx hc hw => h b ⟨i, hi, x, c, hx, hc, hw⟩)
theorem count_inn {N : List Tbst_node} {K : List Int} : ∀ {t : BT}, Lay N K t → t.ids.countP (flB N K) ≤ t.inn
 | .lf i, h => by
  obtain ⟨x, h1, h2⟩ := h
  rw [BT.ids, List.countP_cons, flB_leaf h1 h2]
  simp
 | .nd i l r, h => by
  obtain ⟨x, c, w, h1, h2, h3, h4, h5, h6, h7, h8, h9, h10⟩ := h
  have hl := count_inn h9
  have hr := count_inn h10
  rw [BT.ids, List.countP_cons, List.countP_append, BT.inn]
  split <;> omega
theorem nfl_inn (X : CX T M l r ks j) : nfl T.nodes M.cells (.nd 0 l r) ≤ (BT.nd 0 l r).inn := count_inn X.inv.lay
end
def StOK (T : Obst_Tree) (M : Omem_Mem) (l r : BT) (ks : List Tbst_node) (j : Nat) (kn0 : Tbst_node) (held : Option Nat) (x : Clo) (res : Option Rsl) : Prop :=
 ∃ o T' M' C' l' ks' held' j', res = some (o, T', M', C') ∧ CX T' M' l' r ks' j' ∧ Stab T M l r ks T' M' l' ks' held ∧ PI T' M' (.nd 0 l' r) ks' kn0 held' C' o ∧ (held' = none ∨ held' = held ∨ held' = some T.infos.length) ∧ Cn M M' ∧ Ni T T' ks kn0 ∧ FlS T M.cells (.nd 0 l r) x T' M'.cells (.nd 0 l' r) o ∧ j ≤ j' ∧ j' ≤ j + 1 ∧
  ∀ ρ Q, Rk T M (.nd 0 l r) kn0 (some x) ρ Q → ∃ ρ' Q', Rk T' M' (.nd 0 l' r) kn0 o ρ' Q' ∧ ρ' < ρ ∧ j' + Q' ≤ j + Q
section
variable {T : Obst_Tree} {M : Omem_Mem} {l r : BT} {ks : List Tbst_node} {j n : Nat} {kn0 : Tbst_node} {C : Obst_Call} {held : Option Nat}
theorem StOK.same {M' : Omem_Mem} {o : Option Clo} {C' : Obst_Call} (X : CX T M l r ks j) (h : M'.cells = M.cells) (hc : Cn M M') (p : PI T M' (.nd 0 l r) ks kn0 none C' o) {x : Clo} (hR : ∀ ρ Q, Rk T M (.nd 0 l r) kn0 (some x) ρ Q → ∃ ρ' Q', Rk T M' (.nd 0 l r) kn0 o ρ' Q' ∧ ρ' < ρ ∧ Q' ≤ Q) (hO : ∀ a : Nat, Fl T M.cells (.nd 0 l r) a → ownOf (some x) = some (a : Int) → ownOf o = some (a : Int) := by intro _ _ h; cases h) : StOK T M l r ks j kn0 held x (some (o, T, M', C')) :=
 ⟨o, T, M', C', l, ks, none, j, rfl, X.cells h, .same X h, p, .inl rfl, hc, .inl rfl, (fun a f => by
  have f : Fl T M.cells (.nd 0 l r) a := by rw [h] at f; exact f
  by_cases q : ownOf (some x) = some (a : Int)
  ·
   exact .inr (hO a f q)
  ·
   exact .inl ⟨f, q⟩), Nat.le_refl _, by omega, fun ρ Q hr => by
  obtain ⟨ρ', Q', g1, g2, g3⟩ := hR ρ Q hr
  exact ⟨ρ', Q', g1, g2, by omega⟩⟩
theorem cn_tick : Cn M (tick M) := .inr rfl
theorem low_kn {x k : Tbst_node} {L : Nat} (h : k.top = 0) : lowOf x (knOf k) L = lowOf x k L ∧ highOf x (knOf k) L = highOf x k L := by
 have : lessN x (knOf k) = lessN x k := lessN_congr rfl rfl rfl h.symm
 unfold lowOf highOf
 rw [this]
 exact ⟨rfl, rfl⟩
theorem turn_pi {y : Tbst_info} {a : Nat} {d : ID} {th : Clo} (hd : InfD T.nodes y d) : (Clo.c_turn_1 y.parent y.next y.leaf (.c_grows_1 y (a : Int) th)) = .c_turn_1 d.p ((d.L + 2 : Nat) : Int) d.lf (.c_grows_1 y a th) := by
 rw [hd.hp, hd.hn, hd.hl]
theorem pi_down {s : Tbst_seen} {i : Nat} (X : CX T M l r ks j) (on : OnP T.nodes (.nd 0 l r) kn0 i) (hp : s.parent = (i : Int)) (he : C.told_Err = 0) : StOK T M l r ks j kn0 none (.c_down_1 s kn0 (ins2 kn0)) (F_step (n + 1) T M C (.c_down_1 s kn0 (ins2 kn0)) .u) := by
 have hm := on.mem
 obtain ⟨a, b, tn, h⟩ := on
 obtain ⟨y, c, w, h1, h2, h3, h4, h5, h6, h7, h8, h9, h10⟩ := h.lay X.inv.lay
 rw [step_word hp h1 h2 h3 h4]
 have P : PI T (tick M) (.nd 0 l r) ks kn0 none C (some (.c_down_1_1 ⟨s.grand, s.parent, s.leaf, s.grandWord, (w : Int), s.turn⟩ kn0 (ins2 kn0))) := .side (w := w) ⟨a, b, tn, h⟩ hp h1 h2 rfl (seen_now (X.cells (M' := tick M) rfl) hm h1 h2 h4) he
 refine .same (M' := tick M) X rfl cn_tick P (fun ρ Q hr => ?_)
 cases hr with
 | down h' hp' =>
  rename_i i' a' b' tn'
  obtain rfl : i' = i := by rw [hp] at hp'; omega
  exact ⟨_, _, .side (st := 0) (w := w) h' hp h1 h2 rfl (by omega) (fun _ => h4), by show 100000 * (2 * nfl T.nodes M.cells _ + 0) + _ + _ < _; omega, by show 4 * (2 * nfl T.nodes M.cells _ + 0) + 3 ≤ _; omega⟩
theorem pi_side {s : Tbst_seen} {i c w : Nat} {xp : Tbst_node} (X : CX T M l r ks j) (hj : j ≤ 20000) (hk : kn0.top = 0) (on : OnP T.nodes (.nd 0 l r) kn0 i) (hp : s.parent = (i : Int)) (np : T.nodes[i]? = some xp) (hc : xp.cell = (c : Int)) (sw : s.parentWord = (w : Int)) (sn : Seen T M ks i c w) (he : C.told_Err = 0) :
 StOK T M l r ks j kn0 none (.c_down_1_1 s kn0 (ins2 kn0)) (F_step (n + 2) T M C (.c_down_1_1 s kn0 (ins2 kn0)) .u) := by
 have I := X.inv
 have b1 := I.b1
 have b2 := I.b2
 have b3 := I.b3
 have hm := on.mem
 have on0 := on
 obtain ⟨a, b, tn, h⟩ := on
 obtain ⟨y, c', w', h1, h2, h3, h4, h5, h6, h7, h8, h9, h10⟩ := h.lay I.lay
 rw [np] at h1
 cases h1
 have : c' = c := by rw [hc] at h2; omega
 subst this
 obtain ⟨d1, d2⟩ := h.child
 rw [nk_eq np] at d1 d2
 obtain ⟨u, tn', hch, hL, hA⟩ : ∃ (u : BT) (tn' : Int), M.cells[c' + (if lessN kn0 xp = true then 1 else 2)]? = some ((u.root : Nat) : Int) ∧ Lay T.nodes M.cells u ∧ Atk T.nodes kn0 (.nd 0 l r) (-1) u tn' := by
  cases e : lessN kn0 xp with
  | true => exact ⟨a, i, h7, h9, d1 e⟩
  | false => exact ⟨b, tn, h8, h10, d2 e⟩
 have hul : u.root < T.nodes.length := hL.lt _ u.root_mem
 rw [step_child (j := u.root) hp np hc h3 (by omega) hch]
 cases u with
 | nd i2 a2 b2 =>
  obtain ⟨z, c2, w2, g1, g2, _⟩ := hL
  rw [down_nd (i := i2) rfl g1 (by omega)]
  have P : PI T (tick M) (.nd 0 l r) ks kn0 none C (some (.c_down_1 ⟨s.parent, (i2 : Int), (i2 : Int), s.parentWord, s.parentWord, if lessN kn0 xp = true then (i : Int) else s.turn⟩ kn0 (ins2 kn0))) := .down (i := i2) ⟨a2, b2, tn', hA⟩ rfl he
  refine .same (M' := tick M) X rfl cn_tick P (fun ρ Q hr => ?_)
  cases hr with
  | side h' hp' np' hc' sw' q1 q0 =>
   rename_i i' c2' w2' st xp' a' b' tn2
   obtain rfl : i' = i := by rw [hp] at hp'; omega
   obtain ⟨u', tn3, u1, u2, u3, u4⟩ := child_of h' I.lay np hc hch
   obtain ⟨a3, b3', rfl⟩ := inner_of u1 u2 g1 (by omega)
   simp only [BT.inn] at u4
   exact ⟨_, _, .down (i := i2) u3 rfl, by show 100000 * (2 * nfl T.nodes M.cells _) + _ + 20 < _; omega, by show 4 * (2 * nfl T.nodes M.cells _) + 3 ≤ _; omega⟩
 | lf i2 =>
  obtain ⟨z, g1, g2⟩ := hL
  rw [down_lf (i := i2) rfl g1 g2]
  obtain ⟨lf1, _⟩ := onp_leaf np hc hch g1 g2 h I.lay
  obtain ⟨z', k1, k2, k3, k4⟩ := I.cases hk
  rw [show leafOf T.nodes kn0 (.nd 0 l r) = i2 from lf1, g1] at k1
  cases k1
  rcases k4 with ⟨k5, k6, k7⟩ | ⟨k5, k6⟩
  ·
   rw [ins_there (i := i2) rfl g1 k5]
   have P : PI T (tick M) (.nd 0 l r) ks kn0 none ⟨false, C.told_Key, z.val, C.told_Err⟩ none := .done k6 k7 rfl he
   exact .same (M' := tick M) X rfl cn_tick P (fun ρ Q hr => ⟨0, 0, .done, by cases hr; omega, by omega⟩)
  ·
   have wl := sn.lt
   rcases (by have := sn.two; omega : w % 4 = 0 ∨ w % 4 = 1) with w0 | w1
   ·
    rw [ins_grow (s := ⟨s.grand, s.parent, ((BT.lf i2).root : Int), s.grandWord, s.parentWord, if lessN kn0 xp = true then (i : Int) else s.turn⟩) (i := i2) (p := i) (w := w) rfl hp g1 k5 sw w0 (by omega) (by simp only [tick]; omega) (by omega) (by omega)]
    obtain ⟨A1, A2, A3, A4⟩ := alloc_op (own := none) (cnt := (tick M).count) X (by omega) hk on0 np hc g1 g2 k5 sn w0 hch
    refine ⟨_, _, _, _, l, ks, some T.infos.length, j + 1, rfl, A1, A2, ?_, .inr (.inr rfl), cn_tick, .inr ⟨k6, _, growD T M kn0 z xp i i2 c', rfl, ?_, rfl, by omega⟩, (fun a f => ?_), by omega, by omega, fun ρ Q hr => ?_⟩
    obtain ⟨e1, e2⟩ := low_kn (x := z) (L := T.nodes.length) hk
    rotate_left
    ·
     obtain ⟨y0, hy0, hd0⟩ := A3.at_
     have : y0 = ⟨0, (i : Int), (i2 : Int), ((T.nodes.length + 2 : Nat) : Int), 0⟩ := by
      have h : (T.infos ++ [(⟨0, (i : Int), (i2 : Int), ((T.nodes.length + 2 : Nat) : Int), 0⟩ : Tbst_info)])[T.infos.length]? = some y0 := hy0
      simpa using h.symm
     rw [← this]; exact hd0
    ·
     refine .inl ⟨f.back A2.ne I.lay.lt (fun i0 hi0 x0 c0 hx0 hc0 => List.getElem?_append_left (by have := I.dis.room i0 x0 c0 hx0 hc0; omega)), fun h => by cases h⟩
    ·
     cases hr with
     | side h' hp' np' hc' sw' q1 q0 =>
      rename_i i' c2' w2' st xp' a' b' tn2
      obtain rfl : i' = i := by rw [hp] at hp'; omega
      rw [np] at np'
      cases np'
      obtain rfl : c2' = c' := by rw [hc] at hc'; omega
      obtain rfl : w2' = w := by rw [sw] at sw'; omega
      obtain ⟨y0, hy0, hd0⟩ := A3.at_
      have hlt := I.lay.lt
      have hF := nfl_ext (K' := M.cells ++ [0, 0, 0]) (K := M.cells) A2.ne hlt (fun i0 hi0 x0 c0 hx0 hc0 => List.getElem?_append_left (by have := I.dis.room i0 x0 c0 hx0 hc0; omega))
      have hrm := I.dis.room i' xp c2' np hc
      exact ⟨_, _, .g1 (st := st) (w := w2') hy0 hd0 sw q1 (fun q => by show (M.cells ++ [0, 0, 0])[c2']? = _; rw [List.getElem?_append_left (by omega)]; exact q0 q), Nat.lt_of_le_of_lt (Nat.add_le_add_right (Nat.mul_le_mul_left 100000 (Nat.add_le_add_right (Nat.mul_le_mul_left 2 hF) st)) 15) (by omega), Nat.le_trans (Nat.add_le_add_left (Nat.add_le_add_right (Nat.mul_le_mul_left 4 (Nat.add_le_add_right (Nat.mul_le_mul_left 2 hF) st)) 2) (j + 1)) (by omega)⟩
    have := PI.g1 (kn0 := kn0) (ks := ks) (C := C) (s := ⟨s.grand, s.parent, ((BT.lf i2).root : Int), s.grandWord, s.parentWord, if lessN kn0 xp = true then (i : Int) else s.turn⟩) A3 A4 rfl hp sw he
    rw [show (growD T M kn0 z xp i i2 c').x = z from rfl, show (growD T M kn0 z xp i i2 c').kn = knOf kn0 from rfl, show (growD T M kn0 z xp i i2 c').L = T.nodes.length from rfl, e1, e2] at this
    exact this
   ·
    obtain ⟨q1, y, d, q2, q3, q4, q5⟩ := sn.flg w1
    rw [ins_help (s := ⟨s.grand, s.parent, ((BT.lf i2).root : Int), s.grandWord, s.parentWord, if lessN kn0 xp = true then (i : Int) else s.turn⟩) (i := i2) (w := w) rfl g1 k5 sw w1 (by omega), help_flag (by omega) w1 q2, turn_pi q3]
    have P : PI T (tick M) (.nd 0 l r) ks kn0 none C (some (.c_turn_1 d.p ((d.L + 2 : Nat) : Int) d.lf (.c_grows_1 y ((w / 4 : Nat) : Int) (.c_insert_1 kn0)))) := .turn q1 q2 q3 (by rw [q4]; exact hm) q5 .ins he
    refine .same (M' := tick M) X rfl cn_tick P (fun ρ Q hr => ?_)
    cases hr with
    | side h' hp' np' hc' sw' r1 r0 =>
     rename_i i' c2' w2' st xp' a' b' tn2
     obtain rfl : i' = i := by rw [hp] at hp'; omega
     rw [np] at np'
     cases np'
     obtain rfl : c2' = c' := by rw [hc] at hc'; omega
     obtain rfl : w2' = w := by rw [sw] at sw'; omega
     have ec : d.cp = c2' := by
      have h1 := q3.np; have h2 := q3.cpe
      rw [q4, np] at h1
      cases h1
      omega
     exact ⟨_, _, .helpT (st := st) q2 q3 (.inl rfl) r1 (fun q => by rw [ec, show 4 * (w2' / 4) + 1 = w2' by omega]; exact r0 q), by show 100000 * (2 * nfl T.nodes M.cells _ + st) + 12 < _; omega, by show 4 * (2 * nfl T.nodes M.cells _ + st) + 2 ≤ _; omega⟩
theorem pi_g1 {s : Tbst_seen} {b w : Nat} {d : ID} (X : CX T M l r ks j) (hj : j ≤ 20000) (m : New T M (.nd 0 l r) b d) (se : Sees M.cells b d w) (hk : d.kn = knOf kn0) (hp : s.parent = (d.p : Int)) (sw : s.parentWord = (w : Int)) (he : C.told_Err = 0) :
 StOK T M l r ks j kn0 (some b) (.c_grow_1 d.c (lowOf d.x d.kn d.L : Nat) (highOf d.x d.kn d.L : Nat) s b kn0) (F_step (n + 1) T M C (.c_grow_1 d.c (lowOf d.x d.kn d.L : Nat) (highOf d.x d.kn d.L : Nat) s b kn0) .u) := by
 obtain ⟨y, hy, hd⟩ := m.at_
 have b1 := X.inv.b1
 have b3 := X.inv.b3
 have hr := X.inv.dis.room _ _ _ hd.n2 (innOf_cell _ _ _)
 have hL := (List.getElem?_eq_some_iff.mp hd.n2).1
 have lb : lowOf d.x d.kn d.L ≤ d.L + 1 := by unfold lowOf; split <;> omega
 rw [st_grow1 hr (by omega) (by omega)]
 obtain ⟨S1, S2, S3⟩ := store_op X m (s := 1) (by omega) (by omega) ((lowOf d.x d.kn d.L : Nat) : Int) (IntKind.i64.wrap (M.count + 1))
 exact ⟨_, _, _, _, l, ks, some b, j, rfl, S1, S2, .g2 S3 (se.stab S2 m) hk hp sw (gs_eq (by omega)) he, .inr (.inl rfl), .inr rfl, .inl rfl, (fun a f => .inl ⟨f.away (fun i hi x c hx hc => gs_ne (Ne.symm (cell_ne X.inv.dis (z := 0) (z' := 1) hx hc hd.n2 (innOf_cell _ _ _) (by omega) (by omega) (.inr (by omega))))), fun h => by cases h⟩), Nat.le_refl _, by omega, fun ρ Q hr => by
  have away : ∀ i ∈ (BT.nd 0 l r).ids, ∀ (x : Tbst_node) (c : Nat), T.nodes[i]? = some x → x.cell = (c : Int) → (M.cells.set (d.c + 1) ((lowOf d.x d.kn d.L : Nat) : Int))[c]? = M.cells[c]? := fun i hi x c hx hc => by
   have q := cell_ne X.inv.dis (z := 0) (z' := 1) hx hc hd.n2 (innOf_cell _ _ _) (by omega) (by omega) (.inr (by omega))
   exact gs_ne (Ne.symm q)
  have hF := nfl_away (N := T.nodes) away
  cases hr with
  | g1 hy' hd' sw' q1 q0 =>
   rename_i w' st y' d'
   rw [hy] at hy'
   cases hy'
   obtain rfl := hd'.uniq hd
   refine ⟨_, _, .g2 (st := st) (w := w') hy hd sw' q1 (fun q => (away d'.p m.on.mem _ _ hd.np hd.cpe).trans (q0 q)), Nat.lt_of_le_of_lt (Nat.add_le_add_right (Nat.mul_le_mul_left 100000 (Nat.add_le_add_right (Nat.mul_le_mul_left 2 hF) st)) 14) (by omega), Nat.add_le_add_left (Nat.add_le_add_right (Nat.mul_le_mul_left 4 (Nat.add_le_add_right (Nat.mul_le_mul_left 2 hF) st)) 2) j⟩⟩
theorem pi_g2 {s : Tbst_seen} {b w : Nat} {d : ID} (X : CX T M l r ks j) (hj : j ≤ 20000) (m : New T M (.nd 0 l r) b d) (se : Sees M.cells b d w) (hk : d.kn = knOf kn0) (hp : s.parent = (d.p : Int)) (sw : s.parentWord = (w : Int)) (lo : M.cells[d.c + 1]? = some ((lowOf d.x d.kn d.L : Nat) : Int)) (he : C.told_Err = 0) :
 StOK T M l r ks j kn0 (some b) (.c_grow_1_1 d.c (highOf d.x d.kn d.L : Nat) s b kn0) (F_step (n + 1) T M C (.c_grow_1_1 d.c (highOf d.x d.kn d.L : Nat) s b kn0) .u) := by
 obtain ⟨y, hy, hd⟩ := m.at_
 have b1 := X.inv.b1
 have b3 := X.inv.b3
 have hr := X.inv.dis.room _ _ _ hd.n2 (innOf_cell _ _ _)
 have hL := (List.getElem?_eq_some_iff.mp hd.n2).1
 have lb : highOf d.x d.kn d.L ≤ d.L + 1 := by unfold highOf; split <;> omega
 rw [st_grow2 hr (by omega) (by omega)]
 obtain ⟨S1, S2, S3⟩ := store_op X m (s := 2) (by omega) (by omega) ((highOf d.x d.kn d.L : Nat) : Int) (IntKind.i64.wrap (M.count + 1))
 exact ⟨_, _, _, _, l, ks, some b, j, rfl, S1, S2, .g3 S3 (se.stab S2 m) hk hp sw (by show (M.cells.set (d.c + 2) _)[d.c + 1]? = _; rw [gs_ne (by omega)]; exact lo) (gs_eq (by omega)) he, .inr (.inl rfl), .inr rfl, .inl rfl, (fun a f => .inl ⟨f.away (fun i hi x c hx hc => gs_ne (Ne.symm (cell_ne X.inv.dis (z := 0) (z' := 2) hx hc hd.n2 (innOf_cell _ _ _) (by omega) (by omega) (.inr (by omega))))), fun h => by cases h⟩), Nat.le_refl _, by omega, fun ρ Q hr => by
  have away : ∀ i ∈ (BT.nd 0 l r).ids, ∀ (x : Tbst_node) (c : Nat), T.nodes[i]? = some x → x.cell = (c : Int) → (M.cells.set (d.c + 2) ((highOf d.x d.kn d.L : Nat) : Int))[c]? = M.cells[c]? := fun i hi x c hx hc => by
   have q := cell_ne X.inv.dis (z := 0) (z' := 2) hx hc hd.n2 (innOf_cell _ _ _) (by omega) (by omega) (.inr (by omega))
   exact gs_ne (Ne.symm q)
  have hF := nfl_away (N := T.nodes) away
  cases hr with
  | g2 hy' hd' sw' q1 q0 =>
   rename_i w' st y' d'
   rw [hy] at hy'
   cases hy'
   obtain rfl := hd'.uniq hd
   refine ⟨_, _, .g3 (st := st) (w := w') hy hd sw' q1 (fun q => (away d'.p m.on.mem _ _ hd.np hd.cpe).trans (q0 q)), Nat.lt_of_le_of_lt (Nat.add_le_add_right (Nat.mul_le_mul_left 100000 (Nat.add_le_add_right (Nat.mul_le_mul_left 2 hF) st)) 13) (by omega), Nat.add_le_add_left (Nat.add_le_add_right (Nat.mul_le_mul_left 4 (Nat.add_le_add_right (Nat.mul_le_mul_left 2 hF) st)) 2) j⟩⟩
theorem pi_g3 {s : Tbst_seen} {b w : Nat} {d : ID} (X : CX T M l r ks j) (hj : j ≤ 20000) (m : New T M (.nd 0 l r) b d) (se : Sees M.cells b d w) (hk : d.kn = knOf kn0) (hp : s.parent = (d.p : Int)) (sw : s.parentWord = (w : Int)) (lo : M.cells[d.c + 1]? = some ((lowOf d.x d.kn d.L : Nat) : Int)) (hi : M.cells[d.c + 2]? = some ((highOf d.x d.kn d.L : Nat) : Int)) (he : C.told_Err = 0) :
 StOK T M l r ks j kn0 (some b) (.c_grow_1_1_1 s b kn0) (F_step (n + 2) T M C (.c_grow_1_1_1 s b kn0) .u) := by
 obtain ⟨y, hy, hd⟩ := m.at_
 have b1 := X.inv.b1
 have b2 := X.inv.b2
 have b3 := X.inv.b3
 have hb := (List.getElem?_eq_some_iff.mp hy).1
 have hr := X.inv.dis.room _ _ _ hd.np hd.cpe
 obtain ⟨w', v1, v2⟩ := X.two d.p m.on.mem d.xp d.cp hd.np hd.cpe
 have v3 := X.wrd d.p m.on.mem d.xp d.cp w' hd.np hd.cpe v1
 have stale : ∀ ρ Q, Rk T M (.nd 0 l r) kn0 (some (.c_grow_1_1_1 s b kn0)) ρ Q → ∃ st, st ≤ 1 ∧ (st = 0 → w' = w) ∧ ρ = 100000 * (2 * nfl T.nodes M.cells (.nd 0 l r) + st) + 13 ∧ Q = 4 * (2 * nfl T.nodes M.cells (.nd 0 l r) + st) + 2 := fun ρ Q hr => by
  cases hr with
  | g3 hy' hd' sw' q1 q0 =>
   rename_i w2 st y' d'
   rw [hy] at hy'
   cases hy'
   obtain rfl := hd'.uniq hd
   obtain rfl : w2 = w := by rw [sw] at sw'; omega
   exact ⟨st, q1, fun e => by have := q0 e; rw [v1] at this; have := Option.some.inj this; omega, rfl, rfl⟩
 by_cases q : w' = w
 ·
  subst q
  rw [st_grow3 (n := n + 1) hp hd.np hd.cpe (by omega) v1 sw hy (by omega) hd.hp hd.hl hd.hn]
  obtain ⟨F1, F2⟩ := flag_op X m se v1 lo hi (by omega) (IntKind.i64.wrap (M.count + 1))
  exact ⟨_, _, _, _, l, ks, none, j, rfl, F1, F2, .turn m.one hy hd m.on.mem (.inl (gs_eq (by omega))) (.own hk) he, .inl rfl, .inr rfl, .inl rfl, (fun a f => by
   rcases fl_flag X hd f with w | w
   ·
    exact .inl ⟨w, fun h => by cases h⟩
   ·
    right; rw [w]; rfl), Nat.le_refl _, by omega, fun ρ Q hr => by
   obtain ⟨st, _, _, e1, e2⟩ := stale ρ Q hr
   exact ⟨2, 1, .ownT, by omega, by omega⟩⟩
 ·
  rw [flag_fail (n := n + 1) hp hd.np hd.cpe (by omega) v1 sw q (by omega)]
  rcases (by omega : w' % 4 = 0 ∨ w' % 4 = 1) with w0 | w1
  ·
   rw [help_clean (by omega) w0]
   have : F_step (n + 1) T (tick M) C (.c_grow_1_1_1_1 kn0) .u = some (some (.c_down_1 ⟨0, 0, 0, 0, 0, -1⟩ kn0 (ins2 kn0)), T, tick M, C) := by
    show F_bst_Tree_grow_1_1_1_1 (F_step n) T (tick M) C kn0 = _
    unfold F_bst_Tree_grow_1_1_1_1
    rw [ins_root (X.cells (M' := tick M) rfl).inv]; rfl
   rw [this]
   have P : PI T (tick M) (.nd 0 l r) ks kn0 none C (some (.c_down_1 ⟨0, 0, 0, 0, 0, -1⟩ kn0 (ins2 kn0))) := .down onp0 rfl he
   refine .same (M' := tick M) X rfl cn_tick P (fun ρ Q hr => ?_)
   obtain ⟨st, g1, g2, e1, e2⟩ := stale ρ Q hr
   have bi := X.inv.bi
   simp only [BT.inn] at bi
   have : st = 1 := by
    rcases Nat.eq_zero_or_pos st with h | h
    ·
     exact absurd (g2 h) q
    ·
     omega
   exact ⟨_, _, .down (i := 0) (a := l) (b := r) .here rfl, by show 100000 * (2 * nfl T.nodes M.cells _) + _ + 20 < _; omega, by show 4 * (2 * nfl T.nodes M.cells _) + 3 ≤ _; omega⟩
  ·
   obtain ⟨q1, y2, d2, q2, q3, q4, q5⟩ := (seen_now (X.cells (M' := tick M) rfl) m.on.mem hd.np hd.cpe v1).flg w1
   rw [help_flag (by omega) w1 q2, turn_pi q3]
   have P : PI T (tick M) (.nd 0 l r) ks kn0 none C (some (.c_turn_1 d2.p ((d2.L + 2 : Nat) : Int) d2.lf (.c_grows_1 y2 ((w' / 4 : Nat) : Int) (.c_grow_1_1_1_1 kn0)))) := .turn q1 q2 q3 (by rw [q4]; exact m.on.mem) q5 .gro he
   refine .same (M' := tick M) X rfl cn_tick P (fun ρ Q hr => ?_)
   obtain ⟨st, g1, g2, e1, e2⟩ := stale ρ Q hr
   have ec : d2.cp = d.cp := by
    have h1 := q3.np; have h2 := q3.cpe; have h3 := hd.cpe
    rw [q4, hd.np] at h1
    have e := Option.some.inj h1
    rw [← e, h3] at h2
    omega
   exact ⟨_, _, .helpT (st := 0) q2 q3 (.inr rfl) (by omega) (fun _ => by rw [ec, show 4 * (w' / 4) + 1 = w' by omega]; exact v1), by show 100000 * (2 * nfl T.nodes M.cells _ + 0) + 12 < _; omega, by show 4 * (2 * nfl T.nodes M.cells _ + 0) + 2 ≤ _; omega⟩
end
section
variable {T : Obst_Tree} {M : Omem_Mem} {l r : BT} {ks : List Tbst_node} {j n : Nat} {kn0 : Tbst_node} {C : Obst_Call} {held : Option Nat}
theorem pi_turn {y : Tbst_info} {a : Nat} {d : ID} {th : Clo} (X : CX T M l r ks j) (hj : j ≤ 20000) (ha : 1 ≤ a) (hy : T.infos[a]? = some y) (hd : InfD T.nodes y d) (hm : d.p ∈ (BT.nd 0 l r).ids) (pb : Pb T M ks a d) (ht : ThI kn0 d th) (he : C.told_Err = 0) :
 StOK T M l r ks j kn0 none (.c_turn_1 d.p ((d.L + 2 : Nat) : Int) d.lf (.c_grows_1 y a th)) (F_step (n + 2) T M C (.c_turn_1 d.p ((d.L + 2 : Nat) : Int) d.lf (.c_grows_1 y a th)) .u) := by
 have I := X.inv
 have b1 := I.b1
 have b3 := I.b3
 have hr := I.dis.room _ _ _ hd.np hd.cpe
 have hdn := dn_pos (lessN d.kn d.xp)
 have hl1 := (List.getElem?_eq_some_iff.mp hd.nl).1
 have hl2 := (List.getElem?_eq_some_iff.mp hd.n2).1
 have hat : d.at_ < M.cells.length := by unfold ID.at_; omega
 have hv : M.cells[d.cp + (if lessN (innOf d.x d.kn d.c) d.xp = true then 1 else 2)]? = some M.cells[d.at_] := by
  rw [hd.sd]
  exact List.getElem?_eq_getElem hat
 have fin : ∀ (M' : Omem_Mem), F_step (n + 1) T M' C (.c_grows_1 y a th) .u = some (some (.c_clean_1 d.p 1 a th), T, M', C) := fun M' => by
  rw [st_grows1, hd.hp]
 by_cases q : M.cells[d.at_] = (d.lf : Int)
 ·
  have hch : M.cells[d.at_]? = some (d.lf : Int) := by rw [List.getElem?_eq_getElem hat, q]
  have hw : M.cells[d.cp]? = some ((4 * a + 1 : Nat) : Int) := by
   rcases pb with w | w
   ·
    exact w
   ·
    obtain ⟨v, v1, v2⟩ := w.ch
    rw [hch] at v1
    exact absurd (Option.some.inj v1).symm v2
  rw [st_turn (n := n + 1) hd.np hd.cpe (by omega) hd.n2 (by omega) (by omega) (by rw [hv, q]), fin]
  obtain ⟨l', ks', el, hU, A1, A2, A3⟩ := turn_cx (own := none) X ha hy hd hm hw hch (by omega) (IntKind.i64.wrap (M.count + 1))
  have e : setc M (d.cp + (if lessN (innOf d.x d.kn d.c) d.xp = true then 1 else 2)) ((d.L + 2 : Nat) : Int) = ⟨M.cells.set d.at_ ((d.L + 2 : Nat) : Int), IntKind.i64.wrap (M.count + 1)⟩ := by
   rw [hd.sd]; rfl
  rw [e]
  refine ⟨_, _, _, _, l', ks', none, j + 1, rfl, A1, A2, .clean ha hy hd (mem_stab I A2 hd.np hd.cpe hm) A3 ht he, .inl rfl, .inr rfl, .inl rfl, (fun b f => ?_), by omega, Nat.le_refl _, fun ρ Q hr => ?_⟩
  ·
   subst el
   have f := fl_turn I hd hU.w _ hd.kt f
   by_cases q : ownOf (some (.c_turn_1 d.p ((d.L + 2 : Nat) : Int) d.lf (.c_grows_1 y a th))) = some (b : Int)
   ·
    right
    cases ht with
    | own h => exact q
    | ins => cases q
    | gro => cases q
   ·
    exact .inl ⟨f, q⟩
  subst el
  have hF := nfl_turn (y := y) I hd hU.w ((d.L + 2 : Nat) : Int) hd.kt
  cases hr with
  | ownT => exact ⟨1, 0, .ownC, by omega, by omega⟩
  | helpT hy' hd' ht' q1 q0 =>
   rename_i st d'
   rw [hy] at hy'
   cases hy'
   obtain rfl := hd'.uniq hd
   have hdn' := dn_pos (lessN d'.kn d'.xp)
   refine ⟨_, _, .helpC (st := st) hy hd ht' q1 (fun q => by show (M.cells.set d'.at_ _)[d'.cp]? = _; rw [gs_ne (by unfold ID.at_; omega)]; exact q0 q), Nat.lt_of_le_of_lt (Nat.add_le_add_right (Nat.mul_le_mul_left 100000 (Nat.add_le_add_right (Nat.mul_le_mul_left 2 hF) st)) 11) (by omega), Nat.le_trans (Nat.add_le_add_left (Nat.add_le_add_right (Nat.mul_le_mul_left 4 (Nat.add_le_add_right (Nat.mul_le_mul_left 2 hF) st)) 1) (j + 1)) (by omega)⟩
 ·
  have D : Dne M.cells ks d := by
   rcases pb with w | w
   ·
    obtain ⟨_, z, e, g2, g3, g4, g5⟩ := X.flg d.p hm d.xp d.cp (4 * a + 1) hd.np hd.cpe w (by omega)
    have : (4 * a + 1) / 4 = a := by omega
    rw [this, hy] at g2
    cases g2
    obtain rfl := hd.uniq g3
    rcases g5 with u | u
    ·
     have := (turn_op I (by omega) hd u 0).1
     have h2 : M.cells[d.at_]? = some (d.lf : Int) := this
     rw [List.getElem?_eq_getElem hat] at h2
     exact absurd (Option.some.inj h2) q
    ·
     exact u
   ·
    exact w
  rw [turn_fail (n := n + 1) hd.np hd.cpe (by omega) hd.n2 (by omega) (by omega) hv q, fin]
  have P : PI T (tick M) (.nd 0 l r) ks kn0 none C (some (.c_clean_1 d.p 1 a th)) := .clean ha hy hd hm D ht he
  refine .same (M' := tick M) X rfl cn_tick P (fun ρ Q hr => ?_) (fun b _ q => by
   cases ht with
   | own h => exact q
   | ins => cases q
   | gro => cases q)
  cases hr with
  | ownT => exact ⟨1, 0, .ownC, by omega, by omega⟩
  | helpT hy' hd' ht' q1 q0 =>
   rename_i st d'
   rw [hy] at hy'
   cases hy'
   obtain rfl := hd'.uniq hd
   exact ⟨_, _, .helpC (st := st) hy hd ht' q1 q0, by show 100000 * (2 * nfl T.nodes M.cells _ + st) + 11 < _; omega, by show 4 * (2 * nfl T.nodes M.cells _ + st) + 1 ≤ _; omega⟩
theorem th_root {M1 : Omem_Mem} {th : Clo} (I : BInv T M1 l r ks j) (ht : th = .c_insert_1 kn0 ∨ th = .c_grow_1_1_1_1 kn0) : F_step (n + 1) T M1 C th .u = some (some (.c_down_1 ⟨0, 0, 0, 0, 0, -1⟩ kn0 (ins2 kn0)), T, M1, C) := by
 rcases ht with rfl | rfl
 ·
  show F_bst_Tree_insert_1 (F_step n) T M1 C kn0 = _
  unfold F_bst_Tree_insert_1
  rw [ins_root I]; rfl
 ·
  show F_bst_Tree_grow_1_1_1_1 (F_step n) T M1 C kn0 = _
  unfold F_bst_Tree_grow_1_1_1_1
  rw [ins_root I]; rfl
theorem th_cases {d : ID} {th : Clo} (ht : ThI kn0 d th) : (th = .c_grow_1_1_1_2 kn0 ∧ d.kn = knOf kn0) ∨ (th = .c_insert_1 kn0 ∨ th = .c_grow_1_1_1_1 kn0) := by
 cases ht with
 | own h => exact .inl ⟨rfl, h⟩
 | ins => exact .inr (.inl rfl)
 | gro => exact .inr (.inr rfl)
theorem pi_clean {y : Tbst_info} {a : Nat} {d : ID} {th : Clo} (X : CX T M l r ks j) (hj : j ≤ 20000) (hk : kn0.top = 0) (ha : 1 ≤ a) (hy : T.infos[a]? = some y) (hd : InfD T.nodes y d) (hm : d.p ∈ (BT.nd 0 l r).ids) (D : Dne M.cells ks d) (ht : ThI kn0 d th) (he : C.told_Err = 0) :
 StOK T M l r ks j kn0 none (.c_clean_1 d.p 1 a th) (F_step (n + 2) T M C (.c_clean_1 d.p 1 a th) .u) := by
 have I := X.inv
 have b2 := I.b2
 have b3 := I.b3
 have bi := I.bi
 simp only [BT.inn] at bi
 have hr := I.dis.room _ _ _ hd.np hd.cpe
 have hal := (List.getElem?_eq_some_iff.mp hy).1
 obtain ⟨w, v1, v2⟩ := X.two d.p hm d.xp d.cp hd.np hd.cpe
 have rk : ∀ ρ Q, Rk T M (.nd 0 l r) kn0 (some (.c_clean_1 d.p 1 a th)) ρ Q → (th = .c_insert_1 kn0 ∨ th = .c_grow_1_1_1_1 kn0) → ∃ st, st ≤ 1 ∧ (st = 0 → M.cells[d.cp]? = some ((4 * a + 1 : Nat) : Int)) ∧ ρ = 100000 * (2 * nfl T.nodes M.cells (.nd 0 l r) + st) + 11 ∧ Q = 4 * (2 * nfl T.nodes M.cells (.nd 0 l r) + st) + 1 := fun ρ Q hr hth => by
  cases hr with
  | ownC => rcases hth with h | h <;> cases h
  | helpC hy' hd' ht' q1 q0 =>
   rename_i y' st d'
   rw [hy] at hy'
   cases hy'
   obtain rfl := hd'.uniq hd
   exact ⟨st, q1, q0, rfl, rfl⟩
 by_cases q : (w : Int) = ((4 * a + 1 : Nat) : Int)
 ·
  rw [q] at v1
  have e := st_clean (n := n + 1) (C := C) (th := th) (p := d.p) (i := a) (st := 1) hd.np hd.cpe (by omega) (by omega) (by omega) v1
  rw [show ((1 : Nat) : Int) = 1 from rfl] at e
  rw [e]
  obtain ⟨A1, A2⟩ := clean_op (own := none) X ha hy hd hm v1 D (by omega) (IntKind.i64.wrap (M.count + 1))
  have hF := nfl_clean (w' := 4 * a) I hd.np hd.cpe hm v1 (by omega) (by omega)
  rcases th_cases ht with ⟨rfl, h⟩ | h
  ·
   refine ⟨_, _, _, _, l, ks, none, j, st_told, A1, A2, .done D.mem (by rw [h]) (by rw [h]) he, .inl rfl, .inr rfl, .inl rfl, (fun b f => .inl ⟨(fl_clean X hy hd f).1, fun q => (fl_clean X hy hd f).2 (by have := Option.some.inj q; omega)⟩), Nat.le_refl _, by omega, fun ρ Q hr => ⟨0, 0, .done, ?_, by omega⟩⟩
   cases hr with
   | ownC => omega
   | helpC _ _ ht' => rcases ht' with h | h <;> cases h
  ·
   refine ⟨_, _, _, _, l, ks, none, j, th_root A1.inv h, A1, A2, .down onp0 rfl he, .inl rfl, .inr rfl, .inl rfl, (fun b f => .inl ⟨(fl_clean X hy hd f).1, fun q => by rcases h with e | e <;> (rw [e] at q; cases q)⟩), Nat.le_refl _, by omega, fun ρ Q hr => ?_⟩
   obtain ⟨st, g1, g2, e1, e2⟩ := rk ρ Q hr h
   refine ⟨_, _, .down (i := 0) (a := l) (b := r) .here rfl, ?_, ?_⟩
   ·
    show 100000 * (2 * nfl T.nodes (M.cells.set d.cp ((4 * a : Nat) : Int)) _) + _ + 20 < _; omega
   ·
    show j + (4 * (2 * nfl T.nodes (M.cells.set d.cp ((4 * a : Nat) : Int)) _) + 3) ≤ _; omega
 ·
  have e := clean_fail (n := n + 1) (C := C) (th := th) (p := d.p) (i := a) (st := 1) hd.np hd.cpe (by omega) (by omega) (by omega) v1 q
  rw [show ((1 : Nat) : Int) = 1 from rfl] at e
  rw [e]
  rcases th_cases ht with ⟨rfl, h⟩ | h
  ·
   rw [st_told]
   have P : PI T (tick M) (.nd 0 l r) ks kn0 none ⟨true, C.told_Key, kn0.val, C.told_Err⟩ none := .done D.mem (by rw [h]) (by rw [h]) he
   refine .same (M' := tick M) X rfl cn_tick P (fun ρ Q hr => ⟨0, 0, .done, ?_, by omega⟩) (fun b f e => by
    have e := Option.some.inj e
    have e : b = a := by omega
    subst e
    have := fl_at X hy hd f
    rw [v1] at this
    exact absurd (Option.some.inj this) q)
   cases hr with
   | ownC => omega
   | helpC _ _ ht' => rcases ht' with h | h <;> cases h
  ·
   rw [th_root (X.cells (M' := tick M) rfl).inv h]
   have P : PI T (tick M) (.nd 0 l r) ks kn0 none C (some (.c_down_1 ⟨0, 0, 0, 0, 0, -1⟩ kn0 (ins2 kn0))) := .down onp0 rfl he
   refine .same (M' := tick M) X rfl cn_tick P (fun ρ Q hr => ?_) (fun b _ q => by rcases h with e | e <;> (rw [e] at q; cases q))
   obtain ⟨st, g1, g2, e1, e2⟩ := rk ρ Q hr h
   have : st = 1 := by
    rcases Nat.eq_zero_or_pos st with h | h
    ·
     have := g2 h
     rw [v1] at this
     exact absurd (Option.some.inj this) q
    ·
     omega
   refine ⟨_, _, .down (i := 0) (a := l) (b := r) .here rfl, ?_, ?_⟩
   ·
    show 100000 * (2 * nfl T.nodes M.cells _) + _ + 20 < _; omega
   ·
    show 4 * (2 * nfl T.nodes M.cells _) + 3 ≤ _; omega
theorem pi_step {x : Clo} (X : CX T M l r ks j) (hj : j ≤ 20000) (hk : kn0.top = 0) (h : PI T M (.nd 0 l r) ks kn0 held C (some x)) : StOK T M l r ks j kn0 held x (F_step (n + 2) T M C x .u) := by
 generalize ho : (some x : Option Clo) = ox at h
 cases h with
 | down on hp he => cases ho; exact pi_down (n := n + 1) X on hp he
 | side on hp np hc sw sn he => cases ho; exact pi_side X hj hk on hp np hc sw sn he
 | g1 m se h1 hp sw he => cases ho; exact pi_g1 (n := n + 1) X hj m se h1 hp sw he
 | g2 m se h1 hp sw lo he => cases ho; exact pi_g2 (n := n + 1) X hj m se h1 hp sw lo he
 | g3 m se h1 hp sw lo hi he => cases ho; exact pi_g3 X hj m se h1 hp sw lo hi he
 | turn ha hy hd hm pb ht he => cases ho; exact pi_turn X hj ha hy hd hm pb ht he
 | clean ha hy hd hm dn ht he => cases ho; exact pi_clean X hj hk ha hy hd hm dn ht he
 | done => cases ho
end
section
variable {T T' : Obst_Tree} {M M' : Omem_Mem} {l l' r : BT} {ks ks' : List Tbst_node} {j n : Nat} {own out : Option Nat} {C : Obst_Call} {o : Option Clo} {W : List ByteArray} {kb : ByteArray} {m : Nat}
theorem Sk.stab (I : BInv T M l r ks j) (S : Stab T M l r ks T' M' l' ks' own out) (hW : ∀ w ∈ W, ∃ y ∈ ks, y.key = w) (h : Sk T.nodes (.nd 0 l r) ks W kb C o m) : ∃ m', Sk T'.nodes (.nd 0 l' r) ks' W kb C o m' := by
 have hlt := I.lay.lt
 rcases S.gr with ⟨rfl, rfl⟩ | ⟨kn, hk, hg, hks, hnew, _⟩
 ·
  cases h with
  | word h hp ht => exact ⟨_, .word (h.ext S.ne hlt) hp ht⟩
  | child h hp ht => exact ⟨_, .child (h.ext S.ne hlt) hp ht⟩
  | @least q c y lb s B A u p hl hB hq hc => exact ⟨_, .least (p.ext S.ne hlt) hl hB (S.ne _ _ hq) hc⟩
  | found hx ho hk hv h1 h2 => exact ⟨0, .found hx ho hk hv h1 h2⟩
  | none ho h => exact ⟨0, .none ho h⟩
 ·
  refine Sk.grew I hk S.ne hg (fun y hy => (hks y).mpr (.inl hy)) (fun hw => ?_) h
  obtain ⟨y, hy, e⟩ := hW _ hw
  exact hnew y hy e
inductive FI (T : Obst_Tree) (t : BT) (ks : List Tbst_node) (kn0 : Tbst_node) : Obst_Call → Option Clo → Nat → Prop
 | down {C : Obst_Call} {s : Tbst_seen} {i : Nat} {a b : BT} {tn : Int} (h : Atk T.nodes kn0 t (-1) (.nd i a b) tn) (hp : s.parent = (i : Int)) (he : C.told_Err = 0) : FI T t ks kn0 C (some (.c_down_1 s kn0 (.c_Find_1_1 kn0))) (2 * (a.inn + b.inn) + 2)
 | side {C : Obst_Call} {s : Tbst_seen} {i : Nat} {a b : BT} {tn : Int} (h : Atk T.nodes kn0 t (-1) (.nd i a b) tn) (hp : s.parent = (i : Int)) (he : C.told_Err = 0) : FI T t ks kn0 C (some (.c_down_1_1 s kn0 (.c_Find_1_1 kn0))) (2 * (a.inn + b.inn) + 1)
theorem FI.le {kn0 : Tbst_node} {t : BT} (h : FI T t ks kn0 C o m) : m ≤ 2 * t.inn + 2 := by
 cases h with
 | down h _ _ => have := h.inn; simp only [BT.inn] at this; omega
 | side h _ _ => have := h.inn; simp only [BT.inn] at this; omega
theorem FI.stab {kn0 : Tbst_node} (I : BInv T M l r ks j) (S : Stab T M l r ks T' M' l' ks' own out) (h : FI T (.nd 0 l r) ks kn0 C o m) : ∃ m', FI T' (.nd 0 l' r) ks' kn0 C o m' := by
 cases h with
 | @down _ i a b tn h hp he =>
  obtain ⟨a', b', tn', w⟩ := OnP.stab I S ⟨a, b, tn, h⟩
  exact ⟨_, .down w hp he⟩
 | @side _ i a b tn h hp he =>
  obtain ⟨a', b', tn', w⟩ := OnP.stab I S ⟨a, b, tn, h⟩
  exact ⟨_, .side w hp he⟩
theorem fi_step {kn0 : Tbst_node} {x : Clo} (X : CX T M l r ks j) (hj : j ≤ 20000) (hk : kn0.top = 0) (h : FI T (.nd 0 l r) ks kn0 C (some x) m) :
 ∃ o M' C', F_step (n + 2) T M C x .u = some (o, T, M', C') ∧ M'.cells = M.cells ∧ Cn M M' ∧ ((∃ m', m' < m ∧ FI T (.nd 0 l r) ks kn0 C' o m' ∧ o.isSome) ∨
  (o = none ∧ C'.told_Err = 0 ∧ ((∃ y ∈ ks, y.key = kn0.key ∧ C'.told_Ok = true ∧ C'.told_Val = y.val) ∨ ((∀ y ∈ ks, y.key ≠ kn0.key) ∧ C'.told_Ok = false)))) := by
 have I := X.inv
 have b1 := I.b1
 generalize ho : (some x : Option Clo) = ox at h
 cases h with
 | @down s i a b tn h hp he =>
  cases ho
  obtain ⟨y, c, w, h1, h2, h3, h4, h5, h6, h7, h8, h9, h10⟩ := h.lay I.lay
  rw [step_word (n := n + 1) hp h1 h2 h3 h4]
  exact ⟨_, tick M, C, rfl, rfl, cn_tick, .inl ⟨_, by omega, .side (i := i) h hp he, rfl⟩⟩
 | @side s i a b tn h hp he =>
  cases ho
  obtain ⟨xp, c, w, h1, h2, h3, h4, h5, h6, h7, h8, h9, h10⟩ := h.lay I.lay
  obtain ⟨d1, d2⟩ := h.child
  rw [nk_eq h1] at d1 d2
  obtain ⟨u, tn', hch, hL, hA, hu⟩ : ∃ (u : BT) (tn' : Int), M.cells[c + (if lessN kn0 xp = true then 1 else 2)]? = some ((u.root : Nat) : Int) ∧ Lay T.nodes M.cells u ∧ Atk T.nodes kn0 (.nd 0 l r) (-1) u tn' ∧ u.inn ≤ a.inn + b.inn := by
   cases e : lessN kn0 xp with
   | true => exact ⟨a, i, h7, h9, d1 e, by omega⟩
   | false => exact ⟨b, tn, h8, h10, d2 e, by omega⟩
  have hul : u.root < T.nodes.length := hL.lt _ u.root_mem
  rw [step_child (n := n + 1) (j := u.root) hp h1 h2 h3 (by omega) hch]
  cases u with
  | nd i2 a2 b2 =>
   obtain ⟨z, c2, w2, g1, g2, _⟩ := hL
   rw [down_nd (i := i2) rfl g1 (by omega)]
   simp only [BT.inn] at hu
   exact ⟨_, tick M, C, rfl, rfl, cn_tick, .inl ⟨_, by omega, .down (i := i2) hA rfl he, rfl⟩⟩
  | lf i2 =>
   obtain ⟨z, g1, g2⟩ := hL
   rw [down_lf (i := i2) rfl g1 g2]
   obtain ⟨lf1, _⟩ := onp_leaf h1 h2 hch g1 g2 h I.lay
   obtain ⟨z', k1, k2, k3, k4⟩ := I.cases hk
   rw [show leafOf T.nodes kn0 (.nd 0 l r) = i2 from lf1, g1] at k1
   cases k1
   rw [find_ok (n := n) (i := i2) rfl g1]
   refine ⟨_, tick M, _, rfl, rfl, cn_tick, .inr ⟨rfl, he, ?_⟩⟩
   rcases k4 with ⟨k5, k6, k7⟩ | ⟨k5, k6⟩
   ·
    rw [k5]; exact .inl ⟨z, k6, k7, rfl, rfl⟩
   ·
    rw [k5]; exact .inr ⟨k6, rfl⟩
end
section
variable {T : Obst_Tree} {M M' : Omem_Mem} {l r : BT} {ks : List Tbst_node} {j : Nat} {own : Option Nat}
theorem outer_op (X : CX T M l r ks j) {j' : Nat} (hB : BInv T M' l r ks j') (hc : ∀ (i : Nat) (x : Tbst_node) (c s : Nat), T.nodes[i]? = some x → x.cell = (c : Int) → s < 3 → M'.cells[c + s]? = M.cells[c + s]?) (hf : ∀ a, a < M.cells.length → Free T.nodes a → M'.cells[a]? = M.cells[a]? ∨ True) (hcl : M.cells.length ≤ M'.cells.length) {out : Option Nat} :
 CX T M' l r ks j' ∧ ∀ (fr : (out = none ∧ Aside T T M M') ∨ ∃ q, out = some q ∧ ∀ a, a < M.cells.length → Free T.nodes a → Free T.nodes a ∧ a < M'.cells.length ∧ (a ≠ q → M'.cells[a]? = M.cells[a]?)), Stab T M l r ks T M' l ks own out := by
 have h0 : ∀ (i : Nat) (x : Tbst_node) (c : Nat), T.nodes[i]? = some x → x.cell = (c : Int) → M'.cells[c]? = M.cells[c]? := fun i x c hx hxc => by
  have := hc i x c 0 hx hxc (by omega)
  simpa using this
 have dne : ∀ {e : ID} {z : Tbst_info}, InfD T.nodes z e → Dne M.cells ks e → Dne M'.cells ks e := fun {e z} he h => by
  obtain ⟨u, g1, g2⟩ := h.ch
  have hdn := dn_pos (lessN e.kn e.xp)
  exact ⟨⟨u, by unfold ID.at_ at g1 ⊢; rw [hc e.p e.xp e.cp _ he.np he.cpe hdn.2]; exact g1, g2⟩, h.mem⟩
 refine ⟨⟨hB, X.inf, X.tri, fun i hi x c w hx hxc hw => ?_, fun i hi x c hx hxc => ?_, fun i hi x c w hx hxc hw h1 => ?_⟩, fun fr =>
  ⟨fun _ _ h => h, fun _ _ h => h, .inl ⟨rfl, rfl⟩, fun i hi x c w' hx hxc hw => ?_, fun e b z _ _ he _ h => dne he h, fun e b z hb hz he hp h => .inl (by rw [h0 e.p e.xp e.cp he.np he.cpe]; exact h), fun i hi x c w s hx hxc h1 h2 h3 s1 s2 => hc i x c s hx hxc s2, fr, fun b e n _ => ⟨n.new, fun s hs => ?_⟩, hcl⟩⟩
 ·
  rw [h0 i x c hx hxc] at hw; exact X.wrd i hi x c w hx hxc hw
 ·
  rw [h0 i x c hx hxc]; exact X.two i hi x c hx hxc
 ·
  rw [h0 i x c hx hxc] at hw
  obtain ⟨g1, z, e, g2, g3, g4, g5⟩ := X.flg i hi x c w hx hxc hw h1
  refine ⟨g1, z, e, g2, g3, g4, g5.imp (fun u => ?_) (fun u => dne g3 u)⟩
  have q := fun s hs => hc (e.L + 2) _ e.c s g3.n2 (innOf_cell _ _ _) hs
  have q0 := q 0 (by omega)
  simp only [Nat.add_zero] at q0
  exact ⟨u.leaf, u.par, u.new, by rw [q0]; exact u.w, by rw [q 1 (by omega)]; exact u.low, by rw [q 2 (by omega)]; exact u.high⟩
 ·
  rw [h0 i x c hx hxc] at hw
  exact ⟨w', hw, Nat.le_refl _, fun _ _ => rfl, .inl rfl⟩
 ·
  obtain ⟨z, hz, he⟩ := n.at_
  exact hc (e.L + 2) _ e.c s he.n2 (innOf_cell _ _ _) hs
theorem more_op (X : CX T M l r ks j) (c : Int) : CX T ⟨M.cells ++ [0], c⟩ l r ks (j + 1) ∧ Stab T M l r ks T ⟨M.cells ++ [0], c⟩ l ks own := by
 obtain ⟨h1, h2⟩ := outer_op (own := own) X (X.inv.more c) (fun i x c s hx hxc hs => by
  have := X.inv.dis.room i x c hx hxc
  exact List.getElem?_append_left (by omega)) (fun _ _ _ => .inr trivial) (by simp)
 exact ⟨h1, h2 (.inl ⟨rfl, fun a ha hf => ⟨hf, List.getElem?_append_left ha⟩⟩)⟩
theorem set_cx (X : CX T M l r ks j) {a : Nat} {v c : Int} (hf : Free T.nodes a) : CX T ⟨M.cells.set a v, c⟩ l r ks j ∧ Stab T M l r ks T ⟨M.cells.set a v, c⟩ l ks own (some a) := by
 obtain ⟨h1, h2⟩ := outer_op (own := own) (out := some a) X (X.inv.set (v := v) (c := c) hf) (fun i x c s hx hxc hs => by
  have := hf i x c hx hxc
  exact gs_ne (by omega)) (fun _ _ _ => .inr trivial) (by simp)
 exact ⟨h1, h2 (.inr ⟨a, rfl, fun b hb hfb => ⟨hfb, by simpa using hb, fun ne => gs_ne (Ne.symm ne)⟩⟩)⟩
end
theorem rk_of {T : Obst_Tree} {M : Omem_Mem} {t : BT} {ks : List Tbst_node} {kn0 : Tbst_node} {C : Obst_Call} {o : Option Clo} {held : Option Nat} (h : PI T M t ks kn0 held C o) : ∃ ρ Q, Rk T M t kn0 o ρ Q ∧ Q ≤ 4 * (2 * nfl T.nodes M.cells t + 1) + 3 := by
 cases h with
 | down on hp he =>
  obtain ⟨a, b, tn, h⟩ := on
  exact ⟨_, _, .down h hp, by omega⟩
 | side on hp np hc sw sn he =>
  obtain ⟨a, b, tn, h⟩ := on
  exact ⟨_, _, .side (st := 1) h hp np hc sw (by omega) (fun h => by omega), by omega⟩
 | g1 m se h1 hp sw he =>
  obtain ⟨y, hy, hd⟩ := m.at_
  exact ⟨_, _, .g1 (st := 1) hy hd sw (by omega) (fun h => by omega), by omega⟩
 | g2 m se h1 hp sw lo he =>
  obtain ⟨y, hy, hd⟩ := m.at_
  exact ⟨_, _, .g2 (st := 1) hy hd sw (by omega) (fun h => by omega), by omega⟩
 | g3 m se h1 hp sw lo hi he =>
  obtain ⟨y, hy, hd⟩ := m.at_
  exact ⟨_, _, .g3 (st := 1) hy hd sw (by omega) (fun h => by omega), by omega⟩
 | turn ha hy hd hm pb ht he =>
  rcases th_cases ht with ⟨rfl, _⟩ | h
  ·
   exact ⟨_, _, .ownT, by omega⟩
  ·
   exact ⟨_, _, .helpT (st := 1) hy hd h (by omega) (fun h => by omega), by omega⟩
 | clean ha hy hd hm dn ht he =>
  rcases th_cases ht with ⟨rfl, _⟩ | h
  ·
   exact ⟨_, _, .ownC, by omega⟩
  ·
   exact ⟨_, _, .helpC (st := 1) hy hd h (by omega) (fun h => by omega), by omega⟩
 | done hy hk hv he => exact ⟨_, _, .done, by omega⟩
end Go.Proofs.YtndhbaidibioeaaGreat.V
