/- The tree, with a leaf taken away.
   No condition: these are laws of plain functions. -/
import Derived.Test.YtndhbaidibioeaaBc
namespace Go.Proofs.Ytndhbaidibioeaa.V
open Go
set_option linter.unusedVariables false
set_option linter.unusedSimpArgs false
set_option maxRecDepth 100000

/-- Keys are in order. -/
def Ord (N : List Tbst_node) : BT → Prop
  | .lf _ => True
  | .nd i l r => (∀ j ∈ l.ids, lessN (nk N j) (nk N i) = true) ∧ (∀ j ∈ r.ids, lessN (nk N j) (nk N i) = false) ∧ Ord N l ∧ Ord N r
def dirN (N : List Tbst_node) (k : Tbst_node) (i : Nat) : Bool := lessN k (nk N i)
def dn (b : Bool) : Nat := if b = true then 1 else 2
theorem dn_pos (b : Bool) : 0 < dn b ∧ dn b < 3 := by cases b <;> decide
theorem dn_ne (b : Bool) : dn b ≠ dn (!b) := by cases b <;> decide
/-- The child towards a key, and the other one. -/
def tow (N : List Tbst_node) (k : Tbst_node) (i : Nat) (l r : BT) : BT := if dirN N k i = true then l else r
def oth (N : List Tbst_node) (k : Tbst_node) (i : Nat) (l r : BT) : BT := if dirN N k i = true then r else l
def mkN (b : Bool) (i : Nat) (t o : BT) : BT := if b = true then .nd i t o else .nd i o t
theorem nd_mk {N : List Tbst_node} {k : Tbst_node} {i : Nat} {l r : BT} : BT.nd i l r = mkN (dirN N k i) i (tow N k i l r) (oth N k i l r) := by
  unfold mkN tow oth
  cases dirN N k i <;> rfl
theorem mk_ids {b : Bool} {i j : Nat} {t o : BT} : j ∈ (mkN b i t o).ids ↔ j = i ∨ j ∈ t.ids ∨ j ∈ o.ids := by
  unfold mkN
  cases b
  · simp [BT.ids]; rw [or_comm (a := j ∈ o.ids)]
  · simp [BT.ids]
theorem mk_nodup {b : Bool} {i : Nat} {t o : BT} : (mkN b i t o).ids.Nodup ↔ i ∉ t.ids ∧ i ∉ o.ids ∧ t.ids.Nodup ∧ o.ids.Nodup ∧ ∀ a ∈ t.ids, a ∉ o.ids := by
  unfold mkN
  cases b
  · simp only [Bool.false_eq_true, if_false, BT.ids, List.nodup_cons, List.nodup_append, List.mem_append, not_or]
    exact ⟨fun ⟨⟨a, b⟩, c, d, e⟩ => ⟨b, a, d, c, fun x hx hy => e x hy x hx rfl⟩, fun ⟨a, b, c, d, e⟩ => ⟨⟨b, a⟩, d, c, fun x hx y hy q => e y hy (q ▸ hx)⟩⟩
  · simp only [if_true, BT.ids, List.nodup_cons, List.nodup_append, List.mem_append, not_or]
    exact ⟨fun ⟨⟨a, b⟩, c, d, e⟩ => ⟨a, b, c, d, fun x hx hy => e x hx x hy rfl⟩, fun ⟨a, b, c, d, e⟩ => ⟨⟨a, b⟩, c, d, fun x hx y hy q => e x hx (q ▸ hy)⟩⟩
theorem mk_lay {N : List Tbst_node} {K : List Int} {b : Bool} {i : Nat} {t o : BT} : Lay N K (mkN b i t o) ↔ ∃ (x : Tbst_node) (c w : Nat), N[i]? = some x ∧ x.cell = (c : Int) ∧ c < 1073741824 ∧ K[c]? = some ((w : Nat) : Int) ∧ w % 4 = 0 ∧ w < 1099511627776 ∧ K[c + dn b]? = some ((t.root : Nat) : Int) ∧ K[c + dn (!b)]? = some ((o.root : Nat) : Int) ∧ Lay N K t ∧ Lay N K o := by
  unfold mkN
  cases b
  · exact ⟨fun ⟨x, c, w, h1, h2, h3, h4, h5, h6, h7, h8, h9, h10⟩ => ⟨x, c, w, h1, h2, h3, h4, h5, h6, h8, h7, h10, h9⟩, fun ⟨x, c, w, h1, h2, h3, h4, h5, h6, h7, h8, h9, h10⟩ => ⟨x, c, w, h1, h2, h3, h4, h5, h6, h8, h7, h10, h9⟩⟩
  · exact Iff.rfl
theorem mk_ord {N : List Tbst_node} {b : Bool} {i : Nat} {t o : BT} : Ord N (mkN b i t o) ↔ (∀ j ∈ t.ids, lessN (nk N j) (nk N i) = b) ∧ (∀ j ∈ o.ids, lessN (nk N j) (nk N i) = !b) ∧ Ord N t ∧ Ord N o := by
  unfold mkN
  cases b
  · exact ⟨fun ⟨a, b, c, d⟩ => ⟨b, a, d, c⟩, fun ⟨a, b, c, d⟩ => ⟨b, a, d, c⟩⟩
  · exact Iff.rfl
theorem mk_root {b : Bool} {i : Nat} {t o : BT} : (mkN b i t o).root = i := by unfold mkN; cases b <;> rfl
theorem mk_nd {b : Bool} {i : Nat} {t o : BT} : (mkN b i t o).isNd = true := by unfold mkN; cases b <;> rfl
theorem mk_inn {b : Bool} {i : Nat} {t o : BT} : (mkN b i t o).inn = t.inn + o.inn + 1 := by unfold mkN; cases b <;> simp [BT.inn]; omega
theorem leafOf_mk {N : List Tbst_node} {k : Tbst_node} {i : Nat} {t o : BT} : leafOf N k (mkN (dirN N k i) i t o) = leafOf N k t := by
  unfold mkN
  cases e : dirN N k i
  · rw [if_neg (by simp), leafOf, if_neg (by unfold dirN at e; rw [e]; simp)]
  · rw [if_pos rfl, leafOf, if_pos (by unfold dirN at e; exact e)]
theorem parOf_mk {N : List Tbst_node} {k : Tbst_node} {i g : Nat} {t o : BT} : parOf N k (mkN (dirN N k i) i t o) g = parOf N k t i := by
  unfold mkN
  cases e : dirN N k i
  · rw [if_neg (by simp), parOf, if_neg (by unfold dirN at e; rw [e]; simp)]
  · rw [if_pos rfl, parOf, if_pos (by unfold dirN at e; exact e)]
theorem grOf_mk {N : List Tbst_node} {k : Tbst_node} {i p g : Nat} {t o : BT} : grOf N k (mkN (dirN N k i) i t o) p g = grOf N k t i p := by
  unfold mkN
  cases e : dirN N k i
  · rw [if_neg (by simp), grOf, if_neg (by unfold dirN at e; rw [e]; simp)]
  · rw [if_pos rfl, grOf, if_pos (by unfold dirN at e; exact e)]
/-- A tree without the leaf that a key leads to. -/
def delT (N : List Tbst_node) (k : Tbst_node) : BT → BT
  | .lf i => .lf i
  | .nd i l r => if lessN k (nk N i) = true then (if l.isNd = true then .nd i (delT N k l) r else r) else (if r.isNd = true then .nd i l (delT N k r) else l)
theorem delT_mk {N : List Tbst_node} {k : Tbst_node} {i : Nat} {t o : BT} : delT N k (mkN (dirN N k i) i t o) = if t.isNd = true then mkN (dirN N k i) i (delT N k t) o else o := by
  unfold mkN
  cases e : dirN N k i
  · rw [if_neg (by simp), delT, if_neg (by unfold dirN at e; rw [e]; simp)]; simp
  · rw [if_pos rfl, delT, if_pos (by unfold dirN at e; exact e)]; simp
theorem BT.mkcases {N : List Tbst_node} {k : Tbst_node} (t : BT) (h : t.isNd = true) : ∃ i a o, t = mkN (dirN N k i) i a o := by
  cases t with
  | lf i => cases h
  | nd i l r => exact ⟨i, _, _, nd_mk (N := N) (k := k)⟩

structure DelOK (N : List Tbst_node) (K : List Int) (k : Tbst_node) (t : BT) (p g : Nat) : Prop where
  gm : g ∈ t.ids
  pm : p ∈ t.ids
  ne : g ≠ p
  at_ : ∃ (x y z : Tbst_node) (c d w v s : Nat), N[g]? = some x ∧ x.cell = (c : Int) ∧ c < 1073741824 ∧ K[c]? = some ((w : Nat) : Int) ∧ w % 4 = 0 ∧ w < 1099511627776 ∧ K[c + dn (lessN k x)]? = some ((p : Nat) : Int) ∧
    N[p]? = some y ∧ y.cell = (d : Int) ∧ d < 1073741824 ∧ K[d]? = some ((v : Nat) : Int) ∧ v % 4 = 0 ∧ v < 1099511627776 ∧ K[d + dn (lessN k y)]? = some ((leafOf N k t : Nat) : Int) ∧ K[d + dn (!lessN k y)]? = some ((s : Nat) : Int) ∧
    s ∈ t.ids ∧ s ≠ leafOf N k t ∧ N[s]? = some z ∧ lessN z x = lessN k x ∧
    ∀ (N' : List Tbst_node) (K' : List Int) (w' : Nat), (∀ (i : Nat) (x : Tbst_node), N[i]? = some x → N'[i]? = some x) → (∀ (b : Nat) (u : Int), b ≠ c → b ≠ c + dn (lessN k x) → b ≠ d → K[b]? = some u → K'[b]? = some u) →
      K'[c]? = some ((w' : Nat) : Int) → w' % 4 = 0 → w' < 1099511627776 → K'[c + dn (lessN k x)]? = some ((s : Nat) : Int) → Lay N' K' (delT N k t) ∧ (delT N k t).root = t.root
theorem away {N : List Tbst_node} {K : List Int} (D : Dis N K) {q i' : Nat} {y x' : Tbst_node} {d c' : Nat} (hq : N[q]? = some y) (hd : y.cell = (d : Int)) (hi : i' ≠ q) (hx : N[i']? = some x') (hc : x'.cell = (c' : Int)) {j z : Nat} (hj : j < 3) (hz : z < 3) : c' + j ≠ d + z := by
  rcases D.apart i' q x' y c' d hx hq hc hd hi with w | w <;> omega
theorem root_lay {N : List Tbst_node} {K : List Int} {t : BT} (h : Lay N K t) : ∃ x, N[t.root]? = some x := by
  cases t with
  | lf i => obtain ⟨x, h1, _⟩ := h; exact ⟨x, h1⟩
  | nd i l r => obtain ⟨x, _, _, h1, _⟩ := h; exact ⟨x, h1⟩
theorem del_ok {N : List Tbst_node} {K : List Int} {k : Tbst_node} (D : Dis N K) : ∀ (m : Nat) (t : BT) (i : Nat) (a o : BT) (p0 g0 : Nat), t.inn ≤ m → t = mkN (dirN N k i) i a o → a.isNd = true → Lay N K t → t.ids.Nodup → Ord N t → DelOK N K k t (parOf N k t p0) (grOf N k t p0 g0)
  | 0, t, i, a, o, p0, g0, hm, ht, _, _, _, _ => by rw [ht, mk_inn] at hm; omega
  | m + 1, t, i, a, o, p0, g0, hm, ht, ha, hL, hn, hO => by
    have ht0 := ht
    subst ht
    rw [mk_lay] at hL
    rw [mk_nodup] at hn
    rw [mk_ord] at hO
    obtain ⟨x, c, w, h1, h2, h3, h4, h5, h6, h7, h8, h9, h10⟩ := hL
    obtain ⟨n1, n2, n3, n4, n5⟩ := hn
    obtain ⟨o1, o2, o3, o4⟩ := hO
    have e0 : nk N i = x := nk_eq h1
    rw [parOf_mk, grOf_mk]
    obtain ⟨j, a2, o2', hj⟩ := a.mkcases (N := N) (k := k) ha
    by_cases ha2 : a2.isNd = true
    · -- deeper
      have hsz : a.inn ≤ m := by rw [mk_inn] at hm; omega
      obtain ⟨gm, pm, ne, y, z, u, d1, d2, w1, w2, s, q⟩ := del_ok D m a j a2 o2' i p0 hsz hj ha2 h9 n3 o3
      obtain ⟨g1, g2, g3, g4, g5, g6, g7, p1, p2, p3, p4, p5, p6, p7, p8, s1, s2, s3, s4, up⟩ := q
      refine ⟨mk_ids.mpr (.inr (.inl gm)), mk_ids.mpr (.inr (.inl pm)), ne, y, z, u, d1, d2, w1, w2, s, g1, g2, g3, g4, g5, g6, g7, p1, p2, p3, p4, p5, p6, by rw [leafOf_mk]; exact p7, p8, mk_ids.mpr (.inr (.inl s1)), by rw [leafOf_mk]; exact s2, s3, s4, fun N' K' w' hN hK k1 k2 k3 k4 => ?_⟩
      obtain ⟨r1, r2⟩ := up N' K' w' hN hK k1 k2 k3 k4
      rw [delT_mk, if_pos ha]
      refine ⟨?_, by rw [mk_root, mk_root]⟩
      have kk : ∀ i' : Nat, i' ≠ grOf N k a i p0 → i' ≠ parOf N k a i → ∀ (x' : Tbst_node) (c' : Nat), N[i']? = some x' → x'.cell = (c' : Int) → ∀ (j' : Nat) (v : Int), j' < 3 → K[c' + j']? = some v → K'[c' + j']? = some v := by
        intro i' hi hi2 x' c' hx' hc' j' v hj hv
        exact hK _ _ (away D g1 g2 hi hx' hc' hj (z := 0) (by omega)) (away D g1 g2 hi hx' hc' hj (dn_pos _).2) (away D p1 p2 hi2 hx' hc' hj (z := 0) (by omega)) hv
      have ig : i ≠ grOf N k a i p0 := fun q => n1 (q ▸ gm)
      have ip : i ≠ parOf N k a i := fun q => n1 (q ▸ pm)
      rw [mk_lay]
      refine ⟨x, c, w, hN _ _ h1, h2, h3, kk i ig ip x c h1 h2 0 _ (by omega) h4, h5, h6, ?_, kk i ig ip x c h1 h2 _ _ (dn_pos _).2 h8, r1, h10.frame hN (fun i' hi' => kk i' (fun q => n5 _ gm (q ▸ hi')) (fun q => n5 _ pm (q ▸ hi')))⟩
      rw [r2]
      exact kk i ig ip x c h1 h2 _ _ (dn_pos _).2 h7
    · -- here
      have ha2 : a2.isNd = false := by simpa using ha2
      obtain ⟨e2, he2⟩ : ∃ e2, a2 = .lf e2 := by
        cases a2 with
        | lf e2 => exact ⟨e2, rfl⟩
        | nd _ _ _ => cases ha2
      subst he2
      subst hj
      rw [mk_lay] at h9
      rw [mk_nodup] at n3
      rw [mk_ord] at o3
      obtain ⟨y, d, v, f1, f2, f3, f4, f5, f6, f7, f8, f9, f10⟩ := h9
      obtain ⟨m1, m2, m3, m4, m5⟩ := n3
      have e1 : nk N j = y := nk_eq f1
      obtain ⟨z, hz⟩ := root_lay f10
      rw [parOf_mk, grOf_mk]
      show DelOK N K k _ j i
      have hij : i ≠ j := fun q => n1 (by rw [q]; exact mk_ids.mpr (.inl rfl))
      have ho' : ∀ q ∈ o2'.ids, q ∈ (mkN (dirN N k i) i (mkN (dirN N k j) j (.lf e2) o2') o).ids := fun q hq => mk_ids.mpr (.inr (.inl (mk_ids.mpr (.inr (.inr hq)))))
      refine ⟨mk_ids.mpr (.inl rfl), mk_ids.mpr (.inr (.inl (mk_ids.mpr (.inl rfl)))), hij, x, y, z, c, d, w, v, o2'.root, h1, h2, h3, h4, h5, h6, ?_, f1, f2, f3, f4, f5, f6, ?_, ?_, ho' _ o2'.root_mem, ?_, hz, ?_, fun N' K' w' hN hK k1 k2 k3 k4 => ?_⟩
      · have := h7
        rw [mk_root] at this
        unfold dirN at this
        rw [e0] at this
        exact this
      · rw [leafOf_mk, leafOf_mk]
        have := f7
        unfold dirN at this
        rw [e1] at this
        exact this
      · have := f8
        unfold dirN at this
        rw [e1] at this
        exact this
      · rw [leafOf_mk, leafOf_mk]
        intro q
        exact m5 e2 List.mem_cons_self (by rw [show e2 = o2'.root from q.symm]; exact o2'.root_mem)
      · have := o1 o2'.root (mk_ids.mpr (.inr (.inr o2'.root_mem)))
        rw [nk_eq hz, e0] at this
        rw [this]
        unfold dirN
        rw [e0]
      · rw [delT_mk, if_pos mk_nd, delT_mk, if_neg (by simp [BT.isNd])]
        refine ⟨?_, by rw [mk_root, mk_root]⟩
        have kk : ∀ i' : Nat, i' ≠ i → i' ≠ j → ∀ (x' : Tbst_node) (c' : Nat), N[i']? = some x' → x'.cell = (c' : Int) → ∀ (j' : Nat) (v : Int), j' < 3 → K[c' + j']? = some v → K'[c' + j']? = some v := by
          intro i' hi hi2 x' c' hx' hc' j' v hj hv
          exact hK _ _ (away D h1 h2 hi hx' hc' hj (z := 0) (by omega)) (away D h1 h2 hi hx' hc' hj (dn_pos _).2) (away D f1 f2 hi2 hx' hc' hj (z := 0) (by omega)) hv
        have dd : dirN N k i = lessN k x := by unfold dirN; rw [e0]
        rw [mk_lay]
        rw [dd] at h8 ⊢
        have a0 : c + dn (!lessN k x) ≠ d := by
          have := away D f1 f2 hij h1 h2 (dn_pos (!lessN k x)).2 (z := 0) (by omega)
          omega
        refine ⟨x, c, w', hN _ _ h1, h2, h3, k1, k2, k3, k4, ?_, f10.frame hN (fun i' hi' => kk i' (fun q => n1 (q ▸ mk_ids.mpr (.inr (.inr hi')))) (fun q => m2 (q ▸ hi'))), h10.frame hN (fun i' hi' => kk i' (fun q => n2 (q ▸ hi')) (fun q => n5 _ (mk_ids.mpr (.inl rfl)) (q ▸ hi')))⟩
        have ne := dn_ne (lessN k x)
        have p1 := dn_pos (!lessN k x)
        exact hK _ _ (by omega) (by omega) a0 h8
end Go.Proofs.Ytndhbaidibioeaa.V
