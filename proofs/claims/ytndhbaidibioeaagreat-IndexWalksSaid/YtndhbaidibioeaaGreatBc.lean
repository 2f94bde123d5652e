/- The tree, changed: a leaf made two, and a leaf taken away.
   No condition: these are laws of plain functions. -/
import Derived.Test.YtndhbaidibioeaaGreatBb
namespace Go.Proofs.YtndhbaidibioeaaGreat.V
open Go
set_option linter.unusedVariables false
set_option linter.unusedSimpArgs false
set_option maxRecDepth 100000

def leafOf (N : List Tbst_node) (k : Tbst_node) : BT → Nat
  | .lf i => i
  | .nd i l r => if lessN k (nk N i) = true then leafOf N k l else leafOf N k r
def parOf (N : List Tbst_node) (k : Tbst_node) : BT → Nat → Nat
  | .lf _, g => g
  | .nd i l r, _ => if lessN k (nk N i) = true then parOf N k l i else parOf N k r i
theorem dsc_leaf {N : List Tbst_node} {K : List Int} {k : Tbst_node} : ∀ (t : BT) (s : Tbst_seen), s.leaf = (t.root : Int) → (dsc N K k t s).leaf = (leafOf N k t : Int)
  | .lf i, s, h => h
  | .nd i l r, s, h => by
    rw [dsc, leafOf]
    split
    · exact dsc_leaf l _ rfl
    · exact dsc_leaf r _ rfl
theorem leafOf_mem {N : List Tbst_node} {k : Tbst_node} : ∀ t : BT, leafOf N k t ∈ t.ids
  | .lf i => List.mem_cons_self
  | .nd i l r => by
    rw [leafOf]
    split
    · exact List.mem_cons_of_mem _ (List.mem_append_left _ (leafOf_mem l))
    · exact List.mem_cons_of_mem _ (List.mem_append_right _ (leafOf_mem r))
theorem leafOf_lf {N : List Tbst_node} {K : List Int} {k : Tbst_node} : ∀ t : BT, Lay N K t → ∃ x, N[leafOf N k t]? = some x ∧ x.cell = -1
  | .lf i, h => h
  | .nd i l r, ⟨x, c, w, h1, h2, h3, h4, h5, h6, h7, h8, h9, h10⟩ => by
    rw [leafOf]
    split
    · exact leafOf_lf l h9
    · exact leafOf_lf r h10

/-- Nodes' cells are apart. -/
structure Dis (N : List Tbst_node) (K : List Int) : Prop where
  apart : ∀ (i j : Nat) (x y : Tbst_node) (c d : Nat), N[i]? = some x → N[j]? = some y → x.cell = (c : Int) → y.cell = (d : Int) → i ≠ j → c + 3 ≤ d ∨ d + 3 ≤ c
  room : ∀ (i : Nat) (x : Tbst_node) (c : Nat), N[i]? = some x → x.cell = (c : Int) → c + 3 ≤ K.length

theorem Lay.frame {N N' : List Tbst_node} {K K' : List Int} : ∀ {t : BT}, Lay N K t → (∀ (i : Nat) (x : Tbst_node), N[i]? = some x → N'[i]? = some x) →
    (∀ i ∈ t.ids, ∀ (x : Tbst_node) (c : Nat), N[i]? = some x → x.cell = (c : Int) → ∀ (j : Nat) (v : Int), j < 3 → K[c + j]? = some v → K'[c + j]? = some v) → Lay N' K' t
  | .lf i, ⟨x, h1, h2⟩, hN, hK => ⟨x, hN _ _ h1, h2⟩
  | .nd i l r, ⟨x, c, w, h1, h2, h3, h4, h5, h6, h7, h8, h9, h10⟩, hN, hK => by
    have q := hK i List.mem_cons_self x c h1 h2
    exact ⟨x, c, w, hN _ _ h1, h2, h3, q 0 _ (by omega) h4, h5, h6, q 1 _ (by omega) h7, q 2 _ (by omega) h8,
      h9.frame hN (fun i hi => hK i (List.mem_cons_of_mem _ (List.mem_append_left _ hi))), h10.frame hN (fun i hi => hK i (List.mem_cons_of_mem _ (List.mem_append_right _ hi)))⟩

def updT (N : List Tbst_node) (k : Tbst_node) (f : BT) : BT → BT
  | .lf _ => f
  | .nd i l r => if lessN k (nk N i) = true then .nd i (updT N k f l) r else .nd i l (updT N k f r)
theorem updT_root {N : List Tbst_node} {k : Tbst_node} {f : BT} : ∀ {t : BT}, t.isNd = true → (updT N k f t).root = t.root
  | .nd i l r, _ => by rw [updT]; split <;> rfl

/-- Of the parent: where it lies, and what comes of the tree when its child is another one. -/
structure ParOK (N : List Tbst_node) (K : List Int) (k : Tbst_node) (t : BT) (p : Nat) : Prop where
  mem : p ∈ t.ids
  at_ : ∃ (x : Tbst_node) (c w : Nat), N[p]? = some x ∧ x.cell = (c : Int) ∧ c < 1073741824 ∧ K[c]? = some ((w : Nat) : Int) ∧ w % 4 = 0 ∧ w < 1099511627776 ∧ K[c + (if lessN k x = true then 1 else 2)]? = some ((leafOf N k t : Nat) : Int) ∧
    ∀ (N' : List Tbst_node) (K' : List Int) (f : BT) (w' : Nat), (∀ (i : Nat) (x : Tbst_node), N[i]? = some x → N'[i]? = some x) → (∀ (b : Nat) (v : Int), b ≠ c → b ≠ c + (if lessN k x = true then 1 else 2) → K[b]? = some v → K'[b]? = some v) →
      K'[c]? = some ((w' : Nat) : Int) → w' % 4 = 0 → w' < 1099511627776 → K'[c + (if lessN k x = true then 1 else 2)]? = some ((f.root : Nat) : Int) → Lay N' K' f → Lay N' K' (updT N k f t)
theorem par_ok {N : List Tbst_node} {K : List Int} {k : Tbst_node} (D : Dis N K) : ∀ (t : BT) (g : Nat), t.isNd = true → Lay N K t → t.ids.Nodup → ParOK N K k t (parOf N k t g)
  | .nd i l r, g, _, hL, hn => by
    obtain ⟨x, c, w, h1, h2, h3, h4, h5, h6, h7, h8, h9, h10⟩ := hL
    have e0 : nk N i = x := nk_eq h1
    unfold BT.ids at hn
    rw [List.nodup_cons, List.nodup_append] at hn
    obtain ⟨n0, n1, n2, n3⟩ := hn
    -- what stays
    have away : ∀ (q : Nat) (y : Tbst_node) (d : Nat), N[q]? = some y → y.cell = (d : Int) → ∀ i' : Nat, i' ≠ q → ∀ (x' : Tbst_node) (c' : Nat), N[i']? = some x' → x'.cell = (c' : Int) → ∀ (j z : Nat), j < 3 → z < 3 → c' + j ≠ d + z := by
      intro q y d hq hd i' hi x' c' hx hc j z hj hz
      rcases D.apart i' q x' y c' d hx hq hc hd hi with w | w <;> omega
    rw [parOf]
    cases e : lessN k x with
    | true =>
      rw [if_pos (by rw [e0]; exact e)]
      have lo : leafOf N k (.nd i l r) = leafOf N k l := by rw [leafOf, if_pos (by rw [e0]; exact e)]
      have up : ∀ f, updT N k f (.nd i l r) = .nd i (updT N k f l) r := fun f => by rw [updT, if_pos (by rw [e0]; exact e)]
      cases l with
      | lf j =>
        refine ⟨List.mem_cons_self, x, c, w, h1, h2, h3, h4, h5, h6, by rw [e, lo]; exact h7, fun N' K' f w' hN hK k1 k2 k3 k4 k5 => ?_⟩
        rw [up]
        rw [e] at hK k4
        refine ⟨x, c, w', hN _ _ h1, h2, h3, k1, k2, k3, k4, hK _ _ (by omega) (by simp) h8, k5, h10.frame hN (fun i' hi' x' c' hx' hc' j' v hj hv => ?_)⟩
        have ne : i' ≠ i := fun q => n0 (List.mem_append_right _ (q ▸ hi'))
        exact hK _ _ (away i x c h1 h2 i' ne x' c' hx' hc' j' 0 hj (by omega)) (away i x c h1 h2 i' ne x' c' hx' hc' j' 1 hj (by omega)) hv
      | nd j l2 r2 =>
        obtain ⟨pm, y, d, w0, q1, q2, q3, q4, q5, q6, q7, q8⟩ := par_ok D (.nd j l2 r2) i rfl h9 n1
        refine ⟨List.mem_cons_of_mem _ (List.mem_append_left _ pm), y, d, w0, q1, q2, q3, q4, q5, q6, by rw [lo]; exact q7, fun N' K' f w' hN hK k1 k2 k3 k4 k5 => ?_⟩
        rw [up]
        have ni : i ≠ parOf N k (.nd j l2 r2) i := fun q => n0 (List.mem_append_left _ (q ▸ pm))
        have ds : ∀ b : Bool, (if b = true then 1 else 2) < 3 := fun b => by cases b <;> decide
        have kk : ∀ i' : Nat, i' ≠ parOf N k (.nd j l2 r2) i → ∀ (x' : Tbst_node) (c' : Nat), N[i']? = some x' → x'.cell = (c' : Int) → ∀ (j' : Nat) (v : Int), j' < 3 → K[c' + j']? = some v → K'[c' + j']? = some v := by
          intro i' hi' x' c' hx' hc' j' v hj hv
          exact hK _ _ (away _ y d q1 q2 i' hi' x' c' hx' hc' j' 0 hj (by omega)) (away _ y d q1 q2 i' hi' x' c' hx' hc' j' _ hj (ds _)) hv
        refine ⟨x, c, w, hN _ _ h1, h2, h3, kk i ni x c h1 h2 0 _ (by omega) h4, h5, h6, ?_, kk i ni x c h1 h2 2 _ (by omega) h8, q8 N' K' f w' hN hK k1 k2 k3 k4 k5, h10.frame hN (fun i' hi' => kk i' (fun q => n3 _ pm _ hi' q.symm))⟩
        rw [updT_root rfl]
        exact kk i ni x c h1 h2 1 _ (by omega) h7
    | false =>
      rw [if_neg (by rw [e0, e]; simp)]
      have lo : leafOf N k (.nd i l r) = leafOf N k r := by rw [leafOf, if_neg (by rw [e0, e]; simp)]
      have up : ∀ f, updT N k f (.nd i l r) = .nd i l (updT N k f r) := fun f => by rw [updT, if_neg (by rw [e0, e]; simp)]
      cases r with
      | lf j =>
        refine ⟨List.mem_cons_self, x, c, w, h1, h2, h3, h4, h5, h6, by rw [e, lo]; exact h8, fun N' K' f w' hN hK k1 k2 k3 k4 k5 => ?_⟩
        rw [up]
        rw [e] at hK k4
        refine ⟨x, c, w', hN _ _ h1, h2, h3, k1, k2, k3, hK _ _ (by omega) (by simp) h7, k4, h9.frame hN (fun i' hi' x' c' hx' hc' j' v hj hv => ?_), k5⟩
        have ne : i' ≠ i := fun q => n0 (List.mem_append_left _ (q ▸ hi'))
        exact hK _ _ (away i x c h1 h2 i' ne x' c' hx' hc' j' 0 hj (by omega)) (away i x c h1 h2 i' ne x' c' hx' hc' j' 2 hj (by omega)) hv
      | nd j l2 r2 =>
        obtain ⟨pm, y, d, w0, q1, q2, q3, q4, q5, q6, q7, q8⟩ := par_ok D (.nd j l2 r2) i rfl h10 n2
        refine ⟨List.mem_cons_of_mem _ (List.mem_append_right _ pm), y, d, w0, q1, q2, q3, q4, q5, q6, by rw [lo]; exact q7, fun N' K' f w' hN hK k1 k2 k3 k4 k5 => ?_⟩
        rw [up]
        have ni : i ≠ parOf N k (.nd j l2 r2) i := fun q => n0 (List.mem_append_right _ (q ▸ pm))
        have ds : ∀ b : Bool, (if b = true then 1 else 2) < 3 := fun b => by cases b <;> decide
        have kk : ∀ i' : Nat, i' ≠ parOf N k (.nd j l2 r2) i → ∀ (x' : Tbst_node) (c' : Nat), N[i']? = some x' → x'.cell = (c' : Int) → ∀ (j' : Nat) (v : Int), j' < 3 → K[c' + j']? = some v → K'[c' + j']? = some v := by
          intro i' hi' x' c' hx' hc' j' v hj hv
          exact hK _ _ (away _ y d q1 q2 i' hi' x' c' hx' hc' j' 0 hj (by omega)) (away _ y d q1 q2 i' hi' x' c' hx' hc' j' _ hj (ds _)) hv
        refine ⟨x, c, w, hN _ _ h1, h2, h3, kk i ni x c h1 h2 0 _ (by omega) h4, h5, h6, kk i ni x c h1 h2 1 _ (by omega) h7, ?_, h9.frame hN (fun i' hi' => kk i' (fun q => n3 _ hi' _ pm q)), q8 N' K' f w' hN hK k1 k2 k3 k4 k5⟩
        rw [updT_root rfl]
        exact kk i ni x c h1 h2 2 _ (by omega) h8
end Go.Proofs.YtndhbaidibioeaaGreat.V
