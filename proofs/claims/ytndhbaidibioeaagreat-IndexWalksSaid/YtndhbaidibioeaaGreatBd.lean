/- The tree, with a leaf taken away.
   No condition: these are laws of plain functions. -/
import Derived.Test.YtndhbaidibioeaaGreatBc
namespace Go.Proofs.YtndhbaidibioeaaGreat.V
open Go
set_option linter.unusedVariables false
set_option linter.unusedSimpArgs false
set_option maxRecDepth 100000

/-- Keys are in order. -/
def Ord (N : List Tbst_node) : BT → Prop
  | .lf _ => True
  | .nd i l r => (∀ j ∈ l.ids, lessN (nk N j) (nk N i) = true) ∧ (∀ j ∈ r.ids, lessN (nk N j) (nk N i) = false) ∧ Ord N l ∧ Ord N r
def dirN (N : List Tbst_node) (k : Tbst_node) (i : Nat) : Bool := lessN k (nk N i)
def dn (b : Bool) : Nat := if b = true then 1 else 2
/-- A tree without the leaf that a key leads to. -/
def delT (N : List Tbst_node) (k : Tbst_node) : BT → BT
  | .lf i => .lf i
  | .nd i l r => if lessN k (nk N i) = true then (if l.isNd = true then .nd i (delT N k l) r else r) else (if r.isNd = true then .nd i l (delT N k r) else l)
structure DelOK (N : List Tbst_node) (K : List Int) (k : Tbst_node) (t : BT) (p g : Nat) : Prop where
  gm : g ∈ t.ids
  pm : p ∈ t.ids
  ne : g ≠ p
  at_ : ∃ (x y z : Tbst_node) (c d w v s : Nat), N[g]? = some x ∧ x.cell = (c : Int) ∧ c < 1073741824 ∧ K[c]? = some ((w : Nat) : Int) ∧ w % 4 = 0 ∧ w < 1099511627776 ∧ K[c + dn (lessN k x)]? = some ((p : Nat) : Int) ∧
    N[p]? = some y ∧ y.cell = (d : Int) ∧ d < 1073741824 ∧ K[d]? = some ((v : Nat) : Int) ∧ v % 4 = 0 ∧ v < 1099511627776 ∧ K[d + dn (lessN k y)]? = some ((leafOf N k t : Nat) : Int) ∧ K[d + dn (!lessN k y)]? = some ((s : Nat) : Int) ∧
    s ∈ t.ids ∧ s ≠ leafOf N k t ∧ N[s]? = some z ∧ lessN z x = lessN k x ∧
    ∀ (N' : List Tbst_node) (K' : List Int) (w' : Nat), (∀ (i : Nat) (x : Tbst_node), N[i]? = some x → N'[i]? = some x) → (∀ (b : Nat) (u : Int), b ≠ c → b ≠ c + dn (lessN k x) → b ≠ d → K[b]? = some u → K'[b]? = some u) →
      K'[c]? = some ((w' : Nat) : Int) → w' % 4 = 0 → w' < 1099511627776 → K'[c + dn (lessN k x)]? = some ((s : Nat) : Int) → Lay N' K' (delT N k t) ∧ (delT N k t).root = t.root
theorem away {N : List Tbst_node} {K : List Int} (D : Dis N K) {q i' : Nat} {y x' : Tbst_node} {d c' : Nat} (hq : N[q]? = some y) (hd : y.cell = (d : Int)) (hi : i' ≠ q) (hx : N[i']? = some x') (hc : x'.cell = (c' : Int)) {j z : Nat} (hj : j < 3) (hz : z < 3) : c' + j ≠ d + z := by
  rcases D.apart i' q x' y c' d hx hq hc hd hi with w | w <;> omega
end Go.Proofs.YtndhbaidibioeaaGreat.V
