/- Of a map just some keys: what is told of these is the same.
   No condition: these are laws of plain functions. -/
import Derived.Test.YtadfhabapgipbaaMq
namespace Go.Proofs.Ytadfhabapgipbaa.V
open Go
set_option linter.unusedVariables false
set_option linter.unusedSimpArgs false

def PwK (m : List KV) : Prop := m.Pairwise (fun x y => lessB x.key y.key = true)
theorem sorted_pw {m : List KV} : Sorted m ↔ PwK m := by
  unfold PwK
  rw [List.pairwise_iff_getElem]
  constructor
  · intro h i j hi hj hij; exact h i j _ _ hij (List.getElem?_eq_getElem hi) (List.getElem?_eq_getElem hj)
  · intro h i j x y hij hx hy
    obtain ⟨hi, rfl⟩ := List.getElem?_eq_some_iff.mp hx
    obtain ⟨hj, rfl⟩ := List.getElem?_eq_some_iff.mp hy
    exact h i j hi hj hij
theorem getK_key {m : List KV} {k : ByteArray} {x : KV} (h : getK m k = some x) : x.key = k := by
  unfold getK at h
  have := List.find?_some (p := fun x : KV => eqB x.key k) h
  exact eqB_iff.mp this
def ownOf (m : List KV) (ks : List ByteArray) : List KV := ks.filterMap (getK m)
theorem own_pw {m : List KV} : ∀ {ks : List ByteArray}, ks.Pairwise (fun a b => lessB a b = true) → PwK (ownOf m ks) := by
  intro ks
  induction ks with
  | nil => intro _; exact List.Pairwise.nil
  | cons k ks ih =>
    intro h
    rw [List.pairwise_cons] at h
    unfold ownOf PwK
    rw [List.filterMap_cons]
    cases e : getK m k with
    | none => exact ih h.2
    | some x =>
      dsimp only
      rw [List.pairwise_cons]
      refine ⟨fun y hy => ?_, ih h.2⟩
      obtain ⟨k', hk', hg⟩ := List.mem_filterMap.mp hy
      rw [getK_key e, getK_key hg]; exact h.1 k' hk'
theorem own_get {m : List KV} {k : ByteArray} : ∀ {ks : List ByteArray}, ks.Pairwise (fun a b => lessB a b = true) → k ∈ ks → getK (ownOf m ks) k = getK m k := by
  intro ks
  induction ks with
  | nil => intro _ h; cases h
  | cons k0 ks ih =>
    intro h hk
    rw [List.pairwise_cons] at h
    by_cases e0 : k = k0
    · subst e0
      cases e : getK m k with
      | none =>
        have : ∀ x ∈ ownOf m (k :: ks), ¬ eqB x.key k = true := by
          intro x hx q
          obtain ⟨k', hk', hg⟩ := List.mem_filterMap.mp hx
          have q := eqB_iff.mp q
          rw [getK_key hg] at q
          subst q
          rw [e] at hg; cases hg
        exact List.find?_eq_none.mpr this
      | some x =>
        unfold ownOf getK
        rw [List.filterMap_cons]
        have : getK m k = some x := e
        unfold getK at this
        rw [this]
        dsimp only
        rw [List.find?_cons_of_pos (p := fun x : KV => eqB x.key k) (by rw [eqB_iff]; exact getK_key e)]
    · have hk' : k ∈ ks := by
        rcases List.mem_cons.mp hk with q | q
        · exact absurd q e0
        · exact q
      have ih' := ih h.2 hk'
      unfold ownOf at ih' ⊢
      rw [List.filterMap_cons]
      cases e : getK m k0 with
      | none => exact ih'
      | some x =>
        dsimp only
        have : ¬ eqB x.key k = true := by rw [eqB_iff, getK_key e]; exact fun q => e0 q.symm
        have e2 : getK (x :: List.filterMap (getK m) ks) k = getK (List.filterMap (getK m) ks) k := List.find?_cons_of_neg (p := fun x : KV => eqB x.key k) this
        rw [e2]; exact ih'
theorem own_find {m : List KV} (hm : Sorted m) {ks : List ByteArray} (h : ks.Pairwise (fun a b => lessB a b = true)) {k : ByteArray} (hk : k ∈ ks) : findK (ownOf m ks) k = findK m k := by
  rw [← getK_find (sorted_pw.mpr (own_pw h)), ← getK_find hm, own_get h hk]
def ownF (m : List KV) (ks : List ByteArray) : List KV := m.filter (fun x => ks.any (fun k => eqB k x.key))
theorem ownF_find {m : List KV} (hm : Sorted m) {ks : List ByteArray} {k : ByteArray} (hk : k ∈ ks) : findK (ownF m ks) k = findK m k := by
  have hs : Sorted (ownF m ks) := sorted_pw.mpr ((sorted_pw.mp hm).filter _)
  rw [← getK_find hs, ← getK_find hm]
  unfold getK ownF
  rw [List.find?_filter]
  congr 1
  funext x
  cases e : eqB x.key k with
  | false => simp
  | true =>
    have := eqB_iff.mp e
    have h2 : ks.any (fun k => eqB k x.key) = true := List.any_eq_true.mpr ⟨k, hk, by rw [eqB_iff]; exact this.symm⟩
    simp [h2]
theorem bad1_congr {m m' : List KV} {c : Cmp} (h : findK m' c.key = findK m c.key) : bad1 m' c = bad1 m c := by unfold bad1; rw [h]
theorem holds_congr {m m' : List KV} {l : List Cmp} (h : ∀ c ∈ l, findK m' c.key = findK m c.key) : holds m' l = holds m l := by
  unfold holds
  congr 1
  induction l with
  | nil => rfl
  | cons c l ih =>
    rw [List.any_cons, List.any_cons, bad1_congr (h c List.mem_cons_self), ih (fun c hc => h c (List.mem_cons_of_mem _ hc))]
theorem planOps_congr {m m' : List KV} {l : List OpX} (h : ∀ o ∈ l, findK m' o.key = findK m o.key) : planOps m' l = planOps m l := by
  unfold planOps
  apply List.filter_congr
  intro o ho
  rw [h o ho]
end Go.Proofs.Ytadfhabapgipbaa.V
