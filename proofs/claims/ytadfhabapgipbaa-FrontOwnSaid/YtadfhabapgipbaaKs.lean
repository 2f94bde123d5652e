/- Texts, sorted, and each once.
   No condition: these are laws of plain functions. -/
import Derived.Test.YtadfhabapgipbaaVt
import Derived.Test.YtadfhabapgipbaaMq
namespace Go.Proofs.Ytadfhabapgipbaa.V
open Go
set_option linter.unusedVariables false
set_option linter.unusedSimpArgs false

theorem bl_lt : ∀ x y : List UInt8, (x < y) ↔ Op.bytesLess x y = true
  | [], [] => by simp [Op.bytesLess]
  | [], b :: y => by simp [Op.bytesLess]
  | a :: x, [] => by simp [Op.bytesLess]
  | a :: x, b :: y => by
    rw [List.cons_lt_cons_iff, bl_lt x y]
    simp only [Op.bytesLess, Bool.or_eq_true, Bool.and_eq_true, decide_eq_true_eq, beq_iff_eq]
theorem bl_le (x y : List UInt8) : (decide (x ≤ y)) = !Op.bytesLess y x := by
  cases e : Op.bytesLess y x with
  | true =>
    have h := (bl_lt y x).mpr e
    have : ¬ x ≤ y := fun q => (List.not_lt.mpr q) h
    simp [this]
  | false =>
    have : x ≤ y := List.not_lt.mp (fun q => by rw [(bl_lt y x).mp q] at e; cases e)
    simp [this]
theorem sortL_spec (zs : List (List UInt8)) : (sortL zs).Perm zs ∧ (sortL zs).Pairwise (fun a b => Op.bytesLess b a = false) := by
  refine ⟨List.mergeSort_perm _ _, ?_⟩
  have h := List.pairwise_mergeSort (le := fun x y : List UInt8 => decide (x ≤ y)) (fun a b c h1 h2 => by
    rw [bl_le] at h1 h2 ⊢
    cases e : Op.bytesLess c a with
    | false => rfl
    | true =>
      cases e1 : Op.bytesLess a b with
      | true => rw [bl_trans _ _ _ e e1] at h2; cases h2
      | false =>
        have e2 : Op.bytesLess b a = false := by simpa using h1
        have := bl_total _ _ e1 e2
        subst this
        rw [e] at h2; cases h2) (fun a b => by
    rw [bl_le, bl_le]
    cases e : Op.bytesLess b a with
    | false => rfl
    | true =>
      cases e1 : Op.bytesLess a b with
      | false => rfl
      | true => have := bl_trans _ _ _ e e1; rw [bl_irrefl] at this; cases this) zs
  refine h.imp (fun {a b} q => ?_)
  rw [bl_le] at q
  simpa using q

theorem comp_inv (d : Array (List UInt8)) (hs : ∀ i j, i < j → j < d.size → Op.bytesLess d[j]! d[i]! = false) : ∀ m, m ≤ d.size →
    (∀ x, x ∈ Lib.compactUpTo d m ↔ ∃ j, j < m ∧ d[j]! = x) ∧ (Lib.compactUpTo d m).Pairwise (fun a b => Op.bytesLess a b = true) := by
  intro m
  induction m with
  | zero => intro _; exact ⟨fun x => ⟨fun h => by simp [Lib.compactUpTo] at h, fun ⟨j, h, _⟩ => by omega⟩, by simp [Lib.compactUpTo]⟩
  | succ m ih =>
    intro hm
    obtain ⟨h1, h2⟩ := ih (by omega)
    rw [Lib.compactUpTo_succ]
    cases e : Lib.keeps d m with
    | true =>
      rw [if_pos rfl]
      refine ⟨fun x => ?_, ?_⟩
      · rw [List.mem_append, h1, List.mem_singleton]
        constructor
        · rintro (⟨j, hj, hx⟩ | hx)
          · exact ⟨j, by omega, hx⟩
          · exact ⟨m, by omega, hx.symm⟩
        · rintro ⟨j, hj, hx⟩
          rcases Nat.lt_or_ge j m with q | q
          · exact .inl ⟨j, q, hx⟩
          · have : j = m := by omega
            subst this; exact .inr hx.symm
      · rw [List.pairwise_append]
        refine ⟨h2, List.pairwise_singleton _ _, fun a ha b hb => ?_⟩
        rw [List.mem_singleton] at hb
        subst hb
        obtain ⟨j, hj, hx⟩ := (h1 a).mp ha
        subst hx
        have hne : d[m]! ≠ d[m - 1]! := by
          intro q
          have : Lib.keeps d m = false := Lib.keeps_neg (by omega) q
          rw [e] at this; cases this
        have l1 : Op.bytesLess d[m - 1]! d[m]! = true := by
          cases e1 : Op.bytesLess d[m - 1]! d[m]! with
          | true => rfl
          | false => exact absurd (bl_total _ _ (hs (m - 1) m (by omega) (by omega)) e1) hne
        rcases Nat.lt_or_ge j (m - 1) with q | q
        · have l2 := hs j (m - 1) q (by omega)
          cases e2 : Op.bytesLess d[j]! d[m - 1]! with
          | true => exact bl_trans _ _ _ e2 l1
          | false => rw [bl_total _ _ e2 l2]; exact l1
        · have : j = m - 1 := by omega
          subst this; exact l1
    | false =>
      rw [if_neg (by simp), List.append_nil]
      refine ⟨fun x => ?_, h2⟩
      rw [h1]
      constructor
      · rintro ⟨j, hj, hx⟩; exact ⟨j, by omega, hx⟩
      · rintro ⟨j, hj, hx⟩
        rcases Nat.lt_or_ge j m with q | q
        · exact ⟨j, q, hx⟩
        · have : j = m := by omega
          subst this
          have h0 : 0 < j := by
            rcases Nat.eq_zero_or_pos j with q | q
            · subst q; rw [Lib.keeps_lt_one d 0 (by omega)] at e; cases e
            · exact q
          have : d[j]! = d[j - 1]! := by
            apply Classical.byContradiction
            intro hne
            rw [Lib.keeps_pos hne] at e; cases e
          exact ⟨j - 1, by omega, by rw [← this]; exact hx⟩

theorem toB_toList (l : List UInt8) : (toB l).toList = l := by
  unfold toB
  rw [ByteArray.toList_eq]
theorem toList_toB (x : ByteArray) : toB x.toList = x := toList_inj (toB_toList _)
theorem lessB_toB (a b : List UInt8) : lessB (toB a) (toB b) = Op.bytesLess a b := by unfold lessB; rw [toB_toList, toB_toList]

theorem sortB_spec {xs ys : List ByteArray} (h : sortB xs = some ys) : (∀ k, k ∈ ys ↔ k ∈ xs) ∧ ys.Pairwise (fun a b => lessB b a = false) := by
  obtain ⟨_, rfl⟩ := ite_some' h
  obtain ⟨h1, h2⟩ := sortL_spec (xs.map (·.toList))
  refine ⟨fun k => ?_, ?_⟩
  · rw [List.mem_map]
    constructor
    · rintro ⟨z, hz, rfl⟩
      obtain ⟨x, hx, rfl⟩ := List.mem_map.mp (h1.mem_iff.mp hz)
      rw [toList_toB]; exact hx
    · intro hk
      exact ⟨k.toList, h1.mem_iff.mpr (List.mem_map.mpr ⟨k, hk, rfl⟩), toList_toB k⟩
  · rw [List.pairwise_map]
    exact h2.imp (fun {a b} q => by rw [lessB_toB]; exact q)
theorem compB_spec {xs ys : List ByteArray} (h : compB xs = some ys) (hs : xs.Pairwise (fun a b => lessB b a = false)) : (∀ k, k ∈ ys ↔ k ∈ xs) ∧ ys.Pairwise (fun a b => lessB a b = true) := by
  obtain ⟨_, rfl⟩ := ite_some' h
  have hg : ∀ j, j < xs.length → (xs.map (·.toList)).toArray[j]! = (xs[j]!).toList := by
    intro j hj
    rw [getElem!_pos _ j (by simpa using hj), getElem!_pos _ j hj]
    simp
  have hsz : (xs.map (·.toList)).toArray.size = xs.length := by simp
  obtain ⟨h1, h2⟩ := comp_inv (xs.map (·.toList)).toArray (fun i j hij hj => by
    rw [hsz] at hj
    rw [hg j hj, hg i (by omega)]
    have := List.pairwise_iff_getElem.mp hs i j (by omega) hj hij
    rw [getElem!_pos _ j hj, getElem!_pos _ i (by omega)]
    exact this) xs.length (by rw [hsz]; exact Nat.le_refl _)
  have hc : Lib.compact (xs.map (·.toList)) = Lib.compactUpTo (xs.map (·.toList)).toArray xs.length := by unfold Lib.compact; rw [List.length_map]
  rw [hc]
  refine ⟨fun k => ?_, ?_⟩
  · rw [List.mem_map]
    constructor
    · rintro ⟨z, hz, rfl⟩
      obtain ⟨j, hj, rfl⟩ := (h1 z).mp hz
      rw [hg j hj, toList_toB, getElem!_pos _ j hj]; exact List.getElem_mem hj
    · intro hk
      obtain ⟨j, hj, rfl⟩ := List.mem_iff_getElem.mp hk
      exact ⟨_, (h1 _).mpr ⟨j, hj, rfl⟩, by rw [hg j hj, toList_toB, getElem!_pos _ j hj]⟩
  · rw [List.pairwise_map]
    exact h2.imp (fun {a b} q => by rw [lessB_toB]; exact q)
theorem compB_len {xs ys : List ByteArray} (h : compB xs = some ys) : ys.length ≤ xs.length := by
  obtain ⟨_, rfl⟩ := ite_some' h
  rw [List.length_map]; have := comp_le (xs.map (·.toList)); rw [List.length_map] at this; exact this
theorem sortB_some {xs : List ByteArray} (h : xs.length < 1000000) : ∃ ys, sortB xs = some ys := by unfold sortB; rw [if_pos (by omega)]; exact ⟨_, rfl⟩
theorem compB_some {xs : List ByteArray} (h : xs.length < 1000000) : ∃ ys, compB xs = some ys := by unfold compB; rw [if_pos (by omega)]; exact ⟨_, rfl⟩
end Go.Proofs.Ytadfhabapgipbaa.V
