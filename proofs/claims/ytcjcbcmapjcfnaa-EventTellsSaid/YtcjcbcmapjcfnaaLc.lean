/- The plain law of EventLast.
   No condition: this is a law of plain functions. -/
import Derived.Test.YtcjcbcmapjcfnaaFo
namespace Go.Proofs.Ytcjcbcmapjcfnaa.V
open Go
set_option linter.unusedVariables false
set_option linter.unusedSimpArgs false

/-! ### A map of each key's last event -/
def Kd (m : List (ByteArray × TEvent)) : Prop := m.Pairwise (fun a b => a.1 ≠ b.1)
theorem mfind_none {k : ByteArray} : ∀ {m : List (ByteArray × TEvent)} {i : Nat}, mfind m k i = none → ∀ e ∈ m, e.1 ≠ k
  | [], _, _, e, h => by cases h
  | x :: m, i, h, e, he => by
    unfold mfind at h
    split at h
    · cases h
    · rename_i q
      rcases List.mem_cons.mp he with w | w
      · subst w; exact fun e => q e.symm
      · exact mfind_none h e w
theorem mfind_some {k : ByteArray} : ∀ {m : List (ByteArray × TEvent)} {i : Nat} {p : Nat × TEvent}, mfind m k i = some p → ∃ A v B, m = A ++ (k, v) :: B ∧ p.1 = i + A.length
  | [], _, _, h => by cases h
  | x :: m, i, p, h => by
    unfold mfind at h
    split at h
    · rename_i q
      cases h
      obtain ⟨x1, x2⟩ := x
      dsimp only at q
      subst q
      exact ⟨[], x2, m, rfl, rfl⟩
    · obtain ⟨A, v, B, h1, h2⟩ := mfind_some h
      exact ⟨x :: A, v, B, by rw [h1]; rfl, by rw [h2, List.length_cons]; omega⟩
theorem mset_mem {m : List (ByteArray × TEvent)} (hm : Kd m) (k : ByteArray) (v : TEvent) (t : ByteArray × TEvent) : t ∈ mset m k v ↔ t = (k, v) ∨ (t ∈ m ∧ t.1 ≠ k) := by
  unfold mset
  cases h : mfind m k 0 with
  | none =>
    have := mfind_none h
    dsimp only
    rw [List.mem_append, List.mem_singleton]
    constructor
    · rintro (q | q)
      · exact .inr ⟨q, this t q⟩
      · exact .inl q
    · rintro (q | ⟨q, _⟩)
      · exact .inr q
      · exact .inl q
  | some p =>
    obtain ⟨A, v0, B, rfl, h2⟩ := mfind_some h
    unfold Kd at hm
    rw [List.pairwise_append, List.pairwise_cons] at hm
    dsimp only
    rw [h2, Nat.zero_add, List.set_append_right _ _ (Nat.le_refl _), Nat.sub_self, List.set_cons_zero, List.mem_append, List.mem_append, List.mem_cons, List.mem_cons]
    constructor
    · rintro (q | q | q)
      · exact .inr ⟨.inl q, hm.2.2 t q (k, v0) List.mem_cons_self⟩
      · exact .inl q
      · exact .inr ⟨.inr (.inr q), (hm.2.1.1 t q).symm⟩
    · rintro (q | ⟨q | q | q, r⟩)
      · exact .inr (.inl q)
      · exact .inl q
      · subst q; exact absurd rfl r
      · exact .inr (.inr q)
theorem mset_kd {m : List (ByteArray × TEvent)} (hm : Kd m) (k : ByteArray) (v : TEvent) : Kd (mset m k v) := by
  unfold mset
  cases h : mfind m k 0 with
  | none =>
    have := mfind_none h
    unfold Kd
    rw [List.pairwise_append]
    exact ⟨hm, List.pairwise_singleton _ _, fun a ha b hb => by rw [List.mem_singleton] at hb; subst hb; exact this a ha⟩
  | some p =>
    obtain ⟨A, v0, B, rfl, h2⟩ := mfind_some h
    unfold Kd at hm ⊢
    dsimp only
    rw [h2, Nat.zero_add, List.set_append_right _ _ (Nat.le_refl _), Nat.sub_self, List.set_cons_zero]
    rw [List.pairwise_append, List.pairwise_cons] at hm ⊢
    refine ⟨hm.1, ⟨hm.2.1.1, hm.2.1.2⟩, fun a ha b hb => ?_⟩
    rcases List.mem_cons.mp hb with w | w
    · subst w; exact hm.2.2 a ha (k, v0) List.mem_cons_self
    · exact hm.2.2 a ha b (List.mem_cons_of_mem _ w)
theorem mset_len (m : List (ByteArray × TEvent)) (k : ByteArray) (v : TEvent) : (mset m k v).length ≤ m.length + 1 := by
  unfold mset
  cases mfind m k 0 with
  | none => dsimp only; rw [List.length_append]; simp
  | some p => dsimp only; rw [List.length_set]; omega
theorem lastL1 : ∀ (l : List TEvent) (i : Nat) (m : List (ByteArray × TEvent)), Kd m → (∀ e ∈ m, e.2.Key = e.1) →
    ∃ m', F_event_Last_L1 l i m = some m' ∧ Kd m' ∧ (∀ e ∈ m', e.2.Key = e.1) ∧ m'.length ≤ m.length + l.length ∧ (∀ k e, (k, e) ∈ m' ↔ (match lastFor k l with | some x => e = x | none => (k, e) ∈ m))
  | [], i, m, h1, h2 => ⟨m, rfl, h1, h2, Nat.le_refl _, fun k e => Iff.rfl⟩
  | x :: l, i, m, h1, h2 => by
    obtain ⟨m', g1, g2, g3, g4, g5⟩ := lastL1 l (i + 1) (mset m x.Key x) (mset_kd h1 _ _) (fun e he => by
      rcases (mset_mem h1 _ _ e).mp he with q | q
      · subst q; rfl
      · exact h2 e q.1)
    refine ⟨m', by rw [F_event_Last_L1]; exact g1, g2, g3, by have := mset_len m x.Key x; rw [List.length_cons]; omega, fun k e => ?_⟩
    rw [g5, show lastFor k (x :: l) = (match lastFor k l with | some x => some x | none => if eqB x.Key k = true then some x else none) from rfl]
    cases lastFor k l with
    | some y => exact Iff.rfl
    | none =>
      dsimp only
      rw [mset_mem h1]
      rcases Bool.eq_false_or_eq_true (eqB x.Key k) with w | w
      · have := eqB_iff.mp w
        subst this
        rw [if_pos w]
        dsimp only
        constructor
        · rintro (q | ⟨_, q⟩)
          · exact (Prod.mk.inj q).2
          · exact absurd rfl q
        · intro q; exact .inl (by rw [q])
      · have := eqB_ne.mp w
        rw [if_neg (by rw [w]; simp)]
        dsimp only
        constructor
        · rintro (q | ⟨q, _⟩)
          · exact absurd (Prod.mk.inj q).1.symm this
          · exact q
        · intro q; exact .inr ⟨q, fun e => this e.symm⟩
/-! ### Last, told -/
def SoE (l : List TEvent) : Prop := l.Pairwise (fun a b => lessB a.Key b.Key = true)
theorem soE_ext {a b : List TEvent} (ha : SoE a) (hb : SoE b) (h : ∀ t, t ∈ a ↔ t ∈ b) : a = b :=
  sorted_ext (R := fun x y : TEvent => lessB x.Key y.Key = true) (fun x q => by rw [less_irrefl] at q; cases q) (fun x y q r => by rw [less_asymm q] at r; cases r) ha hb h
theorem evB_evV (x : TEvent) : evB (evV x) = x := by
  obtain ⟨a, b, c, d⟩ := x
  unfold evB evV
  have : toB b.toList = b := toList_arr b
  simp only [this]
theorem last_eq (l : List TEvent) (hl : l.length ≤ 1000) (hk : ∀ e ∈ l, e.Key.size ≤ maxLen) : ∃ ys, F_event_Last l = some ys ∧ SoE ys ∧ (∀ e, e ∈ ys ↔ lastFor e.Key l = some e) ∧ ys.length ≤ l.length := by
  obtain ⟨m, g1, g2, g3, g4, g5⟩ := lastL1 l 0 [] List.Pairwise.nil (fun e h => by cases h)
  have hin : ∀ t ∈ m, lastFor t.1 l = some t.2 := by
    intro t ht
    have := (g5 t.1 t.2).mp ht
    cases q : lastFor t.1 l with
    | some x => rw [q] at this; dsimp only at this; rw [this]
    | none => rw [q] at this; cases this
  have hml : m.length ≤ l.length := by simpa using g4
  have hc : (m.all (fun e => (e.1.toList == e.2.Key.toList) && Nat.ble e.2.Key.toList.length maxLen) && nodupB (m.map (fun e => (evV e.2).k)) && Nat.ble m.length 1000000) = true := by
    rw [Bool.and_eq_true, Bool.and_eq_true, List.all_eq_true, nodupB_iff]
    refine ⟨⟨fun t ht => ?_, ?_⟩, Nat.ble_eq_true_of_le (by omega)⟩
    · rw [Bool.and_eq_true]
      refine ⟨by rw [g3 t ht]; simp, Nat.ble_eq_true_of_le ?_⟩
      have := hk t.2 (lastFor_key (hin t ht)).1
      rw [show t.2.Key.toList.length = t.2.Key.size from by rw [ByteArray.toList_eq]; rfl]
      exact this
    · unfold List.Nodup
      rw [List.pairwise_map]
      refine List.Pairwise.imp_of_mem (fun {a b} ha hb q e => ?_) g2
      have : a.2.Key = b.2.Key := toList_inj e
      rw [g3 a ha, g3 b hb] at this
      exact q this
  refine ⟨(sortK (m.map (fun e => evV e.2))).map evB, ?_, ?_, fun e => ?_, ?_⟩
  · unfold F_event_Last
    rw [g1]
    simp only [Option.bind_some]
    unfold lastL
    rw [if_pos hc]; rfl
  · have hnd : ((m.map (fun e => evV e.2)).map (·.k)).Nodup := by
      rw [Bool.and_eq_true, Bool.and_eq_true, nodupB_iff] at hc
      rw [List.map_map]; exact hc.1.2
    have hle := sortK_le (m.map (fun e => evV e.2))
    have hnd2 : ((sortK (m.map (fun e => evV e.2))).map (·.k)).Nodup := ((sortK_perm _).map _).nodup_iff.mpr hnd
    unfold List.Nodup at hnd2
    unfold SoE
    rw [List.pairwise_map] at hnd2 ⊢
    refine (hle.and hnd2).imp (fun {a b} q => ?_)
    show lessB (toB a.k) (toB b.k) = true
    unfold lessB
    rw [show (toB a.k).toList = a.k from by unfold toB; rw [ByteArray.toList_eq], show (toB b.k).toList = b.k from by unfold toB; rw [ByteArray.toList_eq]]
    cases e : Op.bytesLess a.k b.k with
    | true => rfl
    | false => exact absurd (bl_total _ _ e q.1) q.2
  · rw [List.mem_map]
    constructor
    · rintro ⟨v, hv, rfl⟩
      rw [(sortK_perm _).mem_iff, List.mem_map] at hv
      obtain ⟨t, ht, rfl⟩ := hv
      rw [evB_evV, g3 t ht]
      exact hin t ht
    · intro h
      have : (e.Key, e) ∈ m := by
        rw [g5, h]
      exact ⟨evV e, (sortK_perm _).mem_iff.mpr (List.mem_map.mpr ⟨(e.Key, e), this, rfl⟩), evB_evV e⟩
  · rw [List.length_map, (sortK_perm _).length_eq, List.length_map]; exact hml
theorem lastFor_so {ys : List TEvent} (h : SoE ys) (k : ByteArray) (e : TEvent) : lastFor k ys = some e ↔ e ∈ ys ∧ e.Key = k := by
  induction ys with
  | nil => constructor
           · intro h; cases h
           · rintro ⟨h, _⟩; cases h
  | cons x ys ih =>
    unfold SoE at h
    rw [List.pairwise_cons] at h
    have ih := ih h.2
    rw [show lastFor k (x :: ys) = (match lastFor k ys with | some x => some x | none => if eqB x.Key k = true then some x else none) from rfl]
    cases q : lastFor k ys with
    | some y =>
      dsimp only
      rw [← q, ih]
      constructor
      · rintro ⟨a, b⟩; exact ⟨List.mem_cons_of_mem _ a, b⟩
      · rintro ⟨a, b⟩
        rcases List.mem_cons.mp a with w | w
        · subst w
          obtain ⟨c1, c2⟩ := lastFor_key q
          have := h.1 y c1
          rw [b, c2, less_irrefl] at this; cases this
        · exact ⟨w, b⟩
    | none =>
      dsimp only
      rcases Bool.eq_false_or_eq_true (eqB x.Key k) with w | w
      · have hw := eqB_iff.mp w
        rw [if_pos w]
        constructor
        · intro h1; cases h1; exact ⟨List.mem_cons_self, hw⟩
        · rintro ⟨a, b⟩
          rcases List.mem_cons.mp a with u | u
          · rw [u]
          · have := h.1 e u; rw [hw, b, less_irrefl] at this; cases this
      · have hw := eqB_ne.mp w
        rw [if_neg (by rw [w]; simp)]
        constructor
        · intro h1; cases h1
        · rintro ⟨a, b⟩
          rcases List.mem_cons.mp a with u | u
          · subst u; exact absurd b hw
          · have := ih.mpr ⟨u, b⟩; rw [q] at this; cases this
theorem lastFor_last {l ys : List TEvent} (h1 : SoE ys) (h2 : ∀ e, e ∈ ys ↔ lastFor e.Key l = some e) (k : ByteArray) : lastFor k ys = lastFor k l := by
  cases q : lastFor k l with
  | some e =>
    have hk := (lastFor_key q).2
    rw [lastFor_so h1]
    exact ⟨(h2 e).mpr (by rw [hk]; exact q), hk⟩
  | none =>
    cases q2 : lastFor k ys with
    | none => rfl
    | some e =>
      obtain ⟨a, b⟩ := (lastFor_so h1 k e).mp q2
      have := (h2 e).mp a
      rw [b, q] at this; cases this
theorem lastC (p : List TEvent) (hp : p.length ≤ 1000000) (h : SoE p) : ∀ (l : List TEvent) (i : Nat), 1 ≤ i → p.drop i = l → F_law05_EventLast_L1 p l i = some (.go ()) := by
  intro l
  induction l with
  | nil => intro i _ _; rfl
  | cons z l ih =>
    intro i h1 hd
    have h0 : p[i]? = some z := by
      have : (p.drop i)[0]? = some z := by rw [hd]; rfl
      rw [List.getElem?_drop] at this; exact this
    obtain ⟨hi, hz⟩ := List.getElem?_eq_some_iff.mp h0
    have hq : p[i - 1]? = some p[i - 1] := List.getElem?_eq_getElem (by omega)
    rw [F_law05_EventLast_L1, wrap_id (by omega) (by omega), show ((i : Int) - 1) = ((i - 1 : Nat) : Int) by omega, getI_nat, hq]
    simp only [Option.bind_some]
    have hlt : lessB p[i - 1].Key z.Key = true := by
      unfold SoE at h
      rw [List.pairwise_iff_getElem] at h
      rw [← hz]; exact h (i - 1) i (by omega) hi (by omega)
    rw [hlt]
    simp only [Bool.not_true, Bool.false_eq_true, if_false]
    exact ih (i + 1) (by omega) (by rw [← List.drop_drop, hd]; rfl)
theorem plain_EventLast (p0 : List TKV) (p1 : List TEvent) (w0 : (∀ a ∈ p0, W_TKV a) ∧ p0.length ≤ maxLen) (w1 : (∀ a ∈ p1, W_TEvent a) ∧ p1.length ≤ maxLen) : ∃ n, F_law05_EventLast n p0 p1 = some true := by
  refine ⟨2000, ?_⟩
  unfold F_law05_EventLast
  by_cases h1 : p1.length ≤ 60
  case neg =>
    have e1 : decide ((p1.length : Int) ≤ 60) = false := decide_eq_false (by omega)
    simp only [F_law05_few, Option.bind_some, e1, Bool.not_false, cond_true, if_true]
  have e1 : decide ((p1.length : Int) ≤ 60) = true := decide_eq_true (by omega)
  by_cases h0 : p0.length ≤ 60
  case neg =>
    have e0 : decide ((p0.length : Int) > 60) = true := decide_eq_true (by omega)
    simp only [F_law05_few, Option.bind_some, e1, e0, Bool.not_true, cond_false, if_true]
  have e0 : decide ((p0.length : Int) > 60) = false := decide_eq_false (by omega)
  simp only [F_law05_few, Option.bind_some, e1, e0, Bool.not_true, cond_false, Bool.false_eq_true, if_false]
  rcases map_eq p0 (by omega) with hm | ⟨hm, hso⟩
  · rw [hm]; simp only [Option.bind_some, Bool.not_false, if_true]
  · rw [hm]
    simp only [Option.bind_some, Bool.not_true, Bool.false_eq_true, if_false]
    have hks : ∀ e ∈ p1, e.Key.size ≤ maxLen := fun e he => (w1.1 e he).2.1
    obtain ⟨ys, y1, y2, y3, y4⟩ := last_eq p1 (by omega) hks
    have hks2 : ∀ e ∈ ys, e.Key.size ≤ maxLen := fun e he => hks e (lastFor_key ((y3 e).mp he)).1
    obtain ⟨zs, z1, z2, z3, z4⟩ := last_eq ys (by omega) hks2
    have hzy : zs = ys := soE_ext z2 y2 (fun e => by
      rw [z3, lastFor_so y2]
      exact ⟨fun h => h.1, fun h => ⟨h, rfl⟩⟩)
    subst hzy
    rw [y1]
    simp only [Option.bind_some]
    rw [lastC zs (by omega) y2 _ 1 (Nat.le_refl _) rfl]
    simp only [Option.bind_some, lpK]
    have hlen := foldM_len p1 p0 hso
    rw [fold_eq p1 hso (by omega) (by omega)]
    simp only [Option.bind_some]
    rw [fold_eq zs hso (by omega) (by omega)]
    simp only [Option.bind_some]
    have hsame : zs.foldl stepM p0 = p1.foldl stepM p0 := so_ext (foldM_so _ _ hso) (foldM_so _ _ hso) (fun t => by rw [foldM_mem, foldM_mem, lastFor_last y2 y3])
    rw [hsame]
    simp only [sameK, Option.bind_some, if_true]
    rw [z1]
    simp only [Option.bind_some]
    have : F_ref05_Events zs zs = some true := sameE zs
    rw [this]; rfl
end Go.Proofs.Ytcjcbcmapjcfnaa.V
