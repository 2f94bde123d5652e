/- Each key's last event, as the document has it, and as the program has it.
   No condition: these are laws of plain functions. -/
import Derived.Test.YtfgoccdjbgecfaaCq
namespace Go.Proofs.Ytfgoccdjbgecfaa.V
open Go
set_option linter.unusedVariables false
set_option linter.unusedSimpArgs false

theorem lastFor_app (k : ByteArray) : ∀ (a b : List TEvent), lastFor k (a ++ b) = match lastFor k b with | some x => some x | none => lastFor k a
  | [], b => by cases h : lastFor k b <;> simp [h, lastFor]
  | x :: a, b => by
    rw [List.cons_append, lastFor, lastFor_app k a b]
    cases h : lastFor k b with
    | some y => rfl
    | none => rfl
theorem lastFor_one (k : ByteArray) (z : TEvent) : lastFor k [z] = if eqB z.Key k = true then some z else none := rfl
theorem rl3 (p : List TEvent) (z : TEvent) (hl : p.length ≤ 1000000) : ∀ (f : Nat) (b : Bool) (i : Nat), p.length - i < f → ∃ r, F_ref05_Last_L3 p z f b (i : Int) = some r ∧ r.1 = (b && (p.drop i).all (fun x => !eqB x.Key z.Key))
  | 0, _, _, h => by omega
  | f + 1, b, i, h => by
    rw [F_ref05_Last_L3]
    rcases Nat.lt_or_ge i p.length with q | q
    · rw [if_pos (decide_eq_true (by omega))]
      have hw : IntKind.i64.wrap ((i : Int) + 1) = ((i + 1 : Nat) : Int) := by rw [wrap_id (by omega) (by omega)]; omega
      rw [hw, List.drop_eq_getElem_cons q, List.all_cons]
      cases b with
      | true =>
        rw [if_pos rfl, getI_nat, List.getElem?_eq_getElem q]
        simp only [Option.bind_some]
        obtain ⟨r, a, c⟩ := rl3 p z hl f (!eqB p[i].Key z.Key) (i + 1) (by omega)
        exact ⟨r, a, by rw [c]; simp⟩
      | false =>
        rw [if_neg (by simp)]
        simp only [Option.bind_some]
        obtain ⟨r, a, c⟩ := rl3 p z hl f false (i + 1) (by omega)
        exact ⟨r, a, by rw [c]; simp⟩
    · rw [if_neg (by rw [decide_eq_true_iff]; omega), List.drop_of_length_le q]
      exact ⟨_, rfl, by simp⟩
theorem rl2 (z : TEvent) : ∀ (A B : List TEvent) (j : Nat), (∀ a ∈ A, lessB a.Key z.Key = true) → (∀ b ∈ B, lessB b.Key z.Key = false) → ∃ r, F_ref05_Last_L2 z (A ++ B) j = some r ∧ r.1 = ((j + A.length : Nat) : Int)
  | [], B, j, _, h => by
    cases B with
    | nil => exact ⟨_, rfl, by simp⟩
    | cons b B =>
      rw [List.nil_append, F_ref05_Last_L2, if_neg (by rw [h b List.mem_cons_self]; simp)]
      exact ⟨_, rfl, by simp⟩
  | a :: A, B, j, h1, h2 => by
    rw [List.cons_append, F_ref05_Last_L2, if_pos (h1 a List.mem_cons_self)]
    obtain ⟨r, c, d⟩ := rl2 z A B (j + 1) (fun x hx => h1 x (List.mem_cons_of_mem _ hx)) h2
    exact ⟨r, c, by rw [d, List.length_cons]; omega⟩
theorem splitE {m : List TEvent} (h : SoE m) (k : ByteArray) : ∃ A B, m = A ++ B ∧ (∀ a ∈ A, lessB a.Key k = true) ∧ (∀ b ∈ B, lessB b.Key k = false) := by
  induction m with
  | nil => exact ⟨[], [], rfl, fun _ h => absurd h List.not_mem_nil, fun _ h => absurd h List.not_mem_nil⟩
  | cons a m ih =>
    unfold SoE at h
    rw [List.pairwise_cons] at h
    cases hc : lessB a.Key k with
    | true =>
      obtain ⟨A, B, e, h1, h2⟩ := ih h.2
      refine ⟨a :: A, B, by rw [e]; rfl, fun x hx => ?_, h2⟩
      rcases List.mem_cons.mp hx with q | q
      · subst q; exact hc
      · exact h1 x q
    | false =>
      refine ⟨[], a :: m, rfl, fun _ h => absurd h List.not_mem_nil, fun b hb => ?_⟩
      rcases List.mem_cons.mp hb with q | q
      · subst q; exact hc
      · cases e : lessB b.Key k with
        | false => rfl
        | true => have := less_trans (h.1 b q) e; rw [hc] at this; cases this
theorem rl1 {n : Nat} (p : List TEvent) (hl : p.length ≤ 1000) (hn : 1000 < n) : ∀ (r : List TEvent) (i : Nat) (out : List TEvent), p.drop i = r → i ≤ p.length → SoE out → out.length ≤ i → (∀ e, e ∈ out ↔ lastFor e.Key (p.take i) = some e ∧ ∀ x ∈ p.drop i, x.Key ≠ e.Key) →
    ∃ ys, F_ref05_Last_L1 n p r i out = some ys ∧ SoE ys ∧ ∀ e, e ∈ ys ↔ lastFor e.Key p = some e
  | [], i, out, hd, hi, hs, ho, hm => by
    refine ⟨out, rfl, hs, fun e => ?_⟩
    have hlen := List.drop_eq_nil_iff.mp hd
    rw [hm, List.take_of_length_le hlen, hd]
    exact ⟨fun h => h.1, fun h => ⟨h, fun x hx => absurd hx List.not_mem_nil⟩⟩
  | z :: r, i, out, hd, hi, hs, ho, hm => by
    have hlt : i < p.length := by
      rcases Nat.lt_or_ge i p.length with q | q
      · exact q
      · rw [List.drop_of_length_le q] at hd; cases hd
    have hd2 : p.drop (i + 1) = r := by rw [← List.drop_drop, hd]; rfl
    have hz : p[i] = z := by
      have := List.drop_eq_getElem_cons hlt
      rw [hd] at this
      exact (List.cons.inj this).1.symm
    have ht : p.take (i + 1) = p.take i ++ [z] := by rw [List.take_succ_eq_append_getElem hlt, hz]
    have hw : IntKind.i64.wrap ((i : Int) + 1) = ((i + 1 : Nat) : Int) := by rw [wrap_id (by omega) (by omega)]; omega
    rw [F_ref05_Last_L1, hw]
    obtain ⟨s, h3, h4⟩ := rl3 p z (by omega) n true (i + 1) (by omega)
    rw [h3]
    simp only [Option.bind_some]
    rw [Bool.true_and, hd2] at h4
    -- another key's
    have oth : ∀ e : TEvent, e.Key ≠ z.Key → (lastFor e.Key (p.take (i + 1)) = some e ∧ (∀ x ∈ p.drop (i + 1), x.Key ≠ e.Key) ↔ lastFor e.Key (p.take i) = some e ∧ ∀ x ∈ p.drop i, x.Key ≠ e.Key) := by
      intro e he
      rw [ht, lastFor_app, lastFor_one, if_neg (by rw [eqB_iff]; exact fun w => he w.symm), hd2, hd]
      dsimp only
      exact ⟨fun ⟨a, b⟩ => ⟨a, fun x hx => by rcases List.mem_cons.mp hx with q | q; rw [q]; exact fun w => he w.symm; exact b x q⟩, fun ⟨a, b⟩ => ⟨a, fun x hx => b x (List.mem_cons_of_mem _ hx)⟩⟩
    have notin : ∀ e ∈ out, e.Key ≠ z.Key := by
      intro e he w
      exact ((hm e).mp he).2 z (by rw [hd]; exact List.mem_cons_self) w.symm
    cases hb : s.1 with
    | false =>
      simp only [Bool.not_false, if_true, Option.bind_some]
      refine rl1 p hl hn r (i + 1) out hd2 hlt hs (by omega) (fun e => ?_)
      by_cases q : e.Key = z.Key
      · constructor
        · intro h; exact absurd q (notin e h)
        · rintro ⟨_, h⟩
          rw [hd2] at h
          have := h4.symm
          rw [hb, List.all_eq_false] at this
          obtain ⟨x, hx, hxe⟩ := this
          have hxk : x.Key = z.Key := eqB_iff.mp (by simpa using hxe)
          exact absurd (hxk.trans q.symm) (h x hx)
      · rw [hm, oth e q]
    | true =>
      simp only [Bool.not_true, Bool.false_eq_true, if_false]
      obtain ⟨A, B, rfl, hA, hB⟩ := splitE hs z.Key
      obtain ⟨s2, g1, g2⟩ := rl2 z A B 0 hA hB
      rw [Nat.zero_add] at g2
      rw [List.length_append] at ho
      rw [g1]
      simp only [Option.bind_some]
      rw [g2]
      have e1 : subL0 (A ++ B) 0 (A.length : Int) = some A := by
        unfold subL0
        rw [if_pos ⟨by omega, by omega, by rw [List.length_append]; omega⟩]
        simp
      have e2 : subL0 (A ++ B) (A.length : Int) ((A ++ B).length : Int) = some B := by
        unfold subL0
        rw [if_pos ⟨by omega, by rw [List.length_append]; omega, by omega⟩, Int.toNat_natCast, Int.toNat_natCast, List.drop_left, List.take_of_length_le (by rw [List.length_append]; omega)]
      rw [e1, e2]
      simp only [Option.bind_some]
      rw [appL_ok (by simp; omega) (by omega) (by omega)]
      simp only [Option.bind_some]
      rw [appL_ok (by simp; omega) (by omega) (by omega)]
      simp only [Option.bind_some]
      rw [appL_ok (by simp; omega) (by omega) (by omega)]
      simp only [Option.bind_some, List.nil_append]
      have hnone : ∀ x ∈ r, x.Key ≠ z.Key := by
        intro x hx w
        rw [hb] at h4
        have := List.all_eq_true.mp h4.symm x hx
        rw [eqB_iff.mpr w] at this; cases this
      refine rl1 p hl hn r (i + 1) (A ++ [z] ++ B) hd2 hlt ?_ (by simp; omega) (fun e => ?_)
      · unfold SoE at hs ⊢
        rw [List.pairwise_append] at hs
        rw [List.append_assoc, List.pairwise_append]
        refine ⟨hs.1, ?_, fun a ha b hb' => ?_⟩
        · rw [List.singleton_append, List.pairwise_cons]
          refine ⟨fun b hb' => ?_, hs.2.1⟩
          cases w : lessB z.Key b.Key with
          | true => rfl
          | false => exact absurd (less_total w (hB b hb')).symm (notin b (List.mem_append_right _ hb'))
        · rw [List.singleton_append] at hb'
          rcases List.mem_cons.mp hb' with q | q
          · rw [q]; exact hA a ha
          · exact hs.2.2 a ha b q
      · have hme : e ∈ A ++ [z] ++ B ↔ e = z ∨ e ∈ A ++ B := by simp; exact ⟨fun h => by rcases h with h | h | h; exact .inr (.inl h); exact .inl h; exact .inr (.inr h), fun h => by rcases h with h | h | h; exact .inr (.inl h); exact .inl h; exact .inr (.inr h)⟩
        rw [hme]
        by_cases q : e.Key = z.Key
        · constructor
          · rintro (h | h)
            · subst h
              rw [ht, lastFor_app, lastFor_one, if_pos (eqB_self _), hd2]
              exact ⟨rfl, hnone⟩
            · exact absurd q (notin e h)
          · rintro ⟨h, _⟩
            rw [ht, lastFor_app, lastFor_one, if_pos (by rw [q]; exact eqB_self _)] at h
            exact .inl (Option.some.inj h).symm
        · rw [oth e q, ← hm]
          exact ⟨fun h => h.resolve_left (fun w => q (by rw [w])), .inr⟩
theorem rlast_ok {n : Nat} (p : List TEvent) (hl : p.length ≤ 1000) (hn : 1000 < n) : ∃ ys, F_ref05_Last n p = some ys ∧ SoE ys ∧ ∀ e, e ∈ ys ↔ lastFor e.Key p = some e := by
  obtain ⟨ys, a, b, c⟩ := rl1 p hl hn p 0 [] rfl (Nat.zero_le _) List.Pairwise.nil (Nat.le_refl _) (fun e => ⟨fun h => absurd h List.not_mem_nil, fun h => by rw [List.take_zero] at h; cases h.1⟩)
  exact ⟨ys, by unfold F_ref05_Last; rw [a]; rfl, b, c⟩
/-- The same. -/
theorem rlast_eq {n : Nat} {p last : List TEvent} (hl : p.length ≤ 1000) (hn : 1000 < n) (h1 : SoE last) (h2 : ∀ e, e ∈ last ↔ lastFor e.Key p = some e) : F_ref05_Last n p = some last := by
  obtain ⟨ys, a, b, c⟩ := rlast_ok (n := n) p hl hn
  rw [a, soE_ext b h1 (fun e => by rw [c, h2])]
theorem flat_gat : ∀ (l : List (List TEvent)), (gat l).flatten = l.flatten
  | [] => rfl
  | z :: l => by
    unfold gat
    rw [List.filter_cons]
    cases z with
    | nil => rw [if_neg (by simp)]; exact flat_gat l
    | cons a z => rw [if_pos (by rw [decide_eq_true_iff, List.length_cons]; omega), List.flatten_cons, List.flatten_cons]; rw [show (List.filter (fun z => decide ((z.length : Int) > 0)) l).flatten = l.flatten from flat_gat l]
theorem last_nil {p last : List TEvent} (h2 : ∀ e, e ∈ last ↔ lastFor e.Key p = some e) (h4 : last.length ≤ p.length) : last = [] ↔ p = [] := by
  constructor
  · intro h
    cases p with
    | nil => rfl
    | cons x p =>
      exfalso
      have : ∃ e, lastFor x.Key (x :: p) = some e := by
        unfold lastFor
        cases lastFor x.Key p with
        | some y => exact ⟨y, rfl⟩
        | none => exact ⟨x, by rw [if_pos (eqB_self _)]⟩
      obtain ⟨e, he⟩ := this
      have hk := (lastFor_key he).2
      have := (h2 e).mpr (by rw [hk]; exact he)
      rw [h] at this; cases this
  · intro h
    rw [h] at h4
    exact List.length_eq_zero_iff.mp (by simpa using h4)
/-! ### What the document tells -/
theorem rdelL {n : Nat} (c : Timpostref10_Cursor) : ∀ (rows : List (List TEvent)) (i : Nat) (al : List TEvent) (l : List (List TEvent)), l.length + rows.length ≤ 10000 → al.length + rows.flatten.length ≤ 1000 →
    F_ref10_Deliver_L1 c rows i al l = some (al ++ (rows.map (fltR c.R)).flatten, if c.Once = true then l else l ++ gat (rows.map (fltR c.R)))
  | [], i, al, l, _, _ => by simp [F_ref10_Deliver_L1, gat]
  | z :: rows, i, al, l, h1, h2 => by
    rw [List.length_cons] at h1
    rw [List.flatten_cons, List.length_append] at h2
    have h3 : (fltR c.R z).length ≤ z.length := List.length_filter_le _ _
    rw [F_ref10_Deliver_L1, rfilE c.R z (by omega)]
    simp only [Option.bind_some]
    rw [show z.filter (fun x => inR c.R x.Key) = fltR c.R z from rfl, appL_ok (by omega) (by omega) (by omega)]
    simp only [Option.bind_some]
    have ih := fun l' h => rdelL (n := n) c rows (i + 1) (al ++ fltR c.R z) l' h (by rw [List.length_append]; omega)
    cases ho : c.Once with
    | true =>
      rw [if_neg (by cases decide (((fltR c.R z).length : Int) > 0) <;> simp)]
      simp only [Option.bind_some]
      rw [ih l (by omega), ho]; simp
    | false =>
      by_cases hp : ((fltR c.R z).length : Int) > 0
      · rw [decide_eq_true hp]
        simp only [Bool.not_false, cond_true, if_true]
        rw [appL_ok (by simp; omega) (by omega) (by omega)]
        simp only [Option.bind_some]
        rw [ih _ (by simp; omega), ho]
        simp only [Bool.false_eq_true, if_false, List.map_cons, List.flatten_cons, List.append_assoc]
        rw [show gat (fltR c.R z :: rows.map (fltR c.R)) = fltR c.R z :: gat (rows.map (fltR c.R)) from by unfold gat; rw [List.filter_cons, if_pos (decide_eq_true hp)]]
        simp
      · rw [decide_eq_false hp]
        simp only [cond_false, Bool.false_eq_true, if_false, Option.bind_some]
        rw [ih l (by omega), ho]
        simp only [Bool.false_eq_true, if_false, List.map_cons, List.flatten_cons, List.append_assoc]
        rw [show gat (fltR c.R z :: rows.map (fltR c.R)) = gat (rows.map (fltR c.R)) from by unfold gat; rw [List.filter_cons, if_neg (by rw [decide_eq_true_iff]; exact hp)]]
end Go.Proofs.Ytfgoccdjbgecfaa.V
