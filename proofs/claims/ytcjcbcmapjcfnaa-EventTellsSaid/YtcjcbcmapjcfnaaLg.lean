/- The plain law of EventTells.
   No condition: this is a law of plain functions. -/
import Derived.Test.YtcjcbcmapjcfnaaLc
namespace Go.Proofs.Ytcjcbcmapjcfnaa.V
open Go
set_option linter.unusedVariables false
set_option linter.unusedSimpArgs false

theorem lastFor_app (k : ByteArray) : ∀ (a b : List TEvent), lastFor k (a ++ b) = match lastFor k b with | some x => some x | none => lastFor k a
  | [], b => by cases h : lastFor k b <;> simp [h, lastFor]
  | x :: a, b => by
    rw [List.cons_append, lastFor, lastFor_app k a b]
    cases h : lastFor k b with
    | some y => rfl
    | none => rfl
theorem lastFor_one (k : ByteArray) (z : TEvent) : lastFor k [z] = if eqB z.Key k = true then some z else none := rfl
theorem rl3 (p : List TEvent) (z : TEvent) (hl : p.length ≤ 1000000) : ∀ (f : Nat) (b : Bool) (i : Nat), p.length - i < f → ∃ r, F_ref05_Last_L3 p z f b (i : Int) = some r ∧ r.1 = (b && (p.drop i).all (fun x => !eqB x.Key z.Key))
  | 0, _, _, h => by omega
  | f + 1, b, i, h => by
    rw [F_ref05_Last_L3]
    rcases Nat.lt_or_ge i p.length with q | q
    · rw [if_pos (decide_eq_true (by omega))]
      have hw : IntKind.i64.wrap ((i : Int) + 1) = ((i + 1 : Nat) : Int) := by rw [wrap_id (by omega) (by omega)]; omega
      rw [hw, List.drop_eq_getElem_cons q, List.all_cons]
      cases b with
      | true =>
        rw [if_pos rfl, getI_nat, List.getElem?_eq_getElem q]
        simp only [Option.bind_some]
        obtain ⟨r, a, c⟩ := rl3 p z hl f (!eqB p[i].Key z.Key) (i + 1) (by omega)
        exact ⟨r, a, by rw [c]; simp⟩
      | false =>
        rw [if_neg (by simp)]
        simp only [Option.bind_some]
        obtain ⟨r, a, c⟩ := rl3 p z hl f false (i + 1) (by omega)
        exact ⟨r, a, by rw [c]; simp⟩
    · rw [if_neg (by rw [decide_eq_true_iff]; omega), List.drop_of_length_le q]
      exact ⟨_, rfl, by simp⟩
theorem rl2 (z : TEvent) : ∀ (A B : List TEvent) (j : Nat), (∀ a ∈ A, lessB a.Key z.Key = true) → (∀ b ∈ B, lessB b.Key z.Key = false) → ∃ r, F_ref05_Last_L2 z (A ++ B) j = some r ∧ r.1 = ((j + A.length : Nat) : Int)
  | [], B, j, _, h => by
    cases B with
    | nil => exact ⟨_, rfl, by simp⟩
    | cons b B =>
      rw [List.nil_append, F_ref05_Last_L2, if_neg (by rw [h b List.mem_cons_self]; simp)]
      exact ⟨_, rfl, by simp⟩
  | a :: A, B, j, h1, h2 => by
    rw [List.cons_append, F_ref05_Last_L2, if_pos (h1 a List.mem_cons_self)]
    obtain ⟨r, c, d⟩ := rl2 z A B (j + 1) (fun x hx => h1 x (List.mem_cons_of_mem _ hx)) h2
    exact ⟨r, c, by rw [d, List.length_cons]; omega⟩
theorem splitE {m : List TEvent} (h : SoE m) (k : ByteArray) : ∃ A B, m = A ++ B ∧ (∀ a ∈ A, lessB a.Key k = true) ∧ (∀ b ∈ B, lessB b.Key k = false) := by
  induction m with
  | nil => exact ⟨[], [], rfl, fun _ h => absurd h List.not_mem_nil, fun _ h => absurd h List.not_mem_nil⟩
  | cons a m ih =>
    unfold SoE at h
    rw [List.pairwise_cons] at h
    cases hc : lessB a.Key k with
    | true =>
      obtain ⟨A, B, e, h1, h2⟩ := ih h.2
      refine ⟨a :: A, B, by rw [e]; rfl, fun x hx => ?_, h2⟩
      rcases List.mem_cons.mp hx with q | q
      · subst q; exact hc
      · exact h1 x q
    | false =>
      refine ⟨[], a :: m, rfl, fun _ h => absurd h List.not_mem_nil, fun b hb => ?_⟩
      rcases List.mem_cons.mp hb with q | q
      · subst q; exact hc
      · cases e : lessB b.Key k with
        | false => rfl
        | true => have := less_trans (h.1 b q) e; rw [hc] at this; cases this
theorem rl1 {n : Nat} (p : List TEvent) (hl : p.length ≤ 1000) (hn : 1000 < n) : ∀ (r : List TEvent) (i : Nat) (out : List TEvent), p.drop i = r → i ≤ p.length → SoE out → out.length ≤ i → (∀ e, e ∈ out ↔ lastFor e.Key (p.take i) = some e ∧ ∀ x ∈ p.drop i, x.Key ≠ e.Key) →
    ∃ ys, F_ref05_Last_L1 n p r i out = some ys ∧ SoE ys ∧ ∀ e, e ∈ ys ↔ lastFor e.Key p = some e
  | [], i, out, hd, hi, hs, ho, hm => by
    refine ⟨out, rfl, hs, fun e => ?_⟩
    have hlen := List.drop_eq_nil_iff.mp hd
    rw [hm, List.take_of_length_le hlen, hd]
    exact ⟨fun h => h.1, fun h => ⟨h, fun x hx => absurd hx List.not_mem_nil⟩⟩
  | z :: r, i, out, hd, hi, hs, ho, hm => by
    have hlt : i < p.length := by
      rcases Nat.lt_or_ge i p.length with q | q
      · exact q
      · rw [List.drop_of_length_le q] at hd; cases hd
    have hd2 : p.drop (i + 1) = r := by rw [← List.drop_drop, hd]; rfl
    have hz : p[i] = z := by
      have := List.drop_eq_getElem_cons hlt
      rw [hd] at this
      exact (List.cons.inj this).1.symm
    have ht : p.take (i + 1) = p.take i ++ [z] := by rw [List.take_succ_eq_append_getElem hlt, hz]
    have hw : IntKind.i64.wrap ((i : Int) + 1) = ((i + 1 : Nat) : Int) := by rw [wrap_id (by omega) (by omega)]; omega
    rw [F_ref05_Last_L1, hw]
    obtain ⟨s, h3, h4⟩ := rl3 p z (by omega) n true (i + 1) (by omega)
    rw [h3]
    simp only [Option.bind_some]
    rw [Bool.true_and, hd2] at h4
    -- another key's
    have oth : ∀ e : TEvent, e.Key ≠ z.Key → (lastFor e.Key (p.take (i + 1)) = some e ∧ (∀ x ∈ p.drop (i + 1), x.Key ≠ e.Key) ↔ lastFor e.Key (p.take i) = some e ∧ ∀ x ∈ p.drop i, x.Key ≠ e.Key) := by
      intro e he
      rw [ht, lastFor_app, lastFor_one, if_neg (by rw [eqB_iff]; exact fun w => he w.symm), hd2, hd]
      dsimp only
      exact ⟨fun ⟨a, b⟩ => ⟨a, fun x hx => by rcases List.mem_cons.mp hx with q | q; rw [q]; exact fun w => he w.symm; exact b x q⟩, fun ⟨a, b⟩ => ⟨a, fun x hx => b x (List.mem_cons_of_mem _ hx)⟩⟩
    have notin : ∀ e ∈ out, e.Key ≠ z.Key := by
      intro e he w
      exact ((hm e).mp he).2 z (by rw [hd]; exact List.mem_cons_self) w.symm
    cases hb : s.1 with
    | false =>
      simp only [Bool.not_false, if_true, Option.bind_some]
      refine rl1 p hl hn r (i + 1) out hd2 hlt hs (by omega) (fun e => ?_)
      by_cases q : e.Key = z.Key
      · constructor
        · intro h; exact absurd q (notin e h)
        · rintro ⟨_, h⟩
          rw [hd2] at h
          have := h4.symm
          rw [hb, List.all_eq_false] at this
          obtain ⟨x, hx, hxe⟩ := this
          have hxk : x.Key = z.Key := eqB_iff.mp (by simpa using hxe)
          exact absurd (hxk.trans q.symm) (h x hx)
      · rw [hm, oth e q]
    | true =>
      simp only [Bool.not_true, Bool.false_eq_true, if_false]
      obtain ⟨A, B, rfl, hA, hB⟩ := splitE hs z.Key
      obtain ⟨s2, g1, g2⟩ := rl2 z A B 0 hA hB
      rw [Nat.zero_add] at g2
      rw [List.length_append] at ho
      rw [g1]
      simp only [Option.bind_some]
      rw [g2]
      have e1 : subL0 (A ++ B) 0 (A.length : Int) = some A := by
        unfold subL0
        rw [if_pos ⟨by omega, by omega, by rw [List.length_append]; omega⟩]
        simp
      have e2 : subL0 (A ++ B) (A.length : Int) ((A ++ B).length : Int) = some B := by
        unfold subL0
        rw [if_pos ⟨by omega, by rw [List.length_append]; omega, by omega⟩, Int.toNat_natCast, Int.toNat_natCast, List.drop_left, List.take_of_length_le (by rw [List.length_append]; omega)]
      rw [e1, e2]
      simp only [Option.bind_some]
      rw [appL_ok (by simp; omega) (by omega) (by omega)]
      simp only [Option.bind_some]
      rw [appL_ok (by simp; omega) (by omega) (by omega)]
      simp only [Option.bind_some]
      rw [appL_ok (by simp; omega) (by omega) (by omega)]
      simp only [Option.bind_some, List.nil_append]
      have hnone : ∀ x ∈ r, x.Key ≠ z.Key := by
        intro x hx w
        rw [hb] at h4
        have := List.all_eq_true.mp h4.symm x hx
        rw [eqB_iff.mpr w] at this; cases this
      refine rl1 p hl hn r (i + 1) (A ++ [z] ++ B) hd2 hlt ?_ (by simp; omega) (fun e => ?_)
      · unfold SoE at hs ⊢
        rw [List.pairwise_append] at hs
        rw [List.append_assoc, List.pairwise_append]
        refine ⟨hs.1, ?_, fun a ha b hb' => ?_⟩
        · rw [List.singleton_append, List.pairwise_cons]
          refine ⟨fun b hb' => ?_, hs.2.1⟩
          cases w : lessB z.Key b.Key with
          | true => rfl
          | false => exact absurd (less_total w (hB b hb')).symm (notin b (List.mem_append_right _ hb'))
        · rw [List.singleton_append] at hb'
          rcases List.mem_cons.mp hb' with q | q
          · rw [q]; exact hA a ha
          · exact hs.2.2 a ha b q
      · have hme : e ∈ A ++ [z] ++ B ↔ e = z ∨ e ∈ A ++ B := by simp; exact ⟨fun h => by rcases h with h | h | h; exact .inr (.inl h); exact .inl h; exact .inr (.inr h), fun h => by rcases h with h | h | h; exact .inr (.inl h); exact .inl h; exact .inr (.inr h)⟩
        rw [hme]
        by_cases q : e.Key = z.Key
        · constructor
          · rintro (h | h)
            · subst h
              rw [ht, lastFor_app, lastFor_one, if_pos (eqB_self _), hd2]
              exact ⟨rfl, hnone⟩
            · exact absurd q (notin e h)
          · rintro ⟨h, _⟩
            rw [ht, lastFor_app, lastFor_one, if_pos (by rw [q]; exact eqB_self _)] at h
            exact .inl (Option.some.inj h).symm
        · rw [oth e q, ← hm]
          exact ⟨fun h => h.resolve_left (fun w => q (by rw [w])), .inr⟩
theorem rlast_ok {n : Nat} (p : List TEvent) (hl : p.length ≤ 1000) (hn : 1000 < n) : ∃ ys, F_ref05_Last n p = some ys ∧ SoE ys ∧ ∀ e, e ∈ ys ↔ lastFor e.Key p = some e := by
  obtain ⟨ys, a, b, c⟩ := rl1 p hl hn p 0 [] rfl (Nat.zero_le _) List.Pairwise.nil (Nat.le_refl _) (fun e => ⟨fun h => absurd h List.not_mem_nil, fun h => by rw [List.take_zero] at h; cases h.1⟩)
  exact ⟨ys, by unfold F_ref05_Last; rw [a]; rfl, b, c⟩
/-- The same. -/
theorem rlast_eq {n : Nat} {p last : List TEvent} (hl : p.length ≤ 1000) (hn : 1000 < n) (h1 : SoE last) (h2 : ∀ e, e ∈ last ↔ lastFor e.Key p = some e) : F_ref05_Last n p = some last := by
  obtain ⟨ys, a, b, c⟩ := rlast_ok (n := n) p hl hn
  rw [a, soE_ext b h1 (fun e => by rw [c, h2])]
/-! ### Rows of one revision -/
theorem row_eqT (rows : List (List TEvent)) (l : List TEvent) (h1 : rows.length ≤ 1000000) (h2 : l.length ≤ 1000000) : F_event_row rows l = some (rows ++ [l]) := by
  unfold F_event_row
  rw [clE l h2]
  simp only [Option.bind_some]
  rw [appL_ok (by simp; omega) (by omega) (by omega)]; rfl
def newRow (p : List TEvent) (i : Nat) : Prop := ∀ (h : i < p.length), i = 0 ∨ ∃ (h0 : 0 < i), p[i].Rev ≠ p[i - 1].Rev
def oldRow (p : List TEvent) (i : Nat) : Prop := ∃ (h : i < p.length) (h0 : 0 < i), p[i].Rev = p[i - 1].Rev
theorem cutT (p : List TEvent) (hp : p.length ≤ 1000) : ∀ (r : List TEvent) (i : Nat) (rows : List (List TEvent)) (f : Nat) (cl : List (List TEvent)) (cur : Option (List TEvent)), p.drop i = r → i ≤ p.length → rows.length ≤ i → cl.length ≤ i →
    ((f < i ∧ cl = rows ∧ cur = some ((p.drop f).take (i - f)) ∧ oldRow p i) ∨ (f = i ∧ rows = cl ++ cur.toList ∧ newRow p i)) →
    ∃ out, F_event_Cut_L1 p r i rows (f : Int) = some out ∧ F_ref05_Cut_L1 p r i cl cur = some out := by
  intro r
  induction r with
  | nil =>
    intro i rows f cl cur h hi h3 h4 hh
    have he : i = p.length := by
      have := congrArg List.length h
      rw [List.length_drop, List.length_nil] at this
      omega
    rcases hh with ⟨_, _, _, hlt, _⟩ | ⟨_, e, _⟩
    · omega
    · exact ⟨rows, by rw [F_event_Cut_L1], by rw [F_ref05_Cut_L1, e]⟩
  | cons z r ih =>
    intro i rows f cl cur h hi h3 h4 hh
    have hlt : i < p.length := by
      have := congrArg List.length h
      rw [List.length_drop, List.length_cons] at this
      omega
    have hd : p.drop (i + 1) = r := by rw [← List.drop_drop, h]; rfl
    have hz : p[i] = z := by
      have := List.drop_eq_getElem_cons hlt
      rw [h] at this
      exact (List.cons.inj this).1.symm
    have hw : IntKind.i64.wrap ((i : Int) + 1) = ((i + 1 : Nat) : Int) := by rw [wrap_id (by omega) (by omega)]; omega
    have hfi : f ≤ i := by rcases hh with ⟨a, _⟩ | ⟨a, _⟩ <;> omega
    -- what the document does
    have ref : F_ref05_Cut_L1 p (z :: r) i cl cur = F_ref05_Cut_L1 p r (i + 1) rows (some ((p.drop f).take (i + 1 - f))) := by
      rw [F_ref05_Cut_L1]
      have hs : ∀ g, g < i → (p.drop g).take (i - g) ++ [z] = (p.drop g).take (i + 1 - g) := by
        intro g hg
        rw [show i + 1 - g = (i - g) + 1 from by omega]
        rw [List.take_succ_eq_append_getElem (by rw [List.length_drop]; omega)]
        congr 2
        rw [List.getElem_drop, ← hz]
        congr 1
        omega
      rcases hh with ⟨a, b, c, hl, h0, e⟩ | ⟨a, b, c⟩
      · subst b c
        have e0 : ((i : Int) == 0) = false := by rw [beq_eq_false_iff_ne]; omega
        rw [e0]
        have hw1 : IntKind.i64.wrap ((i : Int) - 1) = ((i - 1 : Nat) : Int) := by rw [wrap_id (by omega) (by omega)]; omega
        simp only [Bool.false_eq_true, if_false]
        rw [hw1, getI_nat, List.getElem?_eq_getElem (by omega : i - 1 < p.length)]
        simp only [Option.bind_some]
        have e1 : (z.Rev != p[i - 1].Rev) = false := by rw [← hz, e]; simp
        rw [e1]
        simp only [Bool.false_eq_true, if_false, Option.bind_some, curT]
        have hl2 : ((p.drop f).take (i - f)).length ≤ 1000 := by rw [List.length_take, List.length_drop]; omega
        rw [appL_ok (by simp; omega) (by omega) (by omega)]
        simp only [Option.bind_some]
        rw [hs f a]
      · subst a
        have e1 : (if ((f : Int) == 0) = true then some true else (getI p (IntKind.i64.wrap ((f : Int) - 1))).bind fun x11 => some (z.Rev != x11.Rev)) = some true := by
          rcases c hlt with e | ⟨h0, e⟩
          · subst e; rfl
          · have e0 : ((f : Int) == 0) = false := by rw [beq_eq_false_iff_ne]; omega
            rw [e0]
            have hw1 : IntKind.i64.wrap ((f : Int) - 1) = ((f - 1 : Nat) : Int) := by rw [wrap_id (by omega) (by omega)]; omega
            simp only [Bool.false_eq_true, if_false]
            rw [hw1, getI_nat, List.getElem?_eq_getElem (by omega : f - 1 < p.length)]
            simp only [Option.bind_some]
            have : (z.Rev != p[f - 1].Rev) = true := by rw [← hz]; simpa using e
            rw [this]
        rw [e1]
        simp only [Option.bind_some, if_true]
        have hl3 : (cl ++ cur.toList).length ≤ 1000 := by rw [← b]; omega
        rw [appL_ok (by simp at hl3 ⊢; omega) (by omega) (by omega)]
        simp only [Option.bind_some]
        rw [appL_ok (by simp) (by omega) (by omega)]
        simp only [Option.bind_some, List.nil_append]
        rw [b]
        congr 2
        rw [show f + 1 - f = 1 from by omega, List.drop_eq_getElem_cons hlt, hz]
        rfl
    rw [ref, F_event_Cut_L1, hw]
    have hl : ((p.drop f).take (i + 1 - f)).length = i + 1 - f := by rw [List.length_take, List.length_drop]; omega
    have push : newRow p (i + 1) → ∃ out, ((subL p (f : Int) ((i + 1 : Nat) : Int)).bind fun x9 => (F_event_row rows x9).bind fun x10 => F_event_Cut_L1 p r (i + 1) x10 ((i + 1 : Nat) : Int)) = some out ∧ F_ref05_Cut_L1 p r (i + 1) rows (some ((p.drop f).take (i + 1 - f))) = some out := by
      intro hn
      unfold subL
      rw [if_pos ⟨by omega, by omega, by omega, by omega⟩]
      simp only [Option.bind_some, Int.toNat_natCast]
      rw [row_eqT _ _ (by omega) (by omega)]
      simp only [Option.bind_some]
      exact ih (i + 1) _ (i + 1) _ _ hd (by omega) (by simp; omega) (by omega) (.inr ⟨rfl, rfl, hn⟩)
    by_cases hq : i + 1 = p.length
    · have e : ((((i + 1 : Nat) : Int)) == (p.length : Int)) = true := by simp; omega
      rw [e]
      simp only [if_true, Option.bind_some]
      exact push (fun q => absurd q (by omega))
    · have e : ((((i + 1 : Nat) : Int)) == (p.length : Int)) = false := by
        rw [beq_eq_false_iff_ne]; omega
      rw [e]
      simp only [Bool.false_eq_true, if_false]
      have hlt2 : i + 1 < p.length := by omega
      rw [getI_nat, List.getElem?_eq_getElem hlt2]
      simp only [Option.bind_some]
      cases hc : (p[i + 1].Rev != z.Rev) with
      | true =>
        simp only [if_true]
        exact push (fun q => .inr ⟨Nat.succ_pos _, by show p[i + 1].Rev ≠ p[i].Rev; rw [hz]; simpa using hc⟩)
      | false =>
        simp only [Bool.false_eq_true, if_false]
        refine ih (i + 1) rows f _ _ hd (by omega) (by omega) (by omega) (.inl ⟨by omega, rfl, rfl, hlt2, Nat.succ_pos _, ?_⟩)
        show p[i + 1].Rev = p[i].Rev
        rw [hz]
        simpa using hc
theorem cutT_eq (p : List TEvent) (hp : p.length ≤ 1000) : ∃ out, F_event_Cut p = some out ∧ F_ref05_Cut p = some out := by
  obtain ⟨out, h1, h2⟩ := cutT p hp p 0 [] 0 [] none rfl (Nat.zero_le _) (Nat.le_refl _) (Nat.le_refl _) (.inr ⟨rfl, rfl, fun _ => .inl rfl⟩)
  refine ⟨out, ?_, ?_⟩
  · unfold F_event_Cut
    rw [show (0 : Int) = ((0 : Nat) : Int) from rfl, h1]; rfl
  · unfold F_ref05_Cut
    exact h2
theorem sameRows (x : List (List TEvent)) : ∀ (r : List (List TEvent)) (i : Nat), x.drop i = r → F_law05_EventTells_L1 x r i = some (.go ())
  | [], i, _ => by rw [F_law05_EventTells_L1]
  | z :: r, i, h => by
    have hlt : i < x.length := by
      rcases Nat.lt_or_ge i x.length with q | q
      · exact q
      · rw [List.drop_of_length_le q] at h; cases h
    have hz : x[i] = z := by
      have := List.drop_eq_getElem_cons hlt
      rw [h] at this
      exact (List.cons.inj this).1.symm
    rw [F_law05_EventTells_L1, getI_nat, List.getElem?_eq_getElem hlt]
    simp only [Option.bind_some]
    rw [hz, sameE]
    simp only [Option.bind_some, Bool.not_true, Bool.false_eq_true, if_false]
    exact sameRows x r (i + 1) (by rw [← List.drop_drop, h]; rfl)
theorem plain_EventTells (p0 : List TEvent) (p1 : TRange) (w0 : (∀ a ∈ p0, W_TEvent a) ∧ p0.length ≤ maxLen) (w1 : W_TRange p1) : ∃ n, F_law05_EventTells n p0 p1 = some true := by
  refine ⟨2000, ?_⟩
  unfold F_law05_EventTells
  by_cases h1 : p0.length ≤ 60
  case neg =>
    have e1 : decide ((p0.length : Int) ≤ 60) = false := decide_eq_false (by omega)
    simp only [F_law05_few, Option.bind_some, e1, Bool.not_false, if_true]
  have e1 : decide ((p0.length : Int) ≤ 60) = true := decide_eq_true (by omega)
  simp only [F_law05_few, Option.bind_some, e1, Bool.not_true, Bool.false_eq_true, if_false]
  obtain ⟨out, g1, g2⟩ := cutT_eq p0 (by omega)
  rw [g1, g2]
  simp only [Option.bind_some]
  rw [if_neg (by simp)]
  rw [sameRows out out 0 rfl]
  simp only [Option.bind_some, lpK]
  rw [filE p1 _ (by omega) (by omega)]
  simp only [Option.bind_some]
  rw [rfilE p1 _ (by omega)]
  simp only [Option.bind_some, sameE, if_true]
  obtain ⟨ys, k1, k2, k3, k4⟩ := last_eq p0 (by omega) (fun e he => (w0.1 e he).2.1)
  rw [k1]
  simp only [Option.bind_some]
  rw [rlast_eq (by omega) (by omega) k2 k3]
  simp only [Option.bind_some, sameE]
end Go.Proofs.Ytcjcbcmapjcfnaa.V
