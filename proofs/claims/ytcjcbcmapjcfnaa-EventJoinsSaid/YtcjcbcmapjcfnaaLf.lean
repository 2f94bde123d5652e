/- The plain law of EventJoins.
   No condition: this is a law of plain functions. -/
import Derived.Test.YtcjcbcmapjcfnaaFo
namespace Go.Proofs.Ytcjcbcmapjcfnaa.V
open Go
set_option linter.unusedVariables false
set_option linter.unusedSimpArgs false

theorem row_eq (rows : List (List TEvent)) (l : List TEvent) (h1 : rows.length ≤ 1000000) (h2 : l.length ≤ 1000000) : F_event_row rows l = some (rows ++ [l]) := by
  unfold F_event_row
  rw [clE l h2]
  simp only [Option.bind_some]
  rw [appL_ok (by simp; omega) (by omega) (by omega)]; rfl
theorem cutL (p : List TEvent) (hp : p.length ≤ 1000) : ∀ (r : List TEvent) (i : Nat) (rows : List (List TEvent)) (f : Nat), p.drop i = r → i ≤ p.length → f ≤ i → (i = p.length → f = i) → rows.flatten = p.take f → (∀ x ∈ rows, x ≠ []) → rows.length ≤ i →
    ∃ out, F_event_Cut_L1 p r i rows (f : Int) = some out ∧ out.flatten = p ∧ (∀ x ∈ out, x ≠ []) ∧ out.length ≤ p.length := by
  intro r
  induction r with
  | nil =>
    intro i rows f h hi hf h0 h1 h2 h3
    have he : i = p.length := by
      have := congrArg List.length h
      rw [List.length_drop, List.length_nil] at this
      omega
    refine ⟨rows, by rw [F_event_Cut_L1], ?_, h2, by omega⟩
    rw [h1, h0 he, he, List.take_length]
  | cons z r ih =>
    intro i rows f h hi hf h0 h1 h2 h3
    have hlt : i < p.length := by
      have := congrArg List.length h
      rw [List.length_drop, List.length_cons] at this
      omega
    have hd : p.drop (i + 1) = r := by rw [← List.drop_drop, h]; rfl
    have hw : IntKind.i64.wrap ((i : Int) + 1) = ((i + 1 : Nat) : Int) := by rw [wrap_id (by omega) (by omega)]; omega
    rw [F_event_Cut_L1, hw]
    have push : ∃ out, ((subL p (f : Int) ((i + 1 : Nat) : Int)).bind fun x9 => (F_event_row rows x9).bind fun x10 => F_event_Cut_L1 p r (i + 1) x10 ((i + 1 : Nat) : Int)) = some out ∧ out.flatten = p ∧ (∀ x ∈ out, x ≠ []) ∧ out.length ≤ p.length := by
      unfold subL
      rw [if_pos ⟨by omega, by omega, by omega, by omega⟩]
      simp only [Option.bind_some, Int.toNat_natCast]
      have hl : ((p.drop f).take (i + 1 - f)).length = i + 1 - f := by rw [List.length_take, List.length_drop]; omega
      rw [row_eq _ _ (by omega) (by omega)]
      simp only [Option.bind_some]
      refine ih (i + 1) _ (i + 1) hd (by omega) (Nat.le_refl _) (fun _ => rfl) ?_ ?_ (by simp; omega)
      · rw [List.flatten_append, h1, List.flatten_singleton]
        rw [show i + 1 = f + (i + 1 - f) from by omega, List.take_add]
        congr 2
        omega
      · intro x hx
        rcases List.mem_append.mp hx with q | q
        · exact h2 x q
        · rw [List.mem_singleton] at q
          subst q
          intro e
          rw [e] at hl
          simp at hl; omega
    by_cases hq : i + 1 = p.length
    · have e : ((((i + 1 : Nat) : Int)) == (p.length : Int)) = true := by simp; omega
      rw [e]
      simp only [if_true, Option.bind_some]
      exact push
    · have e : ((((i + 1 : Nat) : Int)) == (p.length : Int)) = false := by
        rw [beq_eq_false_iff_ne]; omega
      rw [e]
      simp only [Bool.false_eq_true, if_false]
      rw [getI_nat, List.getElem?_eq_getElem (by omega : i + 1 < p.length)]
      simp only [Option.bind_some]
      cases hc : (p[i + 1].Rev != z.Rev) with
      | true => simp only [if_true]; exact push
      | false =>
        simp only [Bool.false_eq_true, if_false]
        exact ih (i + 1) rows f hd (by omega) (by omega) (fun q => absurd q hq) h1 h2 (by omega)
theorem cut_eq (p : List TEvent) (hp : p.length ≤ 1000) : ∃ out, F_event_Cut p = some out ∧ out.flatten = p ∧ (∀ x ∈ out, x ≠ []) ∧ out.length ≤ p.length := by
  by_cases h : p = []
  · subst h; exact ⟨[], rfl, rfl, (fun x hx => absurd hx List.not_mem_nil), Nat.le_refl _⟩
  · obtain ⟨out, h1, h2⟩ := cutL p hp p 0 [] 0 rfl (Nat.zero_le _) (Nat.le_refl _) (fun _ => rfl) rfl (fun x hx => absurd hx List.not_mem_nil) (Nat.le_refl _)
    refine ⟨out, ?_, h2⟩
    unfold F_event_Cut
    rw [show (0 : Int) = ((0 : Nat) : Int) from rfl, h1]; rfl
theorem joinL : ∀ (r : List (List TEvent)) (i : Nat) (b : List TEvent), b.length + r.flatten.length ≤ 1000 → (∀ x ∈ r, x ≠ []) → F_law05_EventJoins_L1 r i b = some (.go (b ++ r.flatten))
  | [], _, b, _, _ => by rw [F_law05_EventJoins_L1]; simp
  | z :: r, i, b, h, hn => by
    rw [List.flatten_cons, List.length_append] at h
    rw [F_law05_EventJoins_L1]
    have h0 : ((z.length : Int) == 0) = false := by
      rw [beq_eq_false_iff_ne]
      intro e
      exact hn z List.mem_cons_self (List.length_eq_zero_iff.mp (by omega))
    rw [h0]
    simp only [Bool.false_eq_true, if_false]
    rw [appL_ok (by omega) (by omega) (by omega)]
    simp only [Option.bind_some]
    rw [joinL r (i + 1) _ (by rw [List.length_append]; omega) (fun x hx => hn x (List.mem_cons_of_mem _ hx))]
    simp
theorem plain_EventJoins (p0 : List TKV) (p1 p2 : List TEvent) (w0 : (∀ a ∈ p0, W_TKV a) ∧ p0.length ≤ maxLen) (w1 : (∀ a ∈ p1, W_TEvent a) ∧ p1.length ≤ maxLen) (w2 : (∀ a ∈ p2, W_TEvent a) ∧ p2.length ≤ maxLen) : ∃ n, F_law05_EventJoins n p0 p1 p2 = some true := by
  refine ⟨2000, ?_⟩
  unfold F_law05_EventJoins
  by_cases h1 : p1.length ≤ 60
  case neg =>
    have e1 : decide ((p1.length : Int) ≤ 60) = false := decide_eq_false (by omega)
    simp only [F_law05_few, Option.bind_some, e1, Bool.not_false, cond_true, if_true]
  have e1 : decide ((p1.length : Int) ≤ 60) = true := decide_eq_true (by omega)
  by_cases h2 : p2.length ≤ 60
  case neg =>
    have e2 : decide ((p2.length : Int) ≤ 60) = false := decide_eq_false (by omega)
    simp only [F_law05_few, Option.bind_some, e1, e2, Bool.not_false, Bool.not_true, cond_true, if_true, Bool.false_eq_true, if_false]
  have e2 : decide ((p2.length : Int) ≤ 60) = true := decide_eq_true (by omega)
  by_cases h0 : p0.length ≤ 60
  case neg =>
    have e0 : decide ((p0.length : Int) > 60) = true := decide_eq_true (by omega)
    simp only [F_law05_few, Option.bind_some, e1, e2, e0, Bool.not_true, cond_false, if_true, Bool.false_eq_true, if_false]
  have e0 : decide ((p0.length : Int) > 60) = false := decide_eq_false (by omega)
  simp only [F_law05_few, Option.bind_some, e1, e2, e0, Bool.not_true, cond_false, Bool.false_eq_true, if_false]
  rcases map_eq p0 (by omega) with hm | ⟨hm, hso⟩
  · rw [hm]; simp only [Option.bind_some, Bool.not_false, if_true]
  · rw [hm]
    simp only [Option.bind_some, Bool.not_true, Bool.false_eq_true, if_false]
    have hlen := foldM_len p1 p0 hso
    rw [appL_ok (by simp; omega) (by omega) (by omega)]
    simp only [Option.bind_some, List.nil_append]
    rw [appL_ok (by omega) (by omega) (by omega)]
    simp only [Option.bind_some]
    obtain ⟨out, g1, g2, g3, g4⟩ := cut_eq (p1 ++ p2) (by rw [List.length_append]; omega)
    rw [g1]
    simp only [Option.bind_some]
    rw [joinL out 0 [] (by rw [g2]; simp; omega) g3]
    simp only [Option.bind_some, lpK, List.nil_append]
    rw [fold_eq (p1 ++ p2) hso (by rw [List.length_append]; omega) (by omega)]
    simp only [Option.bind_some]
    rw [fold_eq p1 hso (by omega) (by omega)]
    simp only [Option.bind_some]
    rw [fold_eq p2 (foldM_so p1 p0 hso) (by omega) (by omega), List.foldl_append]
    simp only [Option.bind_some, sameK, if_true, g2, sameE]
end Go.Proofs.Ytcjcbcmapjcfnaa.V
