/- The plain law of CursorTokens.
   No condition: this is a law of plain functions. -/
import Derived.Test.YtfgoccdjbgecfaaCq
import Derived.Test.YtfgoccdjbgecfaaFf
namespace Go.Proofs.Ytfgoccdjbgecfaa.V
open Go
set_option linter.unusedVariables false
set_option linter.unusedSimpArgs false

theorem tokL : ∀ (l : List Timpostlaw10_Deed) (i : Nat) (h : Ohist_Hist), (∀ d ∈ l, W_Timpostlaw10_Deed d) → (∀ d ∈ l, d.Ops.length ≤ 8) → HR h → (hev h).length + 8 * l.length ≤ 900 →
    ∃ h' : Ohist_Hist, F_law10_CursorTokens_L1 l i h.bounds_rev h.bounds_hor h.rows h.keys = some (h'.bounds_rev, h'.bounds_hor, h'.rows, h'.keys) ∧ HR h' ∧ (hev h').length ≤ (hev h).length + 8 * l.length
  | [], i, h, _, _, R, _ => ⟨h, rfl, R, by simp⟩
  | d :: l, i, h, w, o, R, hl => by
    rw [List.length_cons] at hl
    have hd := o d List.mem_cons_self
    obtain ⟨h1, a, R1, L1, _⟩ := hr_apply R d.Ops (fun x hx => ((w d List.mem_cons_self).2.1.1 x hx).1) (by omega)
    have hlen := L1.len
    rw [F_law10_CursorTokens_L1, eta_h, a]
    simp only [Option.bind_some, eta_h]
    by_cases k : d.Kind = 2
    · obtain ⟨b, h2, c, R2, L2, e2, _⟩ := hr_compact R1 d.Rev
      rw [if_pos (by simpa using k), c]
      simp only [Option.bind_some]
      obtain ⟨h', e, R', l'⟩ := tokL l (i + 1) h2 (fun y hy => w y (List.mem_cons_of_mem _ hy)) (fun y hy => o y (List.mem_cons_of_mem _ hy)) R2 (by rw [e2]; omega)
      exact ⟨h', e, R', by rw [e2] at l'; rw [List.length_cons]; omega⟩
    · rw [if_neg (by simpa using k)]
      simp only [Option.bind_some]
      obtain ⟨h', e, R', l'⟩ := tokL l (i + 1) h1 (fun y hy => w y (List.mem_cons_of_mem _ hy)) (fun y hy => o y (List.mem_cons_of_mem _ hy)) R1 (by omega)
      exact ⟨h', e, R', by rw [List.length_cons]; omega⟩
theorem plain_CursorTokens (p0 : List Timpostlaw10_Deed) (p1 : Timpostref10_Cursor) (p2 : Int) (w0 : (∀ a ∈ p0, W_Timpostlaw10_Deed a) ∧ p0.length ≤ maxLen) (w1 : W_Timpostref10_Cursor p1) (w2 : okI .u8 p2) : ∃ n, F_law10_CursorTokens n p0 p1 p2 = some true := by
  refine ⟨3000, ?_⟩
  unfold F_law10_CursorTokens
  rcases few10 p0 with f | ⟨f, hl, ho⟩
  · rw [f]; rfl
  rw [f]
  simp only [Option.bind_some, Bool.not_true, cond_false]
  by_cases c1 : p1.Next > 1099511627776
  · rw [decide_eq_true c1]; rfl
  by_cases c2 : p1.Next < -1099511627776
  · rw [decide_eq_true c2]; cases decide (p1.Next > 1099511627776) <;> rfl
  rw [decide_eq_false c1, decide_eq_false c2]
  simp only [cond_false]
  cases hd : p1.Dead with
  | true => rfl
  | false =>
    simp only [Bool.false_eq_true, if_false]
    unfold F_hist_New
    simp only [Option.bind_some]
    have h0 : (hev ⟨0, 0, [], []⟩).length = 0 := rfl
    obtain ⟨h, e, R, hlen⟩ := tokL p0 0 ⟨0, 0, [], []⟩ w0.1 ho hr_new (by omega)
    have e' : F_law10_CursorTokens_L1 p0 0 0 0 [] [] = some (h.bounds_rev, h.bounds_hor, h.rows, h.keys) := e
    rw [e']
    simp only [Option.bind_some, F_law10_made, F_cursor_Token, F_cursor_Resume, hd, eta_h]
    have I := R.hi
    obtain ⟨⟨a, nt⟩, ha, hP⟩ := poll_ok (n := 3000) (by omega) (c := ⟨p1.R, p1.Next, p1.Once, false⟩) I (by omega) (by dsimp only; omega) (by dsimp only; omega) (IntKind.i64.wrap (Int.tmod p2 20))
    have hnx := polled_next hP I (by omega)
    dsimp only at hnx ha
    rw [ha]
    simp only [Option.bind_some, eta_h]
    rw [ha]
    simp only [Option.bind_some, eta_h]
    obtain ⟨q1, hq1, _⟩ := poll_ok (n := 3000) (by omega) (c := ⟨a.R, a.Next, a.Once, false⟩) I (by omega) (by dsimp only; omega) (by dsimp only; omega) 3
    obtain ⟨q2, hq2, _⟩ := poll_ok (n := 3000) (by omega) (c := a) I (by omega) (by omega) (by omega) 3
    rw [hq1]
    simp only [Option.bind_some, eta_h]
    rw [hq2]
    simp only [Option.bind_some, eqC_self, if_true, F_law10_told, same10]
    cases hda : a.Dead with
    | true => rfl
    | false =>
      have : (⟨a.R, a.Next, a.Once, false⟩ : Tcursor_Cursor) = a := by rw [← hda]
      rw [this, hq2] at hq1
      have e3 : q2.1 = q1.1 := by
        have := Option.some.inj hq1
        exact (Prod.mk.inj this).1
      rw [e3, eqC_self]; rfl
end Go.Proofs.Ytfgoccdjbgecfaa.V
