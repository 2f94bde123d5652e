/- The plain law of CursorDelivers.
   No condition: this is a law of plain functions. -/
import Derived.Test.YtfgoccdjbgecfaaRl
import Derived.Test.YtfgoccdjbgecfaaFb
namespace Go.Proofs.Ytfgoccdjbgecfaa.V
open Go
set_option linter.unusedVariables false
set_option linter.unusedSimpArgs false

theorem eqR_self (x : Timpostref10_Cursor) : eq_Timpostref10_Cursor x x = true := by unfold eq_Timpostref10_Cursor; simp
theorem few30 : ∀ (l : List (List TEvent)) (i : Nat), F_law10_CursorDelivers_L1 l i = some (.out true) ∨ (F_law10_CursorDelivers_L1 l i = some (.go ()) ∧ l.flatten.length ≤ 30 * l.length)
  | [], i => .inr ⟨rfl, by simp⟩
  | z :: l, i => by
    rw [F_law10_CursorDelivers_L1]
    by_cases h : z.length > 30
    · rw [if_pos (decide_eq_true (by omega))]; exact .inl rfl
    · rw [if_neg (by rw [decide_eq_true_iff]; omega)]
      rcases few30 l (i + 1) with e | ⟨e, g⟩
      · exact .inl e
      · exact .inr ⟨e, by rw [List.flatten_cons, List.length_append, List.length_cons]; omega⟩
theorem plain_CursorDelivers (p0 : Timpostref10_Cursor) (p1 : THead) (p2 : List (List TEvent)) (w0 : W_Timpostref10_Cursor p0) (w1 : W_THead p1) (w2 : (∀ a ∈ p2, (∀ b ∈ a, W_TEvent b) ∧ a.length ≤ maxLen) ∧ p2.length ≤ maxLen) : ∃ n, F_law10_CursorDelivers n p0 p1 p2 = some true := by
  refine ⟨3000, ?_⟩
  unfold F_law10_CursorDelivers
  by_cases c0 : (bif (bif (bif (bif (decide ((p2.length : Int) > 30)) then true else (decide (p0.Next > 1099511627776))) then true else (decide (p0.Next < (-1099511627776)))) then true else (decide (p1.Rev > 1099511627776))) then true else (decide (p1.Rev < (-1099511627776)))) = true
  · rw [if_pos c0]
  rw [if_neg c0]
  have hc : p2.length ≤ 30 ∧ -1099511627776 ≤ p0.Next ∧ p0.Next ≤ 1099511627776 ∧ -1099511627776 ≤ p1.Rev ∧ p1.Rev ≤ 1099511627776 := by
    simp at c0; omega
  obtain ⟨hl, n1, n2, r1, r2⟩ := hc
  rcases few30 p2 0 with f | ⟨f, hf⟩
  · rw [f]; rfl
  rw [f]
  simp only [Option.bind_some, lpK, F_law10_made]
  have hk : ∀ e ∈ p2.flatten, e.Key.size ≤ maxLen := by
    intro e he
    rw [List.mem_flatten] at he
    obtain ⟨l, hl', hel⟩ := he
    exact ((w2.1 l hl').1 e hel).2.1
  -- why not
  have hold : F_ref10_old p0 p1 = some (decide (p0.Next ≤ p1.Hor)) := rfl
  have hahead : F_ref10_ahead p0 p1 = some (decide (p0.Next - 1 > p1.Rev)) := by unfold F_ref10_ahead; rw [wrap_id (by omega) (by omega)]
  have hwin : ∀ b : Int, (b = badC ⟨p0.R, p0.Next, p0.Once, p0.Dead⟩ p1.Rev p1.Hor) → ∃ x, F_cursor_Window ⟨p0.R, p0.Next, p0.Once, p0.Dead⟩ p1 (p2.length : Int) = some x ∧ F_ref10_Window p0 p1 (p2.length : Int) = some x := by
    intro b hb
    unfold F_cursor_Window F_ref10_Window
    rw [bad_eq (by dsimp only; omega) (by dsimp only; omega), hold, hahead]
    simp only [Option.bind_some]
    unfold badC
    dsimp only
    cases d : p0.Dead with
    | true => exact ⟨0, rfl, rfl⟩
    | false =>
      simp only [Bool.false_eq_true, if_false, Option.bind_some]
      by_cases e : p0.Next ≤ p1.Hor
      · rw [if_pos e, decide_eq_true e]; exact ⟨0, rfl, rfl⟩
      · rw [if_neg e, decide_eq_false e]
        simp only [Bool.false_eq_true, if_false, Option.bind_some]
        by_cases g : p0.Next - 1 > p1.Rev
        · rw [if_pos g, decide_eq_true g]; exact ⟨0, rfl, rfl⟩
        · rw [if_neg g, decide_eq_false g]
          exact ⟨_, rfl, rfl⟩
  obtain ⟨x, hx1, hx2⟩ := hwin _ rfl
  rw [hx1, hx2]
  have fin : ∀ (a : Tcursor_Cursor) (nt : Tcursor_Notice), F_cursor_Deliver 3000 ⟨p0.R, p0.Next, p0.Once, p0.Dead⟩ p1 p2 = some (a, nt) → F_ref10_Deliver 3000 p0 p1 p2 = some (⟨a.R, a.Next, a.Once, a.Dead⟩, ⟨nt.Err, nt.Hor, nt.Upto, nt.Rows⟩) →
      ((F_cursor_Deliver 3000 ⟨p0.R, p0.Next, p0.Once, p0.Dead⟩ p1 p2).bind fun x8 => (F_ref10_Deliver 3000 p0 p1 p2).bind fun x9 => (F_law10_real x8.1).bind fun x12 => if (eq_Timpostref10_Cursor x12 x9.1) = true then ((F_law10_told x8.2).bind fun x14 => (F_ref10_Same x14 x9.2).bind fun x15 => if x15 = true then (some (x == x)) else (some false)) else (some false)) = some true := by
    intro a nt h1 h2
    rw [h1, h2]
    simp only [Option.bind_some, F_law10_real, F_law10_told, eqR_self, if_true, same10, beq_self_eq_true]
  have goal : ∃ (a : Tcursor_Cursor) (nt : Tcursor_Notice), F_cursor_Deliver 3000 ⟨p0.R, p0.Next, p0.Once, p0.Dead⟩ p1 p2 = some (a, nt) ∧ F_ref10_Deliver 3000 p0 p1 p2 = some (⟨a.R, a.Next, a.Once, a.Dead⟩, ⟨nt.Err, nt.Hor, nt.Upto, nt.Rows⟩) := by
    by_cases hb : badC ⟨p0.R, p0.Next, p0.Once, p0.Dead⟩ p1.Rev p1.Hor = 0
    · obtain ⟨last, l1, l2, l3, l4, l5⟩ := deliver_ok (n := 3000) (by omega) (c := ⟨p0.R, p0.Next, p0.Once, p0.Dead⟩) (by dsimp only; omega) (by dsimp only; omega) p1 p2 hb (by omega) (by omega) hk
      refine ⟨_, _, l5, ?_⟩
      unfold badC at hb
      dsimp only at hb l1 l2 l3 l4
      have hfl := flat_le (r := p0.R) p2
      unfold F_ref10_Deliver
      cases d : p0.Dead with
      | true => rw [d] at hb; cases hb
      | false =>
        rw [d] at hb
        simp only [Bool.false_eq_true, if_false] at hb ⊢
        by_cases e : p0.Next ≤ p1.Hor
        · rw [if_pos e] at hb; cases hb
        · rw [if_neg e] at hb
          by_cases g : p0.Next - 1 > p1.Rev
          · rw [if_pos g] at hb; cases hb
          · rw [hold, hahead, decide_eq_false e, decide_eq_false g]
            simp only [Option.bind_some, Bool.false_eq_true, if_false]
            rw [rdelL (n := 3000) p0 p2 0 [] [] (by simp; omega) (by rw [List.length_nil]; omega)]
            simp only [Option.bind_some, List.nil_append]
            rw [wrap_id (n := p0.Next + p2.length) (by omega) (by omega), wrap_id (n := p0.Next + p2.length - 1) (by omega) (by omega)]
            unfold toldR
            dsimp only
            cases ho : p0.Once with
            | false =>
              simp only [cond_false, Bool.false_eq_true, if_false, Option.bind_some]
            | true =>
              simp only [cond_true, if_true]
              have hln := last_nil l3 l4
              by_cases hz : (p2.map (fltR p0.R)).flatten = []
              · rw [decide_eq_false (by rw [hz]; simp)]
                rw [hln.mpr hz]
                simp [gat]
              · have hpos : ((p2.map (fltR p0.R)).flatten.length : Int) > 0 := by
                  have : (p2.map (fltR p0.R)).flatten.length ≠ 0 := fun e => hz (List.length_eq_zero_iff.mp e)
                  omega
                rw [decide_eq_true hpos]
                simp only [if_true]
                rw [rlast_eq (n := 3000) (by omega) (by omega) l2 l3]
                simp only [Option.bind_some]
                have hlp : (last.length : Int) > 0 := by
                  have : last.length ≠ 0 := fun e => hz (hln.mp (List.length_eq_zero_iff.mp e))
                  omega
                have : gat [last] = [last] := by unfold gat; rw [List.filter_cons, if_pos (decide_eq_true hlp)]; rfl
                rw [this]
    · have hd := deliver_bad (n := 3000) (c := ⟨p0.R, p0.Next, p0.Once, p0.Dead⟩) (by dsimp only; omega) (by dsimp only; omega) p1 p2 hb
      refine ⟨(if badC ⟨p0.R, p0.Next, p0.Once, p0.Dead⟩ p1.Rev p1.Hor = 5 then (⟨p0.R, p0.Next, p0.Once, true⟩, (⟨5, p1.Hor, 0, []⟩ : Tcursor_Notice)) else ((⟨p0.R, p0.Next, p0.Once, p0.Dead⟩ : Tcursor_Cursor), ⟨badC ⟨p0.R, p0.Next, p0.Once, p0.Dead⟩ p1.Rev p1.Hor, 0, 0, []⟩)).1, (if badC ⟨p0.R, p0.Next, p0.Once, p0.Dead⟩ p1.Rev p1.Hor = 5 then ((⟨p0.R, p0.Next, p0.Once, true⟩ : Tcursor_Cursor), (⟨5, p1.Hor, 0, []⟩ : Tcursor_Notice)) else (⟨p0.R, p0.Next, p0.Once, p0.Dead⟩, ⟨badC ⟨p0.R, p0.Next, p0.Once, p0.Dead⟩ p1.Rev p1.Hor, 0, 0, []⟩)).2, hd, ?_⟩
      unfold F_ref10_Deliver
      unfold badC at hb ⊢
      dsimp only at hb ⊢
      cases d : p0.Dead with
      | true => simp only [if_true]; rw [if_neg (by decide)]; rw [← d]
      | false =>
        rw [d] at hb
        simp only [Bool.false_eq_true, if_false] at hb ⊢
        rw [hold, hahead]
        simp only [Option.bind_some]
        by_cases e : p0.Next ≤ p1.Hor
        · rw [if_pos e, decide_eq_true e]; rfl
        · rw [if_neg e] at hb
          rw [if_neg e, decide_eq_false e]
          by_cases g : p0.Next - 1 > p1.Rev
          · rw [if_pos g, decide_eq_true g]
            simp only [Bool.false_eq_true, if_false, Option.bind_some, if_true]
            rw [if_neg (by decide), ← d]
          · rw [if_neg g] at hb; exact absurd rfl hb
  obtain ⟨a, nt, g1, g2⟩ := goal
  exact fin a nt g1 g2
end Go.Proofs.Ytfgoccdjbgecfaa.V
