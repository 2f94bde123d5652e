/- The plain law of EventFolds.
   No condition: this is a law of plain functions. -/
import Derived.Test.YtcjcbcmapjcfnaaFo
namespace Go.Proofs.Ytcjcbcmapjcfnaa.V
open Go
set_option linter.unusedVariables false
set_option linter.unusedSimpArgs false

theorem plain_EventFolds (p0 : List TKV) (p1 : List TEvent) (p2 : TRange) (w0 : (∀ a ∈ p0, W_TKV a) ∧ p0.length ≤ maxLen) (w1 : (∀ a ∈ p1, W_TEvent a) ∧ p1.length ≤ maxLen) (w2 : W_TRange p2) : ∃ n, F_law05_EventFolds n p0 p1 p2 = some true := by
  refine ⟨2000, ?_⟩
  unfold F_law05_EventFolds
  by_cases h1 : p1.length ≤ 60
  case neg =>
    have e1 : decide ((p1.length : Int) ≤ 60) = false := decide_eq_false (by omega)
    simp only [F_law05_few, Option.bind_some, e1, Bool.not_false, cond_true, if_true]
  have e1 : decide ((p1.length : Int) ≤ 60) = true := decide_eq_true (by omega)
  by_cases h0 : p0.length ≤ 60
  case neg =>
    have e0 : decide ((p0.length : Int) > 60) = true := decide_eq_true (by omega)
    simp only [F_law05_few, Option.bind_some, e1, e0, Bool.not_true, cond_false, if_true]
  have e0 : decide ((p0.length : Int) > 60) = false := decide_eq_false (by omega)
  simp only [F_law05_few, Option.bind_some, e1, e0, Bool.not_true, cond_false, Bool.false_eq_true, if_false]
  rcases map_eq p0 (by omega) with hm | ⟨hm, hso⟩
  · rw [hm]; simp only [Option.bind_some, Bool.not_false, if_true]
  · rw [hm]
    simp only [Option.bind_some, Bool.not_true, Bool.false_eq_true, if_false]
    rw [appL_ok (by simp; omega) (by omega) (by omega)]
    simp only [Option.bind_some]
    have hlen := foldM_len p1 p0 hso
    rw [fold_eq p1 hso (by omega) (by omega)]
    simp only [Option.bind_some]
    rw [rfold_eq p1 hso (by omega) (by omega)]
    simp only [Option.bind_some, sameK, if_true]
    rw [filK p2 _ (by omega) (by omega), rfilK p2 _ (by omega)]
    simp only [Option.bind_some, sameK, if_true, List.nil_append]
end Go.Proofs.Ytcjcbcmapjcfnaa.V
