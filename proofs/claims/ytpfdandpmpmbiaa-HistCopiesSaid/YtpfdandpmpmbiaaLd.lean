/- The plain law of HistCopies.
   No condition: this is a law of plain functions. -/
import Derived.Test.YtpfdandpmpmbiaaLa
import Derived.Test.YtpfdandpmpmbiaaHr
namespace Go.Proofs.Ytpfdandpmpmbiaa.V
open Go
set_option linter.unusedVariables false
set_option linter.unusedSimpArgs false

theorem plain_HistCopies (p0 : List Timpostlaw06_Deed) (p1 : Timpostlaw06_Deed) (w0 : (∀ a ∈ p0, W_Timpostlaw06_Deed a) ∧ p0.length ≤ maxLen) (w1 : W_Timpostlaw06_Deed p1) : ∃ n, F_law06_HistCopies n p0 p1 = some true := by
  refine ⟨2000, ?_⟩
  unfold F_law06_HistCopies
  rcases few_ok p0 with f0 | ⟨f0, l0, o0⟩
  · rw [f0]; rfl
  rw [f0]
  by_cases h8 : p1.Ops.length > 8
  · simp only [Option.bind_some, Bool.not_true, cond_false, decide_eq_true (show (p1.Ops.length : Int) > 8 by omega), if_true]
  simp only [Option.bind_some, Bool.not_true, cond_false, decide_eq_false (show ¬ (p1.Ops.length : Int) > 8 by omega), Bool.false_eq_true, if_false]
  obtain ⟨h, r, I, hl⟩ := ran_ok (n := 2000) (by omega) w0.1 o0 l0
  rw [r]
  have hne := I.ne
  have hc : cloneL 24 h.rows = some h.rows := by unfold cloneL; rw [appL_ok (by simp; omega) (by omega) (by omega)]; rfl
  have hhor := I.hor1
  obtain ⟨m, ha, hm⟩ := at_mid I (by omega) (n := 2000) (by omega) all0 (rev := h.bounds_rev) hhor (Int.le_refl _)
  unfold all0 at ha
  obtain ⟨x1, b, h', q, I', J', L⟩ := do_ok (n := 2000) (by omega) I (by omega) (x := ⟨[], 0⟩) (N := 0) ⟨by simp, by simp⟩ (by omega) w1 (by omega)
  simp only [Option.bind_some, F_hist_Hist_Copy, hc, F_hist_Hist_Rev, F_hist_Hist_Hor, eta_h, ha, q]
  simp [sameK, F_hist_Hist_At_nil, F_hist_Hist_Events_nil, F_hist_Hist_Compact_nil, F_hist_Hist_Apply_nil, F_hist_Hist_Copy_nil, F_hist_Hist_Rev_nil, F_hist_Hist_Hor_nil]
end Go.Proofs.Ytpfdandpmpmbiaa.V
