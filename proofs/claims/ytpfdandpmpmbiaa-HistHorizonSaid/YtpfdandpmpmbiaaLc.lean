/- The plain law of HistHorizon.
   No condition: this is a law of plain functions. -/
import Derived.Test.YtpfdandpmpmbiaaLa
import Derived.Test.YtpfdandpmpmbiaaHr
namespace Go.Proofs.Ytpfdandpmpmbiaa.V
open Go
set_option linter.unusedVariables false
set_option linter.unusedSimpArgs false

theorem plain_HistHorizon (p0 : List Timpostlaw06_Deed) (p1 : Int) (w0 : (∀ a ∈ p0, W_Timpostlaw06_Deed a) ∧ p0.length ≤ maxLen) (w1 : okI .i64 p1) : ∃ n, F_law06_HistHorizon n p0 p1 = some true := by
  refine ⟨2000, ?_⟩
  unfold F_law06_HistHorizon
  rcases few_ok p0 with f0 | ⟨f0, l0, o0⟩
  · rw [f0]; rfl
  rw [f0]
  simp only [Option.bind_some, Bool.not_true, Bool.false_eq_true, if_false]
  obtain ⟨h, r, I, hl⟩ := ran_ok (n := 2000) (by omega) w0.1 o0 l0
  rw [r]
  simp only [Option.bind_some, F_hist_Hist_Rev, F_hist_Hist_Hor, eta_h]
  have hhor := I.hor1
  have hhor0 := I.hor0
  obtain ⟨m, ha, hm⟩ := at_mid I (by omega) (n := 2000) (by omega) all0 (rev := h.bounds_rev) hhor (Int.le_refl _)
  unfold all0 at ha
  rw [ha]
  simp only [Option.bind_some, eta_h]
  rcases compact_ok I p1 with ⟨c, a⟩ | ⟨c, d, a⟩ | ⟨c, d, a, I'⟩
  · rw [a]
    simp only [Option.bind_some, eta_h]
    rw [ha]
    have g1 : decide (p1 ≥ 0) = false := decide_eq_false (by omega)
    simp [g1, sameK, hhor]
  · rw [a]
    simp only [Option.bind_some, eta_h]
    rw [ha]
    have g1 : decide (p1 ≥ 0) = true := decide_eq_true (by omega)
    have g2 : decide (p1 ≤ h.bounds_rev) = false := decide_eq_false (by omega)
    simp [g1, g2, sameK, hhor]
  · rw [a]
    simp only [Option.bind_some]
    have hle : (if p1 > h.bounds_hor then p1 else h.bounds_hor) ≤ h.bounds_rev := by split <;> omega
    obtain ⟨m', ha', hm'⟩ := at_mid I' (by simpa [hev] using (by omega : (hev h).length ≤ 1000)) (n := 2000) (by omega) all0 (rev := h.bounds_rev) hle (Int.le_refl _)
    unfold all0 at ha'
    rw [ha']
    have hmm : m' = m := hm'.uniq hm (fun k => rfl)
    subst hmm
    have g1 : decide (p1 ≥ 0) = true := decide_eq_true (by omega)
    have g2 : decide (p1 ≤ h.bounds_rev) = true := decide_eq_true (by omega)
    simp [g1, g2, sameK]
    exact hle
end Go.Proofs.Ytpfdandpmpmbiaa.V
