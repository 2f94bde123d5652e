/- The plain law of ModelRefused.
   No condition: this is a law of plain functions. -/
import Derived.Test.YtpfdandpmpmbiaaHt
namespace Go.Proofs.Ytpfdandpmpmbiaa.V
open Go
set_option linter.unusedVariables false
set_option linter.unusedSimpArgs false

theorem plain_ModelRefused (p0 : List TReq) (p1 : TReq) (w0 : (∀ a ∈ p0, W_TReq a) ∧ p0.length ≤ maxLen) (w1 : W_TReq p1) : ∃ n, F_law08_ModelRefused n p0 p1 = some true := by
  refine ⟨2000, ?_⟩
  unfold F_law08_ModelRefused
  rcases few8 p0 with f | ⟨f, hl⟩
  · rw [f]; rfl
  rw [f]
  simp only [Option.bind_some, Bool.not_true, cond_false]
  split
  · rfl
  obtain ⟨s, h, e, M, hlen, hs⟩ := ran8 (n := 2000) (by omega) w0.1 hl
  have I := M.hi
  have hne := I.ne
  have hc : cloneL 24 h.rows = some h.rows := by unfold cloneL; rw [appL_ok (by simp; omega) (by omega) (by omega)]; rfl
  obtain ⟨b, r, s1, h1, hb, e1, hr, M1, L1, hr1, hs1, hsame, herr⟩ := serve_ok (n := 2000) (by omega) M (by omega) (by omega) w1
  have I1 := M1.hi
  have hlen1 := L1.len
  have hne1 := I1.ne
  have hc1 : cloneL 24 h1.rows = some h1.rows := by unfold cloneL; rw [appL_ok (by simp; omega) (by omega) (by omega)]; rfl
  obtain ⟨m, ha, hm⟩ := at_mid I (by omega) (n := 2000) (by omega) all0 (rev := h.bounds_rev) I.hor1 (Int.le_refl _)
  obtain ⟨m1, x1, ha1, hx1⟩ := at_tot (n := 2000) (by omega) I1 (by omega) h.bounds_rev all0
  unfold all0 at ha ha1
  obtain ⟨rH, rE, rO, rL⟩ := r
  have hr' : rH = heM s1 h1 := hr
  subst hr'
  simp only [e, Option.bind_some, eta_h, eta_m, head_eq, F_model_Model_Hist, F_hist_Hist_Copy, hc, hc1, e1, F_hist_Hist_Rev, F_hist_Hist_Hor, ha, ha1]
  by_cases c : rE = 0
  · have q1 : (rE != 0) = false := by rw [c]; rfl
    have q2 : (rE == 0) = true := by rw [c]; rfl
    simp only [q1, q2, cond_false, cond_true, Bool.false_eq_true, if_false]
    by_cases k : p1.Kind = 2
    · have q3 : (p1.Kind != 2) = false := by rw [k]; rfl
      have hsm := hsame (fun e => e.2 k)
      subst hsm
      have hmm : m1 = m := by
        rw [ha] at ha1
        cases ha1; rfl
      subst hmm
      simp only [q3, Bool.false_eq_true, if_false, sameK, Option.bind_some, if_true, beq_self_eq_true, cond_true]
      simp [heM]
    · have q3 : (p1.Kind != 2) = true := by simpa using k
      simp only [q3, if_true]
  · have q1 : (rE != 0) = true := by simpa using c
    have q2 : (rE == 0) = false := by simpa using c
    obtain ⟨z1, z2, z3⟩ := herr c
    dsimp only at z1 z2
    subst z1
    subst z2
    subst z3
    have hmm : m1 = m := by
      rw [ha] at ha1
      cases ha1; rfl
    subst hmm
    simp only [q1, q2, cond_true, cond_false, Bool.false_eq_true, if_false, sameK, Option.bind_some, if_true, beq_self_eq_true, List.length_nil]
    simp [heM]
end Go.Proofs.Ytpfdandpmpmbiaa.V
