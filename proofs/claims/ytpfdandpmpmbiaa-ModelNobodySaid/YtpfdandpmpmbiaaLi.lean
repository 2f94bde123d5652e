/- The plain law of ModelNobody.
   No condition: this is a law of plain functions. -/
import Derived.Test.YtpfdandpmpmbiaaHn
import Derived.Test.YtpfdandpmpmbiaaFk
namespace Go.Proofs.Ytpfdandpmpmbiaa.V
open Go
set_option linter.unusedVariables false
set_option linter.unusedSimpArgs false

theorem eqH_self3 (x : THead) : eq_THead x x = true := by unfold eq_THead; simp
theorem plain_ModelNobody (p0 : TReq) (p1 : List TOp) (w0 : W_TReq p0) (w1 : (∀ a ∈ p1, W_TOp a) ∧ p1.length ≤ maxLen) (l1 : p1.length ≤ 4000000000000) : F_law08_ModelNobody p0 p1 = some true := by
  unfold F_law08_ModelNobody F_model_New F_hist_New
  have h0 : (hev ⟨0, 0, [], []⟩).length = 0 := rfl
  obtain ⟨h', a, _⟩ := apply_big hi_new p1 (fun o ho => (w1.1 o ho).1) (by omega) (by omega)
  have hc : cloneL 24 ([] : List (List TEvent)) = some [] := rfl
  simp only [Option.bind_some, F_model_Model_Hist, F_hist_Hist_Copy, hc]
  rw [a]
  simp only [Option.bind_some, F_model_Model_Serve_nil, F_model_Model_Head_nil, F_model_Model_Hist_nil, beq_self_eq_true, if_true, eqH_self3, head_eq, F_model_Model_Hist, F_hist_Hist_Copy, hc, F_hist_Hist_Rev]
  have : (heM 0 ⟨0, 0, [], []⟩) = ⟨0, 0, 0⟩ := rfl
  rw [this, eqH_self3]
  rfl
end Go.Proofs.Ytpfdandpmpmbiaa.V
