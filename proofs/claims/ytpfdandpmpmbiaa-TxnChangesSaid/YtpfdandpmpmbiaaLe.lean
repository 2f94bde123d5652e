/- The plain law of TxnChanges.
   No condition: this is a law of plain functions. -/
import Derived.Test.YtpfdandpmpmbiaaHs
namespace Go.Proofs.Ytpfdandpmpmbiaa.V
open Go
set_option linter.unusedVariables false
set_option linter.unusedSimpArgs false

theorem changesL (m : List TKV) (x : Int × Ohist_Hist) : ∀ (l : List TOp) (i : Nat), (∀ o ∈ l, o.Del = true → (look m o.Key).2 = true) → F_law07_TxnChanges_L1 (m, x) l i = some (.go ())
  | [], i, _ => rfl
  | o :: l, i, h => by
    rw [F_law07_TxnChanges_L1, get_look]
    simp only [Option.bind_some]
    rw [if_neg, changesL m x l (i + 1) (fun y hy => h y (List.mem_cons_of_mem _ hy))]
    have := h o List.mem_cons_self
    cases d : o.Del with
    | false => simp
    | true => rw [this d]; simp
theorem plain_TxnChanges (p0 : TReq) (p1 : List TOp) (w0 : W_TReq p0) (w1 : (∀ a ∈ p1, W_TOp a) ∧ p1.length ≤ maxLen) : ∃ n, F_law07_TxnChanges n p0 p1 = some true := by
  refine ⟨2000, ?_⟩
  unfold F_law07_TxnChanges
  obtain ⟨b, hb, _, hm⟩ := may_tot p0 w0.2.1.2
  rw [hb]
  simp only [Option.bind_some]
  by_cases c1 : b = 0
  case neg =>
    have : (b != 0) = true := by simpa using c1
    rw [this]; rfl
  subst c1
  by_cases c2 : p0.Kind = 1
  case neg =>
    have : (p0.Kind != 1) = true := by simpa using c2
    rw [this]; rfl
  by_cases c3 : p1.length > 20
  · rw [decide_eq_true (show (p1.length : Int) > 20 by omega)]
    cases (bif ((0 : Int) != 0) then true else (p0.Kind != 1)) <;> rfl
  have hk : (bif (bif ((0 : Int) != 0) then true else (p0.Kind != 1)) then true else (decide ((p1.length : Int) > 20))) = false := by
    rw [decide_eq_false (show ¬ (p1.length : Int) > 20 by omega), c2]; rfl
  rw [hk]
  simp only [Bool.false_eq_true, if_false]
  obtain ⟨_, t1, t2, t3, t4⟩ := (hm rfl).resolve_right (by omega)
  obtain ⟨h, a, I, L⟩ := apply_later hi_new p1 (fun o ho => (w1.1 o ho).1) (by simp [hev]; omega)
  have hlen := L.len
  have h00 : (hev ⟨0, 0, [], []⟩).length = 0 := rfl
  unfold F_hist_New
  simp only [Option.bind_some]
  rw [a]
  simp only [Option.bind_some, F_hist_Hist_Rev, eta_h]
  obtain ⟨m, ha, hm'⟩ := at_mid I (by omega) (n := 2000) (by omega) all0 (rev := h.bounds_rev) I.hor1 (Int.le_refl _)
  unfold all0 at ha
  rw [ha]
  simp only [Option.bind_some, eta_h]
  obtain ⟨ok, hp⟩ := plan_ok hm'.so (by have := hm'.le; omega) (n := 2000) (by omega) p0 (by omega) (by omega)
  rw [hp]
  simp only [Option.bind_some]
  generalize hl : (if ok = true then p0.Then else p0.Else) = l
  have hkd : KdO l := by rw [← hl]; split <;> assumption
  have hl4 : l.length ≤ 4 := by rw [← hl]; split <;> assumption
  have hsz : ∀ o ∈ l, o.Key.size ≤ maxLen := by
    intro o ho
    rw [← hl] at ho
    split at ho
    · exact (w0.2.2.2.2.1.1 o ho).1
    · exact (w0.2.2.2.2.2.1 o ho).1
  rw [changesL m _ _ 0 (fun o ho => (planO_mem ho).2)]
  simp only [Option.bind_some, lpK]
  have hpl : (planO m l).length ≤ 4 := Nat.le_trans (planO_sub m l).length_le hl4
  obtain ⟨h', a', _, _⟩ := apply_later I (planO m l) (fun o ho => hsz o (planO_mem ho).1) (by omega)
  rw [a']
  simp only [Option.bind_some]
  rw [effL_planO hm' hkd, List.length_map]
  simp
end Go.Proofs.Ytpfdandpmpmbiaa.V
