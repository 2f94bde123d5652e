/- The plain law of ModelHeads.
   No condition: this is a law of plain functions. -/
import Derived.Test.YtpfdandpmpmbiaaHt
import Derived.Test.YtpfdandpmpmbiaaFg
namespace Go.Proofs.Ytpfdandpmpmbiaa.V
open Go
set_option linter.unusedVariables false
set_option linter.unusedSimpArgs false

theorem eqH_self (x : THead) : eq_THead x x = true := by unfold eq_THead; simp
theorem headsL {n : Nat} (hn : 1000 < n) : ∀ (l : List TReq) (i : Nat) (s : Int) (h : Ohist_Hist), (∀ q ∈ l, W_TReq q) → MI s h → (hev h).length + 4 * l.length ≤ 900 → s + l.length ≤ 900000 →
    ∃ g, F_law08_ModelHeads_L1 n l i s h.bounds_rev h.bounds_hor s h.bounds_rev h.bounds_hor h.rows h.keys = some (.go g)
  | [], i, s, h, _, M, _, _ => ⟨_, rfl⟩
  | q :: l, i, s, h, w, M, hl, hs => by
    rw [List.length_cons] at hl hs
    obtain ⟨b, r, s1, h1, hb, e, hr, M1, L1, hr1, hs1, hsame, _⟩ := serve_ok hn M (by omega) (by omega) (w q List.mem_cons_self)
    have hlen := L1.len
    have hs2 : s1 ≤ s + 1 := by rw [hs1]; split <;> omega
    have ih := headsL hn l (i + 1) s1 h1 (fun y hy => w y (List.mem_cons_of_mem _ hy)) M1 (by omega) (by omega)
    have hs0 := M.s0
    have I := M.hi
    have I1 := M1.hi
    have a1 := I.hor1
    have a2 := I.hor0
    have b1 := I1.hor1
    have b2 := I1.hor0
    have c1 := L1.hor
    have c2 := L1.rev
    have c3 := M1.rg
    have hne := I1.ne
    have hrv := I1.rev
    obtain ⟨rH, rE, rO, rL⟩ := r
    have hr' : rH = heM s1 h1 := hr
    subst hr'
    rw [F_law08_ModelHeads_L1, eta_h, e]
    simp only [Option.bind_some, eta_h, eta_m, hb, head_eq]
    have w1 : IntKind.i64.wrap (s + 1) = s + 1 := wrap_id (by omega) (by omega)
    have w2 : IntKind.i64.wrap (h1.bounds_hor + 16) = h1.bounds_hor + 16 := wrap_id (by omega) (by omega)
    have w3 : IntKind.i64.wrap (h.bounds_rev + 1) = h.bounds_rev + 1 := wrap_id (by omega) (by omega)
    have d1 : decide ((heM s1 h1).Rev < h.bounds_rev) = false := decide_eq_false (by show ¬ h1.bounds_rev < h.bounds_rev; omega)
    have d2 : decide ((heM s1 h1).Hor < h.bounds_hor) = false := decide_eq_false (by show ¬ h1.bounds_hor < h.bounds_hor; omega)
    have d3 : decide ((heM s1 h1).Hor > (heM s1 h1).Rev) = false := decide_eq_false (by show ¬ h1.bounds_hor > h1.bounds_rev; omega)
    have d4 : decide ((heM s1 h1).Rev > IntKind.i64.wrap ((heM s1 h1).Hor + 16)) = false := decide_eq_false (by show ¬ h1.bounds_rev > IntKind.i64.wrap (h1.bounds_hor + 16); rw [w2]; omega)
    have d5 : decide ((heM s1 h1).Rev > IntKind.i64.wrap (h.bounds_rev + 1)) = false := decide_eq_false (by show ¬ h1.bounds_rev > IntKind.i64.wrap (h.bounds_rev + 1); rw [w3]; omega)
    by_cases c : b = 0 ∧ q.Kind ≠ 2
    · rw [if_pos c] at hs1
      have e1 : (b == 0) = true := by simpa using c.1
      have e2 : (q.Kind != 2) = true := by simpa using c.2
      have e3 : ((heM s1 h1).Seq == IntKind.i64.wrap (s + 1)) = true := by show (s1 == IntKind.i64.wrap (s + 1)) = true; rw [w1, hs1]; simp
      simp only [e1, e2, e3, if_true, Option.bind_some, eqH_self, Bool.not_true, Bool.false_eq_true, if_false, beq_self_eq_true, d1, d2, d3, d4, d5]
      exact ih
    · rw [if_neg c] at hs1
      have hh := hsame c
      subst hh
      subst hs1
      have e3 : ((heM s1 h1).Seq == IntKind.i64.wrap (s1 + 1)) = false := by show (s1 == IntKind.i64.wrap (s1 + 1)) = false; rw [w1]; simp; omega
      have hx : (if (b == 0) = true then some (true, (q.Kind != 2)) else some (false, false)) = some ((b == 0), false) := by
        by_cases e1 : b = 0
        · have e2 : q.Kind = 2 := by
            by_cases k : q.Kind = 2
            · exact k
            · exact absurd ⟨e1, k⟩ c
          rw [e1, e2]; rfl
        · have : (b == 0) = false := by simpa using e1
          rw [this]; rfl
      have hself : eq_THead (heM s1 h1) ⟨s1, h1.bounds_rev, h1.bounds_hor⟩ = true := eqH_self _
      rw [hx]
      simp only [e3, if_true, Option.bind_some, eqH_self, hself, Bool.not_true, Bool.not_false, Bool.false_eq_true, if_false, beq_self_eq_true, d1, d2, d3, d4, d5]
      exact ih
theorem plain_ModelHeads (p0 : List TReq) (w0 : (∀ a ∈ p0, W_TReq a) ∧ p0.length ≤ maxLen) : ∃ n, F_law08_ModelHeads n p0 = some true := by
  refine ⟨2000, ?_⟩
  unfold F_law08_ModelHeads F_model_New F_hist_New
  simp only [Option.bind_some]
  rcases few8 p0 with f | ⟨f, hl⟩
  · rw [f]; rfl
  · rw [f]
    simp only [Option.bind_some, Bool.not_true, Bool.false_eq_true, if_false]
    have h0 : (hev ⟨0, 0, [], []⟩).length = 0 := rfl
    obtain ⟨g, hg⟩ := headsL (n := 2000) (by omega) p0 0 0 ⟨0, 0, [], []⟩ w0.1 mi_new (by omega) (by omega)
    have hg' : F_law08_ModelHeads_L1 2000 p0 0 0 0 0 0 0 0 [] [] = some (.go g) := hg
    rw [hg']; rfl
end Go.Proofs.Ytpfdandpmpmbiaa.V
