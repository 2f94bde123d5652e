/- The plain law of ModelReads.
   No condition: this is a law of plain functions. -/
import Derived.Test.YtpfdandpmpmbiaaHt
namespace Go.Proofs.Ytpfdandpmpmbiaa.V
open Go
set_option linter.unusedVariables false
set_option linter.unusedSimpArgs false

def qR (k : Int) : TReq := ⟨2, ⟨ByteArray.empty, ByteArray.empty⟩, k, [], [], []⟩
theorem may_qR {k : Int} (hk : 0 ≤ k) : F_txn_May (qR k) = some 0 := by
  unfold F_txn_May qR
  dsimp only
  rw [if_neg (by decide), if_pos (by decide), range_all]
  simp only [Option.bind_some, cond_true]
  rw [decide_eq_true hk]; rfl
theorem qR_read {n : Nat} (hn : 1000 < n) {s : Int} {h : Ohist_Hist} (I : HI h) (hl : (hev h).length ≤ 1000) {k : Int} (hk : 0 ≤ k) : ∃ m e, F_model_Model_Serve n ⟨s⟩ h (qR k) = some (⟨heM s h, e, false, m⟩, ⟨s⟩, h) ∧
    (0 < k → (k < h.bounds_hor ∧ e = 5 ∧ m = []) ∨ (h.bounds_hor ≤ k ∧ h.bounds_rev < k ∧ e = 6 ∧ m = []) ∨ (h.bounds_hor ≤ k ∧ k ≤ h.bounds_rev ∧ e = 0 ∧ IsAt (hev h) k all0 m)) ∧ (k = 0 → e = 0) := by
  obtain ⟨m, e, ha, hc⟩ := at_tot hn I hl (revQ h (qR k)) (qR k).R
  have hem : e ≠ 0 → m = [] := fun ne => by rcases hc with h | h | h; exact h.2.2; exact h.2.2.2; exact absurd h.2.2.1 ne
  refine ⟨m, e, serve_read (may_qR hk) rfl ha hem, fun p => ?_, fun p => ?_⟩
  · have : revQ h (qR k) = k := by unfold revQ qR; rw [if_neg (by show ¬ k = 0; omega)]
    rw [this] at hc
    exact hc
  · have : revQ h (qR k) = h.bounds_rev := by unfold revQ qR; rw [if_pos (by show k = 0; omega)]
    rw [this] at hc
    have := I.hor1
    rcases hc with h | h | h
    · omega
    · omega
    · exact h.2.2.1
theorem readsL {n : Nat} (hn : 1000 < n) (p2 : Int) (k : Int) (hk : IntKind.i64.wrap (Int.tmod p2 20) = k) (k0 : 0 ≤ k) (h0 : Ohist_Hist) (x : Omodel_Model × Ohist_Hist) (rH : THead) (rE : Int) (rO : Bool) (rL : List TKV)
    (hw : 0 < k → rE = 0 → h0.bounds_hor ≤ k ∧ k ≤ h0.bounds_rev ∧ IsAt (hev h0) k all0 rL) : ∀ (l : List TReq) (i : Nat) (s : Int) (h : Ohist_Hist) (c : Nat), (∀ q ∈ l, W_TReq q) → MI s h → Later h0 h c → (hev h).length + 4 * l.length ≤ 900 → s + l.length ≤ 900000 →
    ∃ g, F_law08_ModelReads_L1 n p2 (⟨rH, rE, rO, rL⟩, x) l i s h.bounds_rev h.bounds_hor h.rows h.keys = some (.go g)
  | [], i, s, h, c, _, M, _, _, _ => ⟨_, rfl⟩
  | q :: l, i, s, h, c, w, M, L0, hl, hs => by
    rw [List.length_cons] at hl hs
    obtain ⟨b, r, s1, h1, hb, e, hr, M1, L1, hr1, hs1, hsame, _⟩ := serve_ok hn M (by omega) (by omega) (w q List.mem_cons_self)
    have hlen := L1.len
    have hs2 : s1 ≤ s + 1 := by rw [hs1]; split <;> omega
    have L2 := L0.trans L1
    have ih := readsL hn p2 k hk k0 h0 x rH rE rO rL hw l (i + 1) s1 h1 (c + 4) (fun y hy => w y (List.mem_cons_of_mem _ hy)) M1 L2 (by omega) (by omega)
    obtain ⟨m, e2, he2, hc1, hc2⟩ := qR_read hn (s := s1) M1.hi (by omega) k0
    unfold qR at he2
    have a1 := M1.hi.hor1
    have a2 := M1.hi.hor0
    have a3 := L2.hor
    rw [F_law08_ModelReads_L1, eta_h, e, hk]
    simp only [Option.bind_some, eta_h, eta_m, he2, head_eq]
    have hH : (heM s1 h1).Hor = h1.bounds_hor := rfl
    have hR : (heM s1 h1).Rev = h1.bounds_rev := rfl
    rw [hH, hR]
    rcases Int.lt_or_le 0 k with kp | kp
    · have d0 : decide (k > 0) = true := decide_eq_true kp
      rcases hc1 kp with ⟨c1, c2, c3⟩ | ⟨c1, c2, c3, c4⟩ | ⟨c1, c2, c3, c4⟩
      · subst c2
        have d1 : decide (k < h1.bounds_hor) = true := decide_eq_true c1
        have d2 : decide (k > h1.bounds_rev) = false := decide_eq_false (by omega)
        simp only [d0, d1, d2, cond_true, Bool.not_true, Option.bind_some]
        have t1 : ((5 : Int) == 5) = true := rfl
        have t2 : ((5 : Int) == 6) = false := rfl
        simp only [t1, t2, beq_self_eq_true, Bool.not_true, cond_false, Bool.false_eq_true, if_false]
        have t3 : (bif (rE == 0) then false else false) = false := by cases (rE == 0) <;> rfl
        simp only [t3, Bool.false_eq_true, if_false, Option.bind_some]
        exact ih
      · subst c3
        have d1 : decide (k < h1.bounds_hor) = false := decide_eq_false (by omega)
        have d2 : decide (k > h1.bounds_rev) = true := decide_eq_true (by omega)
        have t1 : ((6 : Int) == 5) = false := rfl
        have t2 : ((6 : Int) == 6) = true := rfl
        simp only [d0, d1, d2, cond_true, t1, t2, beq_self_eq_true, Bool.not_true, cond_false, Bool.false_eq_true, if_false, Bool.not_false]
        by_cases z : rE = 0
        · have := (hw kp z).2.1
          have := L2.rev
          omega
        · have t3 : (bif (rE == 0) then true else false) = false := by
            have : (rE == 0) = false := by simpa using z
            rw [this]; rfl
          simp only [t3, Bool.false_eq_true, if_false, Option.bind_some]
          exact ih
      · subst c3
        have d1 : decide (k < h1.bounds_hor) = false := decide_eq_false (by omega)
        have d2 : decide (k > h1.bounds_rev) = false := decide_eq_false (by omega)
        have t1 : ((0 : Int) == 5) = false := rfl
        have t2 : ((0 : Int) == 6) = false := rfl
        simp only [d0, d1, d2, cond_true, t1, t2, beq_self_eq_true, Bool.not_true, cond_false, Bool.false_eq_true, if_false, Bool.not_false]
        by_cases z : rE = 0
        · obtain ⟨z1, z2, z3⟩ := hw kp z
          have hmm : m = rL := c4.uniq z3 (fun y => L2.at z2 y)
          subst hmm
          subst z
          have t3 : ((0 : Int) == 0) = true := rfl
          simp only [t3, cond_true, if_true, sameK, Option.bind_some, Bool.not_true, Bool.false_eq_true, if_false]
          exact ih
        · have t3 : (bif (rE == 0) then true else false) = false := by
            have : (rE == 0) = false := by simpa using z
            rw [this]; rfl
          simp only [t3, Bool.false_eq_true, if_false, Option.bind_some]
          exact ih
    · have d0 : decide (k > 0) = false := decide_eq_false (by omega)
      have d2 : decide (k > h1.bounds_rev) = false := decide_eq_false (by omega)
      have hz := hc2 (by omega)
      subst hz
      have t1 : ((0 : Int) == 5) = false := rfl
      have t2 : ((0 : Int) == 6) = false := rfl
      simp only [d0, d2, t1, t2, beq_self_eq_true, Bool.not_true, cond_false, Bool.false_eq_true, if_false, Option.bind_some]
      exact ih
theorem plain_ModelReads (p0 p1 : List TReq) (p2 : Int) (w0 : (∀ a ∈ p0, W_TReq a) ∧ p0.length ≤ maxLen) (w1 : (∀ a ∈ p1, W_TReq a) ∧ p1.length ≤ maxLen) (w2 : okI .u8 p2) : ∃ n, F_law08_ModelReads n p0 p1 p2 = some true := by
  refine ⟨2000, ?_⟩
  unfold F_law08_ModelReads
  rcases few8 p0 with f0 | ⟨f0, l0⟩
  · rw [f0]; rfl
  rcases few8 p1 with f1 | ⟨f1, l1⟩
  · rw [f0, f1]; rfl
  rw [f0, f1]
  simp only [Option.bind_some, Bool.not_true, Bool.false_eq_true, if_false]
  obtain ⟨s, h, e, M, hlen, hs⟩ := ran8 (n := 2000) (by omega) w0.1 l0
  obtain ⟨b0, b1⟩ := okI_u8 w2
  have m0 := Int.tmod_nonneg 20 b0
  have m1 := Int.tmod_lt_of_pos p2 (b := 20) (by omega)
  have hk : IntKind.i64.wrap (Int.tmod p2 20) = Int.tmod p2 20 := wrap_id (by omega) (by omega)
  obtain ⟨m, e2, he2, hc1, hc2⟩ := qR_read (n := 2000) (by omega) (s := s) M.hi (by omega) m0
  unfold qR at he2
  rw [e]
  simp only [Option.bind_some, eta_h, eta_m]
  rw [hk, he2]
  simp only [Option.bind_some]
  obtain ⟨g, hg⟩ := readsL (n := 2000) (by omega) p2 (Int.tmod p2 20) hk m0 h (⟨s⟩, h) (heM s h) e2 false m (fun kp z => by
    rcases hc1 kp with c | c | c
    · omega
    · omega
    · exact ⟨c.1, c.2.1, c.2.2.2⟩) p1 0 s h 0 w1.1 M (Later.refl h) (by omega) (by omega)
  rw [hg]; rfl
end Go.Proofs.Ytpfdandpmpmbiaa.V
