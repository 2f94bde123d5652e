/- The plain law of HistStays.
   No condition: this is a law of plain functions. -/
import Derived.Test.YtpfdandpmpmbiaaHr
namespace Go.Proofs.Ytpfdandpmpmbiaa.V
open Go
set_option linter.unusedVariables false
set_option linter.unusedSimpArgs false

def all0 : TRange := ⟨ByteArray.empty, ByteArray.empty⟩
theorem staysL {n : Nat} (hn : 1000 < n) (rev : Int) (h0 : Ohist_Hist) (hr : rev ≤ h0.bounds_rev) (was : List TKV) (e : Int) (hw : h0.bounds_hor ≤ rev → e = 0 ∧ IsAt (hev h0) rev all0 was) :
    ∀ (l : List Timpostlaw06_Deed) (i : Nat) (h : Ohist_Hist) (c : Nat), (∀ d ∈ l, W_Timpostlaw06_Deed d) → (∀ d ∈ l, d.Ops.length ≤ 8) → HI h → Later h0 h c → (hev h).length + 8 * l.length ≤ 900 →
    ∃ g, F_law06_HistStays_L1 n rev (was, e, h0) l i h.bounds_rev h.bounds_hor h.rows h.keys = some (.go g)
  | [], i, h, c, _, _, _, _, _ => ⟨_, rfl⟩
  | d :: l, i, h, c, w, o, I, L0, hl => by
    rw [List.length_cons] at hl
    obtain ⟨x1, b, h', q, I', J', L⟩ := do_ok hn I (by omega) (x := ⟨[], 0⟩) (N := 0) ⟨by simp, by simp⟩ (by omega) (w d List.mem_cons_self) (o d List.mem_cons_self)
    have hlen := L.len
    have L2 := L0.trans L
    have ih := staysL hn rev h0 hr was e hw l (i + 1) h' (c + 8) (fun y hy => w y (List.mem_cons_of_mem _ hy)) (fun y hy => o y (List.mem_cons_of_mem _ hy)) I' L2 (by omega)
    rw [F_law06_HistStays_L1]
    rw [eta_h, q]
    simp only [Option.bind_some, eta_h]
    have hhor := L2.hor
    have hrev := L2.rev
    by_cases c1 : rev < h'.bounds_hor
    · have ha := at_old (n := n) (h := h') all0 c1
      unfold all0 at ha
      rw [ha]
      simp only [Option.bind_some, F_hist_Hist_Hor, eta_h, decide_eq_true c1, cond_true]
      rw [if_neg (by decide)]
      have c2 : decide (rev ≥ h'.bounds_hor) = false := decide_eq_false (by omega)
      simp only [c2, Bool.false_eq_true, if_false, Option.bind_some]
      exact ih
    · obtain ⟨m, ha, hm⟩ := at_mid I' (by omega) hn all0 (rev := rev) (by omega) (by omega)
      unfold all0 at ha
      rw [ha]
      have c3 : decide (rev < h'.bounds_hor) = false := decide_eq_false c1
      have c2 : decide (rev ≥ h'.bounds_hor) = true := decide_eq_true (by omega)
      obtain ⟨he, hwas⟩ := hw (by omega)
      have hmw : m = was := hm.uniq hwas (fun k => L2.at hr k)
      subst hmw
      subst he
      simp only [Option.bind_some, F_hist_Hist_Hor, eta_h, c3, cond_false, Bool.false_eq_true, if_false, c2, if_true]
      rw [if_neg (by decide), sameK]
      simp only [Option.bind_some, Bool.not_true, Bool.false_eq_true, if_false]
      exact ih
theorem plain_HistStays (p0 p1 : List Timpostlaw06_Deed) (p2 : Int) (w0 : (∀ a ∈ p0, W_Timpostlaw06_Deed a) ∧ p0.length ≤ maxLen) (w1 : (∀ a ∈ p1, W_Timpostlaw06_Deed a) ∧ p1.length ≤ maxLen) (w2 : okI .u8 p2) : ∃ n, F_law06_HistStays n p0 p1 p2 = some true := by
  refine ⟨2000, ?_⟩
  unfold F_law06_HistStays
  rcases few_ok p0 with f0 | ⟨f0, l0, o0⟩
  · rw [f0]; rfl
  rcases few_ok p1 with f1 | ⟨f1, l1, o1⟩
  · rw [f0, f1]; rfl
  rw [f0, f1]
  simp only [Option.bind_some, Bool.not_true, Bool.false_eq_true, if_false]
  obtain ⟨h, r, I, hl⟩ := ran_ok (n := 2000) (by omega) w0.1 o0 l0
  rw [r]
  simp only [Option.bind_some, F_hist_Hist_Rev, eta_h]
  have hne := I.ne
  have hrv := I.rev
  obtain ⟨b0, b1⟩ := okI_u8 w2
  rw [wrap_id (n := p2) (by omega) (by omega), wrap_id (n := h.bounds_rev + 1) (by omega) (by omega)]
  unfold remI
  rw [if_neg (by omega)]
  simp only [Option.bind_some]
  have m0 := Int.tmod_nonneg (h.bounds_rev + 1) b0
  have m1 := Int.tmod_lt_of_pos p2 (b := h.bounds_rev + 1) (by omega)
  generalize p2.tmod (h.bounds_rev + 1) = rev at m0 m1
  have hgo : ∀ (was : List TKV) (e : Int), (h.bounds_hor ≤ rev → e = 0 ∧ IsAt (hev h) rev all0 was) → ((F_law06_HistStays_L1 2000 rev (was, e, h) p1 0 h.bounds_rev h.bounds_hor h.rows h.keys : Option (Lp (Int × Int × (List (List TEvent)) × (List (ByteArray × (List TEvent)))) (Bool))).bind fun s10 => lpK s10 fun u10 => some true) = some true := by
    intro was e hw
    obtain ⟨g, hg⟩ := staysL (n := 2000) (by omega) rev h (by omega) was e hw p1 0 h 0 w1.1 o1 I (Later.refl h) (by omega)
    rw [hg]; rfl
  by_cases c1 : rev < h.bounds_hor
  · have ha := at_old (n := 2000) (h := h) all0 c1
    unfold all0 at ha
    rw [ha]
    exact hgo [] 5 (fun q => by omega)
  · obtain ⟨m, ha, hm⟩ := at_mid I (by omega) (n := 2000) (by omega) all0 (rev := rev) (by omega) (by omega)
    unfold all0 at ha
    rw [ha]
    exact hgo m 0 (fun _ => ⟨rfl, hm⟩)
end Go.Proofs.Ytpfdandpmpmbiaa.V
