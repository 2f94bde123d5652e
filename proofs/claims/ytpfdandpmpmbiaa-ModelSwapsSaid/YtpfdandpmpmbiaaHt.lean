/- Requests, one behind the other, plainly.
   No condition: these are laws of plain functions. -/
import Derived.Test.YtpfdandpmpmbiaaHs
namespace Go.Proofs.Ytpfdandpmpmbiaa.V
open Go
set_option linter.unusedVariables false
set_option linter.unusedSimpArgs false

theorem eta_m (m : Omodel_Model) : (⟨m.seq⟩ : Omodel_Model) = m := rfl
def heN : THead := ⟨0, 0, 0⟩
def heM (s : Int) (h : Ohist_Hist) : THead := ⟨s, h.bounds_rev, h.bounds_hor⟩
theorem head_eq (s : Int) (h : Ohist_Hist) : F_model_Model_Head ⟨s⟩ h = some (heM s h, ⟨s⟩, h) := by
  unfold F_model_Model_Head F_hist_Hist_Rev F_hist_Hist_Hor
  simp only [Option.bind_some, eta_h]; rfl
theorem answer_eq (s : Int) (h : Ohist_Hist) (r : TResp) : F_model_Model_answer ⟨s⟩ h r = some (⟨heM s h, r.Err, (if r.Err = 0 then r.Ok else false), (if r.Err = 0 then r.L else [])⟩, ⟨s⟩, h) := by
  unfold F_model_Model_answer
  rw [head_eq]
  by_cases c : r.Err = 0
  · rw [if_neg (by simpa using c), if_pos c, if_pos c]; rfl
  · rw [if_pos (by simpa using c), if_neg c, if_neg c]; rfl
theorem apply_congr {h : Ohist_Hist} (I : HI h) (ops ops' : List TOp) (hl : (hev h).length ≤ 1000000) (h1 : ops.length ≤ 1000000) (h2 : ops'.length ≤ 1000000) (e : effL h ops = effL h ops') : F_hist_Hist_Apply h ops = F_hist_Hist_Apply h ops' := by
  unfold F_hist_Hist_Apply
  have q1 := effL_eq I hl ops h1 ops 0 [] rfl (by simpa using h1)
  have q2 := effL_eq I hl ops' h2 ops' 0 [] rfl (by simpa using h2)
  rw [q1, q2, e]
/-- What a change is. -/
inductive Chg (n : Nat) (s : Int) (h : Ohist_Hist) (q : TReq) : Option (TResp × Omodel_Model × Ohist_Hist) → Prop where
  | over (m : List TKV) (b : Bool) (l : List TOp) (ha : F_hist_Hist_At n h h.bounds_rev all0 = some (m, 0, h)) (hm : IsAt (hev h) h.bounds_rev all0 m) (hp : F_txn_Plan n m q = some (b, planO m l)) (hl : l = (if b = true then q.Then else q.Else)) (h0 : planO m l ≠ []) (h1 : 1000 ≤ h.bounds_rev) : Chg n s h q (some (⟨heN, 9, false, []⟩, ⟨s⟩, h))
  | full (m : List TKV) (b : Bool) (l : List TOp) (ha : F_hist_Hist_At n h h.bounds_rev all0 = some (m, 0, h)) (hm : IsAt (hev h) h.bounds_rev all0 m) (hp : F_txn_Plan n m q = some (b, planO m l)) (hl : l = (if b = true then q.Then else q.Else)) (h0 : planO m l ≠ []) (h1 : h.bounds_rev < 1000) (h2 : 16 < h.bounds_rev + 1 - h.bounds_hor) : Chg n s h q (some (⟨heN, 3, false, []⟩, ⟨s⟩, h))
  | done (m : List TKV) (b : Bool) (l : List TOp) (ha : F_hist_Hist_At n h h.bounds_rev all0 = some (m, 0, h)) (hm : IsAt (hev h) h.bounds_rev all0 m) (hp : F_txn_Plan n m q = some (b, planO m l)) (hl : l = (if b = true then q.Then else q.Else)) (h0 : planO m l = [] ∨ (h.bounds_rev < 1000 ∧ h.bounds_rev + 1 - h.bounds_hor ≤ 16)) (h' : Ohist_Hist) (hA : F_hist_Hist_Apply h (planO m l) = some (effL h (planO m l), h')) (I : HI h') (L : Later h h' 4) (hr : h'.bounds_rev = (if effL h (planO m l) = [] then h.bounds_rev else h.bounds_rev + 1)) (hh : h'.bounds_hor = h.bounds_hor) (hs : effL h (planO m l) = [] → h' = h) (he : effL h (planO m l) = (planO m l).map (evO h)) : Chg n s h q (some (⟨heN, 0, b, []⟩, ⟨s⟩, h'))
theorem change_ok {n : Nat} (hn : 1000 < n) (s : Int) {h : Ohist_Hist} (I : HI h) (hl : (hev h).length ≤ 900) {q : TReq} (w : W_TReq q) (k1 : KdO q.Then) (l1 : q.Then.length ≤ 4) (k2 : KdO q.Else) (l2 : q.Else.length ≤ 4) : Chg n s h q (F_model_Model_change n ⟨s⟩ h q) := by
  obtain ⟨m, ha, hm⟩ := at_mid I (by omega) hn all0 (rev := h.bounds_rev) I.hor1 (Int.le_refl _)
  obtain ⟨ok, hp⟩ := plan_ok hm.so (by have := hm.le; omega) hn q (by omega) (by omega)
  generalize hle : (if ok = true then q.Then else q.Else) = l at hp
  have hkd : KdO l := by rw [← hle]; split <;> assumption
  have hl4 : l.length ≤ 4 := by rw [← hle]; split <;> assumption
  have hsz : ∀ o ∈ l, o.Key.size ≤ maxLen := by
    intro o ho
    rw [← hle] at ho
    split at ho
    · exact (w.2.2.2.2.1.1 o ho).1
    · exact (w.2.2.2.2.2.1 o ho).1
  have hpl : (planO m l).length ≤ 4 := Nat.le_trans (planO_sub m l).length_le hl4
  have hne := I.ne
  have hrv := I.rev
  have hh1 := I.hor1
  have hh0 := I.hor0
  have hfin : (planO m l = [] ∨ (h.bounds_rev < 1000 ∧ h.bounds_rev + 1 - h.bounds_hor ≤ 16)) → Chg n s h q ((F_hist_Hist_Apply h (planO m l)).bind fun x8 => some ((⟨(⟨0, 0, 0⟩ : THead), 0, ok, ([] : List TKV)⟩ : TResp), (⟨s⟩ : Omodel_Model), (⟨x8.2.bounds_rev, x8.2.bounds_hor, x8.2.keys, x8.2.rows⟩ : Ohist_Hist))) := by
    intro h0
    obtain ⟨h', a, I', c, d, e, f⟩ := apply_ok I (planO m l) (fun o ho => hsz o (planO_mem ho).1) (by omega)
    have hL : Later h h' 4 := by
      refine ⟨by rw [c]; exact Int.le_refl _, by rw [e]; split <;> omega, effL h (planO m l), d, Nat.le_trans (effL_le _) hpl, fun x hx => ?_⟩
      have := (effL_mem hx).1; omega
    have hg := Chg.done (n := n) (s := s) m ok l ha hm hp hle.symm h0 h' a I' hL e c f (effL_planO hm hkd)
    rw [a]
    exact hg
  unfold F_model_Model_change
  have ha2 := ha
  unfold all0 at ha2
  simp only [F_hist_Hist_Rev, F_hist_Hist_Hor, Option.bind_some, eta_h, ha2, hp]
  by_cases c0 : planO m l = []
  · rw [if_pos (by rw [c0]; rfl)]
    simp only [Option.bind_some, lpK, eta_h]
    exact hfin (.inl c0)
  · have c0' : ¬ (((planO m l).length : Int) == 0) = true := by
      intro e
      have e2 : ((planO m l).length : Int) = 0 := by simpa using e
      exact c0 (List.length_eq_zero_iff.mp (by omega))
    rw [if_neg c0']
    by_cases c1 : h.bounds_rev ≥ 1000
    · rw [if_pos (decide_eq_true c1)]
      exact Chg.over m ok l ha hm hp hle.symm c0 c1
    · rw [if_neg (by rw [decide_eq_true_iff]; exact c1)]
      rw [wrap_id (n := h.bounds_rev + 1) (by omega) (by omega), wrap_id (n := h.bounds_rev + 1 - h.bounds_hor) (by omega) (by omega)]
      by_cases c2 : h.bounds_rev + 1 - h.bounds_hor > 16
      · rw [if_pos (decide_eq_true c2)]
        exact Chg.full m ok l ha hm hp hle.symm c0 (by omega) c2
      · rw [if_neg (by rw [decide_eq_true_iff]; exact c2)]
        simp only [Option.bind_some, lpK, eta_h]
        exact hfin (.inr ⟨by omega, by omega⟩)
/-- What is read. -/
def revQ (h : Ohist_Hist) (q : TReq) : Int := if q.Rev = 0 then h.bounds_rev else q.Rev
theorem read_eq {n : Nat} {s : Int} {h : Ohist_Hist} {q : TReq} {m : List TKV} {e : Int} (ha : F_hist_Hist_At n h (revQ h q) q.R = some (m, e, h)) : F_model_Model_read n ⟨s⟩ h q = some (⟨heN, e, false, m⟩, ⟨s⟩, h) := by
  unfold F_model_Model_read
  have : (if (q.Rev == 0) = true then ((F_hist_Hist_Rev h).bind fun x6 => some (x6.1, x6.2.bounds_rev, x6.2.bounds_hor, x6.2.rows, x6.2.keys)) else (some (q.Rev, h.bounds_rev, h.bounds_hor, h.rows, h.keys)) : Option (Int × Int × Int × (List (List TEvent)) × (List (ByteArray × (List TEvent))))) = some (revQ h q, h.bounds_rev, h.bounds_hor, h.rows, h.keys) := by
    unfold revQ F_hist_Hist_Rev
    by_cases c : q.Rev = 0
    · rw [if_pos (by simpa using c), if_pos c]; rfl
    · rw [if_neg (by simpa using c), if_neg c]
  rw [this]
  simp only [Option.bind_some, eta_h]
  rw [ha]; rfl
theorem at_tot {n : Nat} (hn : 1000 < n) {h : Ohist_Hist} (I : HI h) (hl : (hev h).length ≤ 1000) (rev : Int) (r : TRange) :
    ∃ m e, F_hist_Hist_At n h rev r = some (m, e, h) ∧ ((rev < h.bounds_hor ∧ e = 5 ∧ m = []) ∨ (h.bounds_hor ≤ rev ∧ h.bounds_rev < rev ∧ e = 6 ∧ m = []) ∨ (h.bounds_hor ≤ rev ∧ rev ≤ h.bounds_rev ∧ e = 0 ∧ IsAt (hev h) rev r m)) := by
  by_cases c1 : rev < h.bounds_hor
  · exact ⟨[], 5, at_old r c1, .inl ⟨c1, rfl, rfl⟩⟩
  · by_cases c2 : h.bounds_rev < rev
    · exact ⟨[], 6, at_late r (by omega) c2, .inr (.inl ⟨by omega, c2, rfl, rfl⟩)⟩
    · obtain ⟨m, a, b⟩ := at_mid I hl hn r (rev := rev) (by omega) (by omega)
      exact ⟨m, 0, a, .inr (.inr ⟨by omega, by omega, rfl, b⟩)⟩
/-- A request answered: refused, read, compacted, changed. -/
theorem serve_bad {n : Nat} {s b : Int} {h : Ohist_Hist} {q : TReq} (hb : F_txn_May q = some b) (h1 : b ≠ 0) : F_model_Model_Serve n ⟨s⟩ h q = some (⟨heM s h, b, false, []⟩, ⟨s⟩, h) := by
  unfold F_model_Model_Serve
  rw [hb]
  simp only [Option.bind_some]
  rw [if_pos (by simpa using h1), answer_eq]
  simp only [Option.bind_some, eta_h]
  rw [if_neg h1, if_neg h1]
theorem serve_read {n : Nat} {s : Int} {h : Ohist_Hist} {q : TReq} (hb : F_txn_May q = some 0) (hk : q.Kind = 2) {m : List TKV} {e : Int} (ha : F_hist_Hist_At n h (revQ h q) q.R = some (m, e, h)) (he : e ≠ 0 → m = []) :
    F_model_Model_Serve n ⟨s⟩ h q = some (⟨heM s h, e, false, m⟩, ⟨s⟩, h) := by
  unfold F_model_Model_Serve
  rw [hb]
  simp only [Option.bind_some]
  rw [if_neg (by decide), if_pos (by simpa using hk), read_eq ha]
  simp only [Option.bind_some, eta_h]
  rw [answer_eq]
  simp only [Option.bind_some, eta_h]
  by_cases c : e = 0
  · rw [if_pos c, if_pos c]
  · rw [if_neg c, if_neg c, he c]
theorem serve_compact {n : Nat} {s : Int} {h h' : Ohist_Hist} {q : TReq} (hb : F_txn_May q = some 0) (hk : q.Kind = 3) (hs : IntKind.i64.wrap (s + 1) = s + 1) {e : Int} (ha : F_hist_Hist_Compact h q.Rev = some (e, h')) :
    F_model_Model_Serve n ⟨s⟩ h q = some (⟨heM (s + 1) h', e, false, []⟩, ⟨s + 1⟩, h') := by
  unfold F_model_Model_Serve
  rw [hb]
  simp only [Option.bind_some]
  rw [if_neg (by decide), if_neg (by rw [hk]; decide), if_pos (by simpa using hk), ha, hs]
  simp only [Option.bind_some, eta_h]
  rw [answer_eq]
  simp only [Option.bind_some, eta_h]
  split <;> rfl
theorem serve_change {n : Nat} {s : Int} {h h' : Ohist_Hist} {q : TReq} (hb : F_txn_May q = some 0) (h2 : q.Kind ≠ 2) (h3 : q.Kind ≠ 3) (hs : IntKind.i64.wrap (s + 1) = s + 1) {r : TResp} (hr : r.L = []) (ha : F_model_Model_change n ⟨s + 1⟩ h q = some (r, ⟨s + 1⟩, h')) :
    F_model_Model_Serve n ⟨s⟩ h q = some (⟨heM (s + 1) h', r.Err, (if r.Err = 0 then r.Ok else false), []⟩, ⟨s + 1⟩, h') := by
  unfold F_model_Model_Serve
  rw [hb]
  simp only [Option.bind_some]
  rw [if_neg (by decide), if_neg (by simpa using h2), if_neg (by simpa using h3), hs, ha]
  simp only [Option.bind_some, eta_h, eta_m]
  rw [answer_eq, hr]
  simp only [Option.bind_some, eta_h]
  split <;> rfl
structure MI (s : Int) (h : Ohist_Hist) : Prop where
  hi : HI h
  s0 : 0 ≤ s
  rg : h.bounds_rev ≤ h.bounds_hor + 16
theorem mi_new : MI 0 ⟨0, 0, [], []⟩ := ⟨hi_new, Int.le_refl _, by decide⟩
theorem serve_ok {n : Nat} (hn : 1000 < n) {s : Int} {h : Ohist_Hist} (M : MI s h) (hl : (hev h).length ≤ 900) (hs : s ≤ 1000000) {q : TReq} (w : W_TReq q) :
    ∃ b r s' h', F_txn_May q = some b ∧ F_model_Model_Serve n ⟨s⟩ h q = some (r, ⟨s'⟩, h') ∧ r.H = heM s' h' ∧ MI s' h' ∧ Later h h' 4 ∧ h'.bounds_rev ≤ h.bounds_rev + 1 ∧
      (s' = if b = 0 ∧ q.Kind ≠ 2 then s + 1 else s) ∧ (¬ (b = 0 ∧ q.Kind ≠ 2) → h' = h) ∧ (r.Err ≠ 0 → r.Ok = false ∧ r.L = [] ∧ h' = h) := by
  have I := M.hi
  have hh1 := I.hor1
  have hh0 := I.hor0
  have hrg := M.rg
  have hs0 := M.s0
  have hws : IntKind.i64.wrap (s + 1) = s + 1 := wrap_id (by omega) (by omega)
  obtain ⟨b, hb, hb2, hm⟩ := may_tot q w.2.1.2
  by_cases c0 : b = 0
  case neg =>
    exact ⟨b, _, s, h, hb, serve_bad hb c0, rfl, M, (Later.refl h).mono (by omega), by omega, by rw [if_neg (fun e => c0 e.1)], fun _ => rfl, fun _ => ⟨rfl, rfl, rfl⟩⟩
  subst c0
  rcases hm rfl with ⟨k, t1, t2, t3, t4⟩ | ⟨k, kr⟩ | ⟨k, kr⟩
  · have hc := change_ok hn (s + 1) I hl w t1 t2 t3 t4
    have hk2 : q.Kind ≠ 2 := by omega
    have hk3 : q.Kind ≠ 3 := by omega
    generalize hF : F_model_Model_change n ⟨s + 1⟩ h q = o at hc
    cases hc with
    | over m b l ha hm hp hle h0 h1 =>
      exact ⟨0, _, s + 1, h, hb, serve_change hb hk2 hk3 hws rfl hF, rfl, ⟨I, by omega, hrg⟩, (Later.refl h).mono (by omega), by omega, by rw [if_pos ⟨rfl, hk2⟩], fun e => absurd ⟨rfl, hk2⟩ e, fun _ => ⟨rfl, rfl, rfl⟩⟩
    | full m b l ha hm hp hle h0 h1 =>
      exact ⟨0, _, s + 1, h, hb, serve_change hb hk2 hk3 hws rfl hF, rfl, ⟨I, by omega, hrg⟩, (Later.refl h).mono (by omega), by omega, by rw [if_pos ⟨rfl, hk2⟩], fun e => absurd ⟨rfl, hk2⟩ e, fun _ => ⟨rfl, rfl, rfl⟩⟩
    | done m b l ha hm hp hle h0 h' hA I' L hr hh hs' he =>
      refine ⟨0, _, s + 1, h', hb, serve_change hb hk2 hk3 hws rfl hF, rfl, ⟨I', by omega, ?_⟩, L, by rw [hr]; split <;> omega, by rw [if_pos ⟨rfl, hk2⟩], fun e => absurd ⟨rfl, hk2⟩ e, fun e => absurd rfl e⟩
      rcases h0 with e | e
      · rw [hr, hh, he, e]; simpa using hrg
      · rw [hr, hh]; split <;> omega
  · obtain ⟨m, e, ha, hc⟩ := at_tot hn I (by omega) (revQ h q) q.R
    have hem : e ≠ 0 → m = [] := fun ne => by rcases hc with h | h | h; exact h.2.2; exact h.2.2.2; exact absurd h.2.2.1 ne
    exact ⟨0, _, s, h, hb, serve_read hb k ha hem, rfl, M, (Later.refl h).mono (by omega), by omega, by rw [if_neg (fun e => e.2 k)], fun _ => rfl, fun ne => ⟨rfl, hem ne, rfl⟩⟩
  · have hk2 : q.Kind ≠ 2 := by omega
    rcases compact_ok I q.Rev with ⟨c, a⟩ | ⟨c, d, a⟩ | ⟨c, d, a, I'⟩
    · omega
    · exact ⟨0, _, s + 1, h, hb, serve_compact hb k hws a, rfl, ⟨I, by omega, hrg⟩, (Later.refl h).mono (by omega), by omega, by rw [if_pos ⟨rfl, hk2⟩], fun e => absurd ⟨rfl, hk2⟩ e, fun _ => ⟨rfl, rfl, rfl⟩⟩
    · refine ⟨0, _, s + 1, _, hb, serve_compact hb k hws a, rfl, ⟨I', by omega, ?_⟩, ⟨?_, Int.le_refl _, [], by simp [hev], by simp, fun e he => absurd he List.not_mem_nil⟩, ?_, by rw [if_pos ⟨rfl, hk2⟩], fun e => absurd ⟨rfl, hk2⟩ e, fun e => absurd rfl e⟩
      · show h.bounds_rev ≤ (if q.Rev > h.bounds_hor then q.Rev else h.bounds_hor) + 16; split <;> omega
      · show h.bounds_hor ≤ (if q.Rev > h.bounds_hor then q.Rev else h.bounds_hor); split <;> omega
      · show h.bounds_rev ≤ h.bounds_rev + 1; omega
/-! ### Requests, few -/
theorem few8L : ∀ (l : List TReq) (i : Nat), ∃ x, F_law08_few_L1 l i = some x
  | [], i => ⟨_, rfl⟩
  | z :: l, i => by
    rw [F_law08_few_L1]
    split
    · have h1 : ∃ p : Bool × Bool, (if (decide ((z.Cmps.length : Int) > 8)) = true then (some (true, true)) else (some (false, (decide ((z.Then.length : Int) > 8)))) : Option (Bool × Bool)) = some p := by split <;> exact ⟨_, rfl⟩
      obtain ⟨p, hp⟩ := h1
      rw [hp]
      simp only [Option.bind_some]
      have h2 : ∃ p' : Bool × Bool, (if p.2 = true then (some (true, true)) else (some (false, (decide ((z.Else.length : Int) > 8)))) : Option (Bool × Bool)) = some p' := by split <;> exact ⟨_, rfl⟩
      obtain ⟨p', hp'⟩ := h2
      rw [hp']
      simp only [Option.bind_some]
      split
      · exact ⟨_, rfl⟩
      · exact few8L l (i + 1)
    · exact ⟨_, rfl⟩
theorem few8 (l : List TReq) : F_law08_few l = some false ∨ (F_law08_few l = some true ∧ l.length ≤ 60) := by
  unfold F_law08_few
  have hx : ∀ (l : List TReq) (i : Nat), F_law08_few_L1 l i = some (.out false) ∨ F_law08_few_L1 l i = some (.go ()) := by
    intro l
    induction l with
    | nil => intro i; exact .inr rfl
    | cons z l ih =>
      intro i
      rw [F_law08_few_L1]
      split
      · have h1 : ∃ p : Bool × Bool, (if (decide ((z.Cmps.length : Int) > 8)) = true then (some (true, true)) else (some (false, (decide ((z.Then.length : Int) > 8)))) : Option (Bool × Bool)) = some p := by split <;> exact ⟨_, rfl⟩
        obtain ⟨p, hp⟩ := h1
        rw [hp]
        simp only [Option.bind_some]
        have h2 : ∃ p' : Bool × Bool, (if p.2 = true then (some (true, true)) else (some (false, (decide ((z.Else.length : Int) > 8)))) : Option (Bool × Bool)) = some p' := by split <;> exact ⟨_, rfl⟩
        obtain ⟨p', hp'⟩ := h2
        rw [hp']
        simp only [Option.bind_some]
        split
        · exact .inl rfl
        · exact ih (i + 1)
      · exact .inr rfl
  rcases hx l 0 with e | e
  · rw [e]; exact .inl rfl
  · rw [e]
    simp only [Option.bind_some, lpK]
    by_cases h : l.length ≤ 60
    · exact .inr ⟨by rw [decide_eq_true (by omega)], h⟩
    · exact .inl (by rw [decide_eq_false (by omega)])
theorem ran8L {n : Nat} (hn : 1000 < n) : ∀ (l : List TReq) (i : Nat) (s : Int) (h : Ohist_Hist), (∀ q ∈ l, W_TReq q) → MI s h → (hev h).length + 4 * l.length ≤ 900 → s + l.length ≤ 900000 →
    ∃ (s' : Int) (h' : Ohist_Hist), F_law08_ran_L1 n l i s h.bounds_rev h.bounds_hor h.rows h.keys = some (s', h'.bounds_rev, h'.bounds_hor, h'.rows, h'.keys) ∧ MI s' h' ∧ (hev h').length ≤ (hev h).length + 4 * l.length ∧ s' ≤ s + l.length
  | [], i, s, h, _, M, _, _ => ⟨s, h, rfl, M, by simp, by simp⟩
  | q :: l, i, s, h, w, M, hl, hs => by
    rw [List.length_cons] at hl hs
    obtain ⟨b, r, s1, h1, _, e, _, M1, L1, _, hs1, _, _⟩ := serve_ok hn M (by omega) (by omega) (w q List.mem_cons_self)
    have hlen := L1.len
    have hs2 : s1 ≤ s + 1 := by rw [hs1]; split <;> omega
    obtain ⟨s', h', e', M', l', t'⟩ := ran8L hn l (i + 1) s1 h1 (fun y hy => w y (List.mem_cons_of_mem _ hy)) M1 (by omega) (by omega)
    refine ⟨s', h', ?_, M', by rw [List.length_cons]; omega, by rw [List.length_cons]; omega⟩
    rw [F_law08_ran_L1, eta_h, e]
    exact e'
theorem ran8 {n : Nat} (hn : 1000 < n) {l : List TReq} (w : ∀ q ∈ l, W_TReq q) (hl : l.length ≤ 60) : ∃ (s : Int) (h : Ohist_Hist), F_law08_ran n l = some (⟨s⟩, h) ∧ MI s h ∧ (hev h).length ≤ 240 ∧ s ≤ 60 := by
  have h0 : (hev ⟨0, 0, [], []⟩).length = 0 := rfl
  obtain ⟨s, h, e, M, a, b⟩ := ran8L hn l 0 0 ⟨0, 0, [], []⟩ w mi_new (by omega) (by omega)
  refine ⟨s, h, ?_, M, by omega, by omega⟩
  unfold F_law08_ran F_model_New F_hist_New
  simp only [Option.bind_some]
  have e' : F_law08_ran_L1 n l 0 0 0 0 [] [] = some (s, h.bounds_rev, h.bounds_hor, h.rows, h.keys) := e
  rw [e']; rfl
end Go.Proofs.Ytpfdandpmpmbiaa.V
