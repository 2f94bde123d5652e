/- The plain law of FrontModel.
   No condition: this is a law of plain functions. -/
import Derived.Test.YtpfdandpmpmbiaaHt
import Derived.Test.YtpfdandpmpmbiaaFj
namespace Go.Proofs.Ytpfdandpmpmbiaa.V
open Go
set_option linter.unusedVariables false
set_option linter.unusedSimpArgs false

theorem eqH_self2 (x : THead) : eq_THead x x = true := by unfold eq_THead; simp
theorem same_self (x : TResp) : F_ref08_Same x x = some true := by
  unfold F_ref08_Same
  simp only [eqH_self2, beq_self_eq_true, cond_true, if_true, sameK, Option.bind_some]
theorem frowsL (h : Ohist_Hist) : ∀ (l : List TOp) (i : Nat) (acc : List TEvent), acc.length + l.length ≤ 1000000 → F_front_rows_L1 (h.bounds_rev + 1) l i acc = some (acc ++ l.map (evO h))
  | [], i, acc, _ => by simp [F_front_rows_L1]
  | o :: l, i, acc, hc => by
    rw [List.length_cons] at hc
    rw [F_front_rows_L1]
    have hs : (if o.Del = true then some ByteArray.empty else some o.Val) = some (if o.Del = true then ByteArray.empty else o.Val) := by split <;> rfl
    rw [hs]
    simp only [Option.bind_some]
    rw [appL_ok (by simp; omega) (by omega) (by omega)]
    simp only [Option.bind_some]
    rw [frowsL h l (i + 1) _ (by simp; omega)]
    simp [evO]
theorem frows_eq (h : Ohist_Hist) (l : List TOp) (hl : l.length ≤ 1000000) : F_front_rows (h.bounds_rev + 1) l = some (l.map (evO h)) := by
  unfold F_front_rows; rw [frowsL h l 0 [] (by simpa using hl)]; rfl
def opE (e : TEvent) : TOp := ⟨e.Key, e.Val, e.Del⟩
theorem fopsL : ∀ (l : List TEvent) (i : Nat) (acc : List TOp), acc.length + l.length ≤ 1000000 → F_law13_ops_L1 l i acc = some (acc ++ l.map opE)
  | [], i, acc, _ => by simp [F_law13_ops_L1]
  | e :: l, i, acc, hc => by
    rw [List.length_cons] at hc
    rw [F_law13_ops_L1, appL_ok (by simp; omega) (by omega) (by omega)]
    simp only [Option.bind_some]
    rw [fopsL l (i + 1) _ (by simp; omega)]
    simp [opE]
theorem fops_eq (l : List TEvent) (hl : l.length ≤ 1000000) : F_law13_ops l = some (l.map opE) := by
  unfold F_law13_ops; rw [fopsL l 0 [] (by simpa using hl)]; rfl
theorem effL_ops (h : Ohist_Hist) : ∀ l : List TOp, effL h ((l.map (evO h)).map opE) = effL h l
  | [] => rfl
  | o :: l => by
    rw [List.map_cons, List.map_cons, effL, effL, effL_ops h l]
    congr 1
    unfold effE
    have h1 : ((l.map (evO h)).map opE).any (fun p => eqB p.Key (opE (evO h o)).Key) = l.any (fun p => eqB p.Key o.Key) := by
      rw [List.any_map, List.any_map]; rfl
    have h2 : (opE (evO h o)).Key = o.Key := rfl
    have h3 : (opE (evO h o)).Del = o.Del := rfl
    have h4 : (if o.Del = true then ByteArray.empty else (opE (evO h o)).Val) = (if o.Del = true then ByteArray.empty else o.Val) := by
      show (if o.Del = true then ByteArray.empty else (if o.Del = true then ByteArray.empty else o.Val)) = _
      split <;> rfl
    rw [h1, h2, h3, h4]
theorem apply_nil {h : Ohist_Hist} (I : HI h) (hl : (hev h).length ≤ 1000) : F_hist_Hist_Apply h [] = some ([], h) := by
  obtain ⟨h', a, _, _, _, _, f⟩ := apply_ok I [] (fun o ho => absurd ho List.not_mem_nil) (by simp; omega)
  have := f rfl
  subst this
  exact a
/-- How it stands behind a plan. -/
theorem step_eq (s : Int) (h : Ohist_Hist) (p : Tfront_Plan) (h1 : IntKind.i64.wrap (s + 1) = s + 1) (h2 : IntKind.i64.wrap (h.bounds_rev + 1) = h.bounds_rev + 1) :
    F_front_Step (heM s h) p = some ⟨s + 1, (if p.Rows = [] then h.bounds_rev else h.bounds_rev + 1), (if p.Hor > h.bounds_hor then p.Hor else h.bounds_hor)⟩ := by
  unfold F_front_Step heM
  dsimp only
  rw [h1, h2]
  cases hr : p.Rows with
  | nil => rfl
  | cons a l =>
    rw [if_pos (decide_eq_true (by rw [List.length_cons]; omega)), if_neg (List.cons_ne_nil a l)]; rfl
theorem frontL {n : Nat} (hn : 1000 < n) : ∀ (l : List TReq) (i : Nat) (s : Int) (h : Ohist_Hist), (∀ q ∈ l, W_TReq q) → MI s h → (hev h).length + 4 * l.length ≤ 900 → s + l.length ≤ 900000 →
    ∃ g, F_law13_FrontModel_L1 n l i s h.bounds_rev h.bounds_hor h.bounds_rev h.bounds_hor h.rows h.keys s h.bounds_rev h.bounds_hor h.rows h.keys = some (.go g)
  | [], i, s, h, _, M, _, _ => ⟨_, rfl⟩
  | q :: l, i, s, h, w, M, hl, hs => by
    rw [List.length_cons] at hl hs
    have I := M.hi
    have hh1 := I.hor1
    have hh0 := I.hor0
    have hrg := M.rg
    have hs0 := M.s0
    have hne := I.ne
    have hrv := I.rev
    have hws : IntKind.i64.wrap (s + 1) = s + 1 := wrap_id (by omega) (by omega)
    have hwr : IntKind.i64.wrap (h.bounds_rev + 1) = h.bounds_rev + 1 := wrap_id (by omega) (by omega)
    have hw := w q List.mem_cons_self
    obtain ⟨b, hb, hb2, hm⟩ := may_tot q hw.2.1.2
    have ih := fun s h M a b => frontL hn l (i + 1) s h (fun y hy => w y (List.mem_cons_of_mem _ hy)) M a b
    obtain ⟨f, hf⟩ : ∃ f, F_law13_few q = some f := ⟨_, rfl⟩
    rw [F_law13_FrontModel_L1, hf]
    simp only [Option.bind_some, hb]
    cases f with
    | false =>
      simp only [Bool.not_false, if_true, Option.bind_some, lpK2]
      exact ih s h M (by omega) (by omega)
    | true =>
      simp only [Bool.not_true, Bool.false_eq_true, if_false, Option.bind_some]
      by_cases c0 : b = 0
      case neg =>
        have e0 : (b != 0) = true := by simpa using c0
        simp only [e0, if_true, Option.bind_some, lpK2]
        exact ih s h M (by omega) (by omega)
      subst c0
      have e0 : ((0 : Int) != 0) = false := rfl
      simp only [e0, Bool.false_eq_true, if_false, eta_h]
      have hAt : ∃ m, F_hist_Hist_At n h h.bounds_rev all0 = some (m, 0, h) ∧ IsAt (hev h) h.bounds_rev all0 m := at_mid I (by omega) hn all0 (rev := h.bounds_rev) hh1 (Int.le_refl _)
      rcases hm rfl with ⟨k, t1, t2, t3, t4⟩ | ⟨k, kr⟩ | ⟨k, kr⟩
      · -- a transaction
        have hk2 : q.Kind ≠ 2 := by omega
        have hk3 : q.Kind ≠ 3 := by omega
        have k1b : (q.Kind == 1) = true := by simpa using k
        have k2b : (q.Kind == 2) = false := by simpa using hk2
        have k3b : (q.Kind == 3) = false := by simpa using hk3
        have hc := change_ok hn (s + 1) I (by omega) hw t1 t2 t3 t4
        generalize hF : F_model_Model_change n ⟨s + 1⟩ h q = o at hc
        -- what is decided, of its plan
        have hdec : ∀ (m : List TKV) (ok : Bool) (ops : List TOp), F_txn_Plan n m q = some (ok, ops) → ops.length ≤ 1000 → F_front_Decide n q m (heM s h) = some (if ops = [] then ⟨ok, [], 0, 0⟩ else if 1000 ≤ h.bounds_rev then ⟨false, [], 9, 0⟩ else if 16 < h.bounds_rev + 1 - h.bounds_hor then ⟨false, [], 3, 0⟩ else ⟨ok, ops.map (evO h), 0, 0⟩) := by
          intro m ok ops hp hol
          unfold F_front_Decide
          rw [if_neg (by rw [k3b]; simp), if_pos k1b, hp]
          simp only [Option.bind_some]
          have hR : (heM s h).Rev = h.bounds_rev := rfl
          have hH : (heM s h).Hor = h.bounds_hor := rfl
          rw [hR, hH, hwr, wrap_id (n := h.bounds_rev + 1 - h.bounds_hor) (by omega) (by omega)]
          by_cases z : ops = []
          · subst z
            rw [if_pos (by rfl), if_pos rfl]
            simp only [Option.bind_some, lpK]
            rw [frows_eq h [] (by simp)]; rfl
          · rw [if_neg (by
                intro e
                have e2 : (ops.length : Int) = 0 := by simpa using e
                exact z (List.length_eq_zero_iff.mp (by omega))), if_neg z]
            by_cases c1 : h.bounds_rev ≥ 1000
            · rw [if_pos (decide_eq_true c1), if_pos c1]; rfl
            · rw [if_neg (by rw [decide_eq_true_iff]; exact c1), if_neg c1]
              by_cases c2 : h.bounds_rev + 1 - h.bounds_hor > 16
              · rw [if_pos (decide_eq_true c2), if_pos c2]; rfl
              · rw [if_neg (by rw [decide_eq_true_iff]; exact c2), if_neg c2]
                simp only [Option.bind_some, lpK]
                rw [frows_eq h ops (by omega)]; rfl
        have hpl : ∀ (m : List TKV) (b : Bool) (l' : List TOp), l' = (if b = true then q.Then else q.Else) → (planO m l').length ≤ 4 := fun m b l' hle => Nat.le_trans (planO_sub m l').length_le (by rw [hle]; split <;> assumption)
        have hhead : (⟨s, h.bounds_rev, h.bounds_hor⟩ : THead) = heM s h := rfl
        have hz : ¬ (0 > h.bounds_hor) := by omega
        have hstep0 : ∀ (ok : Bool) (e : Int), F_front_Step (heM s h) ⟨ok, [], e, 0⟩ = some (heM (s + 1) h) := by
          intro ok e
          rw [step_eq s h _ hws hwr]
          dsimp only
          rw [if_pos rfl, if_neg hz]; rfl
        have hop0 : F_law13_ops [] = some [] := fops_eq [] (by simp)
        have hap0 := apply_nil I (by omega)
        have hM0 : MI (s + 1) h := ⟨I, by omega, hrg⟩
        have hbad : ∀ (ok : Bool) (e : Int) (r : TResp), F_model_Model_Serve n ⟨s⟩ h q = some (r, ⟨s + 1⟩, h) → r = ⟨heM (s + 1) h, e, (bif ok then (e == 0) else false), []⟩ → ∀ (m : List TKV), F_hist_Hist_At n h h.bounds_rev all0 = some (m, 0, h) → F_front_Decide n q m (heM s h) = some ⟨ok, [], e, 0⟩ → ∃ g, F_law13_FrontModel_L1 n (q :: l) i s h.bounds_rev h.bounds_hor h.bounds_rev h.bounds_hor h.rows h.keys s h.bounds_rev h.bounds_hor h.rows h.keys = some (.go g) := by
          intro ok e r hS hr m ha hd
          unfold all0 at ha
          rw [F_law13_FrontModel_L1, hf]
          simp only [Option.bind_some, hb, Bool.not_true, Bool.false_eq_true, if_false, e0, eta_h, hS, k2b, F_hist_Hist_Rev, ha, hhead, hd, hstep0, hop0, hap0, k3b]
          have hc : (bif (e == 0) then false else false) = false := by cases (e == 0) <;> rfl
          simp only [hc, Bool.false_eq_true, if_false, Option.bind_some, F_front_Answer, ← hr, same_self, Bool.not_true, head_eq, eqH_self2]
          simp only [lpK2]
          exact ih (s + 1) h hM0 (by omega) (by omega)
        cases hc with
        | over m b l' ha hmm hp hle h0 h1 =>
          have hd := hdec m b (planO m l') hp (by have := hpl m b l' hle; omega)
          rw [if_neg h0, if_pos h1] at hd
          have := hbad false 9 _ (serve_change hb hk2 hk3 hws rfl hF) rfl m ha hd
          rw [F_law13_FrontModel_L1, hf] at this
          simpa only [Option.bind_some, hb, Bool.not_true, Bool.false_eq_true, if_false, e0, eta_h] using this
        | full m b l' ha hmm hp hle h0 h1 h2 =>
          have hd := hdec m b (planO m l') hp (by have := hpl m b l' hle; omega)
          rw [if_neg h0, if_neg (by omega), if_pos h2] at hd
          have := hbad false 3 _ (serve_change hb hk2 hk3 hws rfl hF) rfl m ha hd
          rw [F_law13_FrontModel_L1, hf] at this
          simpa only [Option.bind_some, hb, Bool.not_true, Bool.false_eq_true, if_false, e0, eta_h] using this
        | done m b l' ha hmm hp hle h0 h' hA I' L hr hh hs' he =>
          have hd := hdec m b (planO m l') hp (by have := hpl m b l' hle; omega)
          have hS := serve_change hb hk2 hk3 hws rfl hF
          have hrr : (⟨heM (s + 1) h', (0 : Int), (if (0 : Int) = 0 then b else false), []⟩ : TResp) = ⟨heM (s + 1) h', 0, (bif b then ((0 : Int) == 0) else false), []⟩ := by cases b <;> rfl
          by_cases z : planO m l' = []
          · rw [if_pos z] at hd
            have hsame := hs' (by rw [he, z]; rfl)
            subst hsame
            have := hbad b 0 _ hS hrr m ha hd
            rw [F_law13_FrontModel_L1, hf] at this
            simpa only [Option.bind_some, hb, Bool.not_true, Bool.false_eq_true, if_false, e0, eta_h] using this
          · rw [if_neg z] at hd
            have h0' := h0.resolve_left z
            rw [if_neg (by omega), if_neg (by omega)] at hd
            have hzm : (planO m l').map (evO h) ≠ [] := fun e => z (List.map_eq_nil_iff.mp e)
            have hst : F_front_Step (heM s h) ⟨b, (planO m l').map (evO h), 0, 0⟩ = some (heM (s + 1) h') := by
              rw [step_eq s h _ hws hwr]
              dsimp only
              rw [if_neg hzm, if_neg hz]
              unfold heM
              rw [hr, he, if_neg hzm, hh]
            have hlen4 := hpl m b l' hle
            have hop := fops_eq ((planO m l').map (evO h)) (by rw [List.length_map]; omega)
            have hap : F_hist_Hist_Apply h (((planO m l').map (evO h)).map opE) = some (effL h (planO m l'), h') := by
              rw [apply_congr I _ (planO m l') (by omega) (by rw [List.length_map, List.length_map]; omega) (by omega) (effL_ops h _)]; exact hA
            have hlen := L.len
            unfold all0 at ha
            rw [hrr] at hS
            simp only [Option.bind_some, hS, k2b, Bool.false_eq_true, if_false, F_hist_Hist_Rev, eta_h, ha, hhead, hd, hst, hop, hap, k3b]
            have hc : (bif ((0 : Int) == 0) then false else false) = false := rfl
            simp only [hc, Bool.false_eq_true, if_false, Option.bind_some, F_front_Answer, same_self, Bool.not_true, head_eq, eqH_self2]
            simp only [lpK2]
            refine ih (s + 1) h' ⟨I', by omega, ?_⟩ (by omega) (by omega)
            rw [hr, hh]; split <;> omega
      · -- a range
        have k2b : (q.Kind == 2) = true := by simpa using k
        obtain ⟨m, e, ha, hc⟩ := at_tot hn I (by omega) (revQ h q) q.R
        have hem : e ≠ 0 → m = [] := fun ne => by rcases hc with h | h | h; exact h.2.2; exact h.2.2.2; exact absurd h.2.2.1 ne
        have hS := serve_read (s := s) hb k ha hem
        have hfa : F_front_At q ⟨s, h.bounds_rev, h.bounds_hor⟩ = some ((if e = 0 then revQ h q else 0), e) := by
          unfold F_front_At
          have : (if (q.Rev == 0) = true then some h.bounds_rev else some q.Rev) = some (revQ h q) := by
            unfold revQ
            by_cases c : q.Rev = 0
            · rw [if_pos (by simpa using c), if_pos c]
            · rw [if_neg (by simpa using c), if_neg c]
          dsimp only
          rw [this]
          simp only [Option.bind_some]
          rcases hc with ⟨c1, c2, _⟩ | ⟨c1, c2, c3, _⟩ | ⟨c1, c2, c3, _⟩
          · rw [if_pos (decide_eq_true c1), c2]; rfl
          · rw [if_neg (by rw [decide_eq_true_iff]; omega), if_pos (decide_eq_true c2), c3]; rfl
          · rw [if_neg (by rw [decide_eq_true_iff]; omega), if_neg (by rw [decide_eq_true_iff]; omega), c3]; rfl
        obtain ⟨m2, e2, ha2, _⟩ := at_tot hn I (by omega) (if e = 0 then revQ h q else 0) q.R
        have hkv : (if (e != 0) = true then (some ([] : List TKV)) else (some m2)) = some m := by
          by_cases c : e = 0
          · rw [if_neg (by rw [c]; decide)]
            rw [if_pos c, ha] at ha2
            cases ha2; rfl
          · rw [if_pos (by simpa using c), hem c]
        have hrd : F_front_Read q m ⟨s, h.bounds_rev, h.bounds_hor⟩ = some ⟨heM s h, e, false, m⟩ := by
          unfold F_front_Read
          rw [hfa]
          simp only [Option.bind_some]
          by_cases c : e = 0
          · rw [if_neg (by rw [c]; decide), c]; rfl
          · rw [if_pos (by simpa using c), hem c]; rfl
        simp only [Option.bind_some, hS, k2b, if_true, hfa, ha2, hkv, hrd, same_self, Bool.not_true, Bool.false_eq_true, if_false, lpK2]
        exact ih s h M (by omega) (by omega)
      · -- a compaction
        have hk2 : q.Kind ≠ 2 := by omega
        have k2b : (q.Kind == 2) = false := by simpa using hk2
        have k3b : (q.Kind == 3) = true := by simpa using k
        obtain ⟨m, ha, hmm⟩ := hAt
        unfold all0 at ha
        have hhead : (⟨s, h.bounds_rev, h.bounds_hor⟩ : THead) = heM s h := rfl
        have hop0 : F_law13_ops [] = some [] := fops_eq [] (by simp)
        have hap0 := apply_nil I (by omega)
        rcases compact_ok I q.Rev with ⟨c, a⟩ | ⟨c, d, a⟩ | ⟨c, d, a, I'⟩
        · omega
        · have hS := serve_compact (n := n) hb k hws a
          have hd : F_front_Decide n q m (heM s h) = some ⟨false, [], 6, 0⟩ := by
            unfold F_front_Decide
            rw [if_pos k3b, if_pos (decide_eq_true (by show q.Rev > h.bounds_rev; omega))]
          have hst : F_front_Step (heM s h) ⟨false, [], 6, 0⟩ = some (heM (s + 1) h) := by
            rw [step_eq s h _ hws hwr]
            dsimp only
            rw [if_pos rfl, if_neg (by omega)]; rfl
          simp only [Option.bind_some, hS, k2b, Bool.false_eq_true, if_false, F_hist_Hist_Rev, eta_h, ha, hhead, hd, hst, hop0, hap0, k3b]
          have hc : (bif ((6 : Int) == 0) then true else false) = false := rfl
          have ho : (bif false then ((6 : Int) == 0) else false) = false := rfl
          simp only [hc, ho, Bool.false_eq_true, if_false, Option.bind_some, F_front_Answer, same_self, Bool.not_true, head_eq, eqH_self2]
          simp only [lpK2]
          exact ih (s + 1) h ⟨I, by omega, hrg⟩ (by omega) (by omega)
        · have hS := serve_compact (n := n) hb k hws a
          have hd : F_front_Decide n q m (heM s h) = some ⟨false, [], 0, q.Rev⟩ := by
            unfold F_front_Decide
            rw [if_pos k3b, if_neg (by rw [decide_eq_true_iff]; show ¬ q.Rev > h.bounds_rev; omega)]
          have hst : F_front_Step (heM s h) ⟨false, [], 0, q.Rev⟩ = some (heM (s + 1) ⟨h.bounds_rev, (if q.Rev > h.bounds_hor then q.Rev else h.bounds_hor), h.keys, h.rows⟩) := by
            rw [step_eq s h _ hws hwr]
            dsimp only
            rw [if_pos rfl]; rfl
          simp only [Option.bind_some, hS, k2b, Bool.false_eq_true, if_false, F_hist_Hist_Rev, eta_h, ha, hhead, hd, hst, hop0, hap0, k3b]
          have hc : (bif ((0 : Int) == 0) then true else false) = true := rfl
          have ho : (bif false then ((0 : Int) == 0) else false) = false := rfl
          simp only [hc, ho, if_true, a, Bool.false_eq_true, if_false, Option.bind_some, F_front_Answer, same_self, Bool.not_true, head_eq, eqH_self2]
          simp only [lpK2]
          have hev' : hev ⟨h.bounds_rev, (if q.Rev > h.bounds_hor then q.Rev else h.bounds_hor), h.keys, h.rows⟩ = hev h := rfl
          refine ih (s + 1) ⟨h.bounds_rev, (if q.Rev > h.bounds_hor then q.Rev else h.bounds_hor), h.keys, h.rows⟩ ⟨I', by omega, ?_⟩ (by rw [hev']; omega) (by omega)
          show h.bounds_rev ≤ (if q.Rev > h.bounds_hor then q.Rev else h.bounds_hor) + 16
          split <;> omega
theorem plain_FrontModel (p0 : List TReq) (w0 : (∀ a ∈ p0, W_TReq a) ∧ p0.length ≤ maxLen) : ∃ n, F_law13_FrontModel n p0 = some true := by
  refine ⟨2000, ?_⟩
  unfold F_law13_FrontModel F_model_New F_hist_New
  by_cases hl : p0.length > 40
  · rw [if_pos (decide_eq_true (by omega))]
  · rw [if_neg (by rw [decide_eq_true_iff]; omega)]
    simp only [Option.bind_some]
    have h0 : (hev ⟨0, 0, [], []⟩).length = 0 := rfl
    obtain ⟨g, hg⟩ := frontL (n := 2000) (by omega) p0 0 0 ⟨0, 0, [], []⟩ w0.1 mi_new (by omega) (by omega)
    have hg' : F_law13_FrontModel_L1 2000 p0 0 0 0 0 0 0 [] [] 0 0 0 [] [] = some (.go g) := hg
    rw [hg']; rfl
end Go.Proofs.Ytpfdandpmpmbiaa.V
