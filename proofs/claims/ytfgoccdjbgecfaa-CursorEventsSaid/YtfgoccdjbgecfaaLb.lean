/- The plain law of CursorEvents.
   No condition: this is a law of plain functions. -/
import Derived.Test.YtfgoccdjbgecfaaCr
import Derived.Test.YtfgoccdjbgecfaaFc
namespace Go.Proofs.Ytfgoccdjbgecfaa.V
open Go
set_option linter.unusedVariables false
set_option linter.unusedSimpArgs false

theorem evsA : ∀ (l : List Timpostlaw10_Deed) (i : Nat) (h : Ohist_Hist), (∀ d ∈ l, W_Timpostlaw10_Deed d) → (∀ d ∈ l, d.Ops.length ≤ 8) → HR h → (hev h).length + 8 * l.length ≤ 900 →
    ∃ h' : Ohist_Hist, F_law10_CursorEvents_L4 l i h.bounds_rev h.bounds_hor h.rows h.keys = some (h'.bounds_rev, h'.bounds_hor, h'.rows, h'.keys) ∧ HR h' ∧ Later h h' (8 * l.length) ∧ h'.bounds_hor = h.bounds_hor ∧ h'.bounds_rev ≤ h.bounds_rev + l.length
  | [], i, h, _, _, R, _ => ⟨h, rfl, R, Later.refl h, rfl, by simp⟩
  | d :: l, i, h, w, o, R, hl => by
    rw [List.length_cons] at hl
    have hd := o d List.mem_cons_self
    obtain ⟨h1, a, R1, L1, e1, _, e3⟩ := hr_apply R d.Ops (fun x hx => ((w d List.mem_cons_self).2.1.1 x hx).1) (by omega)
    have hlen := L1.len
    have hrev : h1.bounds_rev ≤ h.bounds_rev + 1 := by
      rw [R1.hi.rev, R.hi.rev, e3]
      split
      · omega
      · rw [List.length_append, List.length_singleton]; omega
    rw [F_law10_CursorEvents_L4, eta_h, a]
    simp only [Option.bind_some]
    obtain ⟨h', e, R', L', f', g'⟩ := evsA l (i + 1) h1 (fun y hy => w y (List.mem_cons_of_mem _ hy)) (fun y hy => o y (List.mem_cons_of_mem _ hy)) R1 (by omega)
    exact ⟨h', e, R', (L1.trans L').mono (by rw [List.length_cons]; omega), by rw [f', e1], by rw [List.length_cons]; omega⟩
theorem evsB : ∀ (l : List Timpostlaw10_Deed) (i : Nat) (h : Ohist_Hist), (∀ d ∈ l, W_Timpostlaw10_Deed d) → (∀ d ∈ l, d.Ops.length ≤ 8) → HR h → (hev h).length + 8 * l.length ≤ 900 →
    ∃ h' : Ohist_Hist, F_law10_CursorEvents_L5 l i h.bounds_rev h.bounds_hor h.rows h.keys = some (h'.bounds_rev, h'.bounds_hor, h'.rows, h'.keys) ∧ HR h' ∧ Later h h' (8 * l.length) ∧ h'.bounds_hor = h.bounds_hor ∧ h'.bounds_rev ≤ h.bounds_rev + l.length
  | [], i, h, _, _, R, _ => ⟨h, rfl, R, Later.refl h, rfl, by simp⟩
  | d :: l, i, h, w, o, R, hl => by
    rw [List.length_cons] at hl
    have hd := o d List.mem_cons_self
    obtain ⟨h1, a, R1, L1, e1, _, e3⟩ := hr_apply R d.Ops (fun x hx => ((w d List.mem_cons_self).2.1.1 x hx).1) (by omega)
    have hlen := L1.len
    have hrev : h1.bounds_rev ≤ h.bounds_rev + 1 := by
      rw [R1.hi.rev, R.hi.rev, e3]
      split
      · omega
      · rw [List.length_append, List.length_singleton]; omega
    rw [F_law10_CursorEvents_L5, eta_h, a]
    simp only [Option.bind_some]
    obtain ⟨h', e, R', L', f', g'⟩ := evsB l (i + 1) h1 (fun y hy => w y (List.mem_cons_of_mem _ hy)) (fun y hy => o y (List.mem_cons_of_mem _ hy)) R1 (by omega)
    exact ⟨h', e, R', (L1.trans L').mono (by rw [List.length_cons]; omega), by rw [f', e1], by rw [List.length_cons]; omega⟩
theorem evs2L : ∀ (l : List (List TEvent)) (i : Nat) (acc : List TEvent), acc.length + l.flatten.length ≤ 1000000 → ∃ x, F_law10_CursorEvents_L2 l i acc = some (acc ++ l.flatten, x)
  | [], i, acc, _ => ⟨_, by rw [F_law10_CursorEvents_L2, List.flatten_nil, List.append_nil]⟩
  | z :: l, i, acc, h => by
    rw [List.flatten_cons, List.length_append] at h
    rw [F_law10_CursorEvents_L2, appL_ok (by omega) (by omega) (by omega)]
    simp only [Option.bind_some]
    obtain ⟨x, hx⟩ := evs2L l (i + 1) (acc ++ z) (by rw [List.length_append]; omega)
    exact ⟨x, by rw [hx, List.flatten_cons, List.append_assoc]⟩
theorem wantL {h : Ohist_Hist} (R : HR h) (hl : (hev h).length ≤ 1000) (hz : h.bounds_hor = 0) (r : TRange) : ∀ (f i : Nat) (acc : List TEvent), i ≤ h.rows.length → h.rows.length - i < f → acc.length + (h.rows.drop i).flatten.length ≤ 1000000 →
    F_law10_CursorEvents_L3 r f acc ((i : Int) + 1) h.bounds_rev h.bounds_hor h.rows h.keys = some (acc ++ ((h.rows.drop i).map (fltR r)).flatten, h.bounds_rev, h.bounds_hor, h.rows, h.keys) := by
  have hne := R.hi.ne
  have hrv := R.hi.rev
  intro f
  induction f with
  | zero => intro i acc _ q _; omega
  | succ f ih =>
    intro i acc h1 h2 h3
    rw [F_law10_CursorEvents_L3]
    rw [if_pos (decide_eq_true (by omega))]
    unfold F_hist_Hist_Rev
    simp only [Option.bind_some, eta_h]
    rcases Nat.lt_or_ge i h.rows.length with q | q
    · rw [if_pos (decide_eq_true (by omega)), events_ok R.hi (by omega) (List.getElem?_eq_getElem q) (by omega)]
      simp only [Option.bind_some, eta_h]
      have hd := List.drop_eq_getElem_cons q
      rw [hd, List.flatten_cons, List.length_append] at h3
      have hfl : (fltR r h.rows[i]).length ≤ h.rows[i].length := List.length_filter_le _ _
      rw [rfilE r _ (by omega)]
      simp only [Option.bind_some]
      rw [show (h.rows[i]).filter (fun x => inR r x.Key) = fltR r h.rows[i] from rfl, appL_ok (by omega) (by omega) (by omega)]
      simp only [Option.bind_some]
      have hw : IntKind.i64.wrap ((i : Int) + 1 + 1) = ((i + 1 : Nat) : Int) + 1 := by rw [wrap_id (by omega) (by omega)]; omega
      rw [hw, ih (i + 1) _ q (by omega) (by rw [List.length_append]; omega), hd]
      simp only [List.map_cons, List.flatten_cons, List.append_assoc]
    · rw [if_neg (by rw [decide_eq_true_iff]; omega), List.drop_of_length_le q]; simp
theorem gotL {n : Nat} (hn : 2000 < n) {h : Ohist_Hist} (R : HR h) (hl : (hev h).length ≤ 1000) (hz : h.bounds_hor = 0) (r : TRange) (p2 : Int) (hk : 1 ≤ IntKind.i64.wrap (1 + IntKind.i64.wrap (Int.tmod p2 4))) : ∀ (f j a : Nat) (acc : List TEvent), j ≤ 31 → 31 - j < f → a ≤ h.rows.length → h.rows.length - a ≤ 31 - j → acc.length + (h.rows.drop a).flatten.length ≤ 1000000 →
    F_law10_CursorEvents_L1 n p2 f acc (j : Int) r.From r.To ((a : Int) + 1) false false h.bounds_rev h.bounds_hor h.rows h.keys = some (acc ++ ((h.rows.drop a).map (fltR r)).flatten, r.From, r.To, h.bounds_rev + 1, false, false, h.bounds_rev, h.bounds_hor, h.rows, h.keys) := by
  have I := R.hi
  have hne := I.ne
  have hrv := I.rev
  intro f
  induction f with
  | zero => intro j a acc _ q; omega
  | succ f ih =>
    intro j a acc h1 h2 h3 h4 h5
    rw [F_law10_CursorEvents_L1]
    rcases Nat.lt_or_ge j 31 with q | q
    · rw [if_pos (decide_eq_true (by omega))]
      rw [show (⟨r.From, r.To⟩ : TRange) = r from rfl, eta_h]
      have hb : badC ⟨r, (a : Int) + 1, false, false⟩ h.bounds_rev h.bounds_hor = 0 := by
        unfold badC
        dsimp only
        rw [if_neg (by simp), if_neg (by omega), if_neg (by omega)]
      generalize IntKind.i64.wrap (1 + IntKind.i64.wrap (Int.tmod p2 4)) = k at hk
      obtain ⟨p, ha, hP⟩ := poll_ok (n := n) hn (c := ⟨r, (a : Int) + 1, false, false⟩) I hl (by dsimp only; omega) (by dsimp only; omega) k
      rw [ha]
      simp only [Option.bind_some]
      cases hP with
      | bad w => exact absurd hb w
      | ok w last l1 l2 l3 l4 =>
        dsimp only
        have hrows : rowsC ⟨r, (a : Int) + 1, false, false⟩ h k = (h.rows.drop a).take (winC ⟨r, (a : Int) + 1, false, false⟩ h k) := by
          unfold rowsC
          rw [if_pos hb]
          dsimp only
          rw [show ((a : Int) + 1 - 1).toNat = a by omega]
        have hwin : winC ⟨r, (a : Int) + 1, false, false⟩ h k = min k.toNat (h.rows.length - a) := by
          unfold winC
          dsimp only
          split <;> omega
        generalize hw : winC ⟨r, (a : Int) + 1, false, false⟩ h k = wd at hrows hwin
        have hlenr : (rowsC ⟨r, (a : Int) + 1, false, false⟩ h k).length = wd := by rw [hrows, List.length_take, List.length_drop]; omega
        unfold toldR
        dsimp only
        simp only [Bool.false_eq_true, if_false]
        have hsp : (h.rows.drop a).flatten = ((h.rows.drop a).take wd).flatten ++ (h.rows.drop (a + wd)).flatten := by
          rw [← List.flatten_append, ← List.drop_drop, List.take_append_drop]
        have hfl := flat_le (r := r) ((h.rows.drop a).take wd)
        rw [hsp, List.length_append] at h5
        rw [hrows]
        obtain ⟨x, hx⟩ := evs2L (gat (((h.rows.drop a).take wd).map (fltR r))) 0 acc (by rw [flat_gat]; omega)
        rw [hx, flat_gat]
        simp only [Option.bind_some]
        rw [← hrows, hlenr]
        have hw1 : IntKind.i64.wrap ((j : Int) + 1) = ((j + 1 : Nat) : Int) := by rw [wrap_id (by omega) (by omega)]; omega
        have hw2 : (a : Int) + 1 + (wd : Int) = ((a + wd : Nat) : Int) + 1 := by omega
        rw [hw1, hw2, hrows]
        rw [ih (j + 1) (a + wd) _ q (by omega) (by omega) (by omega) (by rw [List.length_append]; omega)]
        rw [List.append_assoc, ← List.flatten_append, ← List.map_append, ← List.drop_drop, List.take_append_drop]
    · rw [if_neg (by rw [decide_eq_true_iff]; omega)]
      have : a = h.rows.length := by omega
      rw [this, List.drop_length]
      simp
      omega
theorem plain_CursorEvents (p0 : A2_ListTimpostlaw10_Deed) (p1 : TRange) (p2 : Int) (w0 : W_A2_ListTimpostlaw10_Deed p0) (w1 : W_TRange p1) (w2 : okI .u8 p2) : ∃ n, F_law10_CursorEvents n p0 p1 p2 = some true := by
  refine ⟨3000, ?_⟩
  unfold F_law10_CursorEvents
  rcases few10 p0.x0 with f0 | ⟨f0, l0, o0⟩
  · rw [f0]; rfl
  rcases few10 p0.x1 with f1 | ⟨f1, l1, o1⟩
  · rw [f0, f1]; rfl
  rw [f0, f1]
  simp only [Option.bind_some, Bool.not_true, Bool.false_eq_true, if_false]
  have h0 : (hev ⟨0, 0, [], []⟩).length = 0 := rfl
  obtain ⟨h, e, R, L, hh, hrv⟩ := evsB p0.x0 0 ⟨0, 0, [], []⟩ w0.1.1 o0 hr_new (by omega)
  have hlen := L.len
  obtain ⟨m, hop, hm⟩ := open_ok (n := 3000) (by omega) R.hi (by omega) p1
  obtain ⟨h', e2, R', L', hh', hrv'⟩ := evsA p0.x1 0 h w0.2.1 o1 R (by omega)
  have hlen' := L'.len
  have hz : h'.bounds_hor = 0 := by rw [hh']; exact hh
  unfold F_hist_New
  simp only [Option.bind_some]
  have e' : F_law10_CursorEvents_L5 p0.x0 0 0 0 [] [] = some (h.bounds_rev, h.bounds_hor, h.rows, h.keys) := e
  rw [e']
  simp only [Option.bind_some, eta_h]
  rw [hop]
  simp only [Option.bind_some]
  rw [e2]
  simp only [Option.bind_some]
  have a1 := R.hi.rev
  have a2 := R'.hi.rev
  have a3 := R'.hi.ne
  have a4 := L'.rev
  obtain ⟨b0, b1⟩ := okI_u8 w2
  have m0 := Int.tmod_nonneg 4 b0
  have m1 := Int.tmod_lt_of_pos p2 (b := 4) (by omega)
  have hk : 1 ≤ IntKind.i64.wrap (1 + IntKind.i64.wrap (Int.tmod p2 4)) := by
    rw [wrap_id (n := Int.tmod p2 4) (by omega) (by omega), wrap_id (n := 1 + Int.tmod p2 4) (by omega) (by omega)]; omega
  have hsd : (h'.rows.drop h.rows.length).flatten.length ≤ 1000 := by
    have := (flat_sub (List.drop_sublist h.rows.length h'.rows)).length_le
    unfold hev at hlen' hlen
    rw [show ([] : List (List TEvent)).flatten.length = 0 from rfl] at hlen
    omega
  rw [a1]
  have hwant := wantL R' (by omega) hz p1 3000 h.rows.length [] (by omega) (by omega) (by rw [List.length_nil]; omega)
  rw [hwant]
  simp only [Option.bind_some, List.nil_append]
  have hgot := gotL (n := 3000) (by omega) R' (by omega) hz p1 p2 hk 3000 0 h.rows.length [] (by omega) (by omega) (by omega) (by omega) (by rw [List.length_nil]; omega)
  rw [show ((0 : Nat) : Int) = 0 from rfl] at hgot
  rw [hgot]
  simp only [Option.bind_some, List.nil_append]
  rw [if_pos (by rfl), sameE]
  unfold F_hist_Hist_Rev
  simp only [Option.bind_some, if_true]
  rw [wrap_id (by omega) (by omega)]
  simp
end Go.Proofs.Ytfgoccdjbgecfaa.V
