/- The plain law of CursorOnce.
   No condition: this is a law of plain functions. -/
import Derived.Test.YtfgoccdjbgecfaaCr
import Derived.Test.YtfgoccdjbgecfaaFd
namespace Go.Proofs.Ytfgoccdjbgecfaa.V
open Go
set_option linter.unusedVariables false
set_option linter.unusedSimpArgs false

theorem onceA : ∀ (l : List Timpostlaw10_Deed) (i : Nat) (h : Ohist_Hist), (∀ d ∈ l, W_Timpostlaw10_Deed d) → (∀ d ∈ l, d.Ops.length ≤ 8) → HR h → (hev h).length + 8 * l.length ≤ 900 →
    ∃ h' : Ohist_Hist, F_law10_CursorOnce_L2 l i h.bounds_rev h.bounds_hor h.rows h.keys = some (h'.bounds_rev, h'.bounds_hor, h'.rows, h'.keys) ∧ HR h' ∧ Later h h' (8 * l.length) ∧ h'.bounds_hor = h.bounds_hor ∧ h'.bounds_rev ≤ h.bounds_rev + l.length
  | [], i, h, _, _, R, _ => ⟨h, rfl, R, Later.refl h, rfl, by simp⟩
  | d :: l, i, h, w, o, R, hl => by
    rw [List.length_cons] at hl
    have hd := o d List.mem_cons_self
    obtain ⟨h1, a, R1, L1, e1, _, e3⟩ := hr_apply R d.Ops (fun x hx => ((w d List.mem_cons_self).2.1.1 x hx).1) (by omega)
    have hlen := L1.len
    have hrev : h1.bounds_rev ≤ h.bounds_rev + 1 := by
      rw [R1.hi.rev, R.hi.rev, e3]
      split
      · omega
      · rw [List.length_append, List.length_singleton]; omega
    rw [F_law10_CursorOnce_L2, eta_h, a]
    simp only [Option.bind_some]
    obtain ⟨h', e, R', L', f', g'⟩ := onceA l (i + 1) h1 (fun y hy => w y (List.mem_cons_of_mem _ hy)) (fun y hy => o y (List.mem_cons_of_mem _ hy)) R1 (by omega)
    exact ⟨h', e, R', (L1.trans L').mono (by rw [List.length_cons]; omega), by rw [f', e1], by rw [List.length_cons]; omega⟩
theorem onceL : ∀ (l : List (List TEvent)) (i : Nat) (acc : List TEvent), acc.length + l.flatten.length ≤ 1000000 → F_law10_CursorOnce_L1 l i acc = some (acc ++ l.flatten)
  | [], i, acc, _ => by simp [F_law10_CursorOnce_L1]
  | z :: l, i, acc, h => by
    rw [List.flatten_cons, List.length_append] at h
    rw [F_law10_CursorOnce_L1, appL_ok (by omega) (by omega) (by omega)]
    simp only [Option.bind_some]
    rw [onceL l (i + 1) _ (by rw [List.length_append]; omega), List.flatten_cons, List.append_assoc]
theorem plain_CursorOnce (p0 : List Timpostlaw10_Deed) (p1 : TRange) (p2 : Int) (w0 : (∀ a ∈ p0, W_Timpostlaw10_Deed a) ∧ p0.length ≤ maxLen) (w1 : W_TRange p1) (w2 : okI .u8 p2) : ∃ n, F_law10_CursorOnce n p0 p1 p2 = some true := by
  refine ⟨3000, ?_⟩
  unfold F_law10_CursorOnce
  rcases few10 p0 with f | ⟨f, hl, ho⟩
  · rw [f]; rfl
  rw [f]
  simp only [Option.bind_some, Bool.not_true, Bool.false_eq_true, if_false]
  have h0 : (hev ⟨0, 0, [], []⟩).length = 0 := rfl
  obtain ⟨m, hop, hm⟩ := open_ok (n := 3000) (by omega) hi_new (by rw [h0]; omega) p1
  obtain ⟨h, e, R, L, hh, hrv⟩ := onceA p0 0 ⟨0, 0, [], []⟩ w0.1 ho hr_new (by omega)
  have hmn : m = [] := by
    have := hm.le
    rw [h0] at this
    exact List.length_eq_zero_iff.mp (by omega)
  subst hmn
  unfold F_hist_New
  simp only [Option.bind_some]
  rw [hop]
  have e' : F_law10_CursorOnce_L2 p0 0 0 0 [] [] = some (h.bounds_rev, h.bounds_hor, h.rows, h.keys) := e
  simp only [Option.bind_some]
  rw [e']
  simp only [Option.bind_some, eta_h]
  have I := R.hi
  have hlen := L.len
  have hhz : h.bounds_hor = 0 := hh
  have hr0 := I.hor1
  have hz : (0 : Int) + 1 = 1 := rfl
  rw [hz]
  have hb : badC ⟨p1, 1, false, false⟩ h.bounds_rev h.bounds_hor = 0 := by
    unfold badC
    dsimp only
    rw [if_neg (by simp), if_neg (by omega), if_neg (by omega)]
  have hb2 : badC ⟨p1, 1, true, false⟩ h.bounds_rev h.bounds_hor = 0 := hb
  generalize IntKind.i64.wrap (Int.tmod p2 33) = k
  obtain ⟨pa, ha, hPa⟩ := poll_ok (n := 3000) (by omega) (c := ⟨p1, 1, false, false⟩) I (by omega) (by dsimp only; omega) (by dsimp only; omega) k
  obtain ⟨pb, hb', hPb⟩ := poll_ok (n := 3000) (by omega) (c := ⟨p1, 1, true, false⟩) I (by omega) (by dsimp only; omega) (by dsimp only; omega) k
  have hrr : rowsC ⟨p1, 1, true, false⟩ h k = rowsC ⟨p1, 1, false, false⟩ h k := rfl
  rw [ha]
  simp only [Option.bind_some, eta_h]
  rw [hb']
  simp only [Option.bind_some, eta_h]
  have hsub := flat_sub (rowsC_sub ⟨p1, 1, false, false⟩ h k)
  have hfl := flat_le (r := p1) (rowsC ⟨p1, 1, false, false⟩ h k)
  have hsl := hsub.length_le
  cases hPa with
  | bad q => exact absurd hb q
  | ok q last l1 l2 l3 l4 =>
    cases hPb with
    | bad q => exact absurd hb2 q
    | ok q' last' k1 k2 k3 k4 =>
      rw [hrr] at k1 k3 k4
      have hll : last' = last := by
        dsimp only at k1 l1
        rw [l1] at k1
        exact (Option.some.inj k1).symm
      subst hll
      dsimp only at l1 l3 l4 k4 ⊢
      unfold toldR
      dsimp only
      rw [hrr]
      simp only [Bool.false_eq_true, if_false, if_true]
      have hal : ((rowsC ⟨p1, 1, false, false⟩ h k).map (fltR p1)).flatten.length ≤ 1000 := by unfold hev at hlen; rw [show ([] : List (List TEvent)).flatten.length = 0 from rfl] at hlen; omega
      rw [onceL _ 0 [] (by rw [flat_gat, List.length_nil]; omega), flat_gat]
      simp only [Option.bind_some, List.nil_append]
      have hone : (if (decide (((gat [last']).length : Int) > 0)) = true then ((getI (gat [last']) 0).bind fun x29 => some x29) else (some ([] : List TEvent))) = some last' := by
        cases last' with
        | nil => rfl
        | cons a l =>
          have : gat [a :: l] = [a :: l] := by unfold gat; rw [List.filter_cons, if_pos (by rw [decide_eq_true_iff, List.length_cons]; omega)]; rfl
          rw [this]; rfl
      have hle1 : decide (((gat [last']).length : Int) ≤ 1) = true := by
        rw [decide_eq_true_iff]
        have : (gat [last']).length ≤ [last'].length := List.length_filter_le _ _
        rw [List.length_singleton] at this; omega
      rw [hone, hle1]
      simp only [Option.bind_some, beq_self_eq_true, cond_true, if_true]
      rw [rlast_eq (n := 3000) hal (by omega) l2 l3]
      simp only [Option.bind_some, sameE, if_true]
      rw [rfold_eq _ List.Pairwise.nil (by rw [List.length_nil]; omega) (by omega), rfold_eq _ List.Pairwise.nil (by rw [List.length_nil]; omega) (by omega)]
      simp only [Option.bind_some]
      have hsame : last'.foldl stepM [] = (((rowsC ⟨p1, 1, false, false⟩ h k).map (fltR p1)).flatten).foldl stepM [] := so_ext (foldM_so _ _ List.Pairwise.nil) (foldM_so _ _ List.Pairwise.nil) (fun t => by rw [foldM_mem, foldM_mem, lastFor_last l2 l3])
      rw [hsame, sameK]; rfl
end Go.Proofs.Ytfgoccdjbgecfaa.V
