/- The plain law of CursorFolds.
   No condition: this is a law of plain functions. -/
import Derived.Test.YtfgoccdjbgecfaaCr
import Derived.Test.YtfgoccdjbgecfaaFe
namespace Go.Proofs.Ytfgoccdjbgecfaa.V
open Go
set_option linter.unusedVariables false
set_option linter.unusedSimpArgs false

theorem foldA : ∀ (l : List Timpostlaw10_Deed) (i : Nat) (h : Ohist_Hist), (∀ d ∈ l, W_Timpostlaw10_Deed d) → (∀ d ∈ l, d.Ops.length ≤ 8) → HR h → (hev h).length + 8 * l.length ≤ 900 →
    ∃ h' : Ohist_Hist, F_law10_CursorFolds_L3 l i h.bounds_rev h.bounds_hor h.rows h.keys = some (h'.bounds_rev, h'.bounds_hor, h'.rows, h'.keys) ∧ HR h' ∧ Later h h' (8 * l.length) ∧ h'.bounds_hor = h.bounds_hor ∧ h'.bounds_rev ≤ h.bounds_rev + l.length
  | [], i, h, _, _, R, _ => ⟨h, rfl, R, Later.refl h, rfl, by simp⟩
  | d :: l, i, h, w, o, R, hl => by
    rw [List.length_cons] at hl
    have hd := o d List.mem_cons_self
    obtain ⟨h1, a, R1, L1, e1, _, e3⟩ := hr_apply R d.Ops (fun x hx => ((w d List.mem_cons_self).2.1.1 x hx).1) (by omega)
    have hlen := L1.len
    have hrev : h1.bounds_rev ≤ h.bounds_rev + 1 := by
      rw [R1.hi.rev, R.hi.rev, e3]
      split
      · omega
      · rw [List.length_append, List.length_singleton]; omega
    rw [F_law10_CursorFolds_L3, eta_h, a]
    simp only [Option.bind_some]
    obtain ⟨h', e, R', L', f', g'⟩ := foldA l (i + 1) h1 (fun y hy => w y (List.mem_cons_of_mem _ hy)) (fun y hy => o y (List.mem_cons_of_mem _ hy)) R1 (by omega)
    exact ⟨h', e, R', (L1.trans L').mono (by rw [List.length_cons]; omega), by rw [f', e1], by rw [List.length_cons]; omega⟩
/-- Rows of rising revisions. -/
def Asc : Int → List (List TEvent) → Prop
  | _, [] => True
  | last, z :: l => ∃ x, z[0]? = some x ∧ last < x.Rev ∧ Asc x.Rev l
theorem asc_gat (r : TRange) : ∀ (L : List (List TEvent)) (base last : Int), (∀ (i : Nat) (row : List TEvent), L[i]? = some row → ∀ e ∈ row, e.Rev = base + i + 1) → last ≤ base → Asc last (gat (L.map (fltR r)))
  | [], _, _, _, _ => trivial
  | z :: L, base, last, h, hl => by
    have ih := fun lst q => asc_gat r L (base + 1) lst (fun i row hi e he => by have := h (i + 1) row (by rw [List.getElem?_cons_succ]; exact hi) e he; omega) q
    unfold gat
    rw [List.map_cons, List.filter_cons]
    cases w : fltR r z with
    | nil => rw [if_neg (by simp)]; exact ih last (by omega)
    | cons x l =>
      rw [if_pos (by rw [decide_eq_true_iff, List.length_cons]; omega)]
      have hx : x ∈ z := by
        have : x ∈ fltR r z := by rw [w]; exact List.mem_cons_self
        exact (List.mem_filter.mp this).1
      have hr := h 0 z rfl x hx
      exact ⟨x, rfl, by omega, ih x.Rev (by omega)⟩
theorem fold2L {n : Nat} (hn : 1000 < n) (p2 : Timpostref10_Cursor) : ∀ (l : List (List TEvent)) (i : Nat) (m : List TKV) (last : Int), So m → m.length + l.flatten.length ≤ 1000 → ((p2.Once = true ∧ ∀ z ∈ l, z ≠ []) ∨ Asc last l) →
    ∃ la y y', F_law10_CursorFolds_L2 n p2 l i m last = some (.go (l.flatten.foldl stepM m, la, y, y'))
  | [], i, m, last, _, _, _ => ⟨last, _, _, rfl⟩
  | z :: l, i, m, last, hs, hl, hc => by
    rw [List.flatten_cons, List.length_append] at hl
    have hfl := foldM_len z m hs
    have ih := fun la h => fold2L hn p2 l (i + 1) (z.foldl stepM m) la (foldM_so _ _ hs) (by omega) h
    rw [F_law10_CursorFolds_L2]
    have hz : ∃ x t, z = x :: t ∧ (p2.Once = true ∨ last < x.Rev) ∧ ((p2.Once = true ∧ ∀ z ∈ l, z ≠ []) ∨ Asc x.Rev l) := by
      rcases hc with ⟨h1, h2⟩ | ⟨x, h1, h2, h3⟩
      · cases z with
        | nil => exact absurd rfl (h2 [] List.mem_cons_self)
        | cons x t => exact ⟨x, t, rfl, .inl h1, .inl ⟨h1, fun y hy => h2 y (List.mem_cons_of_mem _ hy)⟩⟩
      · cases z with
        | nil => simp at h1
        | cons y t => simp at h1; subst h1; exact ⟨y, t, rfl, .inr h2, .inr h3⟩
    obtain ⟨x, t, rfl, h1, h2⟩ := hz
    rw [if_neg (by rw [beq_iff_eq, List.length_cons]; omega)]
    have hg : getI (x :: t) 0 = some x := rfl
    rw [hg]
    have hcond : (if (!p2.Once) = true then ((some x).bind fun x61 => some (true, (decide (x61.Rev ≤ last)))) else (some (false, false)) : Option (Bool × Bool)) = some (!p2.Once, false) := by
      cases ho : p2.Once with
      | true => rfl
      | false =>
        have : last < x.Rev := h1.resolve_left (by rw [ho]; simp)
        simp only [Bool.not_false, if_true, Option.bind_some]
        rw [decide_eq_false (by omega)]
    rw [hcond]
    simp only [Option.bind_some, Bool.false_eq_true, if_false]
    rw [rfold_eq _ hs (by omega) hn]
    simp only [Option.bind_some]
    obtain ⟨la, y, y', e⟩ := ih x.Rev h2
    exact ⟨la, y, y', by rw [e, List.flatten_cons, List.foldl_append]⟩
theorem foldsL {n : Nat} (hn : 2000 < n) (p2 : Timpostref10_Cursor) : ∀ (l : List Timpostlaw10_Deed) (i : Nat) (m : List TKV) (a : Nat) (h : Ohist_Hist), (∀ d ∈ l, W_Timpostlaw10_Deed d) → (∀ d ∈ l, d.Ops.length ≤ 8) → HR h → (a : Int) ≤ h.bounds_rev → IsAt (hev h) a p2.R m → (hev h).length + 8 * l.length ≤ 490 →
    ∃ x, F_law10_CursorFolds_L1 n p2 l i m a h.bounds_rev h.bounds_hor h.rows h.keys p2.R.From p2.R.To ((a : Int) + 1) p2.Once false = some x ∧ (x = .out true ∨ ∃ g, x = .go g)
  | [], i, m, a, h, _, _, _, _, _, _ => ⟨_, rfl, .inr ⟨_, rfl⟩⟩
  | d :: l, i, m, a, h, w, o, R, ha, hm, hl => by
    rw [List.length_cons] at hl
    have hd := o d List.mem_cons_self
    have I := R.hi
    have hne := I.ne
    have hrv := I.rev
    have hh0 := I.hor0
    have ih := fun m a h' => foldsL hn p2 l (i + 1) m a h' (fun y hy => w y (List.mem_cons_of_mem _ hy)) (fun y hy => o y (List.mem_cons_of_mem _ hy))
    rw [F_law10_CursorFolds_L1]
    by_cases k1 : d.Kind = 1
    · rw [if_pos (by simpa using k1)]
      obtain ⟨h1, e, R1, L1, _⟩ := hr_apply R d.Ops (fun x hx => ((w d List.mem_cons_self).2.1.1 x hx).1) (by omega)
      have hlen := L1.len
      have := L1.rev
      rw [eta_h, e]
      simp only [Option.bind_some, lpK2]
      exact ih m a h1 R1 (by omega) (hm.later L1 ha) (by omega)
    · rw [if_neg (by simpa using k1)]
      by_cases k2 : d.Kind = 2
      · rw [if_pos (by simpa using k2)]
        obtain ⟨b, h1, e, R1, L1, e2, e3, e4⟩ := hr_compact R d.Rev
        rw [eta_h, e]
        simp only [Option.bind_some, F_cursor_Token, F_cursor_Resume, lpK2]
        exact ih m a h1 R1 (by omega) (by rw [e2]; exact hm) (by rw [e2]; omega)
      · rw [if_neg (by simpa using k2)]
        rw [show (⟨p2.R.From, p2.R.To⟩ : TRange) = p2.R from rfl, eta_h]
        obtain ⟨p, hp, hP⟩ := poll_ok (n := n) hn (c := ⟨p2.R, (a : Int) + 1, p2.Once, false⟩) I (by omega) (by dsimp only; omega) (by dsimp only; omega) d.Rev
        rw [hp]
        simp only [Option.bind_some]
        cases hP with
        | bad q =>
          have hb5 : badC ⟨p2.R, (a : Int) + 1, p2.Once, false⟩ h.bounds_rev h.bounds_hor = 5 ∧ (a : Int) + 1 ≤ h.bounds_hor := by
            unfold badC at q ⊢
            dsimp only at q ⊢
            rw [if_neg (by simp)] at q ⊢
            by_cases c : (a : Int) + 1 ≤ h.bounds_hor
            · rw [if_pos c]; exact ⟨rfl, c⟩
            · rw [if_neg c, if_neg (by omega)] at q; exact absurd rfl q
          rw [if_pos hb5.1]
          dsimp only
          rw [if_pos (by decide), if_pos (by decide)]
          unfold F_hist_Hist_Hor
          simp only [Option.bind_some, beq_self_eq_true, if_true, decide_eq_true (show (a : Int) < h.bounds_hor by omega), lpK2]
          exact ⟨_, rfl, .inl rfl⟩
        | ok q last l1 l2 l3 l4 =>
          dsimp only
          rw [if_neg (by decide)]
          have hhor : h.bounds_hor ≤ a := by
            unfold badC at q
            dsimp only at q
            rw [if_neg (by simp)] at q
            by_cases c : (a : Int) + 1 ≤ h.bounds_hor
            · rw [if_pos c] at q; cases q
            · omega
          have hrows : rowsC ⟨p2.R, (a : Int) + 1, p2.Once, false⟩ h d.Rev = (h.rows.drop a).take (winC ⟨p2.R, (a : Int) + 1, p2.Once, false⟩ h d.Rev) := by
            unfold rowsC
            rw [if_pos q]
            dsimp only
            rw [show ((a : Int) + 1 - 1).toNat = a by omega]
          have hwin : winC ⟨p2.R, (a : Int) + 1, p2.Once, false⟩ h d.Rev ≤ h.rows.length - a := by
            unfold winC
            dsimp only
            split <;> omega
          generalize winC ⟨p2.R, (a : Int) + 1, p2.Once, false⟩ h d.Rev = wd at hrows hwin
          rw [hrows] at l1 l3 l4 ⊢
          dsimp only at l1 l3 l4
          have hlenr : ((h.rows.drop a).take wd).length = wd := by rw [List.length_take, List.length_drop]; omega
          rw [hlenr]
          have hsub := (flat_sub ((List.take_sublist wd (h.rows.drop a)).trans (List.drop_sublist a h.rows))).length_le
          have hfl := flat_le (r := p2.R) ((h.rows.drop a).take wd)
          have hml := hm.le
          have hflh : h.rows.flatten.length = (hev h).length := rfl
          -- the rows that are told
          have hL2 : ∃ la y y', F_law10_CursorFolds_L2 n p2 (toldR ⟨p2.R, (a : Int) + 1, p2.Once, false⟩ ((h.rows.drop a).take wd) last) 0 m a = some (.go ((((h.rows.drop a).take wd).map (fltR p2.R)).flatten.foldl stepM m, la, y, y')) := by
            unfold toldR
            dsimp only
            cases ho : p2.Once with
            | true =>
              rw [if_pos rfl]
              obtain ⟨la, y, y', e⟩ := fold2L (n := n) (by omega) p2 (gat [last]) 0 m a hm.so (by rw [flat_gat]; simp; omega) (.inl ⟨ho, fun z hz => by
                unfold gat at hz
                rw [List.mem_filter] at hz
                intro e
                rw [e] at hz
                simp at hz⟩)
              refine ⟨la, y, y', ?_⟩
              rw [e, flat_gat]
              have : [last].flatten = last := by simp
              rw [this]
              have hsame : last.foldl stepM m = (((h.rows.drop a).take wd).map (fltR p2.R)).flatten.foldl stepM m := so_ext (foldM_so _ _ hm.so) (foldM_so _ _ hm.so) (fun t => by rw [foldM_mem, foldM_mem, lastFor_last l2 l3])
              rw [hsame]
            | false =>
              rw [if_neg (by simp)]
              obtain ⟨la, y, y', e⟩ := fold2L (n := n) (by omega) p2 (gat (((h.rows.drop a).take wd).map (fltR p2.R))) 0 m a hm.so (by rw [flat_gat]; omega) (.inr (asc_gat p2.R _ a a (fun i row hi e he => by
                rw [List.getElem?_take] at hi
                split at hi
                · rw [List.getElem?_drop] at hi
                  have := (R.rr _ row hi).2 e he
                  omega
                · cases hi) (Int.le_refl _)))
              exact ⟨la, y, y', by rw [e, flat_gat]⟩
          obtain ⟨la, y, y', e2⟩ := hL2
          rw [e2]
          simp only [Option.bind_some, lpK2, eta_h]
          have hup : (a : Int) + 1 + (wd : Int) - 1 = (a : Int) + wd := by omega
          rw [hup]
          obtain ⟨m', ha', hm'⟩ := at_mid I (by omega) (n := n) (by omega) p2.R (rev := (a : Int) + wd) (by omega) (by omega)
          rw [fold_at R hm hm', ha']
          simp only [Option.bind_some, eta_h]
          rw [decide_eq_false (show ¬ (a : Int) + wd < a by omega)]
          simp only [Bool.false_eq_true, if_false, F_hist_Hist_Rev, Option.bind_some]
          rw [decide_eq_false (show ¬ (a : Int) + wd > h.bounds_rev by omega)]
          have hne0 : ((0 : Int) != 0) = false := rfl
          simp only [Bool.false_eq_true, if_false, hne0, sameK, Option.bind_some, Bool.not_true]
          have hnx : (a : Int) + 1 + (wd : Int) = ((a + wd : Nat) : Int) + 1 := by omega
          rw [hnx, show (a : Int) + (wd : Int) = ((a + wd : Nat) : Int) by omega]
          have hm2 : IsAt (hev h) ((a + wd : Nat) : Int) p2.R m' := by rw [show ((a + wd : Nat) : Int) = (a : Int) + wd by omega]; exact hm'
          exact ih m' (a + wd) h R (by omega) hm2 (by omega)
theorem plain_CursorFolds (p0 p1 : List Timpostlaw10_Deed) (p2 : Timpostref10_Cursor) (w0 : (∀ a ∈ p0, W_Timpostlaw10_Deed a) ∧ p0.length ≤ maxLen) (w1 : (∀ a ∈ p1, W_Timpostlaw10_Deed a) ∧ p1.length ≤ maxLen) (w2 : W_Timpostref10_Cursor p2) : ∃ n, F_law10_CursorFolds n p0 p1 p2 = some true := by
  refine ⟨3000, ?_⟩
  unfold F_law10_CursorFolds
  rcases few10 p0 with f0 | ⟨f0, l0, o0⟩
  · rw [f0]; rfl
  rcases few10 p1 with f1 | ⟨f1, l1, o1⟩
  · rw [f0, f1]; rfl
  rw [f0, f1]
  simp only [Option.bind_some, Bool.not_true, Bool.false_eq_true, if_false]
  have h0 : (hev ⟨0, 0, [], []⟩).length = 0 := rfl
  obtain ⟨h, e, R, L, hh, hrv⟩ := foldA p0 0 ⟨0, 0, [], []⟩ w0.1 o0 hr_new (by omega)
  have hlen := L.len
  obtain ⟨m, hop, hm⟩ := open_ok (n := 3000) (by omega) R.hi (by omega) p2.R
  unfold F_hist_New
  simp only [Option.bind_some]
  have e' : F_law10_CursorFolds_L3 p0 0 0 0 [] [] = some (h.bounds_rev, h.bounds_hor, h.rows, h.keys) := e
  rw [e']
  simp only [Option.bind_some, eta_h]
  rw [hop]
  simp only [Option.bind_some]
  rw [if_neg (by decide)]
  unfold F_hist_Hist_Rev
  simp only [Option.bind_some, eta_h]
  have a1 := R.hi.rev
  rw [a1] at hm
  obtain ⟨x, hx, hx2⟩ := foldsL (n := 3000) (by omega) p2 p1 0 m h.rows.length h w1.1 o1 R (by omega) hm (by omega)
  rw [a1] at hx ⊢
  rw [hx]
  rcases hx2 with r | ⟨g, r⟩
  · rw [r]; rfl
  · rw [r]; rfl
end Go.Proofs.Ytfgoccdjbgecfaa.V
