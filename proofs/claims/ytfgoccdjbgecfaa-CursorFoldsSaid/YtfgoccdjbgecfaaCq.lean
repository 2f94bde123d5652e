/- Watches, plainly.
   No condition: these are laws of plain functions. -/
import Derived.Test.YtfgoccdjbgecfaaHl
namespace Go.Proofs.Ytfgoccdjbgecfaa.V
open Go
set_option linter.unusedVariables false
set_option linter.unusedSimpArgs false

/-! ### Rows -/
structure HR (h : Ohist_Hist) : Prop where
  hi : HI h
  rr : ∀ (i : Nat) (row : List TEvent), h.rows[i]? = some row → row ≠ [] ∧ ∀ e ∈ row, e.Rev = (i : Int) + 1
theorem hr_new : HR ⟨0, 0, [], []⟩ := ⟨hi_new, fun i row h => by simp at h⟩
theorem apply_rows {h h' : Ohist_Hist} (I : HI h) (ops : List TOp) (hl : (hev h).length + ops.length ≤ 1000000) {l : List TEvent} (ha : F_hist_Hist_Apply h ops = some (l, h')) : h'.rows = (if effL h ops = [] then h.rows else h.rows ++ [effL h ops]) := by
  have h1 := effL_eq I (by omega) ops (by omega) ops 0 [] rfl (by simp; omega)
  rw [List.nil_append] at h1
  unfold F_hist_Hist_Apply at ha
  rw [h1] at ha
  simp only [Option.bind_some] at ha
  by_cases q : effL h ops = []
  · rw [if_pos (by rw [q]; rfl)] at ha
    cases ha
    rw [if_pos q]
  · have q' : ¬ (((effL h ops).length : Int) == 0) = true := by
      intro e
      have e2 : ((effL h ops).length : Int) = 0 := by simpa using e
      exact q (List.length_eq_zero_iff.mp (by omega))
    rw [if_neg q'] at ha
    rw [if_neg q]
    cases a : F_hist_Hist_Apply_L1 (effL h ops) 0 h.keys with
    | none => rw [a] at ha; cases ha
    | some m =>
      rw [a] at ha
      simp only [Option.bind_some] at ha
      cases b : appL 24 h.rows [effL h ops] with
      | none => rw [b] at ha; cases ha
      | some x =>
        rw [b] at ha
        simp only [Option.bind_some] at ha
        cases c : cloneL 48 (effL h ops) with
        | none => rw [c] at ha; cases ha
        | some y =>
          rw [c] at ha
          simp only [Option.bind_some] at ha
          cases ha; rfl
theorem hr_apply {h : Ohist_Hist} (R : HR h) (ops : List TOp) (hk : ∀ o ∈ ops, o.Key.size ≤ maxLen) (hl : (hev h).length + ops.length ≤ 1000000) :
    ∃ h', F_hist_Hist_Apply h ops = some (effL h ops, h') ∧ HR h' ∧ Later h h' ops.length ∧ h'.bounds_hor = h.bounds_hor ∧ hev h' = hev h ++ effL h ops ∧ h'.rows = (if effL h ops = [] then h.rows else h.rows ++ [effL h ops]) := by
  obtain ⟨h', a, I', c, d, e, f⟩ := apply_ok R.hi ops hk hl
  have g := apply_rows R.hi ops hl a
  refine ⟨h', a, ⟨I', fun i row hi => ?_⟩, ⟨by rw [c]; exact Int.le_refl _, by rw [e]; split <;> omega, effL h ops, d, effL_le ops, fun x hx => by have := (effL_mem hx).1; omega⟩, c, d, g⟩
  rw [g] at hi
  split at hi
  · exact R.rr i row hi
  · rename_i ne
    rcases Nat.lt_or_ge i h.rows.length with q | q
    · rw [List.getElem?_append_left q] at hi; exact R.rr i row hi
    · rw [List.getElem?_append_right q] at hi
      cases w : i - h.rows.length with
      | zero =>
        rw [w] at hi
        simp at hi
        subst hi
        refine ⟨ne, fun x hx => ?_⟩
        rw [(effL_mem hx).1, R.hi.rev]
        omega
      | succ j => rw [w] at hi; simp at hi
theorem hr_compact {h : Ohist_Hist} (R : HR h) (rev : Int) : ∃ b h', F_hist_Hist_Compact h rev = some (b, h') ∧ HR h' ∧ Later h h' 0 ∧ hev h' = hev h ∧ h'.rows = h.rows ∧ h'.bounds_rev = h.bounds_rev := by
  rcases compact_ok R.hi rev with ⟨_, a⟩ | ⟨_, _, a⟩ | ⟨_, _, a, b⟩
  · exact ⟨_, _, a, R, Later.refl h, rfl, rfl, rfl⟩
  · exact ⟨_, _, a, R, Later.refl h, rfl, rfl, rfl⟩
  · exact ⟨_, _, a, ⟨b, R.rr⟩, ⟨by show h.bounds_hor ≤ (if rev > h.bounds_hor then rev else h.bounds_hor); split <;> omega, Int.le_refl _, [], by simp [hev], Nat.le_refl _, fun e he => absurd he List.not_mem_nil⟩, rfl, rfl, rfl⟩
/-- The events' keys may be. -/
theorem ev_key {h : Ohist_Hist} (I : HI h) {e : TEvent} (he : e ∈ hev h) : e.Key.size ≤ maxLen := by
  have h1 : e ∈ onK e.Key (hev h) := onK_mem.mpr ⟨he, rfl⟩
  rw [← I.lg] at h1
  cases q : mget h.keys e.Key with
  | none => rw [q] at h1; cases h1
  | some l => exact I.ks _ (mget_mem q)
theorem events_ok {h : Ohist_Hist} (I : HI h) (hl : (hev h).length ≤ 1000000) {i : Nat} {row : List TEvent} (hi : h.rows[i]? = some row) (hh : h.bounds_hor < (i : Int) + 1) : F_hist_Hist_Events h ((i : Int) + 1) = some (row, 0, h) := by
  have hlt : i < h.rows.length := (List.getElem?_eq_some_iff.mp hi).1
  have hne := I.ne
  have hrv := I.rev
  unfold F_hist_Hist_Events F_hist_bounds_old F_hist_bounds_late
  have g1 : decide ((i : Int) + 1 < h.bounds_hor) = false := decide_eq_false (by omega)
  have g2 : ((i : Int) + 1 == h.bounds_hor) = false := by simp; omega
  have g3 : decide ((i : Int) + 1 > h.bounds_rev) = false := decide_eq_false (by omega)
  simp only [Option.bind_some, g1, g2, g3, Bool.false_eq_true, if_false, eta_h]
  rw [wrap_id (by omega) (by omega), show (i : Int) + 1 - 1 = (i : Int) by omega, getI_nat, hi]
  simp only [Option.bind_some]
  have hrl : row.length ≤ (hev h).length := by
    unfold hev
    have := List.mem_of_getElem? hi
    exact (List.sublist_flatten_of_mem this).length_le
  have hc : cloneL 48 row = some row := by unfold cloneL; rw [appL_ok (by simp; omega) (by omega) (by omega)]; rfl
  rw [hc]; rfl

/-! ### What a watch is told -/
def fltR (r : TRange) (l : List TEvent) : List TEvent := l.filter (fun x => inR r x.Key)
def gat (l : List (List TEvent)) : List (List TEvent) := l.filter (fun z => decide ((z.length : Int) > 0))
theorem gatherL : ∀ (l : List (List TEvent)) (i : Nat) (acc : List (List TEvent)), acc.length + l.length ≤ 1000000 → F_cursor_gather_L1 l i acc = some (acc ++ gat l)
  | [], i, acc, _ => by simp [F_cursor_gather_L1, gat]
  | z :: l, i, acc, hc => by
    rw [List.length_cons] at hc
    rw [F_cursor_gather_L1]
    unfold gat
    rw [List.filter_cons]
    split
    · rw [appL_ok (by simp; omega) (by omega) (by omega)]
      simp only [Option.bind_some]
      rw [gatherL l (i + 1) _ (by simp; omega)]
      unfold gat; simp
    · exact gatherL l (i + 1) acc (by omega)
theorem flat_le {r : TRange} : ∀ (l : List (List TEvent)), (l.map (fltR r)).flatten.length ≤ l.flatten.length
  | [] => Nat.le_refl _
  | z :: l => by
    have := flat_le (r := r) l
    have h2 : (fltR r z).length ≤ z.length := List.length_filter_le _ _
    rw [List.map_cons, List.flatten_cons, List.flatten_cons, List.length_append, List.length_append]; omega
theorem deliverL {n : Nat} (hn : 1000 < n) (c : Tcursor_Cursor) : ∀ (rows : List (List TEvent)) (i : Nat) (l : List (List TEvent)) (al : List TEvent), l.length + rows.length ≤ 10000 → al.length + rows.flatten.length ≤ 1000 →
    F_cursor_Deliver_L1 n c rows i l al = some (l ++ rows.map (fltR c.R), al ++ (rows.map (fltR c.R)).flatten)
  | [], i, l, al, _, _ => by simp [F_cursor_Deliver_L1]
  | z :: rows, i, l, al, h1, h2 => by
    rw [List.length_cons] at h1
    rw [List.flatten_cons, List.length_append] at h2
    have h3 : (fltR c.R z).length ≤ z.length := List.length_filter_le _ _
    rw [F_cursor_Deliver_L1, filE c.R z (by omega) (by omega)]
    simp only [Option.bind_some]
    rw [show z.filter (fun x => inR c.R x.Key) = fltR c.R z from rfl, appL_ok (by simp; omega) (by omega) (by omega)]
    simp only [Option.bind_some]
    rw [appL_ok (by omega) (by omega) (by omega)]
    simp only [Option.bind_some]
    rw [deliverL hn c rows (i + 1) _ _ (by simp; omega) (by rw [List.length_append]; omega)]
    simp
/-- Why not. -/
def badC (c : Tcursor_Cursor) (rev hor : Int) : Int := if c.Dead = true then 4 else if c.Next ≤ hor then 5 else if c.Next - 1 > rev then 6 else 0
theorem bad_eq {c : Tcursor_Cursor} (h1 : -4000000000000 ≤ c.Next) (h2 : c.Next ≤ 4000000000000) (x : THead) : F_cursor_bad c x = some (badC c x.Rev x.Hor) := by
  unfold F_cursor_bad badC
  rw [wrap_id (by omega) (by omega)]
  by_cases d : c.Dead = true
  · rw [if_pos d, if_pos d]
  · rw [if_neg d, if_neg d]
    by_cases e : c.Next ≤ x.Hor
    · rw [if_pos (decide_eq_true e), if_pos e]
    · rw [if_neg (by rw [decide_eq_true_iff]; exact e), if_neg e]
      by_cases f : c.Next - 1 > x.Rev
      · rw [if_pos (decide_eq_true f), if_pos f]
      · rw [if_neg (by rw [decide_eq_true_iff]; exact f), if_neg f]
/-- The rows that are told. -/
def toldR (c : Tcursor_Cursor) (rows : List (List TEvent)) (last : List TEvent) : List (List TEvent) := gat (if c.Once = true then [last] else rows.map (fltR c.R))
theorem deliver_bad {n : Nat} {c : Tcursor_Cursor} (h1 : -4000000000000 ≤ c.Next) (h2 : c.Next ≤ 4000000000000) (x : THead) (rows : List (List TEvent)) (hb : badC c x.Rev x.Hor ≠ 0) :
    F_cursor_Deliver n c x rows = some (if badC c x.Rev x.Hor = 5 then (⟨c.R, c.Next, c.Once, true⟩, ⟨5, x.Hor, 0, []⟩) else (c, ⟨badC c x.Rev x.Hor, 0, 0, []⟩)) := by
  unfold F_cursor_Deliver
  rw [bad_eq h1 h2]
  simp only [Option.bind_some]
  rw [if_neg (by simpa using hb)]
  by_cases q : badC c x.Rev x.Hor = 5
  · rw [if_pos (by simpa using q), if_pos q, q]
  · rw [if_neg (by simpa using q), if_neg q]
theorem deliver_ok {n : Nat} (hn : 1000 < n) {c : Tcursor_Cursor} (h1 : -4000000000000 ≤ c.Next) (h2 : c.Next ≤ 4000000000000) (x : THead) (rows : List (List TEvent)) (hb : badC c x.Rev x.Hor = 0) (hr : rows.length ≤ 5000) (hf : rows.flatten.length ≤ 1000) (hk : ∀ e ∈ rows.flatten, e.Key.size ≤ maxLen) :
    ∃ last, F_event_Last (rows.map (fltR c.R)).flatten = some last ∧ SoE last ∧ (∀ e, e ∈ last ↔ lastFor e.Key (rows.map (fltR c.R)).flatten = some e) ∧ last.length ≤ (rows.map (fltR c.R)).flatten.length ∧
      F_cursor_Deliver n c x rows = some (⟨c.R, c.Next + rows.length, c.Once, c.Dead⟩, ⟨0, 0, c.Next + rows.length - 1, toldR c rows last⟩) := by
  have hfl := flat_le (r := c.R) rows
  have hkf : ∀ e ∈ (rows.map (fltR c.R)).flatten, e.Key.size ≤ maxLen := by
    intro e he
    rw [List.mem_flatten] at he
    obtain ⟨l, hl, hel⟩ := he
    obtain ⟨z, hz, rfl⟩ := List.mem_map.mp hl
    exact hk e (List.mem_flatten.mpr ⟨z, hz, (List.mem_filter.mp hel).1⟩)
  obtain ⟨last, l1, l2, l3, l4⟩ := last_eq (rows.map (fltR c.R)).flatten (by omega) hkf
  refine ⟨last, l1, l2, l3, l4, ?_⟩
  unfold F_cursor_Deliver
  rw [bad_eq h1 h2]
  simp only [Option.bind_some]
  rw [if_pos (by rw [hb]; rfl), deliverL hn c rows 0 [] [] (by simp; omega) (by rw [List.length_nil]; omega)]
  simp only [Option.bind_some, List.nil_append]
  rw [l1]
  have hs : (if c.Once = true then ((some last).bind fun x13 => some ([x13] : List (List TEvent))) else (some (rows.map (fltR c.R)))) = some (if c.Once = true then [last] else rows.map (fltR c.R)) := by split <;> rfl
  rw [hs]
  simp only [Option.bind_some]
  unfold F_cursor_gather
  rw [gatherL _ 0 [] (by rw [List.length_nil]; split <;> simp; omega)]
  simp only [Option.bind_some, List.nil_append]
  rw [wrap_id (n := c.Next + rows.length) (by omega) (by omega), wrap_id (n := c.Next + rows.length - 1) (by omega) (by omega)]
  rfl
/-- How many revisions. -/
def winC (c : Tcursor_Cursor) (h : Ohist_Hist) (most : Int) : Nat := (if most < h.bounds_rev - c.Next + 1 then most else h.bounds_rev - c.Next + 1).toNat
theorem window_ok {c : Tcursor_Cursor} {h : Ohist_Hist} (I : HI h) (hl : (hev h).length ≤ 1000) (h1 : -4000000000000 ≤ c.Next) (h2 : c.Next ≤ 4000000000000) (most : Int) : F_cursor_Window c ⟨0, h.bounds_rev, h.bounds_hor⟩ most = some (if badC c h.bounds_rev h.bounds_hor = 0 then ((winC c h most : Nat) : Int) else 0) := by
  have hne := I.ne
  have hrv := I.rev
  unfold F_cursor_Window
  rw [bad_eq h1 h2]
  simp only [Option.bind_some]
  by_cases q : badC c h.bounds_rev h.bounds_hor = 0
  · rw [if_neg (by rw [q]; decide), if_pos q]
    rw [wrap_id (n := h.bounds_rev - c.Next) (by omega) (by omega), wrap_id (n := h.bounds_rev - c.Next + 1) (by omega) (by omega)]
    unfold winC
    generalize (if most < h.bounds_rev - c.Next + 1 then most else h.bounds_rev - c.Next + 1) = z
    congr 1
    split <;> omega
  · rw [if_pos (by simpa using q), if_neg q]
def rowsC (c : Tcursor_Cursor) (h : Ohist_Hist) (most : Int) : List (List TEvent) := if badC c h.bounds_rev h.bounds_hor = 0 then (h.rows.drop (c.Next - 1).toNat).take (winC c h most) else []
theorem pollL {n : Nat} {c : Tcursor_Cursor} {h : Ohist_Hist} (I : HI h) (hl : (hev h).length ≤ 1000) (hb : badC c h.bounds_rev h.bounds_hor = 0) (most : Int) : ∀ (f i : Nat) (acc : List (List TEvent)), i ≤ winC c h most → winC c h most - i < f → acc.length = i →
    F_cursor_Poll_L1 c (winC c h most : Nat) f acc (i : Int) h.bounds_rev h.bounds_hor h.rows h.keys = some (acc ++ (rowsC c h most).drop i, h.bounds_rev, h.bounds_hor, h.rows, h.keys) := by
  have hne := I.ne
  have hrv := I.rev
  have hh0 := I.hor0
  have b1 : h.bounds_hor < c.Next ∧ c.Next - 1 ≤ h.bounds_rev := by
    unfold badC at hb
    split at hb
    · cases hb
    · split at hb
      · cases hb
      · split at hb
        · cases hb
        · omega
  have hwin : winC c h most ≤ h.rows.length - (c.Next - 1).toNat := by
    unfold winC
    split <;> omega
  have hrl : (rowsC c h most).length = winC c h most := by
    unfold rowsC
    rw [if_pos hb, List.length_take, List.length_drop]; omega
  intro f
  induction f with
  | zero => intro i acc _ q _; omega
  | succ f ih =>
    intro i acc h1 h2 h3
    rw [F_cursor_Poll_L1]
    rcases Nat.lt_or_ge i (winC c h most) with q | q
    · rw [if_pos (decide_eq_true (by omega))]
      have hi : (c.Next - 1).toNat + i < h.rows.length := by omega
      have hw : IntKind.i64.wrap (c.Next + (i : Int)) = (((c.Next - 1).toNat + i : Nat) : Int) + 1 := by rw [wrap_id (by omega) (by omega)]; omega
      rw [hw, eta_h, events_ok I (by omega) (List.getElem?_eq_getElem hi) (by omega)]
      simp only [Option.bind_some]
      rw [appL_ok (by simp; omega) (by omega) (by omega)]
      simp only [Option.bind_some]
      have hw2 : IntKind.i64.wrap ((i : Int) + 1) = ((i + 1 : Nat) : Int) := by rw [wrap_id (by omega) (by omega)]; omega
      rw [hw2, ih (i + 1) _ q (by omega) (by simp; omega)]
      have hd : (rowsC c h most).drop i = h.rows[(c.Next - 1).toNat + i] :: (rowsC c h most).drop (i + 1) := by
        rw [List.drop_eq_getElem_cons (by omega)]
        congr 1
        have : (rowsC c h most)[i]? = some h.rows[(c.Next - 1).toNat + i] := by
          unfold rowsC
          rw [if_pos hb, List.getElem?_take_of_lt q, List.getElem?_drop, List.getElem?_eq_getElem hi]
        exact (List.getElem?_eq_some_iff.mp this).2
      rw [hd]; simp
    · rw [if_neg (by rw [decide_eq_true_iff]; omega), List.drop_of_length_le (by omega)]; simp
theorem poll_eq {n : Nat} (hn : 2000 < n) {c : Tcursor_Cursor} {h : Ohist_Hist} (I : HI h) (hl : (hev h).length ≤ 1000) (h1 : -4000000000000 ≤ c.Next) (h2 : c.Next ≤ 4000000000000) (most : Int) :
    F_cursor_Poll n c h most = (F_cursor_Deliver n c ⟨0, h.bounds_rev, h.bounds_hor⟩ (rowsC c h most)).bind fun x9 => some (x9.1, x9.2, h) := by
  have hne := I.ne
  have hrv := I.rev
  unfold F_cursor_Poll F_hist_Hist_Rev F_hist_Hist_Hor
  simp only [Option.bind_some, eta_h]
  rw [window_ok I hl h1 h2]
  simp only [Option.bind_some]
  by_cases q : badC c h.bounds_rev h.bounds_hor = 0
  · rw [if_pos q]
    have hw : winC c h most ≤ 1000 + 1 := by
      have b1 : h.bounds_hor < c.Next := by
        unfold badC at q
        split at q
        · cases q
        · split at q
          · cases q
          · omega
      have := I.hor0
      unfold winC; split <;> omega
    have := pollL (n := n) I hl q most n 0 [] (Nat.zero_le _) (by omega) rfl
    rw [show ((0 : Nat) : Int) = 0 from rfl] at this
    rw [this]
    rfl
  · rw [if_neg q]
    have : F_cursor_Poll_L1 c 0 n [] 0 h.bounds_rev h.bounds_hor h.rows h.keys = some ([], h.bounds_rev, h.bounds_hor, h.rows, h.keys) := by
      cases n with
      | zero => omega
      | succ n => rw [F_cursor_Poll_L1, if_neg (by simp)]
    rw [this]
    simp only [Option.bind_some, eta_h]
    unfold rowsC
    rw [if_neg q]
theorem rowsC_sub (c : Tcursor_Cursor) (h : Ohist_Hist) (most : Int) : (rowsC c h most).Sublist h.rows := by
  unfold rowsC
  split
  · exact (List.take_sublist _ _).trans (List.drop_sublist _ _)
  · exact List.nil_sublist _
theorem flat_sub : ∀ {a b : List (List TEvent)}, a.Sublist b → a.flatten.Sublist b.flatten
  | _, _, .slnil => .slnil
  | _, _, .cons x h => by rw [List.flatten_cons]; exact (flat_sub h).trans (List.sublist_append_right _ _)
  | _, _, .cons_cons x h => by rw [List.flatten_cons, List.flatten_cons]; exact (flat_sub h).append_left _
/-- A poll, told. -/
inductive Polled (n : Nat) (c : Tcursor_Cursor) (h : Ohist_Hist) (most : Int) : Tcursor_Cursor × Tcursor_Notice → Prop where
  | bad (hb : badC c h.bounds_rev h.bounds_hor ≠ 0) : Polled n c h most (if badC c h.bounds_rev h.bounds_hor = 5 then (⟨c.R, c.Next, c.Once, true⟩, ⟨5, h.bounds_hor, 0, []⟩) else (c, ⟨badC c h.bounds_rev h.bounds_hor, 0, 0, []⟩))
  | ok (hb : badC c h.bounds_rev h.bounds_hor = 0) (last : List TEvent) (l1 : F_event_Last ((rowsC c h most).map (fltR c.R)).flatten = some last) (l2 : SoE last) (l3 : ∀ e, e ∈ last ↔ lastFor e.Key ((rowsC c h most).map (fltR c.R)).flatten = some e) (l4 : last.length ≤ ((rowsC c h most).map (fltR c.R)).flatten.length) :
      Polled n c h most (⟨c.R, c.Next + (rowsC c h most).length, c.Once, c.Dead⟩, ⟨0, 0, c.Next + (rowsC c h most).length - 1, toldR c (rowsC c h most) last⟩)
theorem poll_ok {n : Nat} (hn : 2000 < n) {c : Tcursor_Cursor} {h : Ohist_Hist} (I : HI h) (hl : (hev h).length ≤ 1000) (h1 : -4000000000000 ≤ c.Next) (h2 : c.Next ≤ 4000000000000) (most : Int) :
    ∃ p, F_cursor_Poll n c h most = some (p.1, p.2, h) ∧ Polled n c h most p := by
  rw [poll_eq hn I hl h1 h2]
  have hne := I.ne
  have hsub := rowsC_sub c h most
  have hfs := flat_sub hsub
  by_cases q : badC c h.bounds_rev h.bounds_hor = 0
  · obtain ⟨last, l1, l2, l3, l4, l5⟩ := deliver_ok (n := n) (by omega) h1 h2 ⟨0, h.bounds_rev, h.bounds_hor⟩ (rowsC c h most) q (by have := hsub.length_le; omega) (by have := hfs.length_le; unfold hev at hl; omega) (fun e he => ev_key I (hfs.subset he))
    rw [l5]
    exact ⟨_, rfl, .ok q last l1 l2 l3 l4⟩
  · rw [deliver_bad h1 h2 ⟨0, h.bounds_rev, h.bounds_hor⟩ (rowsC c h most) q]
    exact ⟨_, rfl, .bad q⟩
/-! ### Few -/
theorem few10L : ∀ (l : List Timpostlaw10_Deed) (i : Nat), F_law10_few_L1 l i = some (.out false) ∨ (F_law10_few_L1 l i = some (.go ()) ∧ (i + l.length ≤ 31 → ∀ d ∈ l, d.Ops.length ≤ 8))
  | [], i => .inr ⟨rfl, fun _ d h => absurd h List.not_mem_nil⟩
  | z :: l, i => by
    rw [F_law10_few_L1]
    by_cases h1 : i < 31
    · rw [if_pos (decide_eq_true (by omega))]
      by_cases h2 : z.Ops.length > 8
      · rw [if_pos (decide_eq_true (by omega))]; exact .inl rfl
      · rw [if_neg (by rw [decide_eq_true_iff]; omega)]
        rcases few10L l (i + 1) with e | ⟨e, g⟩
        · exact .inl e
        · refine .inr ⟨e, fun h d hd => ?_⟩
          rw [List.length_cons] at h
          rcases List.mem_cons.mp hd with q | q
          · subst q; omega
          · exact g (by omega) d q
    · rw [if_neg (by rw [decide_eq_true_iff]; omega)]
      exact .inr ⟨rfl, fun h => by rw [List.length_cons] at h; omega⟩
theorem few10 (l : List Timpostlaw10_Deed) : F_law10_few l = some false ∨ (F_law10_few l = some true ∧ l.length ≤ 30 ∧ ∀ d ∈ l, d.Ops.length ≤ 8) := by
  unfold F_law10_few
  rcases few10L l 0 with e | ⟨e, g⟩
  · rw [e]; exact .inl rfl
  · rw [e]
    simp only [Option.bind_some, lpK]
    by_cases h : l.length ≤ 30
    · exact .inr ⟨by rw [decide_eq_true (by omega)], h, g (by omega)⟩
    · exact .inl (by rw [decide_eq_false (by omega)])
end Go.Proofs.Ytfgoccdjbgecfaa.V
