/- What a watch is told, and what there is.
   No condition: these are laws of plain functions. -/
import Derived.Test.YtfgoccdjbgecfaaRl
namespace Go.Proofs.Ytfgoccdjbgecfaa.V
open Go
set_option linter.unusedVariables false
set_option linter.unusedSimpArgs false

theorem open_ok {n : Nat} (hn : 1000 < n) {h : Ohist_Hist} (I : HI h) (hl : (hev h).length ≤ 1000) (r : TRange) : ∃ m, F_cursor_Open n h r 0 = some (⟨r, h.bounds_rev + 1, false, false⟩, m, 0, h) ∧ IsAt (hev h) h.bounds_rev r m := by
  obtain ⟨m, a, b⟩ := at_mid I hl hn r (rev := h.bounds_rev) I.hor1 (Int.le_refl _)
  have hne := I.ne
  have hrv := I.rev
  refine ⟨m, ?_, b⟩
  unfold F_cursor_Open F_hist_Hist_Rev
  rw [if_pos (by rfl)]
  simp only [Option.bind_some, eta_h]
  rw [a]
  simp only [Option.bind_some, eta_h]
  rw [if_neg (by decide), wrap_id (by omega) (by omega)]
theorem IsAt.later {h h' : Ohist_Hist} {c : Nat} (L : Later h h' c) {rev : Int} (hr : rev ≤ h.bounds_rev) {r : TRange} {m : List TKV} (a : IsAt (hev h) rev r m) : IsAt (hev h') rev r m := by
  refine ⟨a.so, fun t => by rw [a.mem, L.at hr], ?_⟩
  obtain ⟨more, e, _, _⟩ := L.ev
  rw [e, List.length_append]; have := a.le; omega
theorem lastFor_onK (k : ByteArray) : ∀ l : List TEvent, lastFor k l = (onK k l).getLast?
  | [] => rfl
  | x :: l => by
    rw [lastFor, lastFor_onK k l]
    unfold onK
    rw [List.filter_cons]
    by_cases h : eqB x.Key k = true
    · rw [if_pos h, if_pos h]
      cases q : (List.filter (fun e => eqB e.Key k) l) with
      | nil => rfl
      | cons y m => rw [List.getLast?_cons_cons]; cases w : (y :: m).getLast? with
        | none => simp at w
        | some z => rfl
    · rw [if_neg h, if_neg h]
      cases (List.filter (fun e => eqB e.Key k) l).getLast? <;> rfl
theorem lastFor_flt (r : TRange) (k : ByteArray) : ∀ l : List TEvent, lastFor k (fltR r l) = if inR r k = true then lastFor k l else none
  | [] => by cases inR r k <;> rfl
  | x :: l => by
    have ih := lastFor_flt r k l
    have e : fltR r (x :: l) = if inR r x.Key = true then x :: fltR r l else fltR r l := by unfold fltR; rw [List.filter_cons]
    rw [e, show lastFor k (x :: l) = (match lastFor k l with | some y => some y | none => if eqB x.Key k = true then some x else none) from rfl]
    by_cases hx : inR r x.Key = true
    · rw [if_pos hx, lastFor, ih]
      by_cases hk : inR r k = true
      · rw [if_pos hk, if_pos hk]; rfl
      · rw [if_neg hk, if_neg hk]
        dsimp only
        rw [if_neg (by rw [eqB_iff]; intro w; rw [w] at hx; exact hk hx)]
    · rw [if_neg hx, ih]
      by_cases hk : inR r k = true
      · rw [if_pos hk, if_pos hk]
        have : ¬ eqB x.Key k = true := by rw [eqB_iff]; intro w; rw [w] at hx; exact hx hk
        rw [if_neg this]
        cases lastFor k l <;> rfl
      · rw [if_neg hk, if_neg hk]
theorem flt_flat (r : TRange) : ∀ L : List (List TEvent), (L.map (fltR r)).flatten = fltR r L.flatten
  | [] => rfl
  | z :: L => by rw [List.map_cons, List.flatten_cons, List.flatten_cons, flt_flat r L]; unfold fltR; rw [List.filter_append]
theorem in_take {h : Ohist_Hist} (R : HR h) {a : Nat} {e : TEvent} (he : e ∈ (h.rows.take a).flatten) : e.Rev ≤ a := by
  rw [List.mem_flatten] at he
  obtain ⟨row, hr, her⟩ := he
  obtain ⟨i, hi⟩ := List.mem_iff_getElem?.mp hr
  rw [List.getElem?_take] at hi
  split at hi
  · have := (R.rr i row hi).2 e her; omega
  · cases hi
theorem in_drop {h : Ohist_Hist} (R : HR h) {a : Nat} {e : TEvent} (he : e ∈ (h.rows.drop a).flatten) : (a : Int) < e.Rev := by
  rw [List.mem_flatten] at he
  obtain ⟨row, hr, her⟩ := he
  obtain ⟨i, hi⟩ := List.mem_iff_getElem?.mp hr
  rw [List.getElem?_drop] at hi
  have := (R.rr _ row hi).2 e her; omega
theorem in_mid {h : Ohist_Hist} (R : HR h) {a w : Nat} {e : TEvent} (he : e ∈ ((h.rows.drop a).take w).flatten) : (a : Int) < e.Rev ∧ e.Rev ≤ a + w := by
  refine ⟨in_drop R ((flat_sub (List.take_sublist _ _)).subset he), ?_⟩
  rw [List.mem_flatten] at he
  obtain ⟨row, hr, her⟩ := he
  obtain ⟨i, hi⟩ := List.mem_iff_getElem?.mp hr
  rw [List.getElem?_take] at hi
  split at hi
  · rw [List.getElem?_drop] at hi
    have := (R.rr _ row hi).2 e her; omega
  · cases hi
/-- What there is some revisions later. -/
theorem at_on {h : Ohist_Hist} (R : HR h) (a w : Nat) (k : ByteArray) : atT (onK k (hev h)) ((a : Int) + w) = match lastFor k ((h.rows.drop a).take w).flatten with | some e => some e | none => atT (onK k (hev h)) a := by
  have hE : hev h = (h.rows.take a).flatten ++ (((h.rows.drop a).take w).flatten ++ (h.rows.drop (a + w)).flatten) := by
    unfold hev
    rw [← List.flatten_append, ← List.flatten_append, ← List.drop_drop, List.take_append_drop, List.take_append_drop]
  have p1 : ∀ e ∈ onK k (h.rows.take a).flatten, e.Rev ≤ a := fun e he => in_take R (onK_mem.mp he).1
  have s1 : ∀ e ∈ onK k ((h.rows.drop a).take w).flatten, (a : Int) < e.Rev ∧ e.Rev ≤ a + w := fun e he => in_mid R (onK_mem.mp he).1
  have q1 : ∀ e ∈ onK k (h.rows.drop (a + w)).flatten, (a : Int) + w < e.Rev := fun e he => by have := in_drop R (onK_mem.mp he).1; omega
  rw [hE, onK_app, onK_app, atT_apd, atT_apd, atT_apd, atT_apd, atT_none q1, atT_none (rev := (a : Int)) (fun e he => by have := q1 e he; omega), atT_none (rev := (a : Int)) (fun e he => (s1 e he).1)]
  rw [atT_last _ (fun e he => (s1 e he).2), ← lastFor_onK, atT_last _ p1, atT_last _ (fun e he => by have := p1 e he; omega)]
  cases lastFor k (List.take w (List.drop a h.rows)).flatten <;> rfl
theorem fold_at {h : Ohist_Hist} (R : HR h) {a w : Nat} {r : TRange} {m m' : List TKV} (h1 : IsAt (hev h) a r m) (h2 : IsAt (hev h) ((a : Int) + w) r m') : (((h.rows.drop a).take w).map (fltR r)).flatten.foldl stepM m = m' := by
  refine so_ext (foldM_so _ _ h1.so) h2.so (fun t => ?_)
  rw [foldM_mem, h2.mem, at_on R, flt_flat, lastFor_flt]
  by_cases hk : inR r t.Key = true
  · rw [if_pos hk]
    cases q : lastFor t.Key ((h.rows.drop a).take w).flatten with
    | some e =>
      dsimp only
      constructor
      · rintro ⟨x, y⟩; exact ⟨e, rfl, x, y, hk⟩
      · rintro ⟨e', x, y, z, _⟩; cases x; exact ⟨y, z⟩
    | none =>
      dsimp only
      rw [h1.mem]
  · rw [if_neg hk]
    dsimp only
    rw [h1.mem]
    constructor
    · rintro ⟨e, _, _, _, x⟩; exact absurd x hk
    · rintro ⟨e, _, _, _, x⟩; exact absurd x hk
end Go.Proofs.Ytfgoccdjbgecfaa.V
