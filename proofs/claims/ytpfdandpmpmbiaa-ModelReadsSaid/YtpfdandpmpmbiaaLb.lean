/- The plain law of HistPuts.
   No condition: this is a law of plain functions. -/
import Derived.Test.YtpfdandpmpmbiaaLa
namespace Go.Proofs.Ytpfdandpmpmbiaa.V
open Go
set_option linter.unusedVariables false
set_option linter.unusedSimpArgs false

/-- What a map has at a key. -/
def look (m : List TKV) (k : ByteArray) : TKV × Bool := match m.find? (fun t => eqB t.Key k) with | some t => (t, true) | none => (⟨ByteArray.empty, ByteArray.empty, 0⟩, false)
theorem get_look (m : List TKV) (k : ByteArray) : F_ref06_Get m k = some (look m k) := get_eq m k
theorem look_is {E : List TEvent} {rev : Int} {m : List TKV} (h : IsAt E rev all0 m) (k : ByteArray) :
    look m k = (match atT (onK k E) rev with | some e => (if e.Del = true then (⟨ByteArray.empty, ByteArray.empty, 0⟩, false) else (kv e, true)) | none => (⟨ByteArray.empty, ByteArray.empty, 0⟩, false)) := by
  unfold look
  cases q : m.find? (fun t => eqB t.Key k) with
  | some t =>
    have h1 := List.find?_some q
    have h2 := List.mem_of_find?_eq_some q
    have hk := eqB_iff.mp h1
    obtain ⟨e, a, b, c, d⟩ := (h.mem t).mp h2
    rw [hk] at a
    rw [a]
    dsimp only
    rw [if_neg (by rw [b]; simp), c]
  | none =>
    cases w : atT (onK k E) rev with
    | none => rfl
    | some e =>
      dsimp only
      cases hd : e.Del with
      | true => rw [if_pos rfl]
      | false =>
        exfalso
        have hk : e.Key = k := (onK_mem.mp (atT_mem w).1).2
        have : kv e ∈ m := (h.mem (kv e)).mpr ⟨e, by show atT (onK e.Key E) rev = _; rw [hk]; exact w, hd, rfl, inR_all _⟩
        have h3 := List.find?_eq_none.mp q (kv e) this
        exact h3 (eqB_iff.mpr hk)
theorem look_there {h : Ohist_Hist} {m : List TKV} (hm : IsAt (hev h) h.bounds_rev all0 m) (k : ByteArray) : (look m k).2 = thereK h k := by
  rw [look_is hm]
  unfold thereK
  cases atT (onK k (hev h)) h.bounds_rev with
  | none => rfl
  | some e =>
    dsimp only
    cases e.Del <;> rfl
theorem plain_HistPuts (p0 : List Timpostlaw06_Deed) (p1 : TOp) (p2 : ByteArray) (w0 : (∀ a ∈ p0, W_Timpostlaw06_Deed a) ∧ p0.length ≤ maxLen) (w1 : W_TOp p1) (w2 : p2.size ≤ maxLen) : ∃ n, F_law06_HistPuts n p0 p1 p2 = some true := by
  refine ⟨2000, ?_⟩
  unfold F_law06_HistPuts
  rcases few_ok p0 with f0 | ⟨f0, l0, o0⟩
  · rw [f0]; rfl
  rw [f0]
  simp only [Option.bind_some, Bool.not_true, Bool.false_eq_true, if_false]
  obtain ⟨h, r, I, hl⟩ := ran_ok (n := 2000) (by omega) w0.1 o0 l0
  rw [r]
  have hne := I.ne
  have hrv := I.rev
  have hhor := I.hor1
  obtain ⟨m, ha, hm⟩ := at_mid I (by omega) (n := 2000) (by omega) all0 (rev := h.bounds_rev) hhor (Int.le_refl _)
  unfold all0 at ha
  obtain ⟨h', q, I', hh, he, hr, hs⟩ := apply_ok I [p1] (fun o ho => by rw [List.mem_singleton] at ho; subst ho; exact w1.1) (by simp; omega)
  have hlen : (hev h').length ≤ 1000 := by rw [he, List.length_append]; have := effL_le (h := h) [p1]; simp at this; omega
  obtain ⟨m', ha', hm'⟩ := at_mid I' hlen (n := 2000) (by omega) all0 (rev := h'.bounds_rev) I'.hor1 (Int.le_refl _)
  unfold all0 at ha'
  simp only [Option.bind_some, F_hist_Hist_Rev, eta_h, ha, get_look, q, ha']
  have hth := look_there hm p1.Key
  -- what there is at each key
  have hE : effL h [p1] = (if (bif p1.Del then (!thereK h p1.Key) else false) = true then [] else [⟨h.bounds_rev + 1, p1.Key, if p1.Del = true then ByteArray.empty else p1.Val, p1.Del⟩]) := by
    unfold effL effE effL; simp
  rw [wrap_id (n := h.bounds_rev + 1) (by omega) (by omega)]
  have hat : ∀ k, atT (onK k (hev h')) h'.bounds_rev = (match onK k (effL h [p1]) with | [] => atT (onK k (hev h)) h.bounds_rev | e :: _ => some e) := by
    intro k
    have hup : ∀ e ∈ onK k (hev h), e.Rev ≤ h.bounds_rev := fun e h3 => I.up e (onK_mem.mp h3).1
    have hlast : atT (onK k (hev h)) h'.bounds_rev = atT (onK k (hev h)) h.bounds_rev := by
      rw [atT_last _ hup, atT_last _ (fun e h3 => by have := hup e h3; rw [hr]; split <;> omega)]
    rw [he, onK_app, atT_apd]
    by_cases c : effL h [p1] = []
    · rw [c]; show (match atT [] h'.bounds_rev with | some x => some x | none => _) = _; exact hlast
    · rw [if_neg c] at hr
      rw [hE] at c ⊢
      rw [if_neg (by intro w; rw [if_pos w] at c; exact c rfl)]
      unfold onK at hlast ⊢
      rw [List.filter_cons, List.filter_nil]
      cases w : eqB p1.Key k with
      | true =>
        rw [if_pos rfl]
        dsimp only
        have : atT [(⟨h.bounds_rev + 1, p1.Key, if p1.Del = true then ByteArray.empty else p1.Val, p1.Del⟩ : TEvent)] h'.bounds_rev = some ⟨h.bounds_rev + 1, p1.Key, if p1.Del = true then ByteArray.empty else p1.Val, p1.Del⟩ := by
          unfold atT; rw [show atT [] h'.bounds_rev = none from rfl]; dsimp only; rw [if_pos (by omega)]
        rw [this]
      | false =>
        rw [if_neg (by simp)]
        exact hlast
  -- all else as it was
  have hother : p2 ≠ p1.Key → look m p2 = look m' p2 := by
    intro ne
    rw [look_is hm, look_is hm', hat]
    have : onK p2 (effL h [p1]) = [] := by
      rw [hE]
      split
      · rfl
      · unfold onK; rw [List.filter_cons, if_neg (by rw [eqB_iff]; exact fun w => ne w.symm)]; rfl
    rw [this]
  have hg : (bif ((0 : Int) != 0) then true else (bif (!eqB p2 p1.Key) then (bif (!(eq_TKV (look m p2).1 (look m' p2).1)) then true else (!((look m p2).2 == (look m' p2).2))) else false)) = false := by
    cases w : eqB p2 p1.Key with
    | true => rfl
    | false => rw [hother (eqB_ne.mp w)]; simp [eqxK]
  rw [hg]
  simp only [Bool.false_eq_true, if_false]
  have hself : look m' p1.Key = (match onK p1.Key (effL h [p1]) with | [] => look m p1.Key | e :: _ => (if e.Del = true then (⟨ByteArray.empty, ByteArray.empty, 0⟩, false) else (kv e, true))) := by
    rw [look_is hm', hat]
    cases onK p1.Key (effL h [p1]) with
    | nil => dsimp only; rw [look_is hm]
    | cons e l => rfl
  cases hd : p1.Del with
  | true =>
    rw [if_pos rfl]
    cases ht : thereK h p1.Key with
    | true =>
      rw [hd, ht] at hE
      simp only [Bool.not_true, cond_true, Bool.false_eq_true, if_false, if_true] at hE
      rw [hE] at hself hr
      have : onK p1.Key [(⟨h.bounds_rev + 1, p1.Key, ByteArray.empty, true⟩ : TEvent)] = [⟨h.bounds_rev + 1, p1.Key, ByteArray.empty, true⟩] := by unfold onK; simp
      rw [this] at hself
      simp only [if_true] at hself
      rw [if_neg (by simp)] at hr
      rw [hself, hE, hth, ht, hr]
      simp
    | false =>
      rw [hd, ht] at hE
      simp only [Bool.not_false, cond_true, if_true] at hE
      rw [hE] at hself hr
      simp only [if_true] at hr
      rw [show onK p1.Key [] = [] from rfl] at hself
      dsimp only at hself
      rw [hself, hE, hth, ht, hr]
      simp
      omega
  | false =>
    rw [if_neg (by simp)]
    rw [hd] at hE
    simp only [cond_false, Bool.false_eq_true, if_false] at hE
    rw [hE] at hself hr
    have : onK p1.Key [(⟨h.bounds_rev + 1, p1.Key, p1.Val, false⟩ : TEvent)] = [⟨h.bounds_rev + 1, p1.Key, p1.Val, false⟩] := by unfold onK; simp
    rw [this] at hself
    simp only [Bool.false_eq_true, if_false] at hself
    rw [if_neg (by simp)] at hr
    rw [hself, hE, hr]
    simp [kv, eq_TKV]
end Go.Proofs.Ytpfdandpmpmbiaa.V
