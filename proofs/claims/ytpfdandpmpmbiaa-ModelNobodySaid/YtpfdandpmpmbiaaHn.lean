/- What is done, however many ops there are.
   No condition: these are laws of plain functions. -/
import Derived.Test.YtpfdandpmpmbiaaHt
namespace Go.Proofs.Ytpfdandpmpmbiaa.V
open Go
set_option linter.unusedVariables false
set_option linter.unusedSimpArgs false

theorem appL_big {α : Type} {B : Nat} {xs ys : List α} (hn : xs.length + ys.length ≤ 4000000000000) (hb : 0 < B ∧ B ≤ 48) : appL B xs ys = some (xs ++ ys) := by
  unfold appL
  rw [if_pos]
  unfold roomy
  rw [Bool.and_eq_true]
  refine ⟨Nat.ble_eq_true_of_le ?_, ?_⟩
  · exact Nat.le_trans (Nat.mul_le_mul (by omega : (xs.length + ys.length) + (xs.length + ys.length) / 4 + 1024 ≤ 5000000001024) hb.2) (by decide)
  · simp only [Nat.blt, Nat.ble_eq]; omega
theorem hat_there {h : Ohist_Hist} (I : HI h) (hl : (hev h).length ≤ 1000000) (k : ByteArray) : hatL h.keys k h.bounds_rev = some ((atT (onK k (hev h)) h.bounds_rev).getD ⟨0, ByteArray.empty, ByteArray.empty, false⟩, thereK h k) := hat_eq I hl k h.bounds_rev
theorem subTailB {ops : List TOp} {i : Nat} (h : i < ops.length) (hl : ops.length ≤ 4000000000000) : subL ops (IntKind.i64.wrap ((i : Int) + 1)) (ops.length : Int) = some (ops.drop (i + 1)) := by
  rw [wrap_id (by omega) (by omega)]
  unfold subL
  rw [if_pos ⟨by omega, by omega, by omega, Int.le_refl _⟩, show ((i : Int) + 1).toNat = i + 1 by omega, Int.toNat_natCast, List.take_of_length_le (by rw [List.length_drop]; omega)]
theorem effL_big {h : Ohist_Hist} (I : HI h) (hl : (hev h).length ≤ 1000000) (ops : List TOp) (ho : ops.length ≤ 4000000000000) : ∀ (r : List TOp) (i : Nat) (acc : List TEvent), ops.drop i = r → acc.length + r.length ≤ 4000000000000 →
    F_hist_Hist_Apply_L2 h ops r i acc = some (acc ++ effL h r)
  | [], i, acc, _, _ => by simp [F_hist_Hist_Apply_L2, effL]
  | o :: r, i, acc, hd, hc => by
    rw [List.length_cons] at hc
    have hi : i < ops.length := by
      rcases Nat.lt_or_ge i ops.length with q | q
      · exact q
      · rw [List.drop_of_length_le q] at hd; cases hd
    have hd2 : ops.drop (i + 1) = r := by rw [← List.drop_drop, hd]; rfl
    have hrev : h.bounds_rev = (h.rows.length : Int) := I.rev
    have hne := I.ne
    rw [F_hist_Hist_Apply_L2, hat_there I hl, subTailB hi ho, hd2]
    simp only [Option.bind_some, any_eq]
    rw [effL, effE]
    have ih := fun a => effL_big I hl ops ho r (i + 1) a hd2
    rw [wrap_id (n := h.bounds_rev + 1) (by omega) (by omega)]
    by_cases c : (bif r.any (fun p => eqB p.Key o.Key) then true else (bif o.Del then (!thereK h o.Key) else false)) = true
    · rw [if_pos c, if_pos c]
      simp only [Option.bind_some]
      rw [ih acc (by omega), List.nil_append]
    · rw [if_neg c, if_neg c]
      have hs : (if o.Del = true then some ByteArray.empty else some o.Val) = some (if o.Del = true then ByteArray.empty else o.Val) := by split <;> rfl
      rw [hs]
      simp only [Option.bind_some]
      rw [appL_big (by simp; omega) (by omega)]
      simp only [Option.bind_some]
      rw [ih _ (by simp; omega)]; simp
theorem putBig : ∀ (row : List TEvent) (i : Nat) (m : List (ByteArray × List TEvent)) (E : List TEvent), (∀ k, (mget m k).getD [] = onK k E) → (m.map (·.1)).Nodup → (∀ k ∈ m.map (·.1), k.size ≤ maxLen) → (∀ e ∈ row, e.Key.size ≤ maxLen) → m.length ≤ E.length → E.length + row.length ≤ 4000000000000 →
    ∃ m', F_hist_Hist_Apply_L1 row i m = some m' ∧ (∀ k, (mget m' k).getD [] = onK k (E ++ row)) ∧ (m'.map (·.1)).Nodup ∧ (∀ k ∈ m'.map (·.1), k.size ≤ maxLen) ∧ m'.length ≤ (E ++ row).length
  | [], i, m, E, h1, h2, h3, _, h5, _ => ⟨m, rfl, by rw [List.append_nil]; exact h1, h2, h3, by rw [List.append_nil]; exact h5⟩
  | e :: row, i, m, E, h1, h2, h3, h4, h5, h6 => by
    rw [List.length_cons] at h6
    have hle := onK_le e.Key E
    obtain ⟨m', g1, g2, g3, g4, g5⟩ := putBig row (i + 1) (mset m e.Key (((mget m e.Key).getD []) ++ [e])) (E ++ [e]) (fun k => by
        rw [mget_mset, onK_app]
        by_cases q : k = e.Key
        · rw [if_pos q, q, Option.getD_some, h1]
          have : onK e.Key [e] = [e] := by unfold onK; simp
          rw [this]
        · rw [if_neg q, h1]
          have : onK k [e] = [] := by unfold onK; rw [List.filter_cons, if_neg (by rw [eqB_iff]; exact fun w => q w.symm)]; rfl
          rw [this, List.append_nil]) (mset_nd _ _ _ h2) (fun k hk => by
        rcases (mset_keys _ _ _ _).mp hk with q | q
        · rw [q]; exact h4 e List.mem_cons_self
        · exact h3 k q) (fun x hx => h4 x (List.mem_cons_of_mem _ hx)) (by have := mset_le e.Key (((mget m e.Key).getD []) ++ [e]) m; rw [List.length_append]; simp; omega) (by rw [List.length_append]; simp; omega)
    refine ⟨m', ?_, by rw [show E ++ e :: row = (E ++ [e]) ++ row by simp]; exact g2, g3, g4, by rw [show E ++ e :: row = (E ++ [e]) ++ row by simp]; exact g5⟩
    rw [F_hist_Hist_Apply_L1, appL_big (by rw [h1]; simp; omega) (by omega)]
    exact g1
theorem apply_big {h : Ohist_Hist} (I : HI h) (ops : List TOp) (hk : ∀ o ∈ ops, o.Key.size ≤ maxLen) (h0 : (hev h).length ≤ 1000000) (hl : (hev h).length + ops.length ≤ 4000000000000) :
    ∃ h', F_hist_Hist_Apply h ops = some (effL h ops, h') ∧ HI h' ∧ h'.bounds_hor = h.bounds_hor ∧ hev h' = hev h ++ effL h ops ∧ h'.bounds_rev = (if effL h ops = [] then h.bounds_rev else h.bounds_rev + 1) ∧ (effL h ops = [] → h' = h) := by
  have h1 := effL_big I (by omega) ops (by omega) ops 0 [] rfl (by simp; omega)
  rw [List.nil_append] at h1
  have hle := effL_le (h := h) ops
  have hne := I.ne
  have hrv := I.rev
  unfold F_hist_Hist_Apply
  rw [h1]
  simp only [Option.bind_some]
  by_cases q : effL h ops = []
  · rw [q]
    refine ⟨h, by simp, I, rfl, by simp, by simp, fun _ => rfl⟩
  · rw [if_neg (by simpa using q)]
    obtain ⟨m', g1, g2, g3, g4, g5⟩ := putBig (effL h ops) 0 h.keys (hev h) I.lg I.nd I.ks (fun e he => by
      obtain ⟨_, o, ho, e2⟩ := effL_mem he
      rw [e2]; exact hk o ho) I.kl (by omega)
    rw [g1]
    simp only [Option.bind_some]
    rw [appL_big (by simp; omega) (by omega)]
    simp only [Option.bind_some]
    have hc : cloneL 48 (effL h ops) = some (effL h ops) := by unfold cloneL; rw [appL_big (by simp; omega) (by omega)]; rfl
    rw [hc, wrap_id (by omega) (by omega)]
    have hE : hev ⟨h.bounds_rev + 1, h.bounds_hor, m', h.rows ++ [effL h ops]⟩ = hev h ++ effL h ops := by unfold hev; simp
    have hpos : 1 ≤ (effL h ops).length := by
      cases w : effL h ops with
      | nil => exact absurd w q
      | cons a b => simp
    refine ⟨⟨h.bounds_rev + 1, h.bounds_hor, m', h.rows ++ [effL h ops]⟩, rfl, ⟨?_, I.hor0, ?_, g3, g4, ?_, ?_, ?_, ?_⟩, rfl, hE, by rw [if_neg q], fun w => absurd w q⟩
    · show h.bounds_rev + 1 = _; rw [List.length_append, hrv]; simp
    · show h.bounds_hor ≤ h.bounds_rev + 1; have := I.hor1; omega
    · rw [hE]; exact g2
    · rw [hE]; exact g5
    · rw [hE]; intro e he
      show e.Rev ≤ h.bounds_rev + 1
      rcases List.mem_append.mp he with w | w
      · have := I.up e w; omega
      · have := (effL_mem w).1; omega
    · rw [hE]; show (h.rows ++ [effL h ops]).length ≤ _; rw [List.length_append, List.length_append]; simp; omega
end Go.Proofs.Ytpfdandpmpmbiaa.V
