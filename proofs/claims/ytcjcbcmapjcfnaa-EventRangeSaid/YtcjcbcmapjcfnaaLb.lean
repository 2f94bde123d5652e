/- The plain law of EventRange.
   No condition: this is a law of plain functions. -/
import Derived.Test.YtcjcbcmapjcfnaaFo
namespace Go.Proofs.Ytcjcbcmapjcfnaa.V
open Go
set_option linter.unusedVariables false
set_option linter.unusedSimpArgs false

theorem lastFor_filter (r : TRange) (k : ByteArray) : ∀ l : List TEvent, lastFor k (l.filter (fun x => inR r x.Key)) = if inR r k = true then lastFor k l else none
  | [] => by simp [lastFor]
  | e :: l => by
    rw [List.filter_cons]
    have ih := lastFor_filter r k l
    rcases Bool.eq_false_or_eq_true (inR r e.Key) with h | h
    · rw [if_pos h]
      unfold lastFor
      rw [ih]
      rcases Bool.eq_false_or_eq_true (inR r k) with h2 | h2
      · rw [if_pos h2, if_pos h2]
      · have hne : eqB e.Key k = false := by rw [eqB_ne]; intro q; rw [q, h2] at h; cases h
        simp only [h2, hne, Bool.false_eq_true, if_false]
    · rw [if_neg (by rw [h]; simp), ih]
      rcases Bool.eq_false_or_eq_true (inR r k) with h2 | h2
      · rw [if_pos h2, if_pos h2, show lastFor k (e :: l) = (match lastFor k l with | some x => some x | none => if eqB e.Key k = true then some e else none) from rfl]
        cases lastFor k l with
        | some y => rfl
        | none =>
          dsimp only
          rw [if_neg]
          intro q
          rw [eqB_iff] at q
          rw [q, h2] at h; cases h
      · rw [if_neg (by rw [h2]; simp), if_neg (by rw [h2]; simp)]
theorem range_eq (r : TRange) (m : List TKV) (l : List TEvent) (hm : So m) : (l.foldl stepM m).filter (fun t => inR r t.Key) = (l.filter (fun x => inR r x.Key)).foldl stepM (m.filter (fun t => inR r t.Key)) := by
  refine so_ext ((foldM_so l m hm).filter _) (foldM_so _ _ (hm.filter _)) (fun t => ?_)
  rw [List.mem_filter, foldM_mem, foldM_mem, lastFor_filter]
  rcases Bool.eq_false_or_eq_true (inR r t.Key) with h | h
  · rw [if_pos h]
    cases lastFor t.Key l with
    | none => dsimp only; rw [List.mem_filter]
    | some e => dsimp only; simp [h]
  · rw [if_neg (by rw [h]; simp)]
    dsimp only
    rw [List.mem_filter]
    simp [h]
theorem plain_EventRange (p0 : List TKV) (p1 : List TEvent) (p2 : TRange) (w0 : (∀ a ∈ p0, W_TKV a) ∧ p0.length ≤ maxLen) (w1 : (∀ a ∈ p1, W_TEvent a) ∧ p1.length ≤ maxLen) (w2 : W_TRange p2) : ∃ n, F_law05_EventRange n p0 p1 p2 = some true := by
  refine ⟨2000, ?_⟩
  unfold F_law05_EventRange
  by_cases h1 : p1.length ≤ 60
  case neg =>
    have e1 : decide ((p1.length : Int) ≤ 60) = false := decide_eq_false (by omega)
    simp only [F_law05_few, Option.bind_some, e1, Bool.not_false, cond_true, if_true]
  have e1 : decide ((p1.length : Int) ≤ 60) = true := decide_eq_true (by omega)
  by_cases h0 : p0.length ≤ 60
  case neg =>
    have e0 : decide ((p0.length : Int) > 60) = true := decide_eq_true (by omega)
    simp only [F_law05_few, Option.bind_some, e1, e0, Bool.not_true, cond_false, if_true]
  have e0 : decide ((p0.length : Int) > 60) = false := decide_eq_false (by omega)
  simp only [F_law05_few, Option.bind_some, e1, e0, Bool.not_true, cond_false, Bool.false_eq_true, if_false]
  rcases map_eq p0 (by omega) with hm | ⟨hm, hso⟩
  · rw [hm]; simp only [Option.bind_some, Bool.not_false, if_true]
  · rw [hm]
    simp only [Option.bind_some, Bool.not_true, Bool.false_eq_true, if_false]
    have hlen := foldM_len p1 p0 hso
    have hf0 : (p0.filter (fun x => inR p2 x.Key)).length ≤ 60 := Nat.le_trans (List.length_filter_le _ _) h0
    have hf1 : (p1.filter (fun x => inR p2 x.Key)).length ≤ 60 := Nat.le_trans (List.length_filter_le _ _) h1
    have hf2 : ((p1.foldl stepM p0).filter (fun x => inR p2 x.Key)).length ≤ 1000 := Nat.le_trans (List.length_filter_le _ _) (by omega)
    rw [fold_eq p1 hso (by omega) (by omega)]
    simp only [Option.bind_some]
    rw [filK p2 _ (by omega) (by omega)]
    simp only [Option.bind_some]
    rw [filK p2 _ (by omega) (by omega)]
    simp only [Option.bind_some]
    rw [filE p2 _ (by omega) (by omega)]
    simp only [Option.bind_some]
    rw [fold_eq _ (hso.filter _) (by omega) (by omega)]
    simp only [Option.bind_some]
    rw [← range_eq p2 p0 p1 hso]
    simp only [sameK, Option.bind_some, if_true]
    rw [map_so (by omega) ((foldM_so p1 p0 hso).filter _)]
    rfl
end Go.Proofs.Ytcjcbcmapjcfnaa.V
