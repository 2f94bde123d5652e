/- The plain law of TxnOwn.
   No condition: this is a law of plain functions. -/
import Derived.Test.YtadfhabapgipbaaKa
namespace Go.Proofs.Ytadfhabapgipbaa.V
open Go
set_option linter.unusedVariables false
set_option linter.unusedSimpArgs false

theorem own_cons (m : List KV) (k : ByteArray) (ks : List ByteArray) : ownOf m (k :: ks) = (match getK m k with | some x => x :: ownOf m ks | none => ownOf m ks) := by
  unfold ownOf; rw [List.filterMap_cons]; cases getK m k <;> rfl
theorem ownL (m : List KV) (ks : List ByteArray) (hs : ks.Pairwise (fun a b => lessB a b = true)) (hk : ks.length ≤ 1000) : ∀ (r : List ByteArray) (i : Nat) (acc : List KV), r = ks.drop i → acc.length + r.length ≤ 1000 →
    F_law07_TxnOwn_L1 m ks r i acc = some (.go (acc ++ ownOf m r)) := by
  intro r
  induction r with
  | nil => intro i acc _ _; rw [F_law07_TxnOwn_L1]; simp [ownOf]
  | cons z r ih =>
    intro i acc hr hl
    obtain ⟨hi, hx, hr'⟩ := drop_cons hr
    rw [List.length_cons] at hl
    rw [F_law07_TxnOwn_L1, get_eq]
    simp only [Option.bind_some]
    have hrest : ((if (kvOr (getK m z), (getK m z).isSome).2 = true then ((appL 40 acc [(kvOr (getK m z), (getK m z).isSome).1]).bind fun x27 => some (acc ++ [(kvOr (getK m z), (getK m z).isSome).1])) else some acc).bind fun s25 => F_law07_TxnOwn_L1 m ks r (i + 1) s25) = some (.go (acc ++ ownOf m (z :: r))) := by
      rw [own_cons]
      cases e : getK m z with
      | none =>
        simp only [Option.isSome_none, Bool.false_eq_true, if_false, Option.bind_some]
        exact ih (i + 1) acc hr' (by omega)
      | some x =>
        simp only [Option.isSome_some, if_true, kvOr]
        rw [appL_ok (by simp; omega) (by omega) (by omega)]
        simp only [Option.bind_some]
        rw [ih (i + 1) _ hr' (by simp; omega)]; simp
    by_cases h0 : (i : Int) > 0
    · rw [if_pos (by simpa using h0), wrap_id (by omega) (by omega), show ((i : Int) - 1) = ((i - 1 : Nat) : Int) by omega, getI_nat, List.getElem?_eq_getElem (by omega : i - 1 < ks.length)]
      simp only [Option.bind_some]
      have hlt : lessB ks[i - 1] z = true := by
        have := List.pairwise_iff_getElem.mp hs (i - 1) i (by omega) hi (by omega)
        rw [List.getElem?_eq_getElem hi] at hx
        cases hx
        exact this
      rw [hlt]
      simp only [Bool.not_true, Bool.false_eq_true, if_false]
      exact hrest
    · rw [if_neg (by simpa using h0)]
      simp only [Option.bind_some, Bool.false_eq_true, if_false]
      exact hrest
theorem plain_TxnOwn (p0 : List KV) (p1 : TReq) (w0 : (∀ a ∈ p0, W_KV a) ∧ p0.length ≤ maxLen) (w1 : W_TReq p1) : ∃ n, F_law07_TxnOwn n p0 p1 = some true := by
  refine ⟨1000, ?_⟩
  unfold F_law07_TxnOwn F_law07_few
  simp only [Option.bind_some]
  by_cases hf : p1.Cmps.length ≤ 20 ∧ p1.Then.length ≤ 20 ∧ p1.Else.length ≤ 20 ∧ p0.length ≤ 60
  · obtain ⟨f1, f2, f3, f4⟩ := hf
    have e1 : decide ((p1.Cmps.length : Int) ≤ 20) = true := decide_eq_true (by omega)
    have e2 : decide ((p1.Then.length : Int) ≤ 20) = true := decide_eq_true (by omega)
    have e3 : decide ((p1.Else.length : Int) ≤ 20) = true := decide_eq_true (by omega)
    have e4 : decide ((p0.length : Int) > 60) = false := decide_eq_false (by omega)
    simp only [e1, e2, e3, e4, cond_true, Bool.not_true, cond_false, Bool.false_eq_true, if_false]
    rw [map_eq p0 (by omega)]
    simp only [Option.bind_some]
    cases hm : mapB p0 with
    | false => rfl
    | true =>
      have hs := sorted_of hm
      simp only [Bool.not_true, Bool.false_eq_true, if_false]
      obtain ⟨ks, hk, k1, k2, k3⟩ := keys_eq p1 f1 f2 f3
      rw [hk]
      simp only [Option.bind_some]
      rw [ownL p0 ks k1 (by omega) ks 0 [] (by simp) (by simp; omega)]
      simp only [Option.bind_some, lpK, List.nil_append]
      have hol : (ownOf p0 ks).length ≤ 60 := Nat.le_trans (List.length_filterMap_le _ _) k2
      have hc : ∀ k, k ∈ ks → findK (ownOf p0 ks) k = findK p0 k := fun k hk => own_find hs k1 hk
      rw [plan_eq p0 p1 (by omega) (by omega) (by omega) (by omega), plan_eq (ownOf p0 ks) p1 (by omega) (by omega) (by omega) (by omega)]
      have h1 : holds (ownOf p0 ks) p1.Cmps = holds p0 p1.Cmps := holds_congr (fun c hc' => hc _ ((k3 _).mpr (.inl (List.mem_map_of_mem hc'))))
      have h2 : planOps (ownOf p0 ks) (if holds p0 p1.Cmps = true then p1.Then else p1.Else) = planOps p0 (if holds p0 p1.Cmps = true then p1.Then else p1.Else) := planOps_congr (fun o ho => hc _ ((k3 _).mpr (by
        split at ho
        · exact .inr (.inl (List.mem_map_of_mem ho))
        · exact .inr (.inr (List.mem_map_of_mem ho)))))
      rw [h1, h2]
      simp only [Option.bind_some, beq_self_eq_true, if_true, ops_eq, decide_true]
  · have e : (bif (!(bif (bif (decide ((p1.Cmps.length : Int) ≤ 20)) then (decide ((p1.Then.length : Int) ≤ 20)) else false) then (decide ((p1.Else.length : Int) ≤ 20)) else false)) then true else (decide ((p0.length : Int) > 60))) = true := by
      by_cases g1 : (p1.Cmps.length : Int) ≤ 20 <;> by_cases g2 : (p1.Then.length : Int) ≤ 20 <;> by_cases g3 : (p1.Else.length : Int) ≤ 20 <;> by_cases g4 : (p0.length : Int) > 60 <;> simp [g1, g2, g3, g4]
      omega
    rw [if_pos e]
    rfl
end Go.Proofs.Ytadfhabapgipbaa.V
