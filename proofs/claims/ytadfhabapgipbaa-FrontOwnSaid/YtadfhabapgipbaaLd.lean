/- The plain law of FrontOwn.
   No condition: this is a law of plain functions. -/
import Derived.Test.YtadfhabapgipbaaKa
namespace Go.Proofs.Ytadfhabapgipbaa.V
open Go
set_option linter.unusedVariables false
set_option linter.unusedSimpArgs false

theorem eq_Evt_self (x : Evt) : eq_Evt x x = true := by
  unfold eq_Evt
  simp [ba_iff]
theorem anyL (z : KV) : ∀ (r : List ByteArray) (i : Nat) (b : Bool), ∃ j, F_law13_FrontOwn_L2 z r i b = some (b || r.any (fun k => eqB k z.key), j) := by
  intro r
  induction r with
  | nil => intro i b; exact ⟨((i : Int), (i : Int)), by rw [F_law13_FrontOwn_L2]; simp⟩
  | cons k r ih =>
    intro i b
    rw [F_law13_FrontOwn_L2]
    cases b with
    | true =>
      simp only [if_true, Option.bind_some]
      obtain ⟨j, hj⟩ := ih (i + 1) true
      exact ⟨j, by rw [hj]; simp⟩
    | false =>
      simp only [Bool.false_eq_true, if_false, Option.bind_some]
      obtain ⟨j, hj⟩ := ih (i + 1) (eqB k z.key)
      exact ⟨j, by rw [hj]; simp⟩
theorem ownFL (ks : List ByteArray) : ∀ (r : List KV) (i : Nat) (acc : List KV), acc.length + r.length ≤ 1000 → F_law13_FrontOwn_L1 ks r i acc = some (acc ++ ownF r ks) := by
  intro r
  induction r with
  | nil => intro i acc _; rw [F_law13_FrontOwn_L1]; simp [ownF]
  | cons z r ih =>
    intro i acc hl
    rw [List.length_cons] at hl
    rw [F_law13_FrontOwn_L1]
    obtain ⟨j, hj⟩ := anyL z ks 0 false
    rw [hj]
    simp only [Option.bind_some, Bool.false_or]
    have hf : ownF (z :: r) ks = if ks.any (fun k => eqB k z.key) = true then z :: ownF r ks else ownF r ks := by unfold ownF; rw [List.filter_cons]
    rw [hf]
    split
    · rw [appL_ok (by simp; omega) (by omega) (by omega)]
      simp only [Option.bind_some]
      rw [ih (i + 1) _ (by simp; omega)]; simp
    · simp only [Option.bind_some]
      exact ih (i + 1) acc (by omega)
theorem rowsL (rev : Int) : ∀ (l : List OpX) (i : Nat) (acc : List Evt), acc.length + l.length ≤ 1000 → ∃ es, F_front_rows_L1 rev l i acc = some es := by
  intro l
  induction l with
  | nil => intro i acc _; exact ⟨_, by rw [F_front_rows_L1]⟩
  | cons o l ih =>
    intro i acc hl
    rw [List.length_cons] at hl
    rw [F_front_rows_L1]
    have : ∃ s, (if o.del = true then some ByteArray.empty else some o.val) = some s := by split <;> exact ⟨_, rfl⟩
    obtain ⟨s, hs⟩ := this
    rw [hs]
    simp only [Option.bind_some]
    rw [appL_ok (by simp; omega) (by omega) (by omega)]
    simp only [Option.bind_some]
    exact ih (i + 1) _ (by simp; omega)
theorem evsL (b : List Evt) : ∀ (f i : Nat), b.length - i ≤ f → F_ref05_Events_L1 b (b.drop i) i = some (.go ()) := by
  intro f
  induction f with
  | zero => intro i h; rw [List.drop_eq_nil_of_le (by omega), F_ref05_Events_L1]
  | succ f ih =>
    intro i h
    rcases Nat.lt_or_ge i b.length with q | q
    · rw [List.drop_eq_getElem_cons q, F_ref05_Events_L1, getI_nat, List.getElem?_eq_getElem q]
      simp only [Option.bind_some, eq_Evt_self, Bool.not_true, Bool.false_eq_true, if_false]
      exact ih (i + 1) (by omega)
    · rw [List.drop_eq_nil_of_le q, F_ref05_Events_L1]
theorem evs_self (b : List Evt) : F_ref05_Events b b = some true := by
  unfold F_ref05_Events
  rw [if_neg (by simp)]
  have := evsL b b.length 0 (by omega)
  rw [List.drop_zero] at this
  rw [this]; rfl
theorem plans_self (p : Timpostref13_Plan) : F_law13_plans p p = some true := by
  unfold F_law13_plans
  simp [evs_self]
theorem decide_some (n : Nat) (q : TReq) (m : List KV) (h : THead) (a : Bool) (l : List OpX) (hp : F_txn_Plan n m q = some (a, l)) (hl : l.length ≤ 20) : ∃ p, F_front_Decide n q m h = some p := by
  obtain ⟨es, he⟩ := rowsL (IntKind.i64.wrap (h.Rev + 1)) l 0 [] (by simp; omega)
  have hr : F_front_rows (IntKind.i64.wrap (h.Rev + 1)) l = some es := by unfold F_front_rows; rw [he]; rfl
  unfold F_front_Decide
  split
  · split <;> exact ⟨_, rfl⟩
  · split
    · rw [hp]
      simp only [Option.bind_some]
      split
      · simp only [Option.bind_some, lpK, hr]; exact ⟨_, rfl⟩
      · split
        · exact ⟨_, rfl⟩
        · split
          · exact ⟨_, rfl⟩
          · simp only [Option.bind_some, lpK, hr]; exact ⟨_, rfl⟩
    · exact ⟨_, rfl⟩
theorem decide_congr (n : Nat) (q : TReq) (m m' : List KV) (h : THead) (hp : F_txn_Plan n m' q = F_txn_Plan n m q) : F_front_Decide n q m' h = F_front_Decide n q m h := by
  unfold F_front_Decide; rw [hp]
theorem plain_FrontOwn (p0 : TReq) (p1 : List KV) (p2 : THead) (w0 : W_TReq p0) (w1 : (∀ a ∈ p1, W_KV a) ∧ p1.length ≤ maxLen) (w2 : W_THead p2) : ∃ n, F_law13_FrontOwn n p0 p1 p2 = some true := by
  refine ⟨1000, ?_⟩
  unfold F_law13_FrontOwn F_law13_few
  simp only [Option.bind_some]
  by_cases hf : p0.Cmps.length ≤ 20 ∧ p0.Then.length ≤ 20 ∧ p0.Else.length ≤ 20 ∧ p1.length ≤ 60
  · obtain ⟨f1, f2, f3, f4⟩ := hf
    have e1 : decide ((p0.Cmps.length : Int) ≤ 20) = true := decide_eq_true (by omega)
    have e2 : decide ((p0.Then.length : Int) ≤ 20) = true := decide_eq_true (by omega)
    have e3 : decide ((p0.Else.length : Int) ≤ 20) = true := decide_eq_true (by omega)
    have e4 : decide ((p1.length : Int) > 60) = false := decide_eq_false (by omega)
    simp only [e1, e2, e3, e4, cond_true, Bool.not_true, cond_false, Bool.false_eq_true, if_false]
    rw [map_eq p1 (by omega)]
    simp only [Option.bind_some]
    cases hm : mapB p1 with
    | false => rfl
    | true =>
      have hs := sorted_of hm
      simp only [Bool.not_true, cond_false]
      split
      · rfl
      · obtain ⟨ks, hk, k1, k2, k3⟩ := keys_eq p0 f1 f2 f3
        rw [hk]
        simp only [Option.bind_some]
        rw [ownFL ks p1 0 [] (by simp; omega)]
        simp only [Option.bind_some, List.nil_append]
        have hol : (ownF p1 ks).length ≤ 60 := Nat.le_trans (List.length_filter_le _ _) f4
        have hc : ∀ k, k ∈ ks → findK (ownF p1 ks) k = findK p1 k := fun k hk => ownF_find hs hk
        have h1 : holds (ownF p1 ks) p0.Cmps = holds p1 p0.Cmps := holds_congr (fun c hc' => hc _ ((k3 _).mpr (.inl (List.mem_map_of_mem hc'))))
        have h2 : planOps (ownF p1 ks) (if holds p1 p0.Cmps = true then p0.Then else p0.Else) = planOps p1 (if holds p1 p0.Cmps = true then p0.Then else p0.Else) := planOps_congr (fun o ho => hc _ ((k3 _).mpr (by
          split at ho
          · exact .inr (.inl (List.mem_map_of_mem ho))
          · exact .inr (.inr (List.mem_map_of_mem ho)))))
        have hp1 := plan_eq (n := 1000) p1 p0 (by omega) (by omega) (by omega) (by omega)
        have hp2 := plan_eq (n := 1000) (ownF p1 ks) p0 (by omega) (by omega) (by omega) (by omega)
        rw [h1, h2, ← hp1] at hp2
        have hlen : (planOps p1 (if holds p1 p0.Cmps = true then p0.Then else p0.Else)).length ≤ 20 := by
          refine Nat.le_trans (List.length_filter_le _ _) ?_
          split <;> assumption
        obtain ⟨d, hd⟩ := decide_some 1000 p0 p1 p2 _ _ hp1 hlen
        rw [decide_congr 1000 p0 p1 (ownF p1 ks) p2 hp2, hd]
        simp only [Option.bind_some, F_law13_told, plans_self]
  · have e : (bif (!(bif (bif (decide ((p0.Cmps.length : Int) ≤ 20)) then (decide ((p0.Then.length : Int) ≤ 20)) else false) then (decide ((p0.Else.length : Int) ≤ 20)) else false)) then true else (decide ((p1.length : Int) > 60))) = true := by
      by_cases g1 : (p0.Cmps.length : Int) ≤ 20 <;> by_cases g2 : (p0.Then.length : Int) ≤ 20 <;> by_cases g3 : (p0.Else.length : Int) ≤ 20 <;> by_cases g4 : (p1.length : Int) > 60 <;> simp [g1, g2, g3, g4]
      omega
    rw [if_pos e]
    rfl
end Go.Proofs.Ytadfhabapgipbaa.V
