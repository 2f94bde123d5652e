/- The plain law of SubidxStabs.
   No condition: this is a law of plain functions. -/
import Derived.Test.YthgcmcifhhkebaaSv
namespace Go.Proofs.Ythgcmcifhhkebaa.V
open Go
set_option linter.unusedVariables false
set_option linter.unusedSimpArgs false

theorem stabsM (k : ByteArray) (rev z : Int) : ∀ (l : List Tsubidx_Sub) (i : Nat) (y : Bool), ∃ a b, F_law11_SubidxStabs_L2 k rev z l i y = some (y || l.any (fun t => t.Id == z && wantS k rev t), a, b) := by
  intro l
  induction l with
  | nil => intro i y; exact ⟨(i : Int), (i : Int), by simp [F_law11_SubidxStabs_L2]⟩
  | cons t l ih =>
    intro i y
    rw [F_law11_SubidxStabs_L2, List.any_cons]
    cases y with
    | true =>
      simp only [if_true, Option.bind_some]
      obtain ⟨a, b, h⟩ := ih (i + 1) true
      exact ⟨a, b, by rw [h]; simp⟩
    | false =>
      simp only [Bool.false_eq_true, if_false, refIn_eq]
      cases h1 : (t.Id == z) with
      | false =>
        simp only [Bool.false_eq_true, if_false, Option.bind_some]
        obtain ⟨a, b, h⟩ := ih (i + 1) false
        exact ⟨a, b, by rw [h]; simp⟩
      | true =>
        simp only [if_true, Option.bind_some]
        unfold wantS
        cases h2 : inR t.R k with
        | false =>
          simp only [Bool.false_eq_true, if_false, Option.bind_some]
          obtain ⟨a, b, h⟩ := ih (i + 1) false
          exact ⟨a, b, by rw [h]; simp [wantS]⟩
        | true =>
          simp only [if_true, Option.bind_some]
          obtain ⟨a, b, h⟩ := ih (i + 1) (decide (t.Rev < rev))
          exact ⟨a, b, by rw [h]; simp [wantS]⟩
theorem stabsN (k : ByteArray) (rev : Int) : ∀ (l : List Tsubidx_Sub) (i : Nat) (y : Nat), y + l.length ≤ 1000000 → F_law11_SubidxStabs_L3 k rev l i (y : Int) = some (((y + (l.filter (wantS k rev)).length : Nat)) : Int) := by
  intro l
  induction l with
  | nil => intro i y _; rfl
  | cons t l ih =>
    intro i y h
    rw [List.length_cons] at h
    rw [F_law11_SubidxStabs_L3, refIn_eq, List.filter_cons]
    simp only [Option.bind_some]
    have hb : (if inR t.R k = true then some (true, decide (t.Rev < rev)) else some (false, false)) = some (inR t.R k, wantS k rev t) := by
      unfold wantS; cases inR t.R k <;> rfl
    rw [hb]
    simp only [Option.bind_some]
    cases hw : wantS k rev t with
    | true =>
      simp only [if_true, Option.bind_some]
      rw [wrap_id (by omega) (by omega), show (y : Int) + 1 = ((y + 1 : Nat) : Int) by omega, ih _ _ (by omega), List.length_cons]
      congr 2; omega
    | false =>
      simp only [Bool.false_eq_true, if_false, Option.bind_some]
      exact ih _ _ (by omega)
theorem stabsL (k : ByteArray) (rev : Int) (x3 : List Tsubidx_Sub × Osubidx_Index) (x4 : List Int × Osubidx_Index) (hs : x4.1.Pairwise (· < ·)) (hl : x4.1.length ≤ 1000) (hm : ∀ x ∈ x4.1, ∃ t ∈ x3.1, t.Id = x ∧ wantS k rev t = true) :
    ∀ (l : List Int) (i : Nat), x4.1.drop i = l → F_law11_SubidxStabs_L1 k rev x3 x4 l i = some (.go ()) := by
  intro l
  induction l with
  | nil => intro i _; rfl
  | cons z l ih =>
    intro i h
    have h0 : x4.1[i]? = some z := by
      have : (x4.1.drop i)[0]? = some z := by rw [h]; rfl
      rw [List.getElem?_drop] at this; exact this
    have h1 : x4.1.drop (i + 1) = l := by rw [← List.drop_drop, h]; rfl
    obtain ⟨hi, hz⟩ := List.getElem?_eq_some_iff.mp h0
    rw [F_law11_SubidxStabs_L1]
    obtain ⟨a, b, e⟩ := stabsM k rev z x3.1 0 false
    rw [e]
    obtain ⟨t, ht, e1, e2⟩ := hm z (List.mem_of_getElem? h0)
    have hany : x3.1.any (fun t => t.Id == z && wantS k rev t) = true := by
      rw [List.any_eq_true]; exact ⟨t, ht, by simp [e1, e2]⟩
    simp only [Option.bind_some, hany, Bool.or_true, Bool.not_true, Bool.false_eq_true, if_false]
    cases i with
    | zero => simp only [Option.bind_some, Int.ofNat_zero]; simp; exact ih 1 h1
    | succ i =>
      have hp : x4.1[i]? = some x4.1[i] := List.getElem?_eq_getElem (by omega)
      have hlt : x4.1[i] < z := by
        rw [List.pairwise_iff_getElem] at hs
        rw [← hz]; exact hs i (i + 1) (by omega) hi (by omega)
      rw [if_pos (by simp), wrap_id (by omega) (by omega), show ((i + 1 : Nat) : Int) - 1 = (i : Int) by omega, getI_nat, hp]
      simp only [Option.bind_some]
      rw [if_neg (by simp; omega)]
      exact ih (i + 1 + 1) h1
theorem plain_SubidxStabs (p0 : List Timpostlaw11_Deed) (p1 : ByteArray) (p2 : Int) (w0 : (∀ a ∈ p0, W_Timpostlaw11_Deed a) ∧ p0.length ≤ maxLen) (w1 : p1.size ≤ maxLen) (w2 : okI .i64 p2) : ∃ n, F_law11_SubidxStabs n p0 p1 p2 = some true := by
  refine ⟨2000, ?_⟩
  unfold F_law11_SubidxStabs
  obtain ⟨ns, h1, h2, h3⟩ := ran_eq (n := 2000) (by omega) p0
  obtain ⟨r, s1, s2, s3, s4⟩ := stab_eq (n := 2000) p1 p2 h2 (by omega) (by omega)
  rw [h1]
  simp only [Option.bind_some]
  rw [all_eq (by omega)]
  simp only [Option.bind_some]
  rw [s1]
  simp only [Option.bind_some]
  have hc := stabsN p1 p2 (ns.map (·.Sub)) 0 0 (by rw [List.length_map]; omega)
  rw [Nat.zero_add, Int.ofNat_zero] at hc
  have hle : r.length ≤ 60 := by rw [s4]; exact Nat.le_trans (List.length_filter_le _ _) (by rw [List.length_map]; exact h3)
  rw [hc]
  simp only [Option.bind_some]
  rw [stabsL p1 p2 (ns.map (·.Sub), ⟨ns⟩) (r, ⟨ns⟩) s2 (by dsimp only; omega) (fun x hx => (s3 x).mp hx) r 0 rfl]
  simp only [Option.bind_some, lpK]
  rw [s4]; simp
end Go.Proofs.Ythgcmcifhhkebaa.V
