/- The plain law of SubidxMore.
   No condition: this is a law of plain functions. -/
import Derived.Test.YthgcmcifhhkebaaSv
namespace Go.Proofs.Ythgcmcifhhkebaa.V
open Go
set_option linter.unusedVariables false
set_option linter.unusedSimpArgs false

theorem moreL (p1 : Timpostref11_Sub) : ∀ (l : List Int) (i : Nat) (out : List Int) (own : Bool), out.length + l.length ≤ 1000000 →
    F_law11_SubidxMore_L1 p1 l i out own = some (out ++ l.filter (fun x => x != p1.Id), own || l.any (fun x => x == p1.Id)) := by
  intro l
  induction l with
  | nil => intro i out own _; simp [F_law11_SubidxMore_L1]
  | cons z l ih =>
    intro i out own h
    rw [List.length_cons] at h
    rw [F_law11_SubidxMore_L1, List.filter_cons, List.any_cons]
    cases hz : (z == p1.Id) with
    | true =>
      simp only [if_true, Option.bind_some]
      rw [ih _ _ _ (by omega)]
      have : (z != p1.Id) = false := by rw [bne, hz]; rfl
      rw [this]; simp
    | false =>
      simp only [Bool.false_eq_true, if_false]
      rw [appL_ok (by simp; omega) (by omega) (by omega)]
      simp only [Option.bind_some]
      rw [ih _ _ _ (by simp; omega)]
      have : (z != p1.Id) = true := by rw [bne, hz]; rfl
      rw [this]; simp
theorem plain_SubidxMore (p0 : List Timpostlaw11_Deed) (p1 : Timpostref11_Sub) (p2 : ByteArray) (w0 : (∀ a ∈ p0, W_Timpostlaw11_Deed a) ∧ p0.length ≤ maxLen) (w1 : W_Timpostref11_Sub p1) (w2 : p2.size ≤ maxLen) : ∃ n, F_law11_SubidxMore n p0 p1 p2 = some true := by
  refine ⟨2000, ?_⟩
  unfold F_law11_SubidxMore
  obtain ⟨ns, h1, h2, h3⟩ := ran_eq (n := 2000) (by omega) p0
  obtain ⟨r, s1, s2, s3, s4⟩ := stab_eq (n := 2000) p2 9 h2 (by omega) (by omega)
  rw [h1]
  simp only [Option.bind_some]
  rw [s1]
  simp only [Option.bind_some, made_eq]
  obtain ⟨e, ns', a1, a2, a3⟩ := add_eq (n := 2000) (mk p1) h2 (by omega) (by omega)
  rw [a1]
  simp only [Option.bind_some, refIn_eq]
  rcases a3 with ⟨b1, b2, b3⟩ | ⟨b1, b2, b3, b4⟩ | ⟨b1, b2, b3, b4, b5⟩
  · subst b2; rfl
  · subst b3; rfl
  · subst b3
    simp only [bne_self_eq_false, Bool.false_eq_true, if_false]
    obtain ⟨r', k1, k2, k3, k4⟩ := stab_eq (n := 2000) p2 9 a2 (by omega) (by omega)
    have hle : r'.length ≤ 61 := by rw [k4]; exact Nat.le_trans (List.length_filter_le _ _) (by rw [List.length_map]; omega)
    rw [k1]
    simp only [Option.bind_some]
    rw [moreL p1 r' 0 [] false (by simp; omega)]
    have er : r'.filter (fun x => x != p1.Id) = r := by
      refine int_ext (k2.filter _) s2 (fun x => ?_)
      rw [List.mem_filter, k3, s3]
      constructor
      · rintro ⟨⟨t, ht, e, hw⟩, hx⟩
        rcases (b4 t).mp ht with q | q
        · subst q; exact absurd e (by have : x ≠ p1.Id := by simpa using hx
                                      exact fun e => this e.symm)
        · exact ⟨t, q, e, hw⟩
      · rintro ⟨t, ht, e, hw⟩
        exact ⟨⟨t, (b4 t).mpr (.inr ht), e, hw⟩, by have : t.Id ≠ p1.Id := b2 t ht
                                                    rw [← e]; simpa using this⟩
    have eo : r'.any (fun x => x == p1.Id) = wantS p2 9 (mk p1) := by
      rw [Bool.eq_iff_iff, List.any_eq_true]
      constructor
      · rintro ⟨x, hx, e⟩
        have e : x = p1.Id := by simpa using e
        obtain ⟨t, ht, e2, hw⟩ := (k3 x).mp hx
        rcases (b4 t).mp ht with q | q
        · subst q; exact hw
        · exact absurd (e2.trans e) (b2 t q)
      · intro hw
        exact ⟨p1.Id, (k3 _).mpr ⟨mk p1, (b4 _).mpr (.inl rfl), rfl, hw⟩, by simp⟩
    simp only [Option.bind_some, List.nil_append, Bool.false_or, er, eo, ints_eq, if_true]
    unfold wantS mk
    cases inR p1.R p2 <;> simp
end Go.Proofs.Ythgcmcifhhkebaa.V
