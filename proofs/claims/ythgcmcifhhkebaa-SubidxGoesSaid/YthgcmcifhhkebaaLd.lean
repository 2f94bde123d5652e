/- The plain law of SubidxGoes.
   No condition: this is a law of plain functions. -/
import Derived.Test.YthgcmcifhhkebaaSv
namespace Go.Proofs.Ythgcmcifhhkebaa.V
open Go
set_option linter.unusedVariables false
set_option linter.unusedSimpArgs false

theorem plain_SubidxGoes (p0 : List Timpostlaw11_Deed) (p1 : Timpostref11_Sub) (p2 : ByteArray) (w0 : (∀ a ∈ p0, W_Timpostlaw11_Deed a) ∧ p0.length ≤ maxLen) (w1 : W_Timpostref11_Sub p1) (w2 : p2.size ≤ maxLen) : ∃ n, F_law11_SubidxGoes n p0 p1 p2 = some true := by
  refine ⟨2000, ?_⟩
  unfold F_law11_SubidxGoes
  obtain ⟨ns, h1, h2, h3⟩ := ran_eq (n := 2000) (by omega) p0
  obtain ⟨r, s1, s2, s3, s4⟩ := stab_eq (n := 2000) p2 9 h2 (by omega) (by omega)
  rw [h1]
  simp only [Option.bind_some]
  rw [s1]
  simp only [Option.bind_some]
  rw [all_eq (by omega)]
  simp only [Option.bind_some, made_eq]
  obtain ⟨e, ns', a1, a2, a3⟩ := add_eq (n := 2000) (mk p1) h2 (by omega) (by omega)
  rw [a1]
  simp only [Option.bind_some, refEmpty_eq]
  have hE : emptyR (mk p1).R = emptyR p1.R := rfl
  rcases a3 with ⟨b1, b2, b3⟩ | ⟨b1, b2, b3, b4⟩ | ⟨b1, b2, b3, b4, b5⟩
  · subst b2 b3
    rw [hE] at b1
    rw [b1, all_eq (by omega)]
    simp
  · subst b3 b4
    rw [hE] at b1
    rw [b1, all_eq (by omega)]
    simp
  · subst b3
    simp only [bne_self_eq_false, Bool.false_eq_true, if_false]
    obtain ⟨f, ns2, c1, c2, c3⟩ := add_eq (n := 2000) (mk p1) a2 (by omega) (by omega)
    have hin : mk p1 ∈ ns'.map (·.Sub) := (b4 _).mpr (.inl rfl)
    rcases c3 with ⟨d1, _, _⟩ | ⟨d1, d2, d3, d4⟩ | ⟨d1, d2, d3, d4, d5⟩
    · rw [b1] at d1; cases d1
    · subst d3 d4
      rw [c1]
      simp only [Option.bind_some]
      obtain ⟨g, ns3, e1, e2, e3⟩ := del_eq (n := 2000) p1.Id a2 (by omega) (by omega)
      rcases e3 with ⟨f1, _, _⟩ | ⟨f1, f2, f3, f4⟩
      · exact absurd rfl (f1 _ hin)
      · subst f2
        rw [e1]
        simp only [Option.bind_some]
        obtain ⟨g, ns4, i1, i2, i3⟩ := del_eq (n := 2000) p1.Id e2 (by omega) (by omega)
        rcases i3 with ⟨j1, j2, j3⟩ | ⟨⟨t, ht, j1⟩, _⟩
        · subst j2 j3
          rw [i1]
          have hsame : ns4.map (·.Sub) = ns.map (·.Sub) := sorted_ext bef_irr bef_asym e2.so h2.so (fun t => by
            rw [f3, b4]
            constructor
            · rintro ⟨q | q, r⟩
              · subst q; exact absurd rfl r
              · exact q
            · intro q; exact ⟨.inr q, b2 t q⟩)
          obtain ⟨r', k1, k2, k3, k4⟩ := stab_eq (n := 2000) p2 9 e2 (by omega) (by omega)
          have er : r' = r := int_ext k2 s2 (fun x => by rw [k3, s3, hsame])
          subst er
          simp only [Option.bind_some]
          rw [k1]
          simp only [Option.bind_some, ints_eq, beq_self_eq_true, cond_true, if_true]
          rw [all_eq (by omega)]
          simp only [Option.bind_some]
          rw [hsame]; simp
        · exact absurd j1 ((f3 t).mp ht).2
    · exact absurd rfl (d2 _ hin)
end Go.Proofs.Ythgcmcifhhkebaa.V
