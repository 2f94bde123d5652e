/- The plain law of SubidxPlays.
   No condition: this is a law of plain functions. -/
import Derived.Test.YthgcmcifhhkebaaSv
namespace Go.Proofs.Ythgcmcifhhkebaa.V
open Go
set_option linter.unusedVariables false
set_option linter.unusedSimpArgs false

theorem playsM (x9 : List Tsubidx_Sub × Osubidx_Index) : ∀ (l : List Timpostref11_Sub) (i : Nat), x9.1.drop i = l.map mk → ∃ u, F_law11_SubidxPlays_L2 x9 l i = some (.go u) := by
  intro l
  induction l with
  | nil => intro i _; exact ⟨_, rfl⟩
  | cons z l ih =>
    intro i h
    have h0 : x9.1[i]? = some (mk z) := by
      have : (x9.1.drop i)[0]? = some (mk z) := by rw [h]; rfl
      rw [List.getElem?_drop] at this; exact this
    have h1 : x9.1.drop (i + 1) = l.map mk := by rw [← List.drop_drop, h]; rfl
    rw [F_law11_SubidxPlays_L2, getI_nat, h0]
    simp only [Option.bind_some, made_eq, eqSub_self, Bool.not_true, Bool.false_eq_true, if_false]
    exact ih (i + 1) h1
theorem playsL {n : Nat} (hn : 1001 < n) (k : ByteArray) (rev : Int) : ∀ (l : List Timpostlaw11_Deed) (i : Nat) (w : List Timpostref11_Sub) (ns : List Tsubidx_node), Inx ns → ns.map (·.Sub) = w.map mk → ns.length ≤ i → i ≤ 60 →
    ∃ u, F_law11_SubidxPlays_L1 n k rev l i w ns = some (.go u) := by
  intro l
  induction l with
  | nil => intro i w ns hv _ h1 h2; exact ⟨_, rfl⟩
  | cons d l ih =>
    intro i w ns hv hr h1 h2
    rw [F_law11_SubidxPlays_L1]
    split
    · rename_i q
      have q : (i : Int) < 60 := by simpa using q
      obtain ⟨w', ns', g1, g2, g3, g4⟩ := do_eq (n := n) d hv hr (by omega) hn
      have hlw : w'.length = ns'.length := by have := congrArg List.length g3; rw [List.length_map, List.length_map] at this; exact this.symm
      obtain ⟨r, s1, s2, s3, _⟩ := stab_eq (n := n) k rev g2 (by omega) hn
      obtain ⟨r', t1, t2, t3⟩ := rstab_eq (w := w') k rev (by rw [← g3]; exact g2.di) (by omega)
      have e : r = r' := int_ext s2 t2 (fun x => by rw [s3, t3, g3])
      subst e
      rw [g1]
      simp only [Option.bind_some]
      rw [all_eq (by omega)]
      simp only [Option.bind_some, Bool.not_true, cond_false, List.length_map, lenB]
      rw [if_neg (by simp [hlw]), s1, t1]
      simp only [Option.bind_some, ints_eq, Bool.not_true, Bool.false_eq_true, if_false]
      obtain ⟨u, hu⟩ := playsM (ns'.map (·.Sub), ⟨ns'⟩) w' 0 (by rw [List.drop_zero]; exact g3)
      rw [hu]
      simp only [Option.bind_some, lpK2]
      exact ih (i + 1) w' ns' g2 g3 (by omega) (by omega)
    · exact ⟨_, rfl⟩
theorem plain_SubidxPlays (p0 : List Timpostlaw11_Deed) (p1 : ByteArray) (p2 : Int) (w0 : (∀ a ∈ p0, W_Timpostlaw11_Deed a) ∧ p0.length ≤ maxLen) (w1 : p1.size ≤ maxLen) (w2 : okI .i64 p2) : ∃ n, F_law11_SubidxPlays n p0 p1 p2 = some true := by
  refine ⟨2000, ?_⟩
  unfold F_law11_SubidxPlays F_subidx_New
  simp only [Option.bind_some]
  obtain ⟨u, hu⟩ := playsL (n := 2000) (by omega) p1 p2 p0 0 [] [] Inx.nil rfl (by simp) (by omega)
  rw [hu]; rfl
end Go.Proofs.Ythgcmcifhhkebaa.V
