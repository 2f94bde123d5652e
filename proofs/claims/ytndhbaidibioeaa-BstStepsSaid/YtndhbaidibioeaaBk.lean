/- The plain law of BstRuns.
   No condition: this is a law of plain functions. -/
import Derived.Test.YtndhbaidibioeaaBj
namespace Go.Proofs.Ytndhbaidibioeaa.V
open Go
set_option linter.unusedVariables false
set_option linter.unusedSimpArgs false
set_option maxRecDepth 100000

/-- What the document tells of a key, by what is there. -/
theorem do_ok {ks : List Tbst_node} {xs : List Timpostref15_Entry} (E : Ent ks xs) (hl : xs.length ≤ 1000) (c : Timpostref14_Call) (v : Int) :
    (∃ y ∈ ks, y.key = c.Key ∧ F_ref15_Do xs c v = some (if c.Kind = 1 then (xs, false, y.val) else if c.Kind = 2 then (xs.filter (fun e => !eqB e.Key c.Key), true, y.val) else (xs, true, y.val))) ∨
    ((∀ y ∈ ks, y.key ≠ c.Key) ∧ F_ref15_Do xs c v = some (if c.Kind = 1 then (xs ++ [⟨c.Key, v⟩], true, v) else (xs, false, 0))) := by
  obtain ⟨w, b, h1, h2⟩ := do_L1 c xs 0 [] 0 false (by simp; omega) E.uni
  unfold F_ref15_Do
  rw [h1]
  simp only [Option.bind_some, List.nil_append]
  rcases h2 with ⟨e, q1, q2, q3, q4⟩ | ⟨q1, q2, q3⟩
  · left
    obtain ⟨y, hy, hy1, hy2⟩ := (E.mem e).mp q1
    refine ⟨y, hy, hy1.trans q2, ?_⟩
    subst q4
    rw [q3, hy2]
    by_cases k1 : c.Kind = 1
    · simp [k1]
    · have k1' : (c.Kind == 1) = false := by rw [beq_eq_false_iff_ne]; exact k1
      by_cases k2 : c.Kind = 2
      · simp [k2]
      · have k2' : (c.Kind == 2) = false := by rw [beq_eq_false_iff_ne]; exact k2
        simp [k1, k2, k1', k2']
  · right
    have hf : xs.filter (fun e => !eqB e.Key c.Key) = xs := List.filter_eq_self.mpr (fun e he => by rw [eqB_ne.mpr (q1 e he)]; rfl)
    refine ⟨fun y hy q => q1 ⟨y.key, y.val⟩ ((E.mem _).mpr ⟨y, hy, rfl, rfl⟩) q, ?_⟩
    subst q3
    rw [hf, q2]
    by_cases k1 : c.Kind = 1
    · simp only [k1]
      rw [if_pos (by rfl), appL_ok (by simp; omega) (by omega) (by omega)]
      simp
    · have k1' : (c.Kind == 1) = false := by rw [beq_eq_false_iff_ne]; exact k1
      by_cases k2 : c.Kind = 2
      · simp [k2]
      · have k2' : (c.Kind == 2) = false := by rw [beq_eq_false_iff_ne]; exact k2
        simp [k1, k2, k1', k2']
theorem uniq_key {ks : List Tbst_node} (hs : ks.Pairwise (fun a b => lessB a.key b.key = true)) {y z : Tbst_node} (hy : y ∈ ks) (hz : z ∈ ks) (h : y.key = z.key) : y = z := by
  induction ks with
  | nil => cases hy
  | cons a ks ih =>
    rw [List.pairwise_cons] at hs
    rcases List.mem_cons.mp hy with q | q <;> rcases List.mem_cons.mp hz with w | w
    · rw [q, w]
    · subst q; have := hs.1 z w; rw [h, less_irrefl] at this; cases this
    · subst w; have := hs.1 y q; rw [h, less_irrefl] at this; cases this
    · exact ih hs.2 q w
theorem bop_ok {T : Obst_Tree} {M : Omem_Mem} {l r : BT} {ks : List Tbst_node} {j n : Nat} {xs : List Timpostref15_Entry} (I : BInv T M l r ks j) (E : Ent ks xs) (hx : xs.length ≤ j) (hj : j ≤ 300) (hn : 1000 ≤ n) (z : Timpostlaw15_Deed) :
    ∃ C2 C3 T' M' l' ks' b w xs', F_law15_begun n T M z = some (C2, T, M) ∧ F_bst_Run n T M C2 = some (⟨b, z.Key, w, 0⟩, T', M', C3) ∧ F_ref15_Do xs ⟨z.Kind, z.Key, false, 0, 0⟩ z.Val = some (xs', b, w) ∧ BInv T' M' l' r ks' (j + 1) ∧ Ent ks' xs' ∧ xs'.length ≤ j + 1 := by
  obtain ⟨x0, h0, hc⟩ := I.root
  obtain ⟨kc, ks_so⟩ := I.kkey
  have D := do_ok E (by omega) ⟨z.Kind, z.Key, false, 0, 0⟩ z.Val
  unfold F_law15_begun
  by_cases k1 : z.Kind = 1
  · rw [if_pos (by simpa using k1), beg_ins h0 hc]
    obtain ⟨T', M', l', ks', b, w, g1, g2, g3⟩ := run_ins (k := z.Key) (v := z.Val) I hj hn
    dsimp only at D
    simp only [if_pos k1] at D
    rcases g3 with ⟨y, q1, q2, rfl, rfl, rfl⟩ | ⟨q1, rfl, rfl, q4⟩
    · rcases D with ⟨y2, d1, d2, d3⟩ | ⟨d1, d2⟩
      · have := uniq_key ks_so q1 d1 (q2.trans d2.symm)
        subst this
        exact ⟨_, _, T', M', l', _, false, _, xs, rfl, g1, d3, g2, E, by omega⟩
      · exact absurd q2 (d1 y q1)
    · rcases D with ⟨y2, d1, d2, d3⟩ | ⟨d1, d2⟩
      · exact absurd d2 (q1 y2 d1)
      · refine ⟨_, _, T', M', l', ks', true, z.Val, _, rfl, g1, d2, g2, ⟨fun e => ?_, fun e he f hf hef => ?_⟩, by simp; omega⟩
        · rw [List.mem_append, List.mem_singleton, E.mem]
          constructor
          · rintro (⟨y, hy, w⟩ | w)
            · exact ⟨y, (q4 y).mpr (.inl hy), w⟩
            · exact ⟨⟨z.Key, 0, z.Val, -1⟩, (q4 _).mpr (.inr rfl), by rw [w], by rw [w]⟩
          · rintro ⟨y, hy, w1, w2⟩
            rcases (q4 y).mp hy with w | w
            · exact .inl ⟨y, w, w1, w2⟩
            · right
              rw [w] at w1 w2
              obtain ⟨e1, e2⟩ := e
              dsimp only at w1 w2
              rw [w1, w2]
        · have no : ∀ e ∈ xs, e.Key ≠ z.Key := fun e he q => by
            obtain ⟨y, hy, hy1, _⟩ := (E.mem e).mp he
            exact d1 y hy (hy1.trans q)
          rcases List.mem_append.mp he with w | w <;> rcases List.mem_append.mp hf with u | u
          · exact E.uni e w f u hef
          · rw [List.mem_singleton] at u; rw [u] at hef; exact absurd hef (no e w)
          · rw [List.mem_singleton] at w; rw [w] at hef; exact absurd hef.symm (no f u)
          · rw [List.mem_singleton] at u w; rw [u, w]
  · rw [if_neg (by simpa using k1)]
    dsimp only at D
    simp only [if_neg k1] at D
    by_cases k2 : z.Kind = 2
    · rw [if_pos (by simpa using k2), beg_del h0 hc]
      obtain ⟨T', M', l', ks', b, w, g1, g2, g3⟩ := run_del (k := z.Key) I hj hn
      simp only [if_pos k2] at D
      rcases g3 with ⟨y, q1, q2, rfl, rfl, q4⟩ | ⟨q1, rfl, rfl, rfl⟩
      · rcases D with ⟨y2, d1, d2, d3⟩ | ⟨d1, d2⟩
        · have := uniq_key ks_so q1 d1 (q2.trans d2.symm)
          subst this
          have fl := List.length_filter_le (fun e : Timpostref15_Entry => !eqB e.Key z.Key) xs
          refine ⟨_, _, T', M', l', ks', true, _, _, rfl, g1, d3, g2, ⟨fun e => ?_, fun e he f hf hef => E.uni e (List.mem_filter.mp he).1 f (List.mem_filter.mp hf).1 hef⟩, by omega⟩
          rw [List.mem_filter, E.mem]
          constructor
          · rintro ⟨⟨y3, hy, w1, w2⟩, w3⟩
            refine ⟨y3, (q4 y3).mpr ⟨hy, fun q => ?_⟩, w1, w2⟩
            have w3 : eqB e.Key z.Key = false := by simpa using w3
            exact eqB_ne.mp w3 (by rw [← w1, q, q2])
          · rintro ⟨y3, hy, w1, w2⟩
            obtain ⟨w3, w4⟩ := (q4 y3).mp hy
            refine ⟨⟨y3, w3, w1, w2⟩, ?_⟩
            have : eqB e.Key z.Key = false := eqB_ne.mpr (fun q => w4 (uniq_key ks_so w3 q1 (by rw [w1, q, q2])))
            simp [this]
        · exact absurd q2 (d1 y q1)
      · rcases D with ⟨y2, d1, d2, d3⟩ | ⟨d1, d2⟩
        · exact absurd d2 (q1 y2 d1)
        · exact ⟨_, _, T', M', l', _, false, 0, xs, rfl, g1, d2, g2, E, by omega⟩
    · rw [if_neg (by simpa using k2), beg_find h0 hc]
      obtain ⟨T', M', b, w, g1, rfl, g2, g3⟩ := run_find (k := z.Key) I hj hn
      simp only [if_neg k2] at D
      rcases g3 with ⟨y, q1, q2, rfl, rfl⟩ | ⟨q1, rfl, rfl⟩
      · rcases D with ⟨y2, d1, d2, d3⟩ | ⟨d1, d2⟩
        · have := uniq_key ks_so q1 d1 (q2.trans d2.symm)
          subst this
          exact ⟨_, _, T', M', l, ks, true, _, xs, rfl, g1, d3, (I.cells g2).mono (by omega), E, by omega⟩
        · exact absurd q2 (d1 y q1)
      · rcases D with ⟨y2, d1, d2, d3⟩ | ⟨d1, d2⟩
        · exact absurd d2 (q1 y2 d1)
        · exact ⟨_, _, T', M', l, ks, false, 0, xs, rfl, g1, d2, (I.cells g2).mono (by omega), E, by omega⟩
end Go.Proofs.Ytndhbaidibioeaa.V
