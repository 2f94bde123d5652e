/- Works of an index, step by step, to their ends.
   No condition: these are laws of plain functions. -/
import Derived.Test.YtndhbaidibioeaaGreatNa
namespace Go.Proofs.YtndhbaidibioeaaGreat.V
open Go
set_option linter.unusedVariables false
set_option linter.unusedSimpArgs false
set_option maxRecDepth 100000

abbrev Rsi := (Option Cli) × Obst_Tree × Omem_Mem × Ochain_Store × Oindex_Work
theorem rbi (o : Option Rsi) : (o.bind fun x => some (x.1, x.2.1, x.2.2.1, x.2.2.2.1, x.2.2.2.2)) = o := by cases o <;> rfl
abbrev Cfi := Obst_Tree × Omem_Mem × Ochain_Store × Oindex_Work × Option Cli
inductive Ri (n : Nat) : Nat → Obst_Tree → Omem_Mem → Ochain_Store → Oindex_Work → Option Cli → Cfi → Prop
  | refl {T : Obst_Tree} {M : Omem_Mem} {S : Ochain_Store} {W : Oindex_Work} {o : Option Cli} : Ri n 0 T M S W o (T, M, S, W, o)
  | step {k : Nat} {T T2 : Obst_Tree} {M M2 : Omem_Mem} {S S2 : Ochain_Store} {W W2 : Oindex_Work} {x : Cli} {o : Option Cli} {f : Cfi} (h : F_istep n T M S W x .u = some (o, T2, M2, S2, W2)) (r : Ri n k T2 M2 S2 W2 o f) : Ri n (k + 1) T M S W (some x) f
/-- What comes of a result, at most so many steps later. -/
def Oi (n : Nat) (r : Option Rsi) (b : Nat) (P : Cfi → Prop) : Prop := ∃ o T M S W k f, r = some (o, T, M, S, W) ∧ k ≤ b ∧ Ri n k T M S W o f ∧ P f
theorem Oi.done {n b : Nat} {o : Option Cli} {T : Obst_Tree} {M : Omem_Mem} {S : Ochain_Store} {W : Oindex_Work} {P : Cfi → Prop} (h : P (T, M, S, W, o)) : Oi n (some (o, T, M, S, W)) b P := ⟨o, T, M, S, W, 0, _, rfl, Nat.zero_le _, .refl, h⟩
theorem Oi.step {n b : Nat} {x : Cli} {T : Obst_Tree} {M : Omem_Mem} {S : Ochain_Store} {W : Oindex_Work} {P : Cfi → Prop} {r : Option Rsi} (e : F_istep n T M S W x .u = r) (h : Oi n r b P) : Oi n (some (some x, T, M, S, W)) (b + 1) P := by
  obtain ⟨o, T2, M2, S2, W2, k, f, h1, h2, h3, h4⟩ := h
  exact ⟨some x, T, M, S, W, k + 1, f, rfl, by omega, .step (e.trans h1) h3, h4⟩
theorem Oi.le {n b c : Nat} {P : Cfi → Prop} {r : Option Rsi} (h : Oi n r b P) (hb : b ≤ c) : Oi n r c P := by
  obtain ⟨o, T2, M2, S2, W2, k, f, h1, h2, h3, h4⟩ := h
  exact ⟨o, T2, M2, S2, W2, k, f, h1, by omega, h3, h4⟩

/-! ### A call of the tree, step by step -/
abbrev call (C : Obst_Call) (o : Option Clo) : Obst_Call_2 := ⟨C.told_Ok, C.told_Key, C.told_Val, C.told_Err, o⟩
theorem after_run {n b : Nat} {S : Ochain_Store} {W : Oindex_Work} {th : Cli} {P : Cfi → Prop} {T' : Obst_Tree} {M' : Omem_Mem} {C' : Obst_Call} :
    ∀ (k : Nat) (T : Obst_Tree) (M : Omem_Mem) (C : Obst_Call) (x : Clo), Rs n k T M C (some x) (T', M', C', none) →
      Oi (n + 1) (F_istep n T' M' S W (.w146 (call C' none) th) .u) b P → Oi (n + 1) (some (some (.c_after_1 (call C (some x)) th), T, M, S, W)) (b + k) P
  | 0, _, _, _, _, h, _ => by cases h
  | k + 1, T, M, C, x, h, H => by
    cases h with
    | @step _ _ T2 _ M2 _ C2 _ o _ h r =>
      have e : F_istep (n + 1) T M S W (.c_after_1 (call C (some x)) th) .u = F_index_after_1 n (F_istep n) T M S W (call C (some x)) th := rfl
      unfold F_index_after_1 at e
      rw [step_some h] at e
      simp only [Option.bind_some] at e
      cases o with
      | none =>
        cases r
        rw [if_pos (by rfl), rbi] at e
        exact (Oi.step e H).le (by omega)
      | some y =>
        rw [if_neg (by simp)] at e
        exact (Oi.step e (after_run k T2 M2 C2 y r H)).le (by omega)

/-! ### Runs -/
theorem istep_some {n : Nat} {T T2 : Obst_Tree} {M M2 : Omem_Mem} {S S2 : Ochain_Store} {W W2 : Oindex_Work} {x : Cli} {o : Option Cli} (h : F_istep n T M S W x .u = some (o, T2, M2, S2, W2)) :
    F_index_Work_Step n T M S ⟨some x, W.cell, W.bad, W.found⟩ = some (o.isNone, T2, M2, S2, ⟨o, W2.cell, W2.bad, W2.found⟩) := by
  unfold F_index_Work_Step
  rw [if_neg (by simp)]
  simp only [Option.bind_some]
  rw [h]
  rfl
theorem irunL {n : Nat} {f : Cfi} (hf : f.2.2.2.2 = none) : ∀ (k m : Nat) (T : Obst_Tree) (M : Omem_Mem) (S : Ochain_Store) (W : Oindex_Work) (o : Option Cli), Ri n k T M S W o f → k < m →
    F_index_Run_L1 n m (T, M, S) ⟨o, W.cell, W.bad, W.found⟩ = some ((f.1, f.2.1, f.2.2.1), ⟨none, f.2.2.2.1.cell, f.2.2.2.1.bad, f.2.2.2.1.found⟩)
  | k, 0, _, _, _, _, _, _, hm => by omega
  | 0, m + 1, T, M, S, W, o, h, hm => by
    cases h
    have hf : o = none := hf
    subst hf
    rw [F_index_Run_L1]
    rfl
  | k + 1, m + 1, T, M, S, W, _, h, hm => by
    cases h with
    | @step _ _ T2 _ M2 _ S2 _ W2 _ o _ h r =>
      rw [F_index_Run_L1]
      dsimp only
      rw [istep_some h]
      simp only [Option.bind_some]
      cases o with
      | none =>
        cases r
        rfl
      | some y =>
        rw [if_pos (by rfl)]
        exact irunL hf k m T2 M2 S2 W2 (some y) r (by omega)
theorem irun {n b : Nat} {P : Cfi → Prop} {T : Obst_Tree} {M : Omem_Mem} {S : Ochain_Store} {W : Oindex_Work} {o : Option Cli} (h : Oi n (some (o, T, M, S, W)) b P) (hb : b < n) (hP : ∀ f, P f → f.2.2.2.2 = none) :
    ∃ f, P f ∧ F_index_Run n T M S ⟨o, W.cell, W.bad, W.found⟩ = some (f.1, f.2.1, f.2.2.1, ⟨none, f.2.2.2.1.cell, f.2.2.2.1.bad, f.2.2.2.1.found⟩) := by
  obtain ⟨o', T', M', S', W', k, f, h1, h2, h3, h4⟩ := h
  cases h1
  refine ⟨f, h4, ?_⟩
  unfold F_index_Run
  rw [irunL (hP f h4) k n T M S W o h3 (by omega)]
  rfl

/-! ### What the tree's calls do -/
section
variable {T : Obst_Tree} {M : Omem_Mem} {l r : BT} {ks : List Tbst_node} {j n : Nat} {k : ByteArray} {v : Int}
theorem find_rs (I : BInv T M l r ks j) (hj : j ≤ 1000) (hn : 2 ≤ n) : ∃ c M' b w, c ≤ 2 * (j + 1) ∧ Rs n c T M ⟨false, k, 0, 0⟩ (some (.c_down_1 ⟨0, 0, 0, 0, 0, -1⟩ ⟨k, 0, 0, 0⟩ (.c_Find_1_1 ⟨k, 0, 0, 0⟩))) (T, M', ⟨b, k, w, 0⟩, none) ∧ M'.cells = M.cells ∧
    ((∃ y ∈ ks, y.key = k ∧ b = true ∧ w = y.val) ∨ ((∀ y ∈ ks, y.key ≠ k) ∧ b = false ∧ w = 0)) := by
  obtain ⟨m, rfl⟩ : ∃ m, n = m + 2 := ⟨n - 2, by omega⟩
  obtain ⟨x0, h0, hc⟩ := I.root
  have H := find_op (n := m) (C := ⟨false, k, 0, 0⟩) (k := ⟨k, 0, 0, 0⟩) I (by omega) rfl
  rw [dn0 h0 hc] at H
  obtain ⟨o, T1, M1, C1, c, f, h1, h2, h3, M2, b, w, h4, h5, h6⟩ := H
  cases h1
  rw [h5] at h3
  exact ⟨c, M2, b, w, h2, h3, h4, h6⟩
theorem ins_rs (I : BInv T M l r ks j) (hj : j ≤ 1000) (hn : 3 ≤ n) : ∃ c T' M' l' ks' b w, c ≤ 2 * (j + 1) + 6 ∧ Rs n c T M ⟨false, k, 0, 0⟩ (some (.c_down_1 ⟨0, 0, 0, 0, 0, -1⟩ ⟨k, 0, v, 0⟩ (.c_insert_2 ⟨k, 0, v, 0⟩ (.c_insert_1 ⟨k, 0, v, 0⟩)))) (T', M', ⟨b, k, w, 0⟩, none) ∧ BInv T' M' l' r ks' (j + 1) ∧
    ((∃ y ∈ ks, y.key = k ∧ b = false ∧ w = y.val ∧ ks' = ks ∧ T' = T ∧ l' = l ∧ M'.cells = M.cells) ∨ ((∀ y ∈ ks, y.key ≠ k) ∧ b = true ∧ w = v ∧ (∀ y, y ∈ ks' ↔ y ∈ ks ∨ y = ⟨k, 0, v, -1⟩) ∧ NExt T.nodes T'.nodes ∧ Grew T.nodes T'.nodes ⟨k, 0, v, 0⟩ l l' ∧ Aside T T' M M')) := by
  obtain ⟨m, rfl⟩ : ∃ m, n = m + 3 := ⟨n - 3, by omega⟩
  obtain ⟨x0, h0, hc⟩ := I.root
  have H := ins_op (n := m) (C := ⟨false, k, 0, 0⟩) (k := ⟨k, 0, v, 0⟩) (th := .c_insert_1 ⟨k, 0, v, 0⟩) I (by omega) rfl
  rw [dn0 h0 hc] at H
  obtain ⟨o, T1, M1, C1, c, f, h1, h2, h3, h4⟩ := H
  cases h1
  rcases h4 with ⟨M2, y, q1, q2, q3, q4⟩ | ⟨q1, T2, M2, l2, ks2, q2, q3, q4, q5⟩
  · rw [q4] at h3
    exact ⟨c, T, M2, l, ks, false, y.val, h2, h3, (I.cells q1).mono (by omega), .inl ⟨y, q2, q3, rfl, rfl, rfl, rfl, rfl, q1⟩⟩
  · rw [q5] at h3
    exact ⟨c, T2, M2, l2, ks2, true, v, h2, h3, q2, .inr ⟨q1, rfl, rfl, q4, q3.1, q3.2.1, q3.2.2⟩⟩
/-- Seek: the first key that is not below, if any is there. -/
theorem seek_rs (I : BInv T M l r ks j) (hj : j ≤ 1000) (hn : 2 ≤ n) : ∃ c M' C', c ≤ 3 * (j + 1) + 4 ∧ Rs n c T M ⟨false, k, 0, 0⟩ (some (.c_down_1 ⟨0, 0, 0, 0, 0, -1⟩ ⟨k, 0, 0, 0⟩ (.c_Seek_1_1 ⟨k, 0, 0, 0⟩))) (T, M', C', none) ∧ M'.cells = M.cells ∧
    ((∃ y ∈ ks, C'.told_Ok = true ∧ C'.told_Key = y.key ∧ C'.told_Val = y.val ∧ lessB y.key k = false ∧ ∀ z ∈ ks, lessB z.key k = false → leB y.key z.key = true) ∨ (C'.told_Ok = false ∧ ∀ z ∈ ks, lessB z.key k = true)) := by
  obtain ⟨m, rfl⟩ : ∃ m, n = m + 2 := ⟨n - 2, by omega⟩
  have h : Sk T.nodes (.nd 0 l r) ks (ks.map (·.key)) k ⟨false, k, 0, 0⟩ (some (.c_down_1 ⟨0, 0, 0, 0, 0, -1⟩ ⟨k, 0, 0, 0⟩ (.c_Seek_1_1 ⟨k, 0, 0, 0⟩))) (2 * (l.inn + r.inn) + (BT.nd 0 l r).inn + 4) := .word .here rfl rfl
  have bi := I.bi
  obtain ⟨c, M', C', h1, h2, h3, h4⟩ := sk_Rs (n := m) I hj (fun w hw => by obtain ⟨y, hy, e⟩ := List.mem_map.mp hw; exact ⟨y, hy, e⟩) _ M _ _ rfl h
  simp only [BT.inn] at h2 bi
  refine ⟨c, M', C', by omega, h1, h3, ?_⟩
  cases h4 with
  | @found y hx ho hk hv g1 g2 => exact .inl ⟨y, hx, ho, hk, hv, g1, fun z hz hzk => g2 _ (List.mem_map_of_mem hz) hzk⟩
  | none ho g => exact .inr ⟨ho, fun z hz => g _ (List.mem_map_of_mem hz)⟩
end
end Go.Proofs.YtndhbaidibioeaaGreat.V
