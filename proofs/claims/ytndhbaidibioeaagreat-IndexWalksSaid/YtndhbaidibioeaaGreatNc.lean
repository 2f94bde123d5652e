/- An index, its works one behind the other.
   No condition: these are laws of plain functions. -/
import Derived.Test.YtndhbaidibioeaaGreatNb
namespace Go.Proofs.YtndhbaidibioeaaGreat.V
open Go
set_option linter.unusedVariables false
set_option linter.unusedSimpArgs false
set_option maxRecDepth 100000

/-- A key's events, the last one first. -/
def hist (es : List TEvent) (k : ByteArray) : List TEvent := (es.filter (fun e => eqB e.Key k)).reverse
theorem hist_app (es : List TEvent) (e : TEvent) (k : ByteArray) : hist (es ++ [e]) k = if e.Key = k then e :: hist es k else hist es k := by
  unfold hist
  rw [List.filter_append, List.reverse_append]
  by_cases h : e.Key = k
  · rw [if_pos h]; simp [h]
  · rw [if_neg h]; simp [eqB_ne.mpr h]
theorem hist_nil {es : List TEvent} {k : ByteArray} (h : ∀ e ∈ es, e.Key ≠ k) : hist es k = [] := by
  unfold hist
  rw [List.filter_eq_nil_iff.mpr (fun e he => by rw [eqB_ne.mpr (h e he)]; simp)]
  rfl
theorem hist_len (es : List TEvent) (k : ByteArray) : (hist es k).length ≤ es.length := by
  unfold hist; rw [List.length_reverse]; exact List.length_filter_le _ _
/-- An index in which every key has its chain. -/
structure XI (T : Obst_Tree) (M : Omem_Mem) (S : Ochain_Store) (l r : BT) (ks : List Tbst_node) (j : Nat) (es : List TEvent) : Prop where
  inv : BInv T M l r ks j
  cell : ∀ y ∈ ks, ∃ a id : Nat, y.val = (a : Int) ∧ a < M.cells.length ∧ Free T.nodes a ∧ M.cells[a]? = some (id : Int) ∧ Chn S.all id (hist es y.key)
  inj : ∀ y ∈ ks, ∀ z ∈ ks, y.val = z.val → y.key = z.key
  all : ∀ e ∈ es, ∃ y ∈ ks, y.key = e.Key
  slen : S.all.length ≤ es.length
section
variable {T : Obst_Tree} {M : Omem_Mem} {S : Ochain_Store} {l r : BT} {ks : List Tbst_node} {j n b : Nat} {es : List TEvent} {k : ByteArray} {W : Oindex_Work} {P : Cfi → Prop}
theorem XI.cells {M' : Omem_Mem} (X : XI T M S l r ks j es) (h : M'.cells = M.cells) : XI T M' S l r ks j es :=
  ⟨X.inv.cells h, by rw [h]; exact X.cell, X.inj, X.all, X.slen⟩
theorem XI.mono {j' : Nat} (X : XI T M S l r ks j es) (h : j ≤ j') : XI T M S l r ks j' es := ⟨X.inv.mono h, X.cell, X.inj, X.all, X.slen⟩
theorem nth_app {α : Type} {l : List α} {a : Nat} {v : α} {m : List α} (h : l[a]? = some v) : (l ++ m)[a]? = some v := by
  rw [List.getElem?_append_left (List.getElem?_eq_some_iff.mp h).1]; exact h
theorem BInv.more (I : BInv T M l r ks j) (c : Int) : BInv T ⟨M.cells ++ [0], c⟩ l r ks (j + 1) := by
  obtain ⟨a1, a2, a3, a4, a5, a6, a7, a8, b1, b2, b3, bi⟩ := I
  refine ⟨a1.frame (fun _ _ h => h) (fun _ _ _ _ _ _ _ _ _ h => nth_app h), a2, a3, ⟨a4.apart, fun i x c' h1 h2 => ?_⟩, a5, a6, a7, a8, by omega, by omega, ?_, by omega⟩
  · have := a4.room i x c' h1 h2
    simp only [List.length_append, List.length_singleton]; omega
  · simp only [List.length_append, List.length_singleton]; omega
theorem XI.more (X : XI T M S l r ks j es) (c : Int) : XI T ⟨M.cells ++ [0], c⟩ S l r ks (j + 1) es := by
  refine ⟨X.inv.more c, fun y hy => ?_, X.inj, X.all, X.slen⟩
  obtain ⟨a, id, h1, h2, h3, h4, h5⟩ := X.cell y hy
  exact ⟨a, id, h1, by simp only [List.length_append, List.length_singleton]; omega, h3, nth_app h4, h5⟩
theorem BInv.set (I : BInv T M l r ks j) {a : Nat} {v c : Int} (hf : Free T.nodes a) : BInv T ⟨M.cells.set a v, c⟩ l r ks j := by
  obtain ⟨a1, a2, a3, a4, a5, a6, a7, a8, b1, b2, b3, bi⟩ := I
  refine ⟨a1.frame (fun _ _ h => h) (fun i _ x c' h1 h2 q v' hq h => ?_), a2, a3, ⟨a4.apart, fun i x c' h1 h2 => ?_⟩, a5, a6, a7, a8, b1, b2, by simpa using b3, bi⟩
  · rw [gs_ne]
    · exact h
    · have := hf i x c' h1 h2; omega
  · have := a4.room i x c' h1 h2
    simpa using this
theorem wrap_cell {a : Nat} (h : a < 1000000) : IntKind.i64.wrap (a : Int) = (a : Int) ∧ IntKind.u64.wrap (a : Int) = (a : Int) := ⟨wrap_n (by omega), wrapu_n (by omega)⟩
theorem ans_eq (C : Obst_Call) : F_bst_Call_Answer T M (call C none) = some (⟨C.told_Ok, C.told_Key, C.told_Val, C.told_Err⟩, true, T, M, call C none) := rfl
/-- A key ensured, and what then follows. -/
theorem ens_ok {th : Cli} (X : XI T M S l r ks j es) (hj : j ≤ 300) (hn : 10 ≤ n)
    (H : ∀ (T' : Obst_Tree) (M' : Omem_Mem) (l' : BT) (ks' : List Tbst_node) (a : Nat), XI T' M' S l' r ks' (j + 2) es → (∃ y ∈ ks', y.key = k ∧ y.val = (a : Int)) → a < 1000000 →
      (∀ y ∈ ks, y ∈ ks') → (∀ y ∈ ks', y ∈ ks ∨ y.key = k) → Oi (n + 3) (F_istep (n + 1) T' M' S ⟨a, W.bad, W.found⟩ th .u) b P) (rc : RCi) (q : Nat) :
    Oi (n + 3) (F_index_Work_ensure q rc T M S W k th) (b + 3000) P := by
  obtain ⟨x0, h0, hc⟩ := X.inv.root
  have b3 := X.inv.b3
  unfold F_index_Work_ensure F_index_after_
  rw [beg_find h0 hc]
  simp only [Option.bind_some]
  obtain ⟨c, M1, ok, w, c1, c2, c3, c4⟩ := find_rs (n := n + 2) (k := k) X.inv (by omega) (by omega)
  refine (after_run (n := n + 2) (b := b + 1000) c T M _ _ c2 ?_).le (by omega)
  have e : F_istep (n + 2) T M1 S W (.w146 (call ⟨ok, k, w, 0⟩ none) (.c_Work_ensure_1 th k)) .u = F_index_Work_ensure_1 (n + 1) (F_istep (n + 1)) T M1 S W (call ⟨ok, k, w, 0⟩ none) th k := rfl
  rw [e]
  unfold F_index_Work_ensure_1
  rw [ans_eq]
  simp only [Option.bind_some]
  have X1 := X.cells c3
  rcases c4 with ⟨y, hy, h1, h2, h3⟩ | ⟨h1, h2, h3⟩
  · obtain ⟨a, id, g1, g2, g3, g4, g5⟩ := X.cell y hy
    rw [if_pos h2, rbi, h3, g1, (wrap_cell (by omega)).1]
    exact (H T M1 l ks a (X1.mono (by omega)) ⟨y, hy, h1, g1⟩ (by omega) (fun _ h => h) (fun _ h => .inl h)).le (by omega)
  · rw [if_neg (by rw [h2]; simp), ccell_ok (by rw [c3]; omega)]
    simp only [Option.bind_some]
    rw [if_neg (by simp), beg_ins h0 hc]
    simp only [Option.bind_some]
    unfold F_index_after_
    simp only [Option.bind_some]
    have hm : M1.cells.length < 1000000 := by rw [c3]; omega
    rw [(wrap_cell hm).2]
    have X2 := X1.more M1.count
    obtain ⟨c', T', M2, l', ks', ok', w', d1, d2, d3, d4⟩ := ins_rs (n := n + 2) (k := k) (v := (M1.cells.length : Int)) X2.inv (by omega) (by omega)
    refine (after_run (n := n + 2) (b := b) c' T _ _ _ d2 ?_).le (by omega)
    have e : F_istep (n + 2) T' M2 S W (.w146 (call ⟨ok', k, w', 0⟩ none) (.c_Work_ensure_1_1 th)) .u = F_index_Work_ensure_1_1 (F_istep (n + 1)) T' M2 S W (call ⟨ok', k, w', 0⟩ none) th := rfl
    rw [e]
    unfold F_index_Work_ensure_1_1
    rw [ans_eq]
    simp only [Option.bind_some]
    rw [if_neg (by simp), rbi]
    rcases d4 with ⟨y, q1, q2, _⟩ | ⟨q1, q2, q3, q4, q5, q6, q7⟩
    · exact absurd q2 (h1 y q1)
    · rw [q3, (wrap_cell hm).1]
      have hfree : Free T.nodes M1.cells.length := fun i x c hx hc => by
        have := X1.inv.dis.room i x c hx hc; omega
      obtain ⟨f1, f2⟩ := q7 M1.cells.length (by simp) hfree
      have hnew : hist es k = [] := hist_nil (fun ev hev hk => by
        obtain ⟨y, hy, hyk⟩ := X.all ev hev
        exact h1 y hy (hyk.trans hk))
      have f3 : M2.cells[M1.cells.length]? = some ((0 : Nat) : Int) := by rw [f2]; simp
      refine H T' M2 l' ks' M1.cells.length ⟨d3, fun y hy => ?_, fun y hy z hz hv => ?_, fun ev hev => ?_, X.slen⟩ ⟨⟨k, 0, M1.cells.length, -1⟩, (q4 _).mpr (.inr rfl), rfl, rfl⟩ (by omega) (fun y hy => (q4 y).mpr (.inl hy)) (fun y hy => ((q4 y).mp hy).imp id (fun w => by rw [w]))
      · rcases (q4 y).mp hy with w | w
        · obtain ⟨a, id, g1, g2, g3, g4, g5⟩ := X2.cell y w
          obtain ⟨u1, u2⟩ := q7 a g2 g3
          rw [g4] at u2
          exact ⟨a, id, g1, (List.getElem?_eq_some_iff.mp u2).1, u1, u2, g5⟩
        · rw [w]
          exact ⟨M1.cells.length, 0, rfl, (List.getElem?_eq_some_iff.mp f3).1, f1, f3, by rw [hnew]; rfl⟩
      · have new : ∀ y ∈ ks, y.val ≠ (M1.cells.length : Int) := fun y hy hv => by
          obtain ⟨a, id, g1, g2, _⟩ := X1.cell y hy
          rw [g1] at hv; omega
        rcases (q4 y).mp hy with w | w <;> rcases (q4 z).mp hz with u | u
        · exact X.inj y w z u hv
        · rw [u] at hv; exact absurd hv (new y w)
        · rw [w] at hv; exact absurd hv.symm (new z u)
        · rw [w, u]
      · obtain ⟨y, hy, hyk⟩ := X.all ev hev
        exact ⟨y, (q4 y).mpr (.inl hy), hyk⟩
end
end Go.Proofs.YtndhbaidibioeaaGreat.V
