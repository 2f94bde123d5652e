/- What an index puts, gets, and walks over.
   No condition: these are laws of plain functions. -/
import Derived.Test.YtndhbaidibioeaaGreatNc
namespace Go.Proofs.YtndhbaidibioeaaGreat.V
open Go
set_option linter.unusedVariables false
set_option linter.unusedSimpArgs false
set_option maxRecDepth 100000

section
variable {T : Obst_Tree} {M : Omem_Mem} {S : Ochain_Store} {l r : BT} {ks : List Tbst_node} {j n b : Nat} {es : List TEvent} {k : ByteArray} {W : Oindex_Work} {P : Cfi → Prop}
abbrev findC (k : ByteArray) : Obst_Call_2 := call ⟨false, k, 0, 0⟩ (some (.c_down_1 ⟨0, 0, 0, 0, 0, -1⟩ ⟨k, 0, 0, 0⟩ (.c_Find_1_1 ⟨k, 0, 0, 0⟩)))
abbrev seekC (k : ByteArray) : Obst_Call_2 := call ⟨false, k, 0, 0⟩ (some (.c_down_1 ⟨0, 0, 0, 0, 0, -1⟩ ⟨k, 0, 0, 0⟩ (.c_Seek_1_1 ⟨k, 0, 0, 0⟩)))
abbrev ensC (k : ByteArray) (th : Cli) : Cli := .c_after_1 (findC k) (.c_Work_ensure_1 th k)
abbrev walkC (g : TRange) (f : ByteArray) (rev : Int) : Cli := .c_after_1 (seekC f) (.c_Work_walk_1 g rev)
theorem beg_ens {th : Cli} {rc : RCi} {q : Nat} (I : BInv T M l r ks j) : F_index_Work_ensure q rc T M S W k th = some (some (ensC k th), T, M, S, W) := by
  obtain ⟨x0, h0, hc⟩ := I.root
  unfold F_index_Work_ensure F_index_after_
  rw [beg_find h0 hc]; rfl
theorem beg_walk {rc : RCi} {q : Nat} {g : TRange} {f : ByteArray} {rev : Int} (I : BInv T M l r ks j) : F_index_Work_walk q rc T M S W g f rev = some (some (walkC g f rev), T, M, S, W) := by
  obtain ⟨x0, h0, hc⟩ := I.root
  unfold F_index_Work_walk F_index_after_
  rw [beg_seek h0 hc]; rfl
theorem put_beg {e : TEvent} (I : BInv T M l r ks j) : F_index_Index_Put n T M S e = some (⟨some (ensC e.Key (.c_Index_Put_1_1 e)), 0, 0, []⟩, T, M, S) := by
  unfold F_index_Index_Put F_index_Index_work_index_Index_Put_1 F_index_Index_Put_1
  rw [beg_ens I]; rfl
theorem walk_beg {g : TRange} {rev : Int} (I : BInv T M l r ks j) : F_index_Index_Walk n T M S g rev = some (⟨some (walkC g g.From rev), 0, 0, []⟩, T, M, S) := by
  unfold F_index_Index_Walk F_index_Index_work_index_Index_Walk_1 F_index_Index_Walk_1
  rw [beg_walk I]; rfl
theorem get_beg {rev : Int} (I : BInv T M l r ks j) : F_index_Index_Get n T M S k rev = some (⟨some (.c_after_1 (findC k) (.c_Index_Get_1_1 rev)), 0, 0, []⟩, T, M, S) := by
  obtain ⟨x0, h0, hc⟩ := I.root
  unfold F_index_Index_Get F_index_Index_work_index_Index_Get_1 F_index_Index_Get_1 F_index_after_
  rw [beg_find h0 hc]; rfl

/-! ### Put -/
theorem end_step {q : Nat} : F_istep (q + 1) T M S W .c_end .u = some (none, T, M, S, W) := rfl
theorem put_step1 {q a id : Nat} {e : TEvent} {h : List TEvent} {la : Int} (hl : S.all.length < 1000000) (hc : M.cells[a]? = some (id : Int)) (hk : Chn S.all id h) (hr : revOf h < e.Rev) :
    F_istep (q + 1) T M S W (.c_after_1_v1 ⟨a, e.Rev, e.Key, e.Val, e.Del, la, false, false⟩ .c_end) .u = some (some (.c_after_1_v1 ⟨a, e.Rev, e.Key, e.Val, e.Del, id, true, false⟩ .c_end), T, tick M, S, W) := by
  have q1 : F_istep (q + 1) T M S W (.c_after_1_v1 ⟨a, e.Rev, e.Key, e.Val, e.Del, la, false, false⟩ .c_end) .u = F_index_after_1_ (F_istep q) T M S W ⟨a, e.Rev, e.Key, e.Val, e.Del, la, false, false⟩ .c_end := rfl
  rw [q1]
  unfold F_index_after_1_ F_chain_Put_Step
  rw [if_neg (by simp), if_pos (by rfl), load_ok hc]
  simp only [Option.bind_some]
  rw [rev_ok hl hk]
  simp only [Option.bind_some]
  rw [show decide (revOf h ≥ e.Rev) = false from decide_eq_false (by omega), if_neg (by simp)]
theorem put_step2 {q a id : Nat} {e : TEvent} (hl : S.all.length < 1000000) (hc : M.cells[a]? = some (id : Int)) :
    F_istep (q + 2) T M S W (.c_after_1_v1 ⟨a, e.Rev, e.Key, e.Val, e.Del, id, true, false⟩ .c_end) .u = some (none, T, setc M a ((S.all.length + 1 : Nat) : Int), ⟨S.all ++ [⟨e, id⟩]⟩, W) := by
  have q1 : F_istep (q + 2) T M S W (.c_after_1_v1 ⟨a, e.Rev, e.Key, e.Val, e.Del, id, true, false⟩ .c_end) .u = F_index_after_1_ (F_istep (q + 1)) T M S W ⟨a, e.Rev, e.Key, e.Val, e.Del, id, true, false⟩ .c_end := rfl
  rw [q1]
  unfold F_index_after_1_ F_chain_Put_Step
  rw [if_neg (by simp), if_neg (by simp), add_ok hl]
  simp only [Option.bind_some]
  rw [cas_ok hc]
  simp only [Option.bind_some]
  rw [if_pos trivial]
  simp only [end_step, Option.bind_some]
theorem XI.put {a id : Nat} {e : TEvent} {c : Int} (X : XI T M S l r ks j es) {y0 : Tbst_node} (hy0 : y0 ∈ ks) (hk0 : y0.key = e.Key) (hv0 : y0.val = (a : Int)) (hc : M.cells[a]? = some (id : Int)) (hk : Chn S.all id (hist es e.Key)) (hf : Free T.nodes a) :
    XI T ⟨M.cells.set a ((S.all.length + 1 : Nat) : Int), c⟩ ⟨S.all ++ [⟨e, id⟩]⟩ l r ks j (es ++ [e]) := by
  have hs := X.inv.kkey.2
  refine ⟨X.inv.set hf, fun y hy => ?_, X.inj, fun ev hev => ?_, ?_⟩
  · obtain ⟨a2, id2, g1, g2, g3, g4, g5⟩ := X.cell y hy
    rw [hist_app]
    by_cases q : e.Key = y.key
    · have : y = y0 := uniq_key hs hy hy0 (by rw [hk0, q])
      subst this
      have : a2 = a := by rw [hv0] at g1; omega
      subst this
      rw [if_pos q, ← q]
      refine ⟨a2, S.all.length + 1, g1, by simpa using g2, g3, gs_eq g2, S.all.length, id, ⟨e, id⟩, rfl, by simp, rfl, rfl, hk.app⟩
    · have : a2 ≠ a := by
        rintro rfl
        exact q (hk0.symm.trans (X.inj y0 hy0 y hy (hv0.trans g1.symm)))
      rw [if_neg q]
      exact ⟨a2, id2, g1, by simpa using g2, g3, by rw [gs_ne (Ne.symm this)]; exact g4, g5.app⟩
  · rcases List.mem_append.mp hev with w | w
    · exact X.all ev w
    · rw [List.mem_singleton] at w; subst w; exact ⟨y0, hy0, hk0⟩
  · have := X.slen
    simp only [List.length_append, List.length_singleton]; omega
theorem xput_run {e : TEvent} (X : XI T M S l r ks j es) (hj : j ≤ 300) (hn : 4000 ≤ n) (he : es.length < 1000) (hr : revOf (hist es e.Key) < e.Rev) :
    ∃ T' M' S' l' ks', XI T' M' S' l' r ks' (j + 2) (es ++ [e]) ∧ (∀ y ∈ ks', y ∈ ks ∨ y.key = e.Key) ∧ ∃ W', F_index_Run (n + 3) T M S ⟨some (ensC e.Key (.c_Index_Put_1_1 e)), 0, 0, []⟩ = some (T', M', S', W') := by
  have H := ens_ok (n := n) (k := e.Key) (W := ⟨0, 0, []⟩) (b := 2) (th := .c_Index_Put_1_1 e) (P := fun f => (∃ l' ks', XI f.1 f.2.1 f.2.2.1 l' r ks' (j + 2) (es ++ [e]) ∧ (∀ y ∈ ks', y ∈ ks ∨ y.key = e.Key)) ∧ f.2.2.2.2 = none) X hj (by omega)
    (fun T' M' l' ks' a X' ⟨y0, hy0, hk0, hv0⟩ ha _ hsub => by
      have e1 : F_istep (n + 1) T' M' S ⟨a, 0, []⟩ (.c_Index_Put_1_1 e) .u = some (some (.c_after_1_v1 ⟨a, e.Rev, e.Key, e.Val, e.Del, 0, false, false⟩ .c_end), T', M', S, ⟨a, 0, []⟩) := rfl
      rw [e1]
      obtain ⟨a', id, g1, g2, g3, g4, g5⟩ := X'.cell y0 hy0
      have : a' = a := by rw [hv0] at g1; omega
      subst this
      rw [hk0] at g5
      have sl := X.slen
      refine Oi.step (b := 1) (put_step1 (q := n + 2) (by omega) g4 g5 hr) ?_
      refine Oi.step (b := 0) (put_step2 (q := n + 1) (M := tick M') (by omega) g4) ?_
      exact Oi.done ⟨⟨l', ks', X'.put hy0 hk0 hv0 g4 g5 g3, hsub⟩, rfl⟩) (F_istep (n + 3)) (n + 3)
  rw [beg_ens X.inv] at H
  obtain ⟨⟨T', M', S', W', o'⟩, ⟨⟨l', ks', h1, h2⟩, h3⟩, h4⟩ := irun H (by omega) (fun f h => h.2)
  exact ⟨T', M', S', l', ks', h1, h2, _, h4⟩

/-! ### Look -/
theorem look_step {q a id : Nat} {h : List TEvent} {rev : Int} {th : Cli} (hl : S.all.length < 1000000) (ha : a < 1000000) (hc : M.cells[a]? = some (id : Int)) (hk : Chn S.all id h) (hq : h.length < q) (hw : W.found.length ≤ 100000) :
    F_istep (q + 1) T M S W (.c_Work_look_1 (a : Int) rev th) .u = F_istep q T (tick M) S ⟨W.cell, W.bad, W.found ++ (look h rev).toList⟩ th .u := by
  have q1 : F_istep (q + 1) T M S W (.c_Work_look_1 (a : Int) rev th) .u = F_index_Work_look_1 q (F_istep q) T M S W (a : Int) rev th := rfl
  rw [q1]
  unfold F_index_Work_look_1
  rw [(wrap_cell ha).1, load_ok hc]
  simp only [Option.bind_some]
  rw [at_ok hl rev hk hq]
  simp only [Option.bind_some]
  cases look h rev with
  | none =>
    dsimp only
    rw [if_neg (by simp), rbi]
    simp
  | some x =>
    dsimp only
    rw [if_pos rfl, appL_ok (by simp; omega) (by omega) (by omega)]
    simp only [Option.bind_some]
    rw [rbi]
    rfl
theorem xget_run {rev : Int} (X : XI T M S l r ks j es) (hj : j ≤ 300) (hn : 4000 ≤ n) (he : es.length < 1000) :
    ∃ M' W', M'.cells = M.cells ∧ W'.found = (look (hist es k) rev).toList ∧ F_index_Run (n + 3) T M S ⟨some (.c_after_1 (findC k) (.c_Index_Get_1_1 rev)), 0, 0, []⟩ = some (T, M', S, W') := by
  obtain ⟨c, M1, ok, w, c1, c2, c3, c4⟩ := find_rs (n := n + 2) (k := k) X.inv (by omega) (by omega)
  have sl := X.slen
  have b3 := X.inv.b3
  have H : Oi (n + 3) (some (some (.c_after_1 (findC k) (.c_Index_Get_1_1 rev)), T, M, S, (⟨0, 0, []⟩ : Oindex_Work))) (1 + c) (fun f => (f.1 = T ∧ f.2.1.cells = M.cells ∧ f.2.2.1 = S ∧ f.2.2.2.1.found = (look (hist es k) rev).toList) ∧ f.2.2.2.2 = none) := by
    refine after_run (n := n + 2) c T M _ _ c2 ?_
    have e : F_istep (n + 2) T M1 S ⟨0, 0, []⟩ (.w146 (call ⟨ok, k, w, 0⟩ none) (.c_Index_Get_1_1 rev)) .u = F_index_Index_Get_1_1 (F_istep (n + 1)) T M1 S ⟨0, 0, []⟩ (call ⟨ok, k, w, 0⟩ none) rev := rfl
    rw [e]
    unfold F_index_Index_Get_1_1 F_index_Work_look
    rw [ans_eq]
    simp only [Option.bind_some]
    rcases c4 with ⟨y, hy, h1, h2, h3⟩ | ⟨h1, h2, h3⟩
    · obtain ⟨a, id, g1, g2, g3, g4, g5⟩ := X.cell y hy
      rw [h1] at g5
      rw [if_neg (by rw [h2]; simp), h3, g1]
      have hl := hist_len es k
      refine Oi.step (b := 0) (look_step (q := n + 2) (h := hist es k) (by omega) (by omega) (by rw [c3]; exact g4) g5 (by omega) (by simp)) ?_
      rw [end_step]
      exact Oi.done ⟨⟨rfl, c3, rfl, by simp⟩, rfl⟩
    · rw [if_pos (by rw [h2]; rfl)]
      have hnew : hist es k = [] := hist_nil (fun ev hev hk => by
        obtain ⟨y, hy, hyk⟩ := X.all ev hev
        exact h1 y hy (hyk.trans hk))
      exact Oi.done ⟨⟨rfl, c3, rfl, by rw [hnew]; rfl⟩, rfl⟩
  obtain ⟨⟨T', M', S', W', o'⟩, ⟨⟨h1, h2, h3, h5⟩, h6⟩, h4⟩ := irun H (by omega) (fun f h => h.2)
  dsimp only at h1 h3
  subst h1 h3
  exact ⟨M', _, h2, by exact h5, h4⟩
end
end Go.Proofs.YtndhbaidibioeaaGreat.V
