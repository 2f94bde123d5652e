/- The plain laws of IndexPuts and IndexWalks.
   No condition: these are laws of plain functions. -/
import Derived.Test.YtndhbaidibioeaaGreatNg
import Derived.SizedLaws
namespace Go.Proofs.YtndhbaidibioeaaGreat.V
open Go
set_option linter.unusedVariables false
set_option linter.unusedSimpArgs false
set_option maxRecDepth 100000

abbrev T0 : Obst_Tree := ⟨[⟨ByteArray.empty, 2, 0, 0⟩, ⟨ByteArray.empty, 1, 0, -1⟩, ⟨ByteArray.empty, 2, 0, -1⟩], [⟨0, 0, 0, 0, 0⟩]⟩
theorem xi0 : XI T0 ⟨[0, 1, 2], 2⟩ ⟨[]⟩ (.lf 1) (.lf 2) [] 0 [] := ⟨inv0, (fun _ h => by cases h), (fun _ h => by cases h), (fun _ h => by cases h), Nat.le_refl _⟩
theorem inew_ok : F_index_New ⟨[], 0⟩ = some (T0, ⟨[0, 1, 2], 2⟩, ⟨[]⟩) := by
  unfold F_index_New F_chain_New
  rw [bnew_ok]; rfl
/-- Keys that are events'. -/
def KeysOf (ks : List Tbst_node) (es : List TEvent) : Prop := ∀ y ∈ ks, ∃ e ∈ es, e.Key = y.key
theorem made_L1 {n : Nat} (hn : 4000 ≤ n) {r0 : BT} : ∀ (q A : List TEvent) (i : Nat) (T : Obst_Tree) (M : Omem_Mem) (S : Ochain_Store) (l : BT) (ks : List Tbst_node), XI T M S l r0 ks (2 * A.length) A → KeysOf ks A → (A ++ q).length ≤ 100 → RiseOK (A ++ q) →
    ∃ T' M' S' l' ks', F_law19_made_L1 (n + 3) q i (T, M, S) = some (T', M', S') ∧ XI T' M' S' l' r0 ks' (2 * (A ++ q).length) (A ++ q) ∧ KeysOf ks' (A ++ q)
  | [], A, i, T, M, S, l, ks, X, hk, _, _ => ⟨T, M, S, l, ks, by rw [F_law19_made_L1], by rw [List.append_nil]; exact X, by rw [List.append_nil]; exact hk⟩
  | e :: q, A, i, T, M, S, l, ks, X, hk, hl, hr => by
    have hl' : A.length + (q.length + 1) ≤ 100 := by simpa using hl
    obtain ⟨T1, M1, S1, l1, ks1, X1, hsub, W1, hrun⟩ := xput_run (n := n) (e := e) X (by omega) hn (by omega) (hr A q e rfl)
    have hk1 : KeysOf ks1 (A ++ [e]) := fun y hy => by
      rcases hsub y hy with w | w
      · obtain ⟨ev, h1, h2⟩ := hk y w
        exact ⟨ev, List.mem_append_left _ h1, h2⟩
      · exact ⟨e, by simp, w.symm⟩
    have ea : A ++ e :: q = (A ++ [e]) ++ q := by simp
    rw [ea] at hl hr ⊢
    obtain ⟨T', M', S', l', ks', h1, h2, h3⟩ := made_L1 hn q (A ++ [e]) (i + 1) T1 M1 S1 l1 ks1 (by rw [List.length_append, List.length_singleton, show 2 * (A.length + 1) = 2 * A.length + 2 by omega]; exact X1) hk1 hl hr
    refine ⟨T', M', S', l', ks', ?_, h2, h3⟩
    rw [F_law19_made_L1]
    dsimp only
    rw [put_beg X.inv]
    simp only [Option.bind_some]
    rw [hrun]
    exact h1
theorem made_ok {n : Nat} (hn : 4000 ≤ n) {es : List TEvent} (hl : es.length ≤ 40) (hr : RiseOK es) :
    ∃ T M S l r ks, F_law19_made (n + 3) es = some (T, M, S) ∧ XI T M S l r ks 80 es ∧ KeysOf ks es := by
  obtain ⟨T', M', S', l', ks', h1, h2, h3⟩ := made_L1 hn es [] 0 T0 ⟨[0, 1, 2], 2⟩ ⟨[]⟩ _ [] xi0 (fun _ h => by cases h) (by simp; omega) hr
  refine ⟨T', M', S', l', _, ks', ?_, h2.mono (by simp; omega), h3⟩
  unfold F_law19_made F_mem_New_nil
  simp only [Option.bind_some]
  rw [inew_ok]
  simp only [Option.bind_some]
  rw [h1]
  rfl
theorem ks_len {T : Obst_Tree} {M : Omem_Mem} {l r : BT} {ks : List Tbst_node} {j : Nat} (I : BInv T M l r ks j) : ks.length ≤ 1 + j := by
  obtain ⟨s1, e1, _⟩ := I.lv
  have h1 := lvs_len (N := T.nodes) l
  rw [e1] at h1
  have bi := I.bi
  simp only [BT.inn] at bi
  simp at h1
  omega
theorem keys_small {ks : List Tbst_node} {es : List TEvent} (h : KeysOf ks es) (hz : ∀ e ∈ es, e.Key.size < 4611686018427387904) : ∀ y ∈ ks, y.key.size < 4611686018427387904 := fun y hy => by
  obtain ⟨e, he, hk⟩ := h y hy
  rw [← hk]; exact hz e he
theorem puts_L1 {n : Nat} (hn : 4000 ≤ n) {es : List TEvent} {rev : Int} {T : Obst_Tree} {M : Omem_Mem} {S : Ochain_Store} {l r : BT} {ks : List Tbst_node} (X : XI T M S l r ks 80 es) (he : es.length ≤ 40) :
    ∀ (q : List TEvent) (i : Nat) (M1 : Omem_Mem), M1.cells = M.cells → ∃ M2, M2.cells = M.cells ∧ F_law19_IndexPuts_L1 (n + 3) rev (mapAt es rev) q i (T, M1, S) = some (.go (T, M2, S))
  | [], i, M1, h => ⟨M1, h, by rw [F_law19_IndexPuts_L1]⟩
  | e :: q, i, M1, h => by
    obtain ⟨M2, W2, h1, h2, h3⟩ := xget_run (n := n) (k := e.Key) (rev := rev) (X.cells h) (by omega) hn (by omega)
    obtain ⟨M3, g1, g2⟩ := puts_L1 hn X he q (i + 1) M2 (h1.trans h)
    refine ⟨M3, g1, ?_⟩
    rw [F_law19_IndexPuts_L1]
    dsimp only
    rw [get_beg (X.cells h).inv]
    simp only [Option.bind_some]
    rw [h3]
    simp only [Option.bind_some]
    unfold F_index_Work_Found
    simp only [Option.bind_some]
    rw [h2, key_ok e.Key (by omega)]
    simp only [Option.bind_some]
    rw [sameK]
    exact g2
theorem small_keys {p0 : List TEvent} (w0 : (∀ a ∈ p0, S_TEvent a) ∧ p0.length ≤ maxLen) : ∀ e ∈ p0, e.Key.size < 4611686018427387904 := fun e he => by
  have h := (w0.1 e he).2.1
  have := reachBytes_lt
  omega
theorem plain_IndexPuts (p0 : List TEvent) (p1 : TRange) (p2 : Int) (w0 : (∀ a ∈ p0, S_TEvent a) ∧ p0.length ≤ maxLen) (w1 : S_TRange p1) (w2 : okI .i64 p2) : ∃ n, F_law19_IndexPuts n p0 p1 p2 = some true := by
  have z0 := small_keys w0
  have z1 : p1.From.size < 4611686018427387904 := by
    have h := w1.1
    have := reachBytes_lt
    omega
  refine ⟨1000000 + 3, ?_⟩
  unfold F_law19_IndexPuts
  rcases few_ok (n := 1000000 + 3) p0 (by omega) with h | ⟨h, hl, hr⟩
  · rw [h]; rfl
  rw [h]
  simp only [Option.bind_some, Bool.not_true, Bool.false_eq_true, if_false]
  obtain ⟨T, M, S, l, r, ks, h1, X, hk⟩ := made_ok (n := 1000000) (by omega) hl hr
  rw [h1]
  simp only [Option.bind_some]
  rw [map_ok (by omega) (by omega)]
  simp only [Option.bind_some]
  obtain ⟨M1, c1, h2⟩ := puts_L1 (n := 1000000) (by omega) (rev := p2) X hl p0 0 M rfl
  rw [h2]
  simp only [Option.bind_some, lpK]
  have ha : addS p1.From (⟨#[110, 111, 110, 101]⟩ : ByteArray) = some (p1.From ++ (⟨#[110, 111, 110, 101]⟩ : ByteArray)) := by
    unfold addS
    rw [if_pos (by show p1.From.size + 4 ≤ _; omega)]
  rw [ha]
  simp only [Option.bind_some]
  rw [get_beg (X.cells c1).inv]
  simp only [Option.bind_some]
  obtain ⟨M2, W2, c2, f2, h3⟩ := xget_run (n := 1000000) (k := p1.From ++ (⟨#[110, 111, 110, 101]⟩ : ByteArray)) (rev := p2) (X.cells c1) (by omega) (by omega) (by omega)
  rw [h3]
  simp only [Option.bind_some]
  unfold F_index_Work_Found
  simp only [Option.bind_some]
  have X2 := X.cells (c2.trans c1)
  rw [walk_beg X2.inv]
  simp only [Option.bind_some]
  have hkl := ks_len X.inv
  obtain ⟨M3, W3, c3, f3, h4⟩ := xwalk_run (n := 1000000) (g := p1) (rev := p2) X2 (by omega) (by omega) (by omega) (keys_small hk z0) (by omega)
  rw [h4]
  simp only [Option.bind_some]
  have hml := mapAt_len p0 p2
  rw [res_ok p1 (by omega), f3, ks_map (p := inR p1) X.inv.kkey.2 X.all]
  simp only [Option.bind_some]
  rw [sameK]
  simp only [Option.bind_some, if_true]
  rw [f2, key_ok _ (by omega)]
  simp only [Option.bind_some]
  rw [sameK]
  rfl
theorem walks_L1 {n : Nat} (hn : 4000 ≤ n) {es : List TEvent} {T : Obst_Tree} {M : Omem_Mem} {S : Ochain_Store} {l r : BT} {ks : List Tbst_node} (X : XI T M S l r ks 80 es) (he : es.length ≤ 40) {x : List TKV} (hs : So x) (hx : ∀ t ∈ x, look (hist es t.Key) 5000 = some t) (hl : x.length ≤ 1000) :
    ∀ (q : List TKV) (i : Nat) (M1 : Omem_Mem), q = x.drop i → M1.cells = M.cells → ∃ M2, M2.cells = M.cells ∧ F_law19_IndexWalks_L1 (n + 3) x q i (T, M1, S) = some (.go (T, M2, S))
  | [], i, M1, _, h => ⟨M1, h, by rw [F_law19_IndexWalks_L1]⟩
  | t :: q, i, M1, hq, h => by
    obtain ⟨hi, ht, hq'⟩ := drop_cons hq
    obtain ⟨M2, W2, h1, h2, h3⟩ := xget_run (n := n) (k := t.Key) (rev := 5000) (X.cells h) (by omega) hn (by omega)
    obtain ⟨M3, g1, g2⟩ := walks_L1 hn X he hs hx hl q (i + 1) M2 hq' (h1.trans h)
    refine ⟨M3, g1, ?_⟩
    rw [F_law19_IndexWalks_L1]
    dsimp only
    rw [get_beg (X.cells h).inv]
    simp only [Option.bind_some]
    rw [h3]
    simp only [Option.bind_some]
    unfold F_index_Work_Found
    simp only [Option.bind_some]
    rw [h2, hx t (List.mem_of_getElem? ht)]
    have e0 : getI (Option.some t).toList 0 = some t := rfl
    rw [if_neg (by simp), e0]
    simp only [Option.bind_some]
    rw [eqxK]
    simp only [Bool.not_true, Bool.false_eq_true, if_false]
    have prev : ∃ c, (if (decide ((i : Int) > 0)) = true then ((getI x (IntKind.i64.wrap ((i : Int) - 1))).bind fun x38 => some (true, (!lessB x38.Key t.Key))) else (some (false, false)) : Option (Bool × Bool)) = some (c, false) := by
      by_cases h0 : 0 < i
      · obtain ⟨p, rfl⟩ : ∃ p, i = p + 1 := ⟨i - 1, by omega⟩
        have hp : p < x.length := by omega
        rw [if_pos (by rw [decide_eq_true_iff]; omega), show (((p + 1 : Nat) : Int) - 1) = (p : Int) by omega, wrap_n (by omega), getI_nat, List.getElem?_eq_getElem hp]
        have : lessB x[p].Key t.Key = true := by
          have ht' := (List.getElem?_eq_some_iff.mp ht)
          obtain ⟨hb, ht'⟩ := ht'
          rw [← ht']
          exact List.pairwise_iff_getElem.mp hs p (p + 1) hp hb (by omega)
        exact ⟨true, by simp [this]⟩
      · exact ⟨false, by rw [if_neg (by rw [decide_eq_true_iff]; omega)]⟩
    obtain ⟨c, hc⟩ := prev
    rw [hc]
    simp only [Option.bind_some, Bool.false_eq_true, if_false]
    exact g2
theorem plain_IndexWalks (p0 : List TEvent) (p1 : TRange) (p2 : ByteArray) (w0 : (∀ a ∈ p0, S_TEvent a) ∧ p0.length ≤ maxLen) (w1 : S_TRange p1) (w2 : p2.size ≤ reachBytes) : ∃ n, F_law19_IndexWalks n p0 p1 p2 = some true := by
  have z0 := small_keys w0
  refine ⟨1000000 + 3, ?_⟩
  unfold F_law19_IndexWalks
  rcases few_ok (n := 1000000 + 3) p0 (by omega) with h | ⟨h, hl, hr⟩
  · rw [h]; rfl
  rw [h]
  simp only [Option.bind_some, Bool.not_true, Bool.false_eq_true, if_false]
  obtain ⟨T, M, S, l, r, ks, h1, X, hk⟩ := made_ok (n := 1000000) (by omega) hl hr
  rw [h1]
  simp only [Option.bind_some]
  rw [walk_beg X.inv]
  simp only [Option.bind_some]
  have hkl := ks_len X.inv
  have hml := mapAt_len p0 5000
  have W : ∀ (g : TRange) (M1 : Omem_Mem), M1.cells = M.cells → ∃ M' W', M'.cells = M.cells ∧ W'.found = (mapAt p0 5000).filter (fun t => inR g t.Key) ∧ F_index_Run (1000000 + 3) T M1 S ⟨some (walkC g g.From 5000), 0, 0, []⟩ = some (T, M', S, W') := fun g M1 hM => by
    obtain ⟨M', W', c, f, h⟩ := xwalk_run (n := 1000000) (g := g) (rev := 5000) (X.cells hM) (by omega) (by omega) (by omega) (keys_small hk z0) (by omega)
    refine ⟨M', W', c.trans hM, ?_, h⟩
    rw [f, ks_map (p := inR g) X.inv.kkey.2 X.all]
  obtain ⟨M1, W1, c1, f1, h2⟩ := W p1 M rfl
  rw [h2]
  simp only [Option.bind_some]
  unfold F_index_Work_Found
  simp only [Option.bind_some]
  rw [f1]
  have so := mapAt_so p0 5000
  have fl : ∀ g : TRange, ((mapAt p0 5000).filter (fun t => inR g t.Key)).length ≤ 40 := fun g => Nat.le_trans (List.length_filter_le _ _) (by omega)
  obtain ⟨M2, c2, h3⟩ := walks_L1 (n := 1000000) (by omega) X hl (x := (mapAt p0 5000).filter (fun t => inR p1 t.Key)) (so.filter _) (fun t ht => mapAt_mem.mp (List.mem_filter.mp ht).1) (by have := fl p1; omega) ((mapAt p0 5000).filter (fun t => inR p1 t.Key)) 0 M1 rfl c1
  rw [h3]
  simp only [Option.bind_some, lpK]
  split
  · rfl
  · rename_i hcond
    rw [walk_beg (X.cells c2).inv]
    simp only [Option.bind_some]
    obtain ⟨M3, W3, c3, f3, h4⟩ := W ⟨p1.From, p2⟩ M2 c2
    rw [h4]
    simp only [Option.bind_some]
    rw [walk_beg (X.cells c3).inv]
    simp only [Option.bind_some]
    obtain ⟨M4, W4, c4, f4, h5⟩ := W ⟨p2, p1.To⟩ M3 c3
    rw [h5]
    simp only [Option.bind_some]
    rw [f3, f4]
    have l3 := fl ⟨p1.From, p2⟩
    have l4 := fl ⟨p2, p1.To⟩
    rw [appL_ok (by simp; omega) (by omega) (by omega)]
    simp only [Option.bind_some]
    rw [appL_ok (by simp; omega) (by omega) (by omega)]
    simp only [Option.bind_some, List.nil_append]
    -- the parts, one behind the other
    have q1 : leB p2 p1.From = false := by
      cases e : leB p2 p1.From with
      | false => rfl
      | true => rw [e] at hcond; simp at hcond
    rw [q1] at hcond
    have q2 : lessB p1.From p2 = true := by
      rw [leB_not] at q1
      simpa using q1
    have q3 : p2 ≠ ByteArray.empty := by
      intro h
      rw [h] at q2
      have : lessB p1.From ByteArray.empty = false := by
        unfold lessB
        have e : ByteArray.empty.toList = [] := by rw [ByteArray.toList_eq]; rfl
        rw [e]
        cases p1.From.toList <;> rfl
      rw [this] at q2; cases q2
    have q4 : eqB p1.To ByteArray.empty = true ∨ lessB p2 p1.To = true := by
      cases e : eqB p1.To ByteArray.empty with
      | true => exact .inl rfl
      | false =>
        rw [e] at hcond
        right
        cases e2 : lessB p2 p1.To with
        | true => rfl
        | false => rw [e2] at hcond; simp at hcond
    have mem1 : ∀ k, inR ⟨p1.From, p2⟩ k = (leB p1.From k && lessB k p2) := fun k => by
      unfold inR
      dsimp only
      rw [eqB_ne.mpr q3, Bool.false_or]
    have tot : (mapAt p0 5000).filter (fun t => inR ⟨p1.From, p2⟩ t.Key) ++ (mapAt p0 5000).filter (fun t => inR ⟨p2, p1.To⟩ t.Key) = (mapAt p0 5000).filter (fun t => inR p1 t.Key) := by
      refine so_ext ?_ (so.filter _) (fun t => ?_)
      · unfold So
        rw [List.pairwise_append]
        refine ⟨so.filter _, so.filter _, fun a ha b hb => ?_⟩
        have g1 := (List.mem_filter.mp ha).2
        have g2 := (List.mem_filter.mp hb).2
        rw [mem1, Bool.and_eq_true] at g1
        unfold inR at g2
        rw [Bool.and_eq_true] at g2
        exact less_le g1.2 g2.1
      · rw [List.mem_append, List.mem_filter, List.mem_filter, List.mem_filter, mem1]
        unfold inR
        dsimp only
        simp only [Bool.and_eq_true, Bool.or_eq_true]
        constructor
        · rintro (⟨h1, h2, h3⟩ | ⟨h1, h2, h3⟩)
          · exact ⟨h1, h2, q4.imp id (fun w => less_trans h3 w)⟩
          · refine ⟨h1, ?_, h3⟩
            have := less_le q2 h2
            rw [leB_not, less_asymm this]; rfl
        · rintro ⟨h1, h2, h3⟩
          cases e : lessB t.Key p2 with
          | true => exact .inl ⟨h1, h2, rfl⟩
          | false => exact .inr ⟨h1, by rw [leB_not, e]; rfl, h3⟩
    rw [tot, sameK]
    rfl
end Go.Proofs.YtndhbaidibioeaaGreat.V
