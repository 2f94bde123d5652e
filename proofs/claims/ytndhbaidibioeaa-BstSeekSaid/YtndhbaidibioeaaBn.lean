/- The plain law of BstSeek, joined.
   No condition: this is a law of plain functions. -/
import Derived.Test.YtndhbaidibioeaaBm
namespace Go.Proofs.Ytndhbaidibioeaa.V
open Go
set_option linter.unusedVariables false
set_option linter.unusedSimpArgs false
set_option maxRecDepth 100000

theorem ran_L1 {n : Nat} (hn : 1000 ≤ n) : ∀ (ds : List Timpostlaw15_Deed) (i : Nat) (xs : List Timpostref15_Entry) (T : Obst_Tree) (M : Omem_Mem) (l r : BT) (ks : List Tbst_node), BInv T M l r ks i → Ent ks xs → xs.length ≤ i → i ≤ 60 →
    ∃ (T' : Obst_Tree) (M' : Omem_Mem) (l' r' : BT) (ks' : List Tbst_node), F_law15_ran_L1 n ds i T.nodes T.infos M.cells M.count = some (T'.nodes, T'.infos, M'.cells, M'.count) ∧ BInv T' M' l' r' ks' 60
  | [], i, xs, T, M, l, r, ks, I, _, _, hi => ⟨T, M, l, r, ks, by rw [F_law15_ran_L1], I.mono hi⟩
  | z :: ds, i, xs, T, M, l, r, ks, I, E, hx, hi => by
    rw [F_law15_ran_L1]
    by_cases hlt : i < 60
    · rw [if_pos (decide_eq_true (by omega))]
      obtain ⟨C2, C3, T', M', l', ks', b, w, xs', h1, h2, h3, h4, h5, h6⟩ := bop_ok I E hx (by omega) hn z
      rw [show (⟨T.nodes, T.infos⟩ : Obst_Tree) = T from rfl, show (⟨M.cells, M.count⟩ : Omem_Mem) = M from rfl, h1]
      simp only [Option.bind_some]
      rw [show (⟨T.nodes, T.infos⟩ : Obst_Tree) = T from rfl, show (⟨M.cells, M.count⟩ : Omem_Mem) = M from rfl, show (⟨C2.told_Ok, C2.told_Key, C2.told_Val, C2.told_Err, C2.next⟩ : Obst_Call_2) = C2 from rfl, h2]
      simp only [Option.bind_some]
      exact ran_L1 hn ds (i + 1) xs' T' M' l' r ks' h4 h5 h6 (by omega)
    · rw [if_neg (by rw [decide_eq_true_iff]; omega)]
      exact ⟨T, M, l, r, ks, rfl, I.mono hi⟩
theorem seek_L2 {n : Nat} (hn : 1000 ≤ n) {W : List ByteArray} {kb : ByteArray} : ∀ (ds : List Timpostlaw15_Deed) (i : Nat) (T : Obst_Tree) (M : Omem_Mem) (l r : BT) (ks : List Tbst_node) (C : Obst_Call) (o : Option Clo) (m : Nat), BInv T M l r ks (60 + i) → (∀ w ∈ W, ∃ y ∈ ks, y.key = w) → Sk T.nodes (.nd 0 l r) ks W kb C o m → i ≤ 60 →
    ∃ (T' : Obst_Tree) (M' : Omem_Mem) (l' : BT) (ks' : List Tbst_node) (C' : Obst_Call) (o' : Option Clo) (m' : Nat), F_law15_BstSeek_L2 n ds i T.nodes T.infos M.cells M.count C.told_Ok C.told_Key C.told_Val C.told_Err o = some (T'.nodes, T'.infos, M'.cells, M'.count, C'.told_Ok, C'.told_Key, C'.told_Val, C'.told_Err, o') ∧
      BInv T' M' l' r ks' 120 ∧ (∀ w ∈ W, ∃ y ∈ ks', y.key = w) ∧ Sk T'.nodes (.nd 0 l' r) ks' W kb C' o' m' ∧ (ds = [] → ks' = ks)
  | [], i, T, M, l, r, ks, C, o, m, I, hW, S, hi => ⟨T, M, l, ks, C, o, m, by rw [F_law15_BstSeek_L2], I.mono (by omega), hW, S, fun _ => rfl⟩
  | z :: ds, i, T, M, l, r, ks, C, o, m, I, hW, S, hi => by
    rw [F_law15_BstSeek_L2]
    by_cases hlt : i < 60
    · rw [if_pos (decide_eq_true (by omega))]
      obtain ⟨b, o1, M1, C1, m1, h1, h2, h3⟩ := sk_Step hn I (by omega) hW S
      rw [show (⟨T.nodes, T.infos⟩ : Obst_Tree) = T from rfl, show (⟨M.cells, M.count⟩ : Omem_Mem) = M from rfl, h1]
      simp only [Option.bind_some]
      have I1 := I.cells (M' := M1) h2
      obtain ⟨x0, r0, rc⟩ := I1.root
      rw [show (⟨T.nodes, T.infos⟩ : Obst_Tree) = T from rfl, show (⟨M1.cells, M1.count⟩ : Omem_Mem) = M1 from rfl, beg_ins r0 rc]
      simp only [Option.bind_some]
      obtain ⟨T2, M2, l2, ks2, b2, w2, g1, g2, g3⟩ := run_ins' (k := z.Key) (v := 5) I1 (by omega) hn
      rw [show (⟨T.nodes, T.infos⟩ : Obst_Tree) = T from rfl, show (⟨M1.cells, M1.count⟩ : Omem_Mem) = M1 from rfl, g1]
      simp only [Option.bind_some]
      obtain ⟨m2, hW2, S2⟩ : ∃ m2, (∀ w ∈ W, ∃ y ∈ ks2, y.key = w) ∧ Sk T2.nodes (.nd 0 l2 r) ks2 W kb C1 o1 m2 := by
        rcases g3 with ⟨y, q1, q2, q3, q4, rfl, rfl, rfl⟩ | ⟨q1, q2, q3, q4, q5, q6⟩
        · exact ⟨_, hW, h3⟩
        · obtain ⟨m2, S2⟩ := h3.grew I1 (k' := ⟨z.Key, 0, 5, 0⟩) rfl q5 q6 (ks' := ks2) (fun y hy => (q4 y).mpr (.inl hy)) (fun hw => by
            obtain ⟨y, hy, e⟩ := hW _ hw
            exact q1 y hy e)
          exact ⟨m2, fun w hw => by
            obtain ⟨y, hy, e⟩ := hW w hw
            exact ⟨y, (q4 y).mpr (.inl hy), e⟩, S2⟩
      obtain ⟨T', M', l', ks', C', o', m', k1, k2, k3, k4, k5⟩ := seek_L2 hn ds (i + 1) T2 M2 l2 r ks2 C1 o1 m2 g2 hW2 S2 (by omega)
      exact ⟨T', M', l', ks', C', o', m', k1, k2, k3, k4, fun h => by cases h⟩
    · rw [if_neg (by rw [decide_eq_true_iff]; omega)]
      exact ⟨T, M, l, ks, C, o, m, rfl, I.mono (by omega), hW, S, fun _ => rfl⟩
theorem seek_L1 {p1 : ByteArray} {x6 : List ByteArray × Obst_Tree × Omem_Mem} (hs : x6.1.Pairwise (fun a b => lessB a b = true)) (hl : x6.1.length ≤ 100000) : ∀ (i m : Nat) (y0 : ByteArray) (y1 : Bool), i ≤ x6.1.length → i < m →
    (y1 = true → y0 ∈ x6.1 ∧ lessB y0 p1 = false ∧ ∀ w ∈ x6.1.drop i, lessB w p1 = false → leB y0 w = true) → (y1 = false → ∀ w ∈ x6.1.drop i, lessB w p1 = true) →
    ∃ y0' y1', F_law15_BstSeek_L1 p1 x6 m y0 y1 ((i : Int) - 1) = some (y0', y1') ∧ (y1' = true → y0' ∈ x6.1 ∧ lessB y0' p1 = false ∧ ∀ w ∈ x6.1, lessB w p1 = false → leB y0' w = true) ∧ (y1' = false → ∀ w ∈ x6.1, lessB w p1 = true)
  | 0, 0, _, _, _, hm, _, _ => by omega
  | i + 1, 0, _, _, _, hm, _, _ => by omega
  | 0, m + 1, y0, y1, hi, hm, h1, h2 => by
    rw [F_law15_BstSeek_L1, if_neg (by simp)]
    exact ⟨y0, y1, rfl, by simpa using h1, by simpa using h2⟩
  | i + 1, m + 1, y0, y1, hi, hm, h1, h2 => by
    have hz : x6.1[i]? = some (x6.1[i]'(by omega)) := List.getElem?_eq_getElem (by omega)
    have hd : x6.1.drop i = x6.1[i]'(by omega) :: x6.1.drop (i + 1) := List.drop_eq_getElem_cons (by omega)
    generalize x6.1[i]'(by omega) = z at hz hd
    have hzm : z ∈ x6.1 := List.mem_of_getElem? hz
    have hsd : (z :: x6.1.drop (i + 1)).Pairwise (fun a b => lessB a b = true) := by rw [← hd]; exact hs.sublist (List.drop_sublist _ _)
    rw [F_law15_BstSeek_L1, show (((i + 1 : Nat) : Int) - 1) = ((i : Nat) : Int) from by omega, if_pos (by simp), getI_nat, hz]
    simp only [Option.bind_some]
    rw [show IntKind.wrap .i64 ((i : Int) - 1) = (i : Int) - 1 from wrap_id (by omega) (by omega)]
    cases e : lessB z p1 with
    | false =>
      simp only [Bool.not_false, if_true, Option.bind_some]
      refine seek_L1 hs hl i m z true (by omega) (by omega) (fun _ => ⟨hzm, e, fun w hw hwk => ?_⟩) (fun h => by cases h)
      rw [hd] at hw
      rcases List.mem_cons.mp hw with q | q
      · rw [q]; exact leB_refl _
      · have := (List.pairwise_cons.mp hsd).1 w q
        unfold leB; rw [this]; rfl
    | true =>
      simp only [Bool.not_true, Bool.false_eq_true, if_false, Option.bind_some]
      refine seek_L1 hs hl i m y0 y1 (by omega) (by omega) (fun h => ?_) (fun h w hw => ?_)
      · obtain ⟨q1, q2, q3⟩ := h1 h
        refine ⟨q1, q2, fun w hw hwk => ?_⟩
        rw [hd] at hw
        rcases List.mem_cons.mp hw with q | q
        · rw [q, e] at hwk; cases hwk
        · exact q3 w q hwk
      · rw [hd] at hw
        rcases List.mem_cons.mp hw with q | q
        · rw [q]; exact e
        · exact h2 h w q
theorem in_ok {p : ByteArray} : ∀ (xs : List ByteArray) (i : Nat), p ∈ xs → F_ref14_In_L1 p xs i = some (.out true)
  | [], _, h => by cases h
  | z :: xs, i, h => by
    rw [F_ref14_In_L1]
    by_cases e : z = p
    · rw [if_pos (eqB_iff.mpr e)]
    · rw [if_neg (by rw [eqB_ne.mpr e]; simp)]
      rcases List.mem_cons.mp h with q | q
      · exact absurd q.symm e
      · exact in_ok xs _ q
theorem leB_anti {a b : ByteArray} (h1 : leB a b = true) (h2 : leB b a = true) : a = b := by
  rw [leB_not] at h1 h2
  exact less_total (by simpa using h2) (by simpa using h1)
theorem plain_BstSeek (p0 : List Timpostlaw15_Deed) (p1 : ByteArray) (p2 : List Timpostlaw15_Deed) (w0 : (∀ a ∈ p0, W_Timpostlaw15_Deed a) ∧ p0.length ≤ maxLen) (w1 : p1.size ≤ maxLen) (w2 : (∀ a ∈ p2, W_Timpostlaw15_Deed a) ∧ p2.length ≤ maxLen) : ∃ n, F_law15_BstSeek n p0 p1 p2 = some true := by
  refine ⟨1000, ?_⟩
  have hn : 1000 ≤ 1000 := Nat.le_refl _
  unfold F_law15_BstSeek F_law15_ran F_mem_New_nil
  simp only [Option.bind_some]
  rw [bnew_ok]
  simp only [Option.bind_some]
  obtain ⟨T, M, l, r, ks, h, I⟩ := ran_L1 (n := 1000) hn p0 0 [] _ _ _ _ _ inv0 ⟨fun e => by simp, fun e he => absurd he List.not_mem_nil⟩ (Nat.le_refl _) (by omega)
  rw [h]
  simp only [Option.bind_some]
  obtain ⟨c, h7⟩ := run_keys (n := 1000) I (by omega) hn
  rw [show (⟨T.nodes, T.infos⟩ : Obst_Tree) = T from rfl, show (⟨M.cells, M.count⟩ : Omem_Mem) = M from rfl, h7]
  simp only [Option.bind_some]
  have I1 := I.cells (M' := ⟨M.cells, c⟩) rfl
  obtain ⟨x0, r0, rc⟩ := I1.root
  have r0' := r0
  rw [show (⟨T.nodes, T.infos⟩ : Obst_Tree) = T from rfl, beg_seek r0 rc]
  simp only [Option.bind_some]
  have hW : ∀ w ∈ ks.map (·.key), ∃ y ∈ ks, y.key = w := fun w hw => by simpa using hw
  have S0 : Sk T.nodes (.nd 0 l r) ks (ks.map (·.key)) p1 ⟨false, p1, 0, 0⟩ (some (.c_down_1 ⟨0, 0, 0, 0, 0, -1⟩ ⟨p1, 0, 0, 0⟩ (.c_Seek_1_1 ⟨p1, 0, 0, 0⟩))) _ := .word .here rfl rfl
  obtain ⟨T2, M2, l2, ks2, C2, o2, m2, g1, g2, g3, g4, g5⟩ := seek_L2 hn p2 0 T ⟨M.cells, c⟩ l r ks _ _ _ I1 hW S0 (by omega)
  rw [g1]
  simp only [Option.bind_some]
  obtain ⟨M3, C3, k1, k2, k3⟩ := sk_Run hn g2 (by omega) g3 g4
  rw [show (⟨T2.nodes, T2.infos⟩ : Obst_Tree) = T2 from rfl, show (⟨M2.cells, M2.count⟩ : Omem_Mem) = M2 from rfl, k1]
  simp only [Option.bind_some]
  have kl : ks.length ≤ 100 := by
    obtain ⟨s1, e1, e2⟩ := I.lv
    have := lvs_len (N := T.nodes) l
    have bi := I.bi
    rw [e1] at this
    simp only [List.length_append, List.length_cons, List.length_nil, BT.inn] at this bi
    omega
  have so : (ks.map (·.key)).Pairwise (fun a b => lessB a b = true) := List.pairwise_map.mpr I.kkey.2
  obtain ⟨y0, y1, q1, q2, q3⟩ := seek_L1 (p1 := p1) (x6 := (ks.map (·.key), T, ⟨M.cells, c⟩)) so (by simp; omega) (ks.map (·.key)).length 1000 ByteArray.empty false (Nat.le_refl _) (by simp; omega) (fun h => by cases h) (fun _ w hw => by have hw' : w ∈ (ks.map (·.key)).drop (ks.map (·.key)).length := hw; rw [List.drop_length] at hw'; cases hw')
  rw [show IntKind.wrap .i64 (((ks.map (·.key)).length : Int) - 1) = ((ks.map (·.key)).length : Int) - 1 from wrap_id (by simp; omega) (by simp; omega), q1]
  simp only [Option.bind_some]
  cases k3 with
  | none ho hw =>
    rw [ho]
    simp only [Bool.not_false, if_true]
    cases y1 with
    | false => rfl
    | true =>
      obtain ⟨u1, u2, _⟩ := q2 rfl
      rw [hw _ u1] at u2; cases u2
  | @found x hx ho hk hge hle =>
    rw [ho]
    simp only [Bool.not_true, Bool.false_eq_true, if_false]
    obtain ⟨c4, h8⟩ := run_keys (n := 1000) (g2.cells (M' := M3) k2) (by omega) hn
    rw [show (⟨T2.nodes, T2.infos⟩ : Obst_Tree) = T2 from rfl, show (⟨M3.cells, M3.count⟩ : Omem_Mem) = M3 from rfl, h8]
    simp only [Option.bind_some]
    have c1 : (bif (!lessB C3.told_Key p1) then (bif (!y1) then true else (leB C3.told_Key y0)) else false) = true := by
      rw [hk, hge]
      cases y1 with
      | false => rfl
      | true =>
        obtain ⟨u1, u2, _⟩ := q2 rfl
        simpa using hle _ u1 u2
    rw [if_pos c1]
    have c2 : F_ref14_In (ks2.map (·.key)) C3.told_Key = some true := by
      unfold F_ref14_In
      rw [in_ok _ _ (by rw [hk]; exact List.mem_map_of_mem hx)]
      rfl
    rw [c2]
    simp only [Option.bind_some, cond_true]
    cases p2 with
    | cons a rest => simp
    | nil =>
      have : ks2 = ks := g5 rfl
      subst this
      have xm : x.key ∈ ks2.map (·.key) := List.mem_map_of_mem hx
      cases y1 with
      | false =>
        have := q3 rfl _ xm
        rw [hge] at this; cases this
      | true =>
        obtain ⟨u1, u2, u3⟩ := q2 rfl
        have : C3.told_Key = y0 := by rw [hk]; exact leB_anti (hle _ u1 u2) (u3 _ xm hge)
        rw [this]
        simp [eqB_iff.mpr]
end Go.Proofs.Ytndhbaidibioeaa.V
