/- What a deletion tells, and leaves.
   No condition: these are laws of plain functions. -/
import Derived.Test.YtndhbaidibioeaaBg
namespace Go.Proofs.Ytndhbaidibioeaa.V
open Go
set_option linter.unusedVariables false
set_option linter.unusedSimpArgs false
set_option maxRecDepth 100000

theorem dsc_mk {N : List Tbst_node} {K : List Int} {k : Tbst_node} {i : Nat} {t o : BT} (s : Tbst_seen) : ∃ s', dsc N K k (mkN (dirN N k i) i t o) s = dsc N K k t s' ∧ s'.parent = (i : Int) ∧ s'.parentWord = wd K (nk N i).cell.toNat := by
  unfold mkN
  cases e : dirN N k i
  · rw [if_neg (by simp), dsc, if_neg (by unfold dirN at e; rw [e]; simp)]; exact ⟨_, rfl, rfl, rfl⟩
  · rw [if_pos rfl, dsc, if_pos (by unfold dirN at e; exact e)]; exact ⟨_, rfl, rfl, rfl⟩
theorem dsc_nd2 {N : List Tbst_node} {K : List Int} {k : Tbst_node} {i : Nat} {t o : BT} (ht : t.isNd = true) (s : Tbst_seen) (p g : Nat) :
    (dsc N K k (mkN (dirN N k i) i t o) s).parent = (parOf N k (mkN (dirN N k i) i t o) p : Int) ∧ (dsc N K k (mkN (dirN N k i) i t o) s).parentWord = wd K (nk N (parOf N k (mkN (dirN N k i) i t o) p)).cell.toNat ∧
    (dsc N K k (mkN (dirN N k i) i t o) s).grand = (grOf N k (mkN (dirN N k i) i t o) p g : Int) ∧ (dsc N K k (mkN (dirN N k i) i t o) s).grandWord = wd K (nk N (grOf N k (mkN (dirN N k i) i t o) p g)).cell.toNat := by
  have one : ∀ (s : Tbst_seen), s.parent = (i : Int) → s.parentWord = wd K (nk N i).cell.toNat → (dsc N K k t s).parent = (parOf N k t i : Int) ∧ (dsc N K k t s).parentWord = wd K (nk N (parOf N k t i)).cell.toNat ∧ (dsc N K k t s).grand = (grOf N k t i p : Int) ∧ (dsc N K k t s).grandWord = wd K (nk N (grOf N k t i p)).cell.toNat := by
    intro s h1 h2
    cases t with
    | lf _ => cases ht
    | nd a b c =>
      rw [dsc, parOf, grOf]
      split
      · exact dsc_par b _ a i rfl rfl h1 h2
      · exact dsc_par c _ a i rfl rfl h1 h2
  rw [parOf_mk, grOf_mk]
  obtain ⟨s', h, h1, h2⟩ := dsc_mk (N := N) (K := K) (k := k) (i := i) (t := t) (o := o) s
  rw [h]
  exact one s' h1 h2
theorem cut_ks {A B ks : List Tbst_node} {x s1 : Tbst_node} (h : A ++ x :: B = ks ++ [s1]) (hs : s1.top = 1) (hx : x.top = 0) (hp : (A ++ x :: B).Pairwise (fun a b => lessN a b = true)) :
    ∃ ks', A ++ B = ks' ++ [s1] ∧ ∀ y, y ∈ ks' ↔ y ∈ ks ∧ y ≠ x := by
  rcases List.eq_nil_or_concat B with q | ⟨B', z, q⟩
  · subst q
    have h' := (List.append_inj' h rfl).2
    have h2 : x = s1 := by simpa using h'
    rw [h2] at hx; omega
  · rw [List.concat_eq_append] at q
    subst q
    have h' : (A ++ x :: B') ++ [z] = ks ++ [s1] := by rw [← h]; simp
    obtain ⟨h1, h2⟩ := List.append_inj' h' rfl
    have h2 : z = s1 := by simpa using h2
    subst h2
    refine ⟨A ++ B', by simp, fun y => ?_⟩
    rw [← h1]
    rw [List.pairwise_append, List.pairwise_cons] at hp
    have n1 : x ∉ A := fun q => by have := hp.2.2 x q x List.mem_cons_self; rw [lessN_irrefl] at this; cases this
    have n2 : x ∉ B' := fun q => by have := hp.2.1.1 x (List.mem_append_left _ q); rw [lessN_irrefl] at this; cases this
    simp only [List.mem_append, List.mem_cons]
    grind
theorem del_op {T : Obst_Tree} {M : Omem_Mem} {l r : BT} {ks : List Tbst_node} {j n : Nat} {C : Obst_Call} {k : Tbst_node} {th : Clo} (I : BInv T M l r ks j) (hj : j ≤ 1000) (hk : k.top = 0) :
    Outc (n + 4) (F_bst_Tree_down (F_step (n + 3)) T M C s0 k (.c_remove_2 k th)) (2 * (j + 1) + 7) (fun f =>
      ((∀ y ∈ ks, y.key ≠ k.key) ∧ ∃ M', M'.cells = M.cells ∧ f = (T, M', ⟨false, C.told_Key, 0, C.told_Err⟩, none)) ∨
      (∃ x ∈ ks, x.key = k.key ∧ ∃ T' M' l' ks', BInv T' M' l' r ks' (j + 1) ∧ T'.nodes = T.nodes ∧ (∀ y, y ∈ ks' ↔ y ∈ ks ∧ y ≠ x) ∧ f = (T', M', ⟨true, C.told_Key, x.val, C.told_Err⟩, none))) := by
  have b1 := I.b1
  have b2 := I.b2
  have b3 := I.b3
  have bi := I.bi
  refine (search (b := 7) (by omega) (.nd 0 l r) s0 M I.lay rfl (fun M1 hM1 => ?_)).le (by omega)
  obtain ⟨x, h1, h2, h3, h4⟩ := I.cases hk
  have hlf := dsc_leaf (N := T.nodes) (K := M.cells) (k := k) (.nd 0 l r) s0 rfl
  rcases h4 with ⟨e, h5, h6⟩ | ⟨e, h5⟩
  rotate_left
  · rw [rem_none hlf h1 e]
    exact Outc.done (.inl ⟨h5, M1, hM1, rfl⟩)
  · have hx0 := I.kt x h5
    obtain ⟨s1, e1, e2⟩ := I.lv
    have hd := I.dir hk
    have hl : l.isNd = true := by
      cases l with
      | nd _ _ _ => rfl
      | lf i =>
        rw [lvs] at e1
        have := congrArg List.length e1
        simp at this
        rw [this] at h5; cases h5
    have hmk : BT.nd 0 l r = mkN (dirN T.nodes k 0) 0 l r := by rw [hd]; rfl
    obtain ⟨hp, hpw, hg, hgw⟩ := dsc_nd2 (N := T.nodes) (K := M.cells) (k := k) (i := 0) (t := l) (o := r) hl s0 0 0
    rw [← hmk] at hp hpw hg hgw
    obtain ⟨gm, pm, ne, xg, yp, z, c, d, w, v, s, g1, g2, g3, g4, g5, g6, g7, p1, p2, p3, p4, p5, p6, p7, p8, q1, q2, q3, q4, up⟩ := del_ok I.dis _ (.nd 0 l r) 0 l r 0 0 (Nat.le_refl _) hmk hl I.lay I.nod I.ord
    rw [nk_eq g1, g2, Int.toNat_natCast, wd_eq g4] at hgw
    rw [nk_eq p1, p2, Int.toNat_natCast, wd_eq p4] at hpw
    have hlt := I.lay.lt
    have hsl := hlt s q1
    have hpl := hlt _ pm
    have hll := hlt _ (leafOf_mem (N := T.nodes) (k := k) (.nd 0 l r))
    have room1 := I.dis.room _ _ _ g1 g2
    have room2 := I.dis.room _ _ _ p1 p2
    have apart : ∀ a b : Nat, a < 3 → b < 3 → c + a ≠ d + b := fun a b ha hb => away I.dis p1 p2 ne g1 g2 ha hb
    have dp := dn_pos (lessN k xg)
    have del0 : delT T.nodes k (.nd 0 l r) = .nd 0 (delT T.nodes k l) r := by
      rw [hmk, delT_mk, if_pos hl, hd]; rfl
    obtain ⟨A, B, a1, a2⟩ := lvs_del (N := T.nodes) (k := k) hl
    have elf : nk T.nodes (leafOf T.nodes k l) = x := by rw [← I.leaf hk]; exact nk_eq h1
    generalize dsc T.nodes M.cells k (.nd 0 l r) s0 = se at hlf hp hpw hg hgw ⊢
    generalize grOf T.nodes k (.nd 0 l r) 0 0 = g at *
    generalize parOf T.nodes k (.nd 0 l r) 0 = p at *
    generalize leafOf T.nodes k (.nd 0 l r) = lf at *
    rw [rem_begin (n := n + 2) hlf hg hp h1 e hgw g5 g6 hpw p5 p6 (by omega)]
    generalize hT' : (⟨T.nodes, T.infos ++ [⟨(g : Int), (p : Int), (lf : Int), 0, (v : Int)⟩]⟩ : Obst_Tree) = T'
    have hN' : T'.nodes = T.nodes := by rw [← hT']
    have hI' : T'.infos = T.infos ++ [⟨(g : Int), (p : Int), (lf : Int), 0, (v : Int)⟩] := by rw [← hT']
    have i0 : T'.infos[T.infos.length]? = some ⟨(g : Int), (p : Int), (lf : Int), 0, (v : Int)⟩ := by rw [hI']; simp
    have g1' := g1
    have p1' := p1
    have q3' := q3
    rw [← hN'] at g1' p1' q3'
    refine Outc.step (b := 6) (st_rem1 (n := n + 3) hg g1' g2 g3 (w := (w : Int)) (by rw [hM1]; exact g4) hgw (by omega) i0) ?_
    refine Outc.step (b := 5) (st_loses (n := n + 3) rfl p1' p2 p3 (w := (v : Int)) (by simp only [setc]; rw [gs_ne (by have := apart 0 0 (by omega) (by omega); omega), hM1]; exact p4) rfl i0) ?_
    -- the cells now
    have K2 : ∀ b u : Nat, b < 3 → 0 < b → M.cells[d + b]? = some (u : Int) → ((M1.cells.set c ((4 * T.infos.length + 2 : Nat) : Int)).set d ((4 * T.infos.length + 3 : Nat) : Int))[d + b]? = some (u : Int) := by
      intro b u hb hb0 hu
      rw [gs_ne (by omega), gs_ne (by have := apart 0 b (by omega) hb; omega), hM1]; exact hu
    -- behind the sibling
    have fin : ∀ M2 : Omem_Mem, M2.cells = (M1.cells.set c ((4 * T.infos.length + 2 : Nat) : Int)).set d ((4 * T.infos.length + 3 : Nat) : Int) →
        Outc (n + 4) (some (some (.c_turn_1 (g : Int) (s : Int) (p : Int) (.c_goes_1_1 ⟨(g : Int), (p : Int), (lf : Int), 0, (v : Int)⟩ (T.infos.length : Int) (.c_loses_1_1 (.c_remove_2_1_1 th x.val)))), T', M2, C)) 3 (fun f =>
      ((∀ y ∈ ks, y.key ≠ k.key) ∧ ∃ M', M'.cells = M.cells ∧ f = (T, M', ⟨false, C.told_Key, 0, C.told_Err⟩, none)) ∨
      (∃ x ∈ ks, x.key = k.key ∧ ∃ T' M' l' ks', BInv T' M' l' r ks' (j + 1) ∧ T'.nodes = T.nodes ∧ (∀ y, y ∈ ks' ↔ y ∈ ks ∧ y ≠ x) ∧ f = (T', M', ⟨true, C.told_Key, x.val, C.told_Err⟩, none))) := by
      intro M2 hM2
      have dz : (if lessN z xg = true then 1 else 2) = dn (lessN k xg) := by rw [q4]; rfl
      refine Outc.step (b := 2) (st_turn (n := n + 3) (o := p) g1' g2 g3 q3' (by omega) (by omega) (by rw [dz, hM2, gs_ne (by have := apart (dn (lessN k xg)) 0 dp.2 (by omega); omega), gs_ne (by omega), hM1]; exact g7)) ?_
      rw [dz, st_goes11]
      refine Outc.step (b := 1) (st_clean (n := n + 3) (p := g) (i := T.infos.length) (st := 2) (c := c) g1' g2 g3 (by omega) (by omega) (by simp only [setc]; rw [gs_ne (by omega), hM2, gs_ne (by have := apart 0 0 (by omega) (by omega); omega), gs_eq (by rw [hM1]; omega)])) ?_
      rw [st_loses11, st_rem211]
      have hpw2 := lvs_sorted I.ord.2.2.1
      rw [a1, elf] at hpw2
      obtain ⟨ks', k1, k2⟩ := cut_ks (by rw [← elf, ← a1]; exact e1) e2 hx0 hpw2
      have main : ∀ Mf : Omem_Mem, Mf.cells = (((M.cells.set c ((4 * T.infos.length + 2 : Nat) : Int)).set d ((4 * T.infos.length + 3 : Nat) : Int)).set (c + dn (lessN k xg)) (s : Int)).set c ((4 * T.infos.length + 0 : Nat) : Int) →
          BInv T' Mf (delT T.nodes k l) r ks' (j + 1) := by
        intro Mf hMf
        constructor
        · rw [← del0]
          refine (up T'.nodes _ (4 * T.infos.length + 0) (fun i z hz => by rw [hN']; exact hz) (fun b u hb1 hb2 hb3 hu => ?_) ?_ (by omega) (by omega) ?_).1
          · rw [hMf, gs_ne (by omega), gs_ne (by omega), gs_ne (by omega), gs_ne (by omega)]; exact hu
          · rw [hMf, gs_eq (by simp; omega)]
          · rw [hMf, gs_ne (by omega), gs_eq (by simp; omega)]
        · rw [← del0]; exact del_ids.nodup I.nod
        · rw [← del0, hN']; exact del_ord I.ord
        · constructor
          · rw [hN']; exact I.dis.apart
          · rw [hN', hMf]; simp only [List.length_set]; exact I.dis.room
        · rw [hN']; exact I.top0
        · exact ⟨s1, by rw [hN', a2, k1], e2⟩
        · rw [hN']; exact I.rv
        · intro y hy; exact I.kt y ((k2 y).mp hy).1
        · rw [hN']; omega
        · rw [hI']; simp; omega
        · rw [hMf]; simp; omega
        · rw [← del0]
          have := del_inn (N := T.nodes) (k := k) (t := .nd 0 l r)
          omega
      refine Outc.done (.inr ⟨x, h5, h6, T', _, _, ks', main _ ?_, hN', k2, rfl⟩)
      simp only [setc]
      rw [hM2, hM1]
    cases hdir : lessN k yp with
    | true =>
      rw [hdir] at p7 p8
      refine Outc.step (b := 3) (st_goes2_right (n := n + 3) rfl p1' p2 p3 (s := s) (by simp only [setc]; exact K2 2 s (by omega) (by omega) p8) (by omega) rfl q2) ?_ |>.le (by omega)
      rw [st_goes1 (by omega)]
      exact fin _ rfl
    | false =>
      rw [hdir] at p7 p8
      refine Outc.step (b := 4) (st_goes2_left (n := n + 3) rfl p1' p2 p3 (by simp only [setc]; exact K2 2 lf (by omega) (by omega) p7) (by omega) rfl) ?_
      refine Outc.step (b := 3) (st_goes21 (n := n + 3) rfl p1' p2 p3 (s := s) (by simp only [setc, tick]; exact K2 1 s (by omega) (by omega) p8)) ?_
      rw [st_goes1 (by omega)]
      exact fin _ rfl
end Go.Proofs.Ytndhbaidibioeaa.V
