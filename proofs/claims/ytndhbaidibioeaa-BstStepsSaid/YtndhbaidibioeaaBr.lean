/- The plain law of BstSteps.
   No condition: this is a law of plain functions. -/
import Derived.Test.YtndhbaidibioeaaBk
import Derived.Test.YtndhbaidibioeaaBq
import Derived.Test.YtndhbaidibioeaaXf
namespace Go.Proofs.Ytndhbaidibioeaa.V
open Go
set_option linter.unusedVariables false
set_option linter.unusedSimpArgs false
set_option maxRecDepth 100000

theorem Cnt.le {M M' : Omem_Mem} (h : Cnt M M') {b : Nat} (h0 : 0 ≤ M.count) (h1 : M.count ≤ b) (hb : b ≤ 1000000) : 0 ≤ M'.count ∧ M'.count ≤ ((b + 1 : Nat) : Int) ∧ ¬ M'.count > IntKind.i64.wrap (M.count + 1) := by
  have e : IntKind.i64.wrap (M.count + 1) = M.count + 1 := wrap_id (by omega) (by omega)
  rcases h with w | w
  · rw [w, e]; omega
  · rw [w, e]; omega
def CS (T : Obst_Tree) (o : Option Clo) (D : Nat) : Prop := ∀ x, o = some x → Sti T x ∧ dep x ≤ D
theorem CS.mono {T : Obst_Tree} {o : Option Clo} {D E : Nat} (h : CS T o D) (e : D ≤ E) : CS T o E := fun x hx => ⟨(h x hx).1, by have := (h x hx).2; omega⟩
theorem CS.ext {T T' : Obst_Tree} {o : Option Clo} {D : Nat} (h : CS T o D) (e : TE T T') : CS T' o D := fun x hx => ⟨(h x hx).1.ext e, (h x hx).2⟩
section
variable {n j D : Nat} {T : Obst_Tree} {M : Omem_Mem} {C : Obst_Call} {o : Option Clo}
theorem Step_ok (I : SI T M j) (hj : j ≤ 300000) (ho : CS T o D) (hn : D + 2 ≤ n) : ∃ (T' : Obst_Tree) (M' : Omem_Mem) (C' : Obst_Call) (o' : Option Clo), F_bst_Call_Step n T M ⟨C.told_Ok, C.told_Key, C.told_Val, C.told_Err, o⟩ = some (o'.isNone, T', M', ⟨C'.told_Ok, C'.told_Key, C'.told_Val, C'.told_Err, o'⟩) ∧ TE T T' ∧ SI T' M' (j + 1) ∧ Cnt M M' ∧ CS T' o' (D + 4) ∧ (o = none → M' = M) := by
  cases o with
  | none => exact ⟨T, M, C, Option.none, by unfold F_bst_Call_Step; rfl, TE.refl _, I.mono (by omega), .inl rfl, (fun x hx => by cases hx), fun _ => rfl⟩
  | some x =>
    obtain ⟨d, rfl⟩ : ∃ d, n = d + 1 := ⟨n - 1, by omega⟩
    obtain ⟨h1, h2⟩ := ho x rfl
    rcases stp_gs (n := d) (C := C) h1 I hj with ⟨o', T', M', C', g1, g2, g3, g4, g5⟩ | ⟨_, g⟩
    · exact ⟨T', M', C', o', step_some g1, g2, g3, g4, (fun y hy => ⟨(g5 y hy).1, by have := (g5 y hy).2; omega⟩), fun h => by cases h⟩
    · omega
theorem ans_ok (T : Obst_Tree) (M : Omem_Mem) (C : Obst_Call_2) : ∃ A, F_bst_Call_Answer T M C = some (A, C.next.isNone, T, M, C) := by
  unfold F_bst_Call_Answer
  cases h : C.next with
  | none => exact ⟨_, rfl⟩
  | some x => exact ⟨_, rfl⟩
theorem runL_si : ∀ (m j b : Nat) (T : Obst_Tree) (M : Omem_Mem) (C : Obst_Call) (o : Option Clo) (r : (List Tbst_node) × (List Tbst_info) × (List Int) × Int × Bool × ByteArray × Int × Int × (Option Clo)),
    F_bst_Run_L1 n m T.nodes T.infos M.cells M.count C.told_Ok C.told_Key C.told_Val C.told_Err o = some r → SI T M j → (∀ x, o = some x → Sti T x) → j + m ≤ 300000 → 0 ≤ M.count → M.count ≤ (b : Int) → b + m ≤ 1000000 →
    ∃ T' M', r.1 = T'.nodes ∧ r.2.1 = T'.infos ∧ r.2.2.1 = M'.cells ∧ r.2.2.2.1 = M'.count ∧ SI T' M' (j + m) ∧ 0 ≤ M'.count ∧ M'.count ≤ ((b + m : Nat) : Int) := by
  intro m
  induction m with
  | zero => intro j b T M C o r h; rw [F_bst_Run_L1] at h; cases h
  | succ m ih =>
    intro j b T M C o r h I ho hj h0 h1 hb
    rw [F_bst_Run_L1, show (⟨T.nodes, T.infos⟩ : Obst_Tree) = T from rfl, show (⟨M.cells, M.count⟩ : Omem_Mem) = M from rfl] at h
    cases o with
    | none =>
      unfold F_bst_Call_Step at h
      simp only [Option.isNone_none, if_true, Option.bind_some, Bool.not_true, Bool.false_eq_true, if_false] at h
      cases h
      exact ⟨T, M, rfl, rfl, rfl, rfl, I.mono (by omega), h0, by omega⟩
    | some x =>
      cases n with
      | zero =>
        unfold F_bst_Call_Step at h
        simp [F_step] at h
      | succ d =>
        rcases stp_gs (n := d) (C := C) (ho x rfl) I (by omega) with ⟨o', T', M', C', g1, g2, g3, g4, g5⟩ | ⟨g, _⟩
        · rw [step_some g1] at h
          simp only [Option.bind_some] at h
          obtain ⟨c1, c2, c3⟩ := g4.le h0 h1 (by omega)
          cases o' with
          | none =>
            simp only [Option.isNone_none, Bool.not_true, Bool.false_eq_true, if_false] at h
            cases h
            exact ⟨T', M', rfl, rfl, rfl, rfl, g3.mono (by omega), c1, by omega⟩
          | some y =>
            simp only [Option.isNone_some, Bool.not_false, if_true] at h
            obtain ⟨T2, M2, q1, q2, q3, q4, q5, q6, q7⟩ := ih (j + 1) (b + 1) T' M' C' (some y) r h g3 (fun z hz => (g5 z hz).1) (by omega) c1 c2 (by omega)
            exact ⟨T2, M2, q1, q2, q3, q4, q5.mono (by omega), q6, by omega⟩
        · exfalso
          unfold F_bst_Call_Step at h
          rw [if_neg (by simp)] at h
          simp only [Option.bind_some] at h
          rw [show (⟨C.told_Ok, C.told_Key, C.told_Val, C.told_Err⟩ : Obst_Call) = C from rfl, g] at h
          cases h
theorem run_si {b : Nat} {C2 C3 : Obst_Call_2} {A : Tbst_Answer} {T' : Obst_Tree} {M' : Omem_Mem} (h : F_bst_Run n T M C2 = some (A, T', M', C3)) (I : SI T M j) (ho : ∀ x, C2.next = some x → Sti T x) (hj : j + n ≤ 300000) (h0 : 0 ≤ M.count) (h1 : M.count ≤ (b : Int)) (hb : b + n ≤ 1000000) :
    SI T' M' (j + n) ∧ 0 ≤ M'.count ∧ M'.count ≤ ((b + n : Nat) : Int) := by
  unfold F_bst_Run at h
  cases e : F_bst_Run_L1 n n T.nodes T.infos M.cells M.count C2.told_Ok C2.told_Key C2.told_Val C2.told_Err C2.next with
  | none => rw [e] at h; cases h
  | some r =>
    rw [e] at h
    simp only [Option.bind_some] at h
    obtain ⟨T2, M2, q1, q2, q3, q4, q5, q6, q7⟩ := runL_si n j b T M ⟨C2.told_Ok, C2.told_Key, C2.told_Val, C2.told_Err⟩ C2.next r e I ho hj h0 h1 hb
    rw [q1, q2, q3, q4] at h
    rw [show (⟨T2.nodes, T2.infos⟩ : Obst_Tree) = T2 from rfl, show (⟨M2.cells, M2.count⟩ : Omem_Mem) = M2 from rfl] at h
    obtain ⟨A', ha⟩ := ans_ok T2 M2 ⟨r.2.2.2.2.1, r.2.2.2.2.2.1, r.2.2.2.2.2.2.1, r.2.2.2.2.2.2.2.1, r.2.2.2.2.2.2.2.2⟩
    rw [ha] at h
    simp only [Option.bind_some] at h
    cases h
    exact ⟨q5, q6, q7⟩
theorem SI.sn0 (I : SI T M j) : Sn T ⟨0, 0, 0, 0, 0, -1⟩ := ⟨I.root, I.root, I.root.ndx, .inl (by simp), I.zero, I.zero⟩
theorem SI.r0 (I : SI T M j) : ∃ x0, T.nodes[0]? = some x0 ∧ 0 ≤ x0.cell := by
  obtain ⟨m, c, x, e, hx, w⟩ := I.root
  obtain rfl : m = 0 := by omega
  exact ⟨x, hx, by omega⟩
theorem begun_si (I : SI T M j) (z : Timpostlaw15_Deed) : ∃ C2, F_law15_begun n T M z = some (C2, T, M) ∧ CS T C2.next 4 := by
  obtain ⟨x0, h0, hc⟩ := I.r0
  unfold F_law15_begun
  split
  · rw [beg_ins h0 hc]
    exact ⟨_, rfl, fun x hx => by cases hx; exact ⟨.down I.sn0 (.ins .ins1), by simp [dep]⟩⟩
  · split
    · rw [beg_del h0 hc]
      exact ⟨_, rfl, fun x hx => by cases hx; exact ⟨.down I.sn0 (.rem .rem1), by simp [dep]⟩⟩
    · rw [beg_find h0 hc]
      exact ⟨_, rfl, fun x hx => by cases hx; exact ⟨.down I.sn0 .find, by simp [dep]⟩⟩
theorem seek_si (I : SI T M j) (k : ByteArray) : ∃ C2, F_bst_Tree_Seek n T M k = some (C2, T, M) ∧ CS T C2.next 4 := by
  obtain ⟨x0, h0, hc⟩ := I.r0
  rw [beg_seek h0 hc]
  exact ⟨_, rfl, fun x hx => by cases hx; exact ⟨.down I.sn0 .seek, by simp [dep]⟩⟩
theorem si0 : SI ⟨[⟨ByteArray.empty, 2, 0, 0⟩, ⟨ByteArray.empty, 1, 0, -1⟩, ⟨ByteArray.empty, 2, 0, -1⟩], [⟨0, 0, 0, 0, 0⟩]⟩ ⟨[0, 1, 2], 2⟩ 0 := by
  have r : Inn ⟨[⟨ByteArray.empty, 2, 0, 0⟩, ⟨ByteArray.empty, 1, 0, -1⟩, ⟨ByteArray.empty, 2, 0, -1⟩], [⟨0, 0, 0, 0, 0⟩]⟩ 0 := ⟨0, 0, _, rfl, rfl, rfl⟩
  refine ⟨fun x hx => ?_, r, by simp, fun a w h => ?_, ⟨rfl, by simp⟩, fun y hy => ?_, by simp, by simp⟩
  · simp only [List.mem_cons, List.not_mem_nil, or_false] at hx
    rcases hx with rfl | rfl | rfl
    · exact .inr ⟨0, rfl, by simp⟩
    · exact .inl rfl
    · exact .inl rfl
  · match a, h with
    | 0, h => cases h; exact ⟨fun _ => ⟨0, rfl, by simp⟩, fun q => by simp at q⟩
    | 1, h => cases h; exact ⟨fun q => by simp at q, fun _ => ⟨1, rfl, by simp⟩⟩
    | 2, h => cases h; exact ⟨fun q => by simp at q, fun _ => ⟨2, rfl, by simp⟩⟩
    | a + 3, h => simp at h
  · rw [List.mem_singleton] at hy
    rw [hy]
    exact ⟨r, r, r.ndx, r.ndx⟩
end
theorem ran_si {n : Nat} (hn : 1000 ≤ n) (hn2 : n ≤ 4000) : ∀ (ds : List Timpostlaw15_Deed) (i : Nat) (xs : List Timpostref15_Entry) (T : Obst_Tree) (M : Omem_Mem) (l r : BT) (ks : List Tbst_node), BInv T M l r ks i → Ent ks xs → xs.length ≤ i → i ≤ 60 → SI T M (i * n) → 0 ≤ M.count → M.count ≤ ((3 + i * n : Nat) : Int) →
    ∃ (T' : Obst_Tree) (M' : Omem_Mem), F_law15_ran_L1 n ds i T.nodes T.infos M.cells M.count = some (T'.nodes, T'.infos, M'.cells, M'.count) ∧ SI T' M' (60 * n) ∧ 0 ≤ M'.count ∧ M'.count ≤ ((3 + 60 * n : Nat) : Int)
  | [], i, xs, T, M, l, r, ks, I, _, _, hi, S, c0, c1 => by
    have : i * n ≤ 60 * n := Nat.mul_le_mul_right _ hi
    exact ⟨T, M, by rw [F_law15_ran_L1], S.mono this, c0, by omega⟩
  | z :: ds, i, xs, T, M, l, r, ks, I, E, hx, hi, S, c0, c1 => by
    rw [F_law15_ran_L1]
    have hle : i * n ≤ 60 * n := Nat.mul_le_mul_right _ hi
    by_cases hlt : i < 60
    · rw [if_pos (decide_eq_true (by omega))]
      obtain ⟨C2, C3, T', M', l', ks', b, w, xs', h1, h2, h3, h4, h5, h6⟩ := bop_ok I E hx (by omega) hn z
      have hm : i * n + n ≤ 60 * n := by
        have : (i + 1) * n ≤ 60 * n := Nat.mul_le_mul_right _ hlt
        rw [Nat.succ_mul] at this; exact this
      obtain ⟨C2', b1, b2⟩ := begun_si (n := n) S z
      rw [h1] at b1
      cases b1
      obtain ⟨s1, s2, s3⟩ := run_si (b := 3 + i * n) h2 S (fun x hx => (b2 x hx).1) (by omega) c0 c1 (by omega)
      rw [show (⟨T.nodes, T.infos⟩ : Obst_Tree) = T from rfl, show (⟨M.cells, M.count⟩ : Omem_Mem) = M from rfl, h1]
      simp only [Option.bind_some]
      rw [show (⟨T.nodes, T.infos⟩ : Obst_Tree) = T from rfl, show (⟨M.cells, M.count⟩ : Omem_Mem) = M from rfl, show (⟨C2.told_Ok, C2.told_Key, C2.told_Val, C2.told_Err, C2.next⟩ : Obst_Call_2) = C2 from rfl, h2]
      simp only [Option.bind_some]
      refine ran_si hn hn2 ds (i + 1) xs' T' M' l' r ks' h4 h5 h6 (by omega) (s1.mono (by rw [Nat.succ_mul]; omega)) s2 ?_
      rw [Nat.succ_mul]; omega
    · rw [if_neg (by rw [decide_eq_true_iff]; omega)]
      exact ⟨T, M, rfl, S.mono hle, c0, by omega⟩
theorem steps_L1 {n J : Nat} (hn : 3000 ≤ n) (p2 : List Bool) : ∀ (m i : Nat) (T : Obst_Tree) (M : Omem_Mem) (C1 C2 C3 : Obst_Call) (o1 o2 o3 : Option Clo), i ≤ 600 → 600 - i < m → SI T M (J + i) → J ≤ 250000 → 0 ≤ M.count → M.count ≤ ((3 + J + i : Nat) : Int) → CS T o1 (4 + 4 * i) → CS T o2 (4 + 4 * i) → CS T o3 (4 + 4 * i) →
    ∃ u, F_law15_BstSteps_L1 n p2 m (i : Int) T.nodes T.infos M.cells M.count C3.told_Ok C3.told_Key C3.told_Val C3.told_Err o3 C2.told_Ok C2.told_Key C2.told_Val C2.told_Err o2 C1.told_Ok C1.told_Key C1.told_Val C1.told_Err o1 = some (.go u)
  | 0, i, T, M, C1, C2, C3, o1, o2, o3, hi, hm, I, hJ, hc0, hc1, h1, h2, h3 => by omega
  | m + 1, i, T, M, C1, C2, C3, o1, o2, o3, hi, hm, I, hJ, hc0, hc1, h1, h2, h3 => by
    rw [F_law15_BstSteps_L1]
    by_cases hlt : i < 600
    · rw [if_pos (decide_eq_true (by omega))]
      have q1 : ∃ b1 b2, (if (decide ((i : Int) < (p2.length : Int))) = true then ((getI p2 (i : Int)).bind fun x63 => some (true, x63)) else (some (false, false)) : Option (Bool × Bool)) = some (b1, b2) := by
        by_cases hp : i < p2.length
        · rw [if_pos (decide_eq_true (by omega)), getI_nat, List.getElem?_eq_getElem hp]
          exact ⟨_, _, rfl⟩
        · rw [if_neg (by rw [decide_eq_true_iff]; omega)]
          exact ⟨_, _, rfl⟩
      obtain ⟨b1, b2, q1⟩ := q1
      rw [q1]
      simp only [Option.bind_some]
      have q2 : ∃ k : Nat, k < 3 ∧ (if b2 = true then (some 0) else (some (Int.tmod (i : Int) 3)) : Option (Int)) = some (k : Int) := by
        split
        · exact ⟨0, by omega, rfl⟩
        · refine ⟨i % 3, by omega, ?_⟩
          congr 1
      obtain ⟨k, hk, q2⟩ := q2
      rw [q2]
      simp only [Option.bind_some, F_mem_Mem_Count]
      have wi : IntKind.i64.wrap ((i : Int) + 1) = ((i + 1 : Nat) : Int) := by rw [wrap_id (by omega) (by omega)]; omega
      rw [wi]
      obtain ⟨A1, a1⟩ := ans_ok T M ⟨C1.told_Ok, C1.told_Key, C1.told_Val, C1.told_Err, o1⟩
      obtain ⟨A2, a2⟩ := ans_ok T M ⟨C2.told_Ok, C2.told_Key, C2.told_Val, C2.told_Err, o2⟩
      obtain ⟨A3, a3⟩ := ans_ok T M ⟨C3.told_Ok, C3.told_Key, C3.told_Val, C3.told_Err, o3⟩
      by_cases k0 : k = 0
      · subst k0
        rw [if_pos rfl]
        rw [show (⟨T.nodes, T.infos⟩ : Obst_Tree) = T from rfl, show (⟨M.cells, M.count⟩ : Omem_Mem) = M from rfl, a1]
        simp only [Option.bind_some]
        obtain ⟨T', M', C', o', g1, g2, g3, g4, g5, g6⟩ := Step_ok (n := n) (C := C1) I (by omega) h1 (by omega)
        rw [show (⟨T.nodes, T.infos⟩ : Obst_Tree) = T from rfl, show (⟨M.cells, M.count⟩ : Omem_Mem) = M from rfl, g1]
        simp only [Option.bind_some]
        obtain ⟨A', a'⟩ := ans_ok T' M' ⟨C'.told_Ok, C'.told_Key, C'.told_Val, C'.told_Err, o'⟩
        rw [show (⟨T'.nodes, T'.infos⟩ : Obst_Tree) = T' from rfl, show (⟨M'.cells, M'.count⟩ : Omem_Mem) = M' from rfl, a']
        simp only [Option.bind_some, F_mem_Mem_Count]
        obtain ⟨c1, c2, c3⟩ := g4.le hc0 hc1 (by omega)
        have e1 : decide (M'.count > IntKind.i64.wrap (M.count + 1)) = false := decide_eq_false c3
        rw [e1]
        have e2 : (if o1.isNone = true then some (true, (M'.count != M.count), M'.cells, M'.count) else some (false, false, M'.cells, M'.count) : Option (Bool × Bool × (List Int) × Int)) = some (o1.isNone, false, M'.cells, M'.count) := by
          cases o1 with
          | none => rw [g6 rfl]; simp
          | some x => rfl
        simp only [Bool.false_eq_true, if_false]
        rw [e2]
        simp only [Option.bind_some, cond_false, beq_self_eq_true, Bool.not_true, Bool.false_eq_true, if_false, lpK2]
        exact steps_L1 hn p2 m (i + 1) T' M' C' C2 C3 o' o2 o3 (by omega) (by omega) (g3.mono (by omega)) hJ c1 (by omega) (g5.mono (by omega)) ((h2.ext g2).mono (by omega)) ((h3.ext g2).mono (by omega))
      · by_cases k1 : k = 1
        · subst k1
          rw [if_neg (by decide), if_pos rfl]
          rw [show (⟨T.nodes, T.infos⟩ : Obst_Tree) = T from rfl, show (⟨M.cells, M.count⟩ : Omem_Mem) = M from rfl, a2]
          simp only [Option.bind_some]
          obtain ⟨T', M', C', o', g1, g2, g3, g4, g5, g6⟩ := Step_ok (n := n) (C := C2) I (by omega) h2 (by omega)
          rw [show (⟨T.nodes, T.infos⟩ : Obst_Tree) = T from rfl, show (⟨M.cells, M.count⟩ : Omem_Mem) = M from rfl, g1]
          simp only [Option.bind_some]
          obtain ⟨A', a'⟩ := ans_ok T' M' ⟨C'.told_Ok, C'.told_Key, C'.told_Val, C'.told_Err, o'⟩
          rw [show (⟨T'.nodes, T'.infos⟩ : Obst_Tree) = T' from rfl, show (⟨M'.cells, M'.count⟩ : Omem_Mem) = M' from rfl, a']
          simp only [Option.bind_some, F_mem_Mem_Count]
          obtain ⟨c1, c2, c3⟩ := g4.le hc0 hc1 (by omega)
          have e1 : decide (M'.count > IntKind.i64.wrap (M.count + 1)) = false := decide_eq_false c3
          rw [e1]
          have e2 : (if o2.isNone = true then some (true, (M'.count != M.count), M'.cells, M'.count) else some (false, false, M'.cells, M'.count) : Option (Bool × Bool × (List Int) × Int)) = some (o2.isNone, false, M'.cells, M'.count) := by
            cases o2 with
            | none => rw [g6 rfl]; simp
            | some x => rfl
          simp only [Bool.false_eq_true, if_false]
          rw [e2]
          simp only [Option.bind_some, cond_false, beq_self_eq_true, Bool.not_true, Bool.false_eq_true, if_false, lpK2]
          exact steps_L1 hn p2 m (i + 1) T' M' C1 C' C3 o1 o' o3 (by omega) (by omega) (g3.mono (by omega)) hJ c1 (by omega) ((h1.ext g2).mono (by omega)) (g5.mono (by omega)) ((h3.ext g2).mono (by omega))
        · obtain rfl : k = 2 := by omega
          rw [if_neg (by decide), if_neg (by decide), if_pos rfl]
          rw [show (⟨T.nodes, T.infos⟩ : Obst_Tree) = T from rfl, show (⟨M.cells, M.count⟩ : Omem_Mem) = M from rfl, a3]
          simp only [Option.bind_some]
          obtain ⟨T', M', C', o', g1, g2, g3, g4, g5, g6⟩ := Step_ok (n := n) (C := C3) I (by omega) h3 (by omega)
          rw [show (⟨T.nodes, T.infos⟩ : Obst_Tree) = T from rfl, show (⟨M.cells, M.count⟩ : Omem_Mem) = M from rfl, g1]
          simp only [Option.bind_some]
          obtain ⟨A', a'⟩ := ans_ok T' M' ⟨C'.told_Ok, C'.told_Key, C'.told_Val, C'.told_Err, o'⟩
          rw [show (⟨T'.nodes, T'.infos⟩ : Obst_Tree) = T' from rfl, show (⟨M'.cells, M'.count⟩ : Omem_Mem) = M' from rfl, a']
          simp only [Option.bind_some, F_mem_Mem_Count]
          obtain ⟨c1, c2, c3⟩ := g4.le hc0 hc1 (by omega)
          have e1 : decide (M'.count > IntKind.i64.wrap (M.count + 1)) = false := decide_eq_false c3
          rw [e1]
          have e2 : (if o3.isNone = true then some (true, (M'.count != M.count), M'.cells, M'.count) else some (false, false, M'.cells, M'.count) : Option (Bool × Bool × (List Int) × Int)) = some (o3.isNone, false, M'.cells, M'.count) := by
            cases o3 with
            | none => rw [g6 rfl]; simp
            | some x => rfl
          simp only [Bool.false_eq_true, if_false]
          rw [e2]
          simp only [Option.bind_some, cond_false, beq_self_eq_true, Bool.not_true, Bool.false_eq_true, if_false, lpK2]
          exact steps_L1 hn p2 m (i + 1) T' M' C1 C2 C' o1 o2 o' (by omega) (by omega) (g3.mono (by omega)) hJ c1 (by omega) ((h1.ext g2).mono (by omega)) ((h2.ext g2).mono (by omega)) (g5.mono (by omega))
    · rw [if_neg (by rw [decide_eq_true_iff]; omega)]
      exact ⟨_, rfl⟩
theorem plain_BstSteps (p0 : List Timpostlaw15_Deed) (p1 : A2_Timpostlaw15_Deed) (p2 : List Bool) (w0 : (∀ a ∈ p0, W_Timpostlaw15_Deed a) ∧ p0.length ≤ maxLen) (w1 : W_A2_Timpostlaw15_Deed p1) (w2 : (∀ a ∈ p2, True) ∧ p2.length ≤ maxLen) : ∃ n, F_law15_BstSteps n p0 p1 p2 = some true := by
  refine ⟨4000, ?_⟩
  unfold F_law15_BstSteps F_law15_ran F_mem_New_nil
  simp only [Option.bind_some]
  rw [bnew_ok]
  simp only [Option.bind_some]
  obtain ⟨T, M, h, S, c0, c1⟩ := ran_si (n := 4000) (by omega) (by omega) p0 0 [] _ _ _ _ _ inv0 ⟨fun e => by simp, fun e he => absurd he List.not_mem_nil⟩ (Nat.le_refl _) (by omega) (by rw [Nat.zero_mul]; exact si0) (by simp) (by simp)
  rw [h]
  simp only [Option.bind_some]
  obtain ⟨C1, h1, k1⟩ := begun_si (n := 4000) S p1.x0
  obtain ⟨C2, h2, k2⟩ := begun_si (n := 4000) S p1.x1
  obtain ⟨C3, h3, k3⟩ := seek_si (n := 4000) S p1.x0.Key
  rw [show (⟨T.nodes, T.infos⟩ : Obst_Tree) = T from rfl, show (⟨M.cells, M.count⟩ : Omem_Mem) = M from rfl, h1]
  simp only [Option.bind_some]
  rw [show (⟨T.nodes, T.infos⟩ : Obst_Tree) = T from rfl, show (⟨M.cells, M.count⟩ : Omem_Mem) = M from rfl, h2]
  simp only [Option.bind_some]
  rw [show (⟨T.nodes, T.infos⟩ : Obst_Tree) = T from rfl, show (⟨M.cells, M.count⟩ : Omem_Mem) = M from rfl, h3]
  simp only [Option.bind_some]
  obtain ⟨u, hu⟩ := steps_L1 (n := 4000) (J := 60 * 4000) (by omega) p2 4000 0 T M ⟨C1.told_Ok, C1.told_Key, C1.told_Val, C1.told_Err⟩ ⟨C2.told_Ok, C2.told_Key, C2.told_Val, C2.told_Err⟩ ⟨C3.told_Ok, C3.told_Key, C3.told_Val, C3.told_Err⟩ C1.next C2.next C3.next (by omega) (by omega) S (by omega) c0 (by omega) k1 k2 k3
  rw [show (0 : Int) = ((0 : Nat) : Int) from rfl, hu]
  rfl
end Go.Proofs.Ytndhbaidibioeaa.V
