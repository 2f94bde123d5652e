/- The tree's steps, one by one: what each does to cells, nodes, and infos.
   No condition: these are laws of plain functions. -/
import Derived.Test.YtndhbaidibioeaaGreatPQ
import Derived.Test.YtndhbaidibioeaaGreatVQ
namespace Go.Proofs.YtndhbaidibioeaaGreat.V
open Go
set_option linter.unusedVariables false
set_option linter.unusedSimpArgs false
set_option maxRecDepth 100000
theorem wrap_u64 {n : Int} (h0 : 0 ≤ n) (h1 : n < 18446744073709551616) : IntKind.wrap .u64 n = n := by
 have : IntKind.wrap .u64 n = n % 18446744073709551616 := rfl
 rw [this, Int.emod_eq_of_lt h0 h1]
theorem and3 (w : Nat) (h : w < 18446744073709551616) : andI .u64 (w : Int) 3 = ((w % 4 : Nat) : Int) := by
 unfold andI
 have e : (BitVec.ofInt 64 (w : Int) &&& BitVec.ofInt 64 3).toNat = w % 4 := by
  rw [BitVec.toNat_and, BitVec.toNat_ofInt, BitVec.toNat_ofInt]
  have e1 : ((w : Int) % ((2 ^ 64 : Nat) : Int)).toNat = w := by
   rw [Int.emod_eq_of_lt (by omega) (by omega)]; omega
  have e2 : ((3 : Int) % ((2 ^ 64 : Nat) : Int)).toNat = 3 := rfl
  rw [e1, e2]
  exact Nat.and_two_pow_sub_one_eq_mod w 2
 show IntKind.wrap .u64 ((BitVec.ofInt 64 (w : Int) &&& BitVec.ofInt 64 3).toNat : Int) = _
 rw [e, wrap_u64 (by omega) (by omega)]
theorem wstate_ok (w : Nat) (h : w < 9223372036854775808) : F_word_State (w : Int) = some ((w % 4 : Nat) : Int) := by
 unfold F_word_State
 rw [and3 w (by omega), wrap_id (by omega) (by omega)]
theorem winfo_ok (w : Nat) (h : w < 9223372036854775808) : F_word_Info (w : Int) = some ((w / 4 : Nat) : Int) := by
 unfold F_word_Info shrI
 have : ((w : Int)).fdiv (2 ^ (min (2 : Int).toNat (IntKind.bits .u64))) = ((w / 4 : Nat) : Int) := by
  have e : (2 : Int) ^ (min (2 : Int).toNat (IntKind.bits .u64)) = 4 := rfl
  rw [e, Int.fdiv_eq_ediv_of_nonneg _ (by omega)]
  omega
 rw [this, wrap_id (by omega) (by omega)]
theorem wpack_ok (i st : Nat) (hi : i < 1099511627776) (hs : st < 4) : F_word_Pack (st : Int) (i : Int) = some ((4 * i + st : Nat) : Int) := by
 unfold F_word_Pack
 rw [wrap_u64 (by omega) (by omega), wrap_u64 (by omega) (by omega), and3 st (by omega)]
 have e1 : shlI .u64 (i : Int) 2 = ((i * 4 : Nat) : Int) := by
  unfold shlI
  have e : (2 : Int) ^ (min (2 : Int).toNat (IntKind.bits .u64)) = 4 := rfl
  rw [e, wrap_u64 (by omega) (by omega)]
  omega
 rw [e1]
 unfold orI
 have e2 : (BitVec.ofInt 64 ((i * 4 : Nat) : Int) ||| BitVec.ofInt 64 ((st % 4 : Nat) : Int)).toNat = 4 * i + st := by
  rw [BitVec.toNat_or, BitVec.toNat_ofInt, BitVec.toNat_ofInt]
  have q1 : (((i * 4 : Nat) : Int) % ((2 ^ 64 : Nat) : Int)).toNat = i * 4 := by
   rw [Int.emod_eq_of_lt (by omega) (by omega)]; omega
  have q2 : (((st % 4 : Nat) : Int) % ((2 ^ 64 : Nat) : Int)).toNat = st := by
   rw [Int.emod_eq_of_lt (by omega) (by omega)]; omega
  rw [q1, q2]
  have := Nat.shiftLeft_add_eq_or_of_lt (a := i) (b := st) (i := 2) hs
  rw [Nat.shiftLeft_eq] at this
  rw [← this]; omega
 show some (IntKind.wrap .u64 ((BitVec.ofInt 64 ((i * 4 : Nat) : Int) ||| BitVec.ofInt 64 ((st % 4 : Nat) : Int)).toNat : Int)) = _
 rw [e2, wrap_u64 (by omega) (by omega)]
def tick (M : Omem_Mem) : Omem_Mem := ⟨M.cells, IntKind.i64.wrap (M.count + 1)⟩
def setc (M : Omem_Mem) (a : Nat) (v : Int) : Omem_Mem := ⟨M.cells.set a v, IntKind.i64.wrap (M.count + 1)⟩
theorem load_ok {M : Omem_Mem} {a : Nat} {v : Int} (h : M.cells[a]? = some v) : F_mem_Mem_Load M (a : Int) = some (v, 0, tick M) := by
 unfold F_mem_Mem_Load
 rw [getI_nat, h]; rfl
theorem store_ok {M : Omem_Mem} {a : Nat} {v : Int} (h : a < M.cells.length) : F_mem_Mem_Store M (a : Int) v = some (0, setc M a v) := by
 unfold F_mem_Mem_Store
 rw [getI_nat, List.getElem?_eq_getElem h]; rfl
theorem cas_ok {M : Omem_Mem} {a : Nat} {v x : Int} (h : M.cells[a]? = some v) : F_mem_Mem_CAS M (a : Int) v x = some (v, true, setc M a x) := by
 unfold F_mem_Mem_CAS
 rw [getI_nat, h]
 simp [setc, setI]
theorem cas_no {M : Omem_Mem} {a : Nat} {v o x : Int} (h : M.cells[a]? = some v) (hn : v ≠ o) : F_mem_Mem_CAS M (a : Int) o x = some (v, false, tick M) := by
 unfold F_mem_Mem_CAS
 rw [getI_nat, h]
 have : (v == o) = false := by rw [beq_eq_false_iff_ne]; exact hn
 simp [this, tick]
theorem cell_ok {T : Obst_Tree} {M : Omem_Mem} {i c k : Nat} {x : Tbst_node} (h : T.nodes[i]? = some x) (hc : x.cell = (c : Int)) (hb : c + k < 4611686018427387904) : F_bst_Tree_cell T M (i : Int) (k : Int) = some (((c + k : Nat) : Int), T, M) := by
 unfold F_bst_Tree_cell
 rw [getI_nat, h]
 simp only [Option.bind_some, hc]
 rw [wrap_id (by omega) (by omega)]
 rfl
theorem grow_ok {M : Omem_Mem} (h : M.cells.length + 3 ≤ 65536) : F_mem_Mem_Grow M 3 = some ((M.cells.length : Int), 0, ⟨M.cells ++ [0, 0, 0], M.count⟩) := by
 unfold F_mem_Mem_Grow
 have e : decide ((3 : Int) > IntKind.i64.wrap (65536 - (M.cells.length : Int))) = false := by
  rw [wrap_id (by omega) (by omega)]
  exact decide_eq_false (by omega)
 rw [e]
 simp only [show decide ((3 : Int) < 0) = false from rfl, Bool.false_eq_true, if_false, Option.bind_some]
 have e2 : mkZ 3 = some [0, 0, 0] := rfl
 rw [e2]
 simp only [Option.bind_some, F_mem_Mem_add]
 rw [appL_ok (by simp; omega) (by omega) (by omega)]
 rfl
abbrev Rsl := (Option Clo) × Obst_Tree × Omem_Mem × Obst_Call
theorem rb (o : Option Rsl) : (o.bind fun x => some (x.1, (⟨x.2.1.nodes, x.2.1.infos⟩ : Obst_Tree), (⟨x.2.2.1.cells, x.2.2.1.count⟩ : Omem_Mem), (⟨x.2.2.2.told_Ok, x.2.2.2.told_Key, x.2.2.2.told_Val, x.2.2.2.told_Err⟩ : Obst_Call))) = o := by
 cases o <;> rfl
def lessN (a b : Tbst_node) : Bool := if (a.top != b.top) = true then decide (a.top < b.top) else lessB a.key b.key
theorem less_ok (a b : Tbst_node) : F_bst_node_less a b = some (lessN a b) := by unfold F_bst_node_less lessN; split <;> rfl
theorem lessN_irrefl (a : Tbst_node) : lessN a a = false := by unfold lessN; simp [less_irrefl]
theorem lessN_iff {a b : Tbst_node} : lessN a b = true ↔ a.top < b.top ∨ (a.top = b.top ∧ lessB a.key b.key = true) := by
 unfold lessN
 by_cases h : a.top = b.top
 ·
  rw [if_neg (by simp [h])]
  exact ⟨fun q => .inr ⟨h, q⟩, fun q => by rcases q with q | q; omega; exact q.2⟩
 ·
  rw [if_pos (by simpa using h), decide_eq_true_iff]
  exact ⟨fun q => .inl q, fun q => by rcases q with q | q; exact q; exact absurd q.1 h⟩
theorem lessN_neg {a b : Tbst_node} : lessN a b = false ↔ b.top < a.top ∨ (a.top = b.top ∧ lessB a.key b.key = false) := by
 constructor
 ·
  intro h
  have h1 : ¬ (a.top < b.top ∨ (a.top = b.top ∧ lessB a.key b.key = true)) := fun q => by rw [lessN_iff.mpr q] at h; cases h
  by_cases q : a.top = b.top
  ·
   refine .inr ⟨q, ?_⟩
   cases e : lessB a.key b.key with
   | false => rfl
   | true => exact absurd (.inr ⟨q, e⟩) h1
  ·
   exact .inl (by have := fun w => h1 (.inl w); omega)
 ·
  intro h
  cases e : lessN a b with
  | false => rfl
  | true =>
   rcases lessN_iff.mp e with q | q <;> rcases h with w | w
   ·
    omega
   ·
    omega
   ·
    omega
   ·
    rw [w.2] at q; cases q.2
theorem lessN_le {a b c : Tbst_node} (h1 : lessN a b = true) (h2 : lessN c b = false) : lessN a c = true := by
 rw [lessN_iff] at *
 rw [lessN_neg] at h2
 rcases h1 with q | q <;> rcases h2 with w | w
 ·
  exact .inl (by omega)
 ·
  exact .inl (by omega)
 ·
  exact .inl (by omega)
 ·
  refine .inr ⟨by omega, ?_⟩
  have := less_le (x := a.key) (y := b.key) (z := c.key) q.2 (by rw [leB_not, w.2]; rfl)
  exact this
theorem lessN_eq {a b c : Tbst_node} (h1 : lessN a b = false) (h2 : lessN b a = false) : lessN a c = lessN b c := by
 cases e : lessN b c with
 | true =>
  cases e2 : lessN a c with
  | true => rfl
  | false => have := lessN_le e e2; rw [h2] at this; cases this
 | false =>
  cases e2 : lessN a c with
  | false => rfl
  | true => have := lessN_le e2 e; rw [h1] at this; cases this
inductive BT where
 | lf (i : Nat)
 | nd (i : Nat) (l r : BT)
namespace BT
def root : BT → Nat
 | lf i => i
 | nd i _ _ => i
def ids : BT → List Nat
 | lf i => [i]
 | nd i l r => i :: (ids l ++ ids r)
def inn : BT → Nat
 | lf _ => 0
 | nd _ l r => inn l + inn r + 1
def isNd : BT → Bool
 | lf _ => false
 | nd _ _ _ => true
theorem root_mem : ∀ t : BT, t.root ∈ t.ids
 | lf i => List.mem_cons_self
 | nd i l r => List.mem_cons_self
end BT
def nk (N : List Tbst_node) (i : Nat) : Tbst_node := N.getD i default
theorem nk_eq {N : List Tbst_node} {i : Nat} {x : Tbst_node} (h : N[i]? = some x) : nk N i = x := by
 unfold nk; rw [List.getD_eq_getElem?_getD, h]; rfl
def wd (K : List Int) (c : Nat) : Int := K.getD c 0
theorem wd_eq {K : List Int} {c : Nat} {w : Int} (h : K[c]? = some w) : wd K c = w := by
 unfold wd; rw [List.getD_eq_getElem?_getD, h]; rfl
def Lay (N : List Tbst_node) (K : List Int) : BT → Prop
 | .lf i => ∃ x, N[i]? = some x ∧ x.cell = -1
 | .nd i l r => ∃ x c w, N[i]? = some x ∧ x.cell = ((c : Nat) : Int) ∧ c < 1073741824 ∧ K[c]? = some ((w : Nat) : Int) ∧ w % 4 < 2 ∧ w < 1099511627776 ∧ K[c + 1]? = some ((l.root : Nat) : Int) ∧ K[c + 2]? = some ((r.root : Nat) : Int) ∧ Lay N K l ∧ Lay N K r
theorem Lay.lt {N : List Tbst_node} {K : List Int} : ∀ {t : BT}, Lay N K t → ∀ i ∈ t.ids, i < N.length
 | .lf i, ⟨x, h, _⟩, j, hj => by
  have : j = i := by simpa [BT.ids] using hj
  subst this
  exact (List.getElem?_eq_some_iff.mp h).1
 | .nd i l r, ⟨x, c, w, h, _, _, _, _, _, _, _, h1, h2⟩, j, hj => by
  rcases List.mem_cons.mp hj with q | q
  ·
   subst q; exact (List.getElem?_eq_some_iff.mp h).1
  ·
   rcases List.mem_append.mp q with q | q
   ·
    exact Lay.lt h1 j q
   ·
    exact Lay.lt h2 j q
abbrev Cfg := Obst_Tree × Omem_Mem × Obst_Call × Option Clo
inductive Rs (n : Nat) : Nat → Obst_Tree → Omem_Mem → Obst_Call → Option Clo → Cfg → Prop
 | refl {T : Obst_Tree} {M : Omem_Mem} {C : Obst_Call} {o : Option Clo} : Rs n 0 T M C o (T, M, C, o)
 | step {k : Nat} {T T2 : Obst_Tree} {M M2 : Omem_Mem} {C C2 : Obst_Call} {x : Clo} {o : Option Clo} {f : Cfg} (h : F_step n T M C x .u = some (o, T2, M2, C2)) (r : Rs n k T2 M2 C2 o f) : Rs n (k + 1) T M C (some x) f
def Outc (n : Nat) (r : Option Rsl) (b : Nat) (P : Cfg → Prop) : Prop := ∃ o T M C k f, r = some (o, T, M, C) ∧ k ≤ b ∧ Rs n k T M C o f ∧ P f
theorem Outc.done {n b : Nat} {o : Option Clo} {T : Obst_Tree} {M : Omem_Mem} {C : Obst_Call} {P : Cfg → Prop} (h : P (T, M, C, o)) : Outc n (some (o, T, M, C)) b P := ⟨o, T, M, C, 0, _, rfl, Nat.zero_le _, .refl, h⟩
theorem Outc.step {n b : Nat} {x : Clo} {T : Obst_Tree} {M : Omem_Mem} {C : Obst_Call} {P : Cfg → Prop} {r : Option Rsl} (e : F_step n T M C x .u = r) (h : Outc n r b P) : Outc n (some (some x, T, M, C)) (b + 1) P := by
 obtain ⟨o, T2, M2, C2, k, f, h1, h2, h3, h4⟩ := h
 exact ⟨some x, T, M, C, k + 1, f, rfl, by omega, .step (e.trans h1) h3, h4⟩
theorem Outc.le {n b c : Nat} {P : Cfg → Prop} {r : Option Rsl} (h : Outc n r b P) (hb : b ≤ c) : Outc n r c P := by
 obtain ⟨o, T2, M2, C2, k, f, h1, h2, h3, h4⟩ := h
 exact ⟨o, T2, M2, C2, k, f, h1, by omega, h3, h4⟩
theorem down_lf {rc : RC} {T : Obst_Tree} {M : Omem_Mem} {C : Obst_Call} {s : Tbst_seen} {k : Tbst_node} {th : Clo} {i : Nat} {x : Tbst_node} (hs : s.leaf = (i : Int)) (h : T.nodes[i]? = some x) (hc : x.cell = -1) :
 F_bst_Tree_down rc T M C s k th = rc T M C th (.s s) := by
 unfold F_bst_Tree_down F_bst_node_leaf
 rw [hs, getI_nat, h]
 simp only [Option.bind_some, hc]
 rw [if_pos (by decide)]
 exact rb _
theorem down_nd {rc : RC} {T : Obst_Tree} {M : Omem_Mem} {C : Obst_Call} {s : Tbst_seen} {k : Tbst_node} {th : Clo} {i : Nat} {x : Tbst_node} (hs : s.leaf = (i : Int)) (h : T.nodes[i]? = some x) (hc : 0 ≤ x.cell) :
 F_bst_Tree_down rc T M C s k th = some (some (.c_down_1 ⟨s.parent, (i : Int), (i : Int), s.parentWord, s.parentWord, s.turn⟩ k th), T, M, C) := by
 unfold F_bst_Tree_down F_bst_node_leaf
 rw [hs, getI_nat, h]
 simp only [Option.bind_some]
 rw [if_neg (by rw [decide_eq_true_iff]; omega)]
theorem side_ok {T : Obst_Tree} {M : Omem_Mem} {i c : Nat} {x k : Tbst_node} (h : T.nodes[i]? = some x) (hc : x.cell = (c : Int)) (hb : c < 1073741824) :
 F_bst_Tree_side T M (i : Int) k = some (((c + (if lessN k x = true then 1 else 2) : Nat) : Int), T, M) := by
 unfold F_bst_Tree_side
 rw [getI_nat, h]
 simp only [Option.bind_some, less_ok]
 cases e : lessN k x with
 | true =>
  simp only [if_true]
  rw [show (1 : Int) = ((1 : Nat) : Int) from rfl, cell_ok h hc (by omega)]
  rfl
 | false =>
  simp only [Bool.false_eq_true, if_false]
  rw [show (2 : Int) = ((2 : Nat) : Int) from rfl, cell_ok h hc (by omega)]
  rfl
theorem step_word {n : Nat} {T : Obst_Tree} {M : Omem_Mem} {C : Obst_Call} {s : Tbst_seen} {k : Tbst_node} {th : Clo} {i c : Nat} {x : Tbst_node} {w : Int} (hs : s.parent = (i : Int)) (h : T.nodes[i]? = some x) (hc : x.cell = (c : Int)) (hb : c < 1073741824) (hw : M.cells[c]? = some w) :
 F_step (n + 1) T M C (.c_down_1 s k th) .u = some (some (.c_down_1_1 ⟨s.grand, s.parent, s.leaf, s.grandWord, w, s.turn⟩ k th), T, tick M, C) := by
 show F_bst_Tree_down_1 (F_step n) T M C s k th = _
 unfold F_bst_Tree_down_1
 rw [hs, show (0 : Int) = ((0 : Nat) : Int) from rfl, cell_ok h hc (by omega)]
 simp only [Option.bind_some, Nat.add_zero]
 rw [load_ok hw]
 rfl
theorem step_child {n : Nat} {T : Obst_Tree} {M : Omem_Mem} {C : Obst_Call} {s : Tbst_seen} {k : Tbst_node} {th : Clo} {i c j : Nat} {x : Tbst_node} (hs : s.parent = (i : Int)) (h : T.nodes[i]? = some x) (hc : x.cell = (c : Int)) (hb : c < 1073741824) (hj : j < 1099511627776)
 (hw : M.cells[c + (if lessN k x = true then 1 else 2)]? = some ((j : Nat) : Int)) :
 F_step (n + 1) T M C (.c_down_1_1 s k th) .u = F_bst_Tree_down (F_step n) T (tick M) C ⟨s.grand, s.parent, (j : Int), s.grandWord, s.parentWord, if lessN k x = true then (i : Int) else s.turn⟩ k th := by
 show F_bst_Tree_down_1_1 (F_step n) T M C s k th = _
 unfold F_bst_Tree_down_1_1
 rw [hs, side_ok h hc hb]
 simp only [Option.bind_some]
 rw [show (1 : Int) = ((1 : Nat) : Int) from rfl, cell_ok h hc (by omega)]
 simp only [Option.bind_some]
 have e : (if ((((c + (if lessN k x = true then 1 else 2) : Nat) : Int)) == (((c + 1 : Nat) : Int))) = true then some ((i : Nat) : Int) else some s.turn) = some (if lessN k x = true then (i : Int) else s.turn) := by
  cases lessN k x with
  | true => simp
  | false => rw [if_neg (by simp), if_neg (by simp)]
 rw [e]
 simp only [Option.bind_some]
 rw [load_ok hw]
 simp only [Option.bind_some]
 rw [show IntKind.wrap .i64 ((j : Nat) : Int) = (j : Int) from wrap_id (by omega) (by omega)]
 exact rb _
def leafOf (N : List Tbst_node) (k : Tbst_node) : BT → Nat
 | .lf i => i
 | .nd i l r => if lessN k (nk N i) = true then leafOf N k l else leafOf N k r
def parOf (N : List Tbst_node) (k : Tbst_node) : BT → Nat → Nat
 | .lf _, g => g
 | .nd i l r, _ => if lessN k (nk N i) = true then parOf N k l i else parOf N k r i
theorem leafOf_mem {N : List Tbst_node} {k : Tbst_node} : ∀ t : BT, leafOf N k t ∈ t.ids
 | .lf i => List.mem_cons_self
 | .nd i l r => by
  rw [leafOf]
  split
  ·
   exact List.mem_cons_of_mem _ (List.mem_append_left _ (leafOf_mem l))
  ·
   exact List.mem_cons_of_mem _ (List.mem_append_right _ (leafOf_mem r))
theorem leafOf_lf {N : List Tbst_node} {K : List Int} {k : Tbst_node} : ∀ t : BT, Lay N K t → ∃ x, N[leafOf N k t]? = some x ∧ x.cell = -1
 | .lf i, h => h
 | .nd i l r, ⟨x, c, w, h1, h2, h3, h4, h5, h6, h7, h8, h9, h10⟩ => by
  rw [leafOf]
  split
  ·
   exact leafOf_lf l h9
  ·
   exact leafOf_lf r h10
structure Dis (N : List Tbst_node) (K : List Int) : Prop where
 apart : ∀ (i j : Nat) (x y : Tbst_node) (c d : Nat), N[i]? = some x → N[j]? = some y → x.cell = (c : Int) → y.cell = (d : Int) → i ≠ j → c + 3 ≤ d ∨ d + 3 ≤ c
 room : ∀ (i : Nat) (x : Tbst_node) (c : Nat), N[i]? = some x → x.cell = (c : Int) → c + 3 ≤ K.length
theorem Lay.frame {N N' : List Tbst_node} {K K' : List Int} : ∀ {t : BT}, Lay N K t → (∀ (i : Nat) (x : Tbst_node), N[i]? = some x → N'[i]? = some x) →
 (∀ i ∈ t.ids, ∀ (x : Tbst_node) (c : Nat), N[i]? = some x → x.cell = (c : Int) → ∀ (j : Nat) (v : Int), j < 3 → K[c + j]? = some v → K'[c + j]? = some v) → Lay N' K' t
 | .lf i, ⟨x, h1, h2⟩, hN, hK => ⟨x, hN _ _ h1, h2⟩
 | .nd i l r, ⟨x, c, w, h1, h2, h3, h4, h5, h6, h7, h8, h9, h10⟩, hN, hK => by
  have q := hK i List.mem_cons_self x c h1 h2
  exact ⟨x, c, w, hN _ _ h1, h2, h3, q 0 _ (by omega) h4, h5, h6, q 1 _ (by omega) h7, q 2 _ (by omega) h8,
   h9.frame hN (fun i hi => hK i (List.mem_cons_of_mem _ (List.mem_append_left _ hi))), h10.frame hN (fun i hi => hK i (List.mem_cons_of_mem _ (List.mem_append_right _ hi)))⟩
def updT (N : List Tbst_node) (k : Tbst_node) (f : BT) : BT → BT
 | .lf _ => f
 | .nd i l r => if lessN k (nk N i) = true then .nd i (updT N k f l) r else .nd i l (updT N k f r)
theorem updT_root {N : List Tbst_node} {k : Tbst_node} {f : BT} : ∀ {t : BT}, t.isNd = true → (updT N k f t).root = t.root
 | .nd i l r, _ => by rw [updT]; split <;> rfl
structure ParOK (N : List Tbst_node) (K : List Int) (k : Tbst_node) (t : BT) (p : Nat) : Prop where
 mem : p ∈ t.ids
 at_ : ∃ (x : Tbst_node) (c w : Nat), N[p]? = some x ∧ x.cell = (c : Int) ∧ c < 1073741824 ∧ K[c]? = some ((w : Nat) : Int) ∧ w % 4 < 2 ∧ w < 1099511627776 ∧ K[c + (if lessN k x = true then 1 else 2)]? = some ((leafOf N k t : Nat) : Int) ∧
  ∀ (N' : List Tbst_node) (K' : List Int) (f : BT) (w' : Nat), (∀ (i : Nat) (x : Tbst_node), N[i]? = some x → N'[i]? = some x) → (∀ (b : Nat) (v : Int), b ≠ c → b ≠ c + (if lessN k x = true then 1 else 2) → K[b]? = some v → K'[b]? = some v) →
   K'[c]? = some ((w' : Nat) : Int) → w' % 4 < 2 → w' < 1099511627776 → K'[c + (if lessN k x = true then 1 else 2)]? = some ((f.root : Nat) : Int) → Lay N' K' f → Lay N' K' (updT N k f t)
theorem par_ok {N : List Tbst_node} {K : List Int} {k : Tbst_node} (D : Dis N K) : ∀ (t : BT) (g : Nat), t.isNd = true → Lay N K t → t.ids.Nodup → ParOK N K k t (parOf N k t g)
 | .nd i l r, g, _, hL, hn => by
  obtain ⟨x, c, w, h1, h2, h3, h4, h5, h6, h7, h8, h9, h10⟩ := hL
  have e0 : nk N i = x := nk_eq h1
  unfold BT.ids at hn
  rw [List.nodup_cons, List.nodup_append] at hn
  obtain ⟨n0, n1, n2, n3⟩ := hn
  have away : ∀ (q : Nat) (y : Tbst_node) (d : Nat), N[q]? = some y → y.cell = (d : Int) → ∀ i' : Nat, i' ≠ q → ∀ (x' : Tbst_node) (c' : Nat), N[i']? = some x' → x'.cell = (c' : Int) → ∀ (j z : Nat), j < 3 → z < 3 → c' + j ≠ d + z := by
   intro q y d hq hd i' hi x' c' hx hc j z hj hz
   rcases D.apart i' q x' y c' d hx hq hc hd hi with w | w <;> omega
  rw [parOf]
  cases e : lessN k x with
  | true =>
   rw [if_pos (by rw [e0]; exact e)]
   have lo : leafOf N k (.nd i l r) = leafOf N k l := by rw [leafOf, if_pos (by rw [e0]; exact e)]
   have up : ∀ f, updT N k f (.nd i l r) = .nd i (updT N k f l) r := fun f => by rw [updT, if_pos (by rw [e0]; exact e)]
   cases l with
   | lf j =>
    refine ⟨List.mem_cons_self, x, c, w, h1, h2, h3, h4, h5, h6, by rw [e, lo]; exact h7, fun N' K' f w' hN hK k1 k2 k3 k4 k5 => ?_⟩
    rw [up]
    rw [e] at hK k4
    refine ⟨x, c, w', hN _ _ h1, h2, h3, k1, k2, k3, k4, hK _ _ (by omega) (by simp) h8, k5, h10.frame hN (fun i' hi' x' c' hx' hc' j' v hj hv => ?_)⟩
    have ne : i' ≠ i := fun q => n0 (List.mem_append_right _ (q ▸ hi'))
    exact hK _ _ (away i x c h1 h2 i' ne x' c' hx' hc' j' 0 hj (by omega)) (away i x c h1 h2 i' ne x' c' hx' hc' j' 1 hj (by omega)) hv
   | nd j l2 r2 =>
    obtain ⟨pm, y, d, w0, q1, q2, q3, q4, q5, q6, q7, q8⟩ := par_ok D (.nd j l2 r2) i rfl h9 n1
    refine ⟨List.mem_cons_of_mem _ (List.mem_append_left _ pm), y, d, w0, q1, q2, q3, q4, q5, q6, by rw [lo]; exact q7, fun N' K' f w' hN hK k1 k2 k3 k4 k5 => ?_⟩
    rw [up]
    have ni : i ≠ parOf N k (.nd j l2 r2) i := fun q => n0 (List.mem_append_left _ (q ▸ pm))
    have ds : ∀ b : Bool, (if b = true then 1 else 2) < 3 := fun b => by cases b <;> decide
    have kk : ∀ i' : Nat, i' ≠ parOf N k (.nd j l2 r2) i → ∀ (x' : Tbst_node) (c' : Nat), N[i']? = some x' → x'.cell = (c' : Int) → ∀ (j' : Nat) (v : Int), j' < 3 → K[c' + j']? = some v → K'[c' + j']? = some v := by
     intro i' hi' x' c' hx' hc' j' v hj hv
     exact hK _ _ (away _ y d q1 q2 i' hi' x' c' hx' hc' j' 0 hj (by omega)) (away _ y d q1 q2 i' hi' x' c' hx' hc' j' _ hj (ds _)) hv
    refine ⟨x, c, w, hN _ _ h1, h2, h3, kk i ni x c h1 h2 0 _ (by omega) h4, h5, h6, ?_, kk i ni x c h1 h2 2 _ (by omega) h8, q8 N' K' f w' hN hK k1 k2 k3 k4 k5, h10.frame hN (fun i' hi' => kk i' (fun q => n3 _ pm _ hi' q.symm))⟩
    rw [updT_root rfl]
    exact kk i ni x c h1 h2 1 _ (by omega) h7
  | false =>
   rw [if_neg (by rw [e0, e]; simp)]
   have lo : leafOf N k (.nd i l r) = leafOf N k r := by rw [leafOf, if_neg (by rw [e0, e]; simp)]
   have up : ∀ f, updT N k f (.nd i l r) = .nd i l (updT N k f r) := fun f => by rw [updT, if_neg (by rw [e0, e]; simp)]
   cases r with
   | lf j =>
    refine ⟨List.mem_cons_self, x, c, w, h1, h2, h3, h4, h5, h6, by rw [e, lo]; exact h8, fun N' K' f w' hN hK k1 k2 k3 k4 k5 => ?_⟩
    rw [up]
    rw [e] at hK k4
    refine ⟨x, c, w', hN _ _ h1, h2, h3, k1, k2, k3, hK _ _ (by omega) (by simp) h7, k4, h9.frame hN (fun i' hi' x' c' hx' hc' j' v hj hv => ?_), k5⟩
    have ne : i' ≠ i := fun q => n0 (List.mem_append_left _ (q ▸ hi'))
    exact hK _ _ (away i x c h1 h2 i' ne x' c' hx' hc' j' 0 hj (by omega)) (away i x c h1 h2 i' ne x' c' hx' hc' j' 2 hj (by omega)) hv
   | nd j l2 r2 =>
    obtain ⟨pm, y, d, w0, q1, q2, q3, q4, q5, q6, q7, q8⟩ := par_ok D (.nd j l2 r2) i rfl h10 n2
    refine ⟨List.mem_cons_of_mem _ (List.mem_append_right _ pm), y, d, w0, q1, q2, q3, q4, q5, q6, by rw [lo]; exact q7, fun N' K' f w' hN hK k1 k2 k3 k4 k5 => ?_⟩
    rw [up]
    have ni : i ≠ parOf N k (.nd j l2 r2) i := fun q => n0 (List.mem_append_right _ (q ▸ pm))
    have ds : ∀ b : Bool, (if b = true then 1 else 2) < 3 := fun b => by cases b <;> decide
    have kk : ∀ i' : Nat, i' ≠ parOf N k (.nd j l2 r2) i → ∀ (x' : Tbst_node) (c' : Nat), N[i']? = some x' → x'.cell = (c' : Int) → ∀ (j' : Nat) (v : Int), j' < 3 → K[c' + j']? = some v → K'[c' + j']? = some v := by
     intro i' hi' x' c' hx' hc' j' v hj hv
     exact hK _ _ (away _ y d q1 q2 i' hi' x' c' hx' hc' j' 0 hj (by omega)) (away _ y d q1 q2 i' hi' x' c' hx' hc' j' _ hj (ds _)) hv
    refine ⟨x, c, w, hN _ _ h1, h2, h3, kk i ni x c h1 h2 0 _ (by omega) h4, h5, h6, kk i ni x c h1 h2 1 _ (by omega) h7, ?_, h9.frame hN (fun i' hi' => kk i' (fun q => n3 _ hi' _ pm q)), q8 N' K' f w' hN hK k1 k2 k3 k4 k5⟩
    rw [updT_root rfl]
    exact kk i ni x c h1 h2 2 _ (by omega) h8
def Ord (N : List Tbst_node) : BT → Prop
 | .lf _ => True
 | .nd i l r => (∀ j ∈ l.ids, lessN (nk N j) (nk N i) = true) ∧ (∀ j ∈ r.ids, lessN (nk N j) (nk N i) = false) ∧ Ord N l ∧ Ord N r
def dirN (N : List Tbst_node) (k : Tbst_node) (i : Nat) : Bool := lessN k (nk N i)
def dn (b : Bool) : Nat := if b = true then 1 else 2
theorem dn_pos (b : Bool) : 0 < dn b ∧ dn b < 3 := by cases b <;> decide
def oth (N : List Tbst_node) (k : Tbst_node) (i : Nat) (l r : BT) : BT := if dirN N k i = true then r else l
def delT (N : List Tbst_node) (k : Tbst_node) : BT → BT
 | .lf i => .lf i
 | .nd i l r => if lessN k (nk N i) = true then (if l.isNd = true then .nd i (delT N k l) r else r) else (if r.isNd = true then .nd i l (delT N k r) else l)
structure DelOK (N : List Tbst_node) (K : List Int) (k : Tbst_node) (t : BT) (p g : Nat) : Prop where
 gm : g ∈ t.ids
 pm : p ∈ t.ids
 ne : g ≠ p
 at_ : ∃ (x y z : Tbst_node) (c d w v s : Nat), N[g]? = some x ∧ x.cell = (c : Int) ∧ c < 1073741824 ∧ K[c]? = some ((w : Nat) : Int) ∧ w % 4 < 2 ∧ w < 1099511627776 ∧ K[c + dn (lessN k x)]? = some ((p : Nat) : Int) ∧
  N[p]? = some y ∧ y.cell = (d : Int) ∧ d < 1073741824 ∧ K[d]? = some ((v : Nat) : Int) ∧ v % 4 < 2 ∧ v < 1099511627776 ∧ K[d + dn (lessN k y)]? = some ((leafOf N k t : Nat) : Int) ∧ K[d + dn (!lessN k y)]? = some ((s : Nat) : Int) ∧
  s ∈ t.ids ∧ s ≠ leafOf N k t ∧ N[s]? = some z ∧ lessN z x = lessN k x ∧
  ∀ (N' : List Tbst_node) (K' : List Int) (w' : Nat), (∀ (i : Nat) (x : Tbst_node), N[i]? = some x → N'[i]? = some x) → (∀ (b : Nat) (u : Int), b ≠ c → b ≠ c + dn (lessN k x) → b ≠ d → K[b]? = some u → K'[b]? = some u) →
   K'[c]? = some ((w' : Nat) : Int) → w' % 4 < 2 → w' < 1099511627776 → K'[c + dn (lessN k x)]? = some ((s : Nat) : Int) → Lay N' K' (delT N k t) ∧ (delT N k t).root = t.root
theorem away {N : List Tbst_node} {K : List Int} (D : Dis N K) {q i' : Nat} {y x' : Tbst_node} {d c' : Nat} (hq : N[q]? = some y) (hd : y.cell = (d : Int)) (hi : i' ≠ q) (hx : N[i']? = some x') (hc : x'.cell = (c' : Int)) {j z : Nat} (hj : j < 3) (hz : z < 3) : c' + j ≠ d + z := by
 rcases D.apart i' q x' y c' d hx hq hc hd hi with w | w <;> omega
def isKey (x k : Tbst_node) : Bool := bif (x.top == 0) then (eqB x.key k.key) else false
theorem isKey_iff {x k : Tbst_node} : isKey x k = true ↔ x.top = 0 ∧ x.key = k.key := by
 unfold isKey
 by_cases h : x.top = 0
 ·
  simp [h, eqB_iff]
 ·
  have : (x.top == 0) = false := by rw [beq_eq_false_iff_ne]; exact h
  simp [this, h]
theorem is_ok {T : Obst_Tree} {M : Omem_Mem} {i : Nat} {x k : Tbst_node} (h : T.nodes[i]? = some x) : F_bst_Tree_is T M (i : Int) k = some (isKey x k, T, M) := by
 unfold F_bst_Tree_is
 rw [getI_nat, h]; rfl
theorem tell_ok {rc : RC} {T : Obst_Tree} {M : Omem_Mem} {C : Obst_Call} {b : Bool} {v : Int} : F_bst_Call_tell rc T M C b v = some (none, T, M, ⟨b, C.told_Key, v, C.told_Err⟩) := rfl
theorem ins_there {n : Nat} {T : Obst_Tree} {M : Omem_Mem} {C : Obst_Call} {s : Tbst_seen} {k : Tbst_node} {th : Clo} {i : Nat} {x : Tbst_node} (hs : s.leaf = (i : Int)) (h : T.nodes[i]? = some x) (hx : isKey x k = true) :
 F_step (n + 1) T M C (.c_insert_2 k th) (.s s) = some (none, T, M, ⟨false, C.told_Key, x.val, C.told_Err⟩) := by
 show F_bst_Tree_insert_2 (F_step n) T M C s k th = _
 unfold F_bst_Tree_insert_2
 rw [hs, is_ok h, hx]
 simp only [Option.bind_some, if_true]
 rw [getI_nat, h]
 simp only [Option.bind_some, tell_ok]
theorem find_ok {n : Nat} {T : Obst_Tree} {M : Omem_Mem} {C : Obst_Call} {s : Tbst_seen} {k : Tbst_node} {i : Nat} {x : Tbst_node} (hs : s.leaf = (i : Int)) (h : T.nodes[i]? = some x) :
 F_step (n + 1) T M C (.c_Find_1_1 k) (.s s) = some (none, T, M, ⟨isKey x k, C.told_Key, if isKey x k = true then x.val else 0, C.told_Err⟩) := by
 show F_bst_Tree_Find_1_1 (F_step n) T M C s k = _
 unfold F_bst_Tree_Find_1_1
 rw [hs, is_ok h]
 simp only [Option.bind_some]
 cases e : isKey x k with
 | true =>
  simp only [Bool.not_true, Bool.false_eq_true, if_false, if_true]
  rw [getI_nat, h]
  simp only [Option.bind_some, tell_ok]
 | false =>
  simp only [Bool.not_false, if_true, tell_ok, Option.bind_some, Bool.false_eq_true, if_false]
def lowOf (x k : Tbst_node) (L : Nat) : Nat := if lessN x k = true then L + 1 else L
def highOf (x k : Tbst_node) (L : Nat) : Nat := if lessN x k = true then L else L + 1
def innOf (x k : Tbst_node) (a : Nat) : Tbst_node := if lessN x k = true then ⟨k.key, k.top, 0, (a : Int)⟩ else ⟨x.key, x.top, 0, (a : Int)⟩
theorem innOf_cell (x k : Tbst_node) (a : Nat) : (innOf x k a).cell = (a : Int) := by unfold innOf; split <;> rfl
theorem ins_grow {n : Nat} {T : Obst_Tree} {M : Omem_Mem} {C : Obst_Call} {s : Tbst_seen} {k : Tbst_node} {th : Clo} {i p w : Nat} {x : Tbst_node} (hs : s.leaf = (i : Int)) (hp : s.parent = (p : Int)) (h : T.nodes[i]? = some x) (hx : isKey x k = false) (hw : s.parentWord = (w : Int)) (hw4 : w % 4 = 0) (hwb : w < 1099511627776)
 (hc : M.cells.length + 3 ≤ 65536) (hn : T.nodes.length ≤ 1000000) (hi : T.infos.length ≤ 1000000) :
 F_step (n + 1) T M C (.c_insert_2 k th) (.s s) = some (some (.c_grow_1 (M.cells.length : Int) (lowOf x k T.nodes.length : Int) (highOf x k T.nodes.length : Int) s (T.infos.length : Int) k),
  ⟨T.nodes ++ [⟨k.key, 0, k.val, -1⟩] ++ [⟨x.key, x.top, x.val, -1⟩] ++ [innOf x k M.cells.length], T.infos ++ [⟨0, (p : Int), (i : Int), ((T.nodes.length + 2 : Nat) : Int), 0⟩]⟩, ⟨M.cells ++ [0, 0, 0], M.count⟩, C) := by
 show F_bst_Tree_insert_2 (F_step n) T M C s k th = _
 unfold F_bst_Tree_insert_2
 rw [hs, is_ok h, hx, hw]
 simp only [Option.bind_some, Bool.false_eq_true, if_false]
 rw [wstate_ok w (by omega), hw4]
 simp only [Option.bind_some]
 rw [if_neg (by simp)]
 rw [grow_ok hc]
 simp only [Option.bind_some]
 rw [if_neg (by simp)]
 unfold F_bst_Tree_grow
 rw [hs, hp, getI_nat, h]
 simp only [Option.bind_some, F_bst_Tree_leaf, F_bst_Tree_node, F_bst_Tree_info]
 rw [appL_ok (by simp; omega) (by omega) (by omega)]
 simp only [Option.bind_some]
 rw [appL_ok (by simp; omega) (by omega) (by omega)]
 simp only [Option.bind_some, less_ok]
 have e1 : IntKind.wrap .i64 (((T.nodes ++ [(⟨k.key, 0, k.val, -1⟩ : Tbst_node)]).length : Int) - 1) = (T.nodes.length : Int) := by
  rw [List.length_append, List.length_singleton, wrap_id (by omega) (by omega)]; omega
 have e2 : IntKind.wrap .i64 (((T.nodes ++ [(⟨k.key, 0, k.val, -1⟩ : Tbst_node)] ++ [(⟨x.key, x.top, x.val, -1⟩ : Tbst_node)]).length : Int) - 1) = ((T.nodes.length + 1 : Nat) : Int) := by
  rw [List.length_append, List.length_append, List.length_singleton, List.length_singleton, wrap_id (by omega) (by omega)]; omega
 have e3 : ∀ y : Tbst_node, IntKind.wrap .i64 (((T.nodes ++ [(⟨k.key, 0, k.val, -1⟩ : Tbst_node)] ++ [(⟨x.key, x.top, x.val, -1⟩ : Tbst_node)] ++ [y]).length : Int) - 1) = ((T.nodes.length + 2 : Nat) : Int) := by
  intro y
  rw [List.length_append, List.length_append, List.length_append, List.length_singleton, List.length_singleton, List.length_singleton, wrap_id (by omega) (by omega)]; omega
 rw [e1, e2]
 have e4 : ∀ y : Tbst_info, IntKind.wrap .i64 (((T.infos ++ [y]).length : Int) - 1) = (T.infos.length : Int) := by
  intro y
  rw [List.length_append, List.length_singleton, wrap_id (by omega) (by omega)]; omega
 unfold lowOf highOf innOf
 cases e : lessN x k with
 | true =>
  simp only [if_true, Option.bind_some]
  rw [appL_ok (by simp; omega) (by omega) (by omega)]
  simp only [Option.bind_some]
  rw [appL_ok (by simp; omega) (by omega) (by omega)]
  simp only [Option.bind_some, e3, e4]
 | false =>
  simp only [Bool.false_eq_true, if_false, Option.bind_some]
  rw [appL_ok (by simp; omega) (by omega) (by omega)]
  simp only [Option.bind_some]
  rw [appL_ok (by simp; omega) (by omega) (by omega)]
  simp only [Option.bind_some, e3, e4]
theorem st_grow1 {n : Nat} {T : Obst_Tree} {M : Omem_Mem} {C : Obst_Call} {s : Tbst_seen} {k : Tbst_node} {a l h i : Nat} (ha : a + 3 ≤ M.cells.length) (hb : a < 1073741824) (hl : l < 1099511627776) :
 F_step (n + 1) T M C (.c_grow_1 (a : Int) (l : Int) (h : Int) s (i : Int) k) .u = some (some (.c_grow_1_1 (a : Int) (h : Int) s (i : Int) k), T, setc M (a + 1) (l : Int), C) := by
 show F_bst_Tree_grow_1 (F_step n) T M C (a : Int) (l : Int) (h : Int) s (i : Int) k = _
 unfold F_bst_Tree_grow_1
 rw [show IntKind.wrap .i64 ((a : Int) + 1) = ((a + 1 : Nat) : Int) from by rw [wrap_id (by omega) (by omega)]; omega, wrap_u64 (by omega) (by omega), store_ok (by omega)]
 rfl
theorem st_grow2 {n : Nat} {T : Obst_Tree} {M : Omem_Mem} {C : Obst_Call} {s : Tbst_seen} {k : Tbst_node} {a h i : Nat} (ha : a + 3 ≤ M.cells.length) (hb : a < 1073741824) (hl : h < 1099511627776) :
 F_step (n + 1) T M C (.c_grow_1_1 (a : Int) (h : Int) s (i : Int) k) .u = some (some (.c_grow_1_1_1 s (i : Int) k), T, setc M (a + 2) (h : Int), C) := by
 show F_bst_Tree_grow_1_1 (F_step n) T M C (a : Int) (h : Int) s (i : Int) k = _
 unfold F_bst_Tree_grow_1_1
 rw [show IntKind.wrap .i64 ((a : Int) + 2) = ((a + 2 : Nat) : Int) from by rw [wrap_id (by omega) (by omega)]; omega, wrap_u64 (by omega) (by omega), store_ok (by omega)]
 rfl
theorem st_grow3 {n : Nat} {T : Obst_Tree} {M : Omem_Mem} {C : Obst_Call} {s : Tbst_seen} {k x : Tbst_node} {p c i : Nat} {w : Int} {y : Tbst_info} {p' l' n' : Nat} (hp : s.parent = (p : Int)) (h : T.nodes[p]? = some x) (hc : x.cell = (c : Int)) (hb : c < 1073741824) (hw : M.cells[c]? = some w) (hs : s.parentWord = w) (hi : T.infos[i]? = some y) (hib : i < 1000000)
 (y1 : y.parent = (p' : Int)) (y2 : y.leaf = (l' : Int)) (y3 : y.next = (n' : Int)) :
 F_step (n + 1) T M C (.c_grow_1_1_1 s (i : Int) k) .u = some (some (.c_turn_1 (p' : Int) (n' : Int) (l' : Int) (.c_grows_1 y (i : Int) (.c_grow_1_1_1_2 k))), T, setc M c ((4 * i + 1 : Nat) : Int), C) := by
 show F_bst_Tree_grow_1_1_1 (F_step n) T M C s (i : Int) k = _
 unfold F_bst_Tree_grow_1_1_1
 rw [hp, show (0 : Int) = ((0 : Nat) : Int) from rfl, cell_ok h hc (by omega)]
 simp only [Option.bind_some, Nat.add_zero]
 rw [show (1 : Int) = ((1 : Nat) : Int) from rfl, wpack_ok i 1 (by omega) (by omega)]
 simp only [Option.bind_some]
 rw [hs, cas_ok hw]
 simp only [Option.bind_some, Bool.not_true, Bool.false_eq_true, if_false]
 unfold F_bst_Tree_grows F_bst_Tree_turn
 rw [getI_nat, hi]
 simp only [Option.bind_some, y1, y2, y3]
theorem st_turn {n : Nat} {T : Obst_Tree} {M : Omem_Mem} {C : Obst_Call} {th : Clo} {p nx o c : Nat} {x z : Tbst_node} (h : T.nodes[p]? = some x) (hc : x.cell = (c : Int)) (hb : c < 1073741824) (hz : T.nodes[nx]? = some z) (ho : o < 1099511627776) (hnx : nx < 1099511627776)
 (hw : M.cells[c + (if lessN z x = true then 1 else 2)]? = some (o : Int)) :
 F_step (n + 1) T M C (.c_turn_1 (p : Int) (nx : Int) (o : Int) th) .u = F_step n T (setc M (c + (if lessN z x = true then 1 else 2)) (nx : Int)) C th .u := by
 show F_bst_Tree_turn_1 (F_step n) T M C (p : Int) (nx : Int) (o : Int) th = _
 unfold F_bst_Tree_turn_1
 rw [getI_nat, hz]
 simp only [Option.bind_some]
 rw [side_ok h hc hb]
 simp only [Option.bind_some]
 rw [wrap_u64 (by omega) (by omega), wrap_u64 (by omega) (by omega), cas_ok hw]
 simp only [Option.bind_some]
 exact rb _
theorem st_clean {n : Nat} {T : Obst_Tree} {M : Omem_Mem} {C : Obst_Call} {th : Clo} {p i st c : Nat} {x : Tbst_node} (h : T.nodes[p]? = some x) (hc : x.cell = (c : Int)) (hb : c < 1073741824) (hi : i < 1000000) (hst : st < 4)
 (hw : M.cells[c]? = some ((4 * i + st : Nat) : Int)) :
 F_step (n + 1) T M C (.c_clean_1 (p : Int) (st : Int) (i : Int) th) .u = F_step n T (setc M c ((4 * i + 0 : Nat) : Int)) C th .u := by
 show F_bst_Tree_clean_1 (F_step n) T M C (p : Int) (st : Int) (i : Int) th = _
 unfold F_bst_Tree_clean_1
 have e0 : F_word_Pack 0 (i : Int) = some ((4 * i + 0 : Nat) : Int) := wpack_ok i 0 (by omega) (by omega)
 have e1 : F_bst_Tree_cell T M (p : Int) 0 = some (((c + 0 : Nat) : Int), T, M) := cell_ok (k := 0) h hc (by omega)
 rw [e1]
 simp only [Option.bind_some, Nat.add_zero]
 rw [wpack_ok i st (by omega) hst, e0]
 simp only [Option.bind_some]
 rw [cas_ok hw]
 simp only [Option.bind_some]
 exact rb _
theorem st_grows1 {n : Nat} {T : Obst_Tree} {M : Omem_Mem} {C : Obst_Call} {th : Clo} {y : Tbst_info} {i : Int} : F_step (n + 1) T M C (.c_grows_1 y i th) .u = some (some (.c_clean_1 y.parent 1 i th), T, M, C) := rfl
theorem st_told {n : Nat} {T : Obst_Tree} {M : Omem_Mem} {C : Obst_Call} {k : Tbst_node} : F_step (n + 1) T M C (.c_grow_1_1_1_2 k) .u = some (none, T, M, ⟨true, C.told_Key, k.val, C.told_Err⟩) := rfl
def lvs (N : List Tbst_node) : BT → List Tbst_node
 | .lf i => [nk N i]
 | .nd _ l r => lvs N l ++ lvs N r
def NExt (N N' : List Tbst_node) : Prop := ∀ (i : Nat) (x : Tbst_node), N[i]? = some x → N'[i]? = some x
theorem NExt.nk {N N' : List Tbst_node} (e : NExt N N') {i : Nat} (h : i < N.length) : V.nk N' i = V.nk N i := by
 have h1 := List.getElem?_eq_getElem h
 rw [nk_eq h1, nk_eq (e _ _ h1)]
theorem NExt.app (N M : List Tbst_node) : NExt N (N ++ M) := fun i x h => by
 rw [List.getElem?_append_left (List.getElem?_eq_some_iff.mp h).1]; exact h
theorem lvs_mem {N : List Tbst_node} {x : Tbst_node} : ∀ {t : BT}, x ∈ lvs N t → ∃ j ∈ t.ids, nk N j = x
 | .lf i, h => ⟨i, List.mem_cons_self, by rw [lvs, List.mem_singleton] at h; exact h.symm⟩
 | .nd i l r, h => by
  rcases List.mem_append.mp h with q | q
  ·
   obtain ⟨j, h1, h2⟩ := lvs_mem q; exact ⟨j, List.mem_cons_of_mem _ (List.mem_append_left _ h1), h2⟩
  ·
   obtain ⟨j, h1, h2⟩ := lvs_mem q; exact ⟨j, List.mem_cons_of_mem _ (List.mem_append_right _ h1), h2⟩
theorem lvs_ext {N N' : List Tbst_node} (e : NExt N N') : ∀ {t : BT}, (∀ i ∈ t.ids, i < N.length) → lvs N' t = lvs N t
 | .lf i, h => by rw [lvs, lvs, e.nk (h i List.mem_cons_self)]
 | .nd i l r, h => by
  rw [lvs, lvs, lvs_ext e (fun j hj => h j (List.mem_cons_of_mem _ (List.mem_append_left _ hj))), lvs_ext e (fun j hj => h j (List.mem_cons_of_mem _ (List.mem_append_right _ hj)))]
theorem lvs_cell {N : List Tbst_node} {K : List Int} {x : Tbst_node} : ∀ {t : BT}, Lay N K t → x ∈ lvs N t → x.cell = -1
 | .lf i, ⟨y, h1, h2⟩, h => by rw [lvs, List.mem_singleton, nk_eq h1] at h; rw [h]; exact h2
 | .nd i l r, ⟨y, c, w, h1, h2, h3, h4, h5, h6, h7, h8, h9, h10⟩, h => by
  rcases List.mem_append.mp h with q | q
  ·
   exact lvs_cell h9 q
  ·
   exact lvs_cell h10 q
theorem leaf_lvs {N : List Tbst_node} {k : Tbst_node} : ∀ t : BT, nk N (leafOf N k t) ∈ lvs N t
 | .lf i => List.mem_singleton_self _
 | .nd i l r => by
  rw [leafOf, lvs]
  split
  ·
   exact List.mem_append_left _ (leaf_lvs l)
  ·
   exact List.mem_append_right _ (leaf_lvs r)
theorem leaf_key {N : List Tbst_node} {k y : Tbst_node} (h1 : lessN k y = false) (h2 : lessN y k = false) : ∀ {t : BT}, Ord N t → y ∈ lvs N t → nk N (leafOf N k t) = y
 | .lf i, _, h => by rw [lvs, List.mem_singleton] at h; exact h.symm
 | .nd i l r, ⟨o1, o2, o3, o4⟩, h => by
  rw [leafOf, lessN_eq h1 h2]
  rcases List.mem_append.mp h with q | q
  ·
   obtain ⟨j, hj, e⟩ := lvs_mem q
   have := o1 j hj
   rw [e] at this
   rw [if_pos this]
   exact leaf_key h1 h2 o3 q
  ·
   obtain ⟨j, hj, e⟩ := lvs_mem q
   have := o2 j hj
   rw [e] at this
   rw [if_neg (by rw [this]; simp)]
   exact leaf_key h1 h2 o4 q
theorem lvs_sorted {N : List Tbst_node} : ∀ {t : BT}, Ord N t → (lvs N t).Pairwise (fun a b => lessN a b = true)
 | .lf i, _ => List.pairwise_singleton _ _
 | .nd i l r, ⟨o1, o2, o3, o4⟩ => by
  rw [lvs, List.pairwise_append]
  refine ⟨lvs_sorted o3, lvs_sorted o4, fun a ha b hb => ?_⟩
  obtain ⟨j, hj, e⟩ := lvs_mem ha
  obtain ⟨j2, hj2, e2⟩ := lvs_mem hb
  have h1 := o1 j hj
  have h2 := o2 j2 hj2
  rw [e] at h1; rw [e2] at h2
  exact lessN_le h1 h2
theorem lvs_upd {N N' : List Tbst_node} {k : Tbst_node} {f : BT} (e : NExt N N') : ∀ {t : BT}, (∀ i ∈ t.ids, i < N.length) → ∃ A B, lvs N t = A ++ nk N (leafOf N k t) :: B ∧ lvs N' (updT N k f t) = A ++ lvs N' f ++ B
 | .lf i, h => ⟨[], [], rfl, by simp [updT]⟩
 | .nd i l r, h => by
  have hl : ∀ j ∈ l.ids, j < N.length := fun j hj => h j (List.mem_cons_of_mem _ (List.mem_append_left _ hj))
  have hr : ∀ j ∈ r.ids, j < N.length := fun j hj => h j (List.mem_cons_of_mem _ (List.mem_append_right _ hj))
  rw [leafOf, updT]
  split
  ·
   obtain ⟨A, B, h1, h2⟩ := lvs_upd (k := k) (f := f) e hl
   exact ⟨A, B ++ lvs N r, by rw [lvs, h1]; simp, by rw [lvs, h2, lvs_ext e hr]; simp⟩
  ·
   obtain ⟨A, B, h1, h2⟩ := lvs_upd (k := k) (f := f) e hr
   exact ⟨lvs N l ++ A, B, by rw [lvs, h1]; simp, by rw [lvs, h2, lvs_ext e hl]; simp⟩
theorem upd_ids {N : List Tbst_node} {k : Tbst_node} {f : BT} {j : Nat} : ∀ {t : BT}, j ∈ (updT N k f t).ids → j ∈ f.ids ∨ j ∈ t.ids
 | .lf i, h => .inl h
 | .nd i l r, h => by
  rw [updT] at h
  split at h
  ·
   rcases List.mem_cons.mp h with q | q
   ·
    exact .inr (q ▸ List.mem_cons_self)
   ·
    rcases List.mem_append.mp q with q | q
    ·
     rcases upd_ids q with q | q
     ·
      exact .inl q
     ·
      exact .inr (List.mem_cons_of_mem _ (List.mem_append_left _ q))
    ·
     exact .inr (List.mem_cons_of_mem _ (List.mem_append_right _ q))
  ·
   rcases List.mem_cons.mp h with q | q
   ·
    exact .inr (q ▸ List.mem_cons_self)
   ·
    rcases List.mem_append.mp q with q | q
    ·
     exact .inr (List.mem_cons_of_mem _ (List.mem_append_left _ q))
    ·
     rcases upd_ids q with q | q
     ·
      exact .inl q
     ·
      exact .inr (List.mem_cons_of_mem _ (List.mem_append_right _ q))
theorem upd_nodup {N : List Tbst_node} {k : Tbst_node} {f : BT} (hf : f.ids.Nodup) : ∀ {t : BT}, t.ids.Nodup → (∀ j ∈ f.ids, j ∉ t.ids) → (updT N k f t).ids.Nodup
 | .lf i, _, _ => hf
 | .nd i l r, h, hd => by
  unfold BT.ids at h
  rw [List.nodup_cons, List.nodup_append, List.mem_append, not_or] at h
  obtain ⟨⟨a1, a2⟩, b, c, d⟩ := h
  have d1 : ∀ j ∈ f.ids, j ∉ l.ids := fun j hj q => hd j hj (List.mem_cons_of_mem _ (List.mem_append_left _ q))
  have d2 : ∀ j ∈ f.ids, j ∉ r.ids := fun j hj q => hd j hj (List.mem_cons_of_mem _ (List.mem_append_right _ q))
  have d3 : i ∉ f.ids := fun q => hd i q List.mem_cons_self
  rw [updT]
  split
  ·
   unfold BT.ids
   rw [List.nodup_cons, List.nodup_append, List.mem_append, not_or]
   refine ⟨⟨fun q => ?_, a2⟩, upd_nodup hf b d1, c, fun x hx y hy e => ?_⟩
   ·
    rcases upd_ids q with q | q
    ·
     exact d3 q
    ·
     exact a1 q
   ·
    subst e
    rcases upd_ids hx with q | q
    ·
     exact d2 _ q hy
    ·
     exact d _ q _ hy rfl
  ·
   unfold BT.ids
   rw [List.nodup_cons, List.nodup_append, List.mem_append, not_or]
   refine ⟨⟨a1, fun q => ?_⟩, b, upd_nodup hf c d2, fun x hx y hy e => ?_⟩
   ·
    rcases upd_ids q with q | q
    ·
     exact d3 q
    ·
     exact a2 q
   ·
    subst e
    rcases upd_ids hy with q | q
    ·
     exact d1 _ q hx
    ·
     exact d _ hx _ q rfl
theorem upd_ord {N N' : List Tbst_node} {k : Tbst_node} {f : BT} (e : NExt N N') (of : Ord N' f) : ∀ {t : BT}, (∀ i ∈ t.ids, i < N.length) → Ord N t → (∀ (j : Nat), j ∈ f.ids → ∀ y : Tbst_node, lessN (nk N (leafOf N k t)) y = lessN k y → lessN (nk N' j) y = lessN k y) → Ord N' (updT N k f t)
 | .lf i, _, _, _ => of
 | .nd i l r, h, ⟨o1, o2, o3, o4⟩, hf => by
  have hl : ∀ j ∈ l.ids, j < N.length := fun j hj => h j (List.mem_cons_of_mem _ (List.mem_append_left _ hj))
  have hr : ∀ j ∈ r.ids, j < N.length := fun j hj => h j (List.mem_cons_of_mem _ (List.mem_append_right _ hj))
  have hi : nk N' i = nk N i := e.nk (h i List.mem_cons_self)
  have ol : ∀ j ∈ l.ids, lessN (nk N' j) (nk N' i) = true := fun j hj => by rw [hi, e.nk (hl j hj)]; exact o1 j hj
  have orr : ∀ j ∈ r.ids, lessN (nk N' j) (nk N' i) = false := fun j hj => by rw [hi, e.nk (hr j hj)]; exact o2 j hj
  have oext : ∀ {u : BT}, (∀ j ∈ u.ids, j < N.length) → Ord N u → Ord N' u := by
   intro u
   induction u with
   | lf _ => intro _ _; trivial
   | nd a b c ihb ihc =>
    intro hu ⟨p1, p2, p3, p4⟩
    have hb : ∀ j ∈ b.ids, j < N.length := fun j hj => hu j (List.mem_cons_of_mem _ (List.mem_append_left _ hj))
    have hc : ∀ j ∈ c.ids, j < N.length := fun j hj => hu j (List.mem_cons_of_mem _ (List.mem_append_right _ hj))
    have ha := e.nk (hu a List.mem_cons_self)
    exact ⟨fun j hj => by rw [ha, e.nk (hb j hj)]; exact p1 j hj, fun j hj => by rw [ha, e.nk (hc j hj)]; exact p2 j hj, ihb hb p3, ihc hc p4⟩
  rw [leafOf] at hf
  rw [updT]
  split
  ·
   rename_i q
   rw [if_pos q] at hf
   refine ⟨fun j hj => ?_, orr, upd_ord e of hl o3 hf, oext hr o4⟩
   rcases upd_ids hj with w | w
   ·
    rw [hi, hf j w (nk N i) ?_, q]
    rw [o1 _ (leafOf_mem l), q]
   ·
    exact ol j w
  ·
   rename_i q
   rw [if_neg q] at hf
   have q : lessN k (nk N i) = false := by simpa using q
   refine ⟨ol, fun j hj => ?_, oext hl o3, upd_ord e of hr o4 hf⟩
   rcases upd_ids hj with w | w
   ·
    rw [hi, hf j w (nk N i) ?_, q]
    rw [o2 _ (leafOf_mem r), q]
   ·
    exact orr j w
theorem upd_inn {N : List Tbst_node} {k : Tbst_node} {f : BT} : ∀ {t : BT}, (updT N k f t).inn = t.inn + f.inn
 | .lf i => by simp [updT, BT.inn]
 | .nd i l r => by
  rw [updT]
  split
  ·
   simp only [BT.inn, upd_inn (t := l)]; omega
  ·
   simp only [BT.inn, upd_inn (t := r)]; omega
structure BInv (T : Obst_Tree) (M : Omem_Mem) (l r : BT) (ks : List Tbst_node) (j : Nat) : Prop where
 lay : Lay T.nodes M.cells (.nd 0 l r)
 nod : (BT.nd 0 l r).ids.Nodup
 ord : Ord T.nodes (.nd 0 l r)
 dis : Dis T.nodes M.cells
 top0 : ∃ x0, T.nodes[0]? = some x0 ∧ x0.top = 2
 lv : ∃ s1, lvs T.nodes l = ks ++ [s1] ∧ s1.top = 1
 rv : ∀ x ∈ lvs T.nodes r, x.top = 2
 kt : ∀ x ∈ ks, x.top = 0
 b1 : T.nodes.length ≤ 3 + 3 * j
 b2 : T.infos.length ≤ 1 + j
 b3 : M.cells.length ≤ 3 + 3 * j
 bi : (BT.nd 0 l r).inn ≤ 1 + j
abbrev s0 : Tbst_seen := ⟨0, 0, 0, 0, 0, -1⟩
theorem gs_ne {l : List Int} {a b : Nat} {v : Int} (h : a ≠ b) : (l.set a v)[b]? = l[b]? := List.getElem?_set_ne h
theorem gs_eq {l : List Int} {a : Nat} {v : Int} (h : a < l.length) : (l.set a v)[a]? = some v := List.getElem?_set_self h
section
variable {T : Obst_Tree} {M : Omem_Mem} {l r : BT} {ks : List Tbst_node} {j : Nat}
theorem BInv.dir (I : BInv T M l r ks j) {k : Tbst_node} (hk : k.top = 0) : dirN T.nodes k 0 = true := by
 obtain ⟨x0, h1, h2⟩ := I.top0
 unfold dirN
 rw [nk_eq h1, lessN_iff]
 exact .inl (by omega)
theorem BInv.leaf (I : BInv T M l r ks j) {k : Tbst_node} (hk : k.top = 0) : leafOf T.nodes k (.nd 0 l r) = leafOf T.nodes k l := by
 have := I.dir hk
 unfold dirN at this
 rw [leafOf, if_pos this]
theorem BInv.cases (I : BInv T M l r ks j) {k : Tbst_node} (hk : k.top = 0) : ∃ x, T.nodes[leafOf T.nodes k (.nd 0 l r)]? = some x ∧ x.cell = -1 ∧ x ∈ lvs T.nodes l ∧
 ((isKey x k = true ∧ x ∈ ks ∧ x.key = k.key) ∨ (isKey x k = false ∧ ∀ y ∈ ks, y.key ≠ k.key)) := by
 obtain ⟨x, h1, h2⟩ := leafOf_lf (k := k) _ I.lay
 obtain ⟨s1, e1, e2⟩ := I.lv
 have e0 : nk T.nodes (leafOf T.nodes k l) = x := by rw [← I.leaf hk]; exact nk_eq h1
 have hx : x ∈ lvs T.nodes l := by rw [← e0]; exact leaf_lvs l
 refine ⟨x, h1, h2, hx, ?_⟩
 cases e : isKey x k with
 | true =>
  left
  obtain ⟨a, b⟩ := isKey_iff.mp e
  refine ⟨rfl, ?_, b⟩
  rw [e1] at hx
  rcases List.mem_append.mp hx with q | q
  ·
   exact q
  ·
   rw [List.mem_singleton] at q; rw [q, e2] at a; omega
 | false =>
  right
  refine ⟨rfl, fun y hy hyk => ?_⟩
  have ht := I.kt y hy
  have l1 : lessN k y = false := lessN_neg.mpr (.inr ⟨by rw [hk, ht], by rw [hyk]; exact less_irrefl _⟩)
  have l2 : lessN y k = false := lessN_neg.mpr (.inr ⟨by rw [hk, ht], by rw [hyk]; exact less_irrefl _⟩)
  have := leaf_key (N := T.nodes) l1 l2 (t := l) I.ord.2.2.1 (by rw [e1]; exact List.mem_append_left _ hy)
  rw [e0] at this
  have w := isKey_iff.mpr (show x.top = 0 ∧ x.key = k.key from by rw [this]; exact ⟨ht, hyk⟩)
  rw [e] at w; cases w
theorem leaf_side {N : List Tbst_node} {k : Tbst_node} : ∀ (t : BT), Ord N t → t.isNd = true → ∀ (g : Nat) (y' : Tbst_node), N[parOf N k t g]? = some y' → lessN (nk N (leafOf N k t)) y' = lessN k y' := by
 intro t
 induction t with
 | lf _ => intro _ h; cases h
 | nd i a b iha ihb =>
  intro ⟨o1, o2, o3, o4⟩ _ g y' hy'
  rw [leafOf]
  rw [parOf] at hy'
  split
  ·
   rename_i q
   rw [if_pos q] at hy'
   cases a with
   | lf m =>
    have ey := nk_eq hy'
    rw [show parOf N k (.lf m) i = i from rfl] at ey
    rw [← ey, q]
    exact o1 m List.mem_cons_self
   | nd m a1 a2 => exact iha o3 rfl i y' hy'
  ·
   rename_i q
   rw [if_neg q] at hy'
   have q : lessN k (nk N i) = false := by simpa using q
   cases b with
   | lf m =>
    have ey := nk_eq hy'
    rw [show parOf N k (.lf m) i = i from rfl] at ey
    rw [← ey, q]
    exact o2 m List.mem_cons_self
   | nd m a1 a2 => exact ihb o4 rfl i y' hy'
theorem lessN_congr {a b c d : Tbst_node} (h1 : a.key = b.key) (h2 : a.top = b.top) (h3 : c.key = d.key) (h4 : c.top = d.top) : lessN a c = lessN b d := by unfold lessN; rw [h1, h2, h3, h4]
theorem gt_of {x k : Tbst_node} (h : lessN x k = false) (hx : isKey x k = false) (hk : k.top = 0) : lessN k x = true := by
 rw [lessN_iff]
 rcases lessN_neg.mp h with q | ⟨q1, q2⟩
 ·
  exact .inl q
 ·
  right
  refine ⟨q1.symm, ?_⟩
  cases e : lessB k.key x.key with
  | true => rfl
  | false =>
   have := less_total q2 e
   have w := isKey_iff.mpr (show x.top = 0 ∧ x.key = k.key from ⟨by omega, this⟩)
   rw [hx] at w; cases w
theorem split_ks {A B : List Tbst_node} {x s1 n a b : Tbst_node} (h : A ++ x :: B = ks ++ [s1]) (hs : s1.top = 1) (hk : ∀ y ∈ ks, y.top = 0) (hn : n.top = 0) (hab : (a = n ∧ b = x) ∨ (a = x ∧ b = n)) (hb : lessN x n = true → b = n) (hb2 : lessN x n = false → b = x) :
 ∃ ks', A ++ [a, b] ++ B = ks' ++ [s1] ∧ ∀ y, y ∈ ks' ↔ y ∈ ks ∨ y = n := by
 rcases List.eq_nil_or_concat B with q | ⟨B', z, q⟩
 ·
  subst q
  have h' := List.append_inj' h rfl
  obtain ⟨h1, h2⟩ := h'
  have h2 : x = s1 := by simpa using h2
  subst h1 h2
  have e : lessN x n = false := lessN_neg.mpr (.inl (by omega))
  have hb' := hb2 e
  rcases hab with ⟨q1, q2⟩ | ⟨q1, q2⟩
  ·
   exact ⟨A ++ [n], by rw [q1, q2]; simp, fun y => by simp⟩
  ·
   exfalso
   rw [hb'] at q2
   rw [q2] at hs; omega
 ·
  subst q
  have h' : (A ++ x :: B') ++ [z] = ks ++ [s1] := by rw [← h]; simp
  obtain ⟨h1, h2⟩ := List.append_inj' h' rfl
  have h2 : z = s1 := by simpa using h2
  subst h2
  refine ⟨A ++ [a, b] ++ B', by simp, fun y => ?_⟩
  rw [← h1]
  rcases hab with ⟨q1, q2⟩ | ⟨q1, q2⟩
  ·
   rw [q1, q2]; simp only [List.mem_append, List.mem_cons, List.not_mem_nil, or_false]; grind
  ·
   rw [q1, q2]; simp only [List.mem_append, List.mem_cons, List.not_mem_nil, or_false]; grind
def Grew (N N' : List Tbst_node) (k : Tbst_node) (l l' : BT) : Prop := ∃ f, l' = updT N k f l ∧ ∀ z ∈ lvs N' f, z = nk N (leafOf N k l) ∨ z = ⟨k.key, 0, k.val, -1⟩
def Free (N : List Tbst_node) (a : Nat) : Prop := ∀ (i : Nat) (x : Tbst_node) (c : Nat), N[i]? = some x → x.cell = (c : Int) → a < c ∨ c + 3 ≤ a
def Aside (T T' : Obst_Tree) (M M' : Omem_Mem) : Prop := ∀ a, a < M.cells.length → Free T.nodes a → Free T'.nodes a ∧ M'.cells[a]? = M.cells[a]?
def Clean (N : List Tbst_node) (K : List Int) (t : BT) : Prop := ∀ i ∈ t.ids, ∀ (x : Tbst_node) (c w : Nat), N[i]? = some x → x.cell = (c : Int) → K[c]? = some (w : Int) → w % 4 = 0
end
theorem step_some {n : Nat} {T T2 : Obst_Tree} {M M2 : Omem_Mem} {C C2 : Obst_Call} {x : Clo} {o : Option Clo} (h : F_step n T M C x .u = some (o, T2, M2, C2)) :
 F_bst_Call_Step n T M ⟨C.told_Ok, C.told_Key, C.told_Val, C.told_Err, some x⟩ = some (o.isNone, T2, M2, ⟨C2.told_Ok, C2.told_Key, C2.told_Val, C2.told_Err, o⟩) := by
 unfold F_bst_Call_Step
 rw [if_neg (by simp)]
 simp only [Option.bind_some]
 rw [h]
 rfl
theorem BInv.mono {T : Obst_Tree} {M : Omem_Mem} {l r : BT} {ks : List Tbst_node} {j j' : Nat} (I : BInv T M l r ks j) (h : j ≤ j') : BInv T M l r ks j' :=
 ⟨I.lay, I.nod, I.ord, I.dis, I.top0, I.lv, I.rv, I.kt, by have := I.b1; omega, by have := I.b2; omega, by have := I.b3; omega, by have := I.bi; omega⟩
theorem BInv.cells {T : Obst_Tree} {M M' : Omem_Mem} {l r : BT} {ks : List Tbst_node} {j : Nat} (I : BInv T M l r ks j) (h : M'.cells = M.cells) : BInv T M' l r ks j := by
 obtain ⟨a, b, c, d, e, f, g, k, b1, b2, b3, bi⟩ := I
 exact ⟨by rw [h]; exact a, b, c, by rw [h]; exact d, e, f, g, k, b1, b2, by rw [h]; exact b3, bi⟩
theorem BInv.kkey {T : Obst_Tree} {M : Omem_Mem} {l r : BT} {ks : List Tbst_node} {j : Nat} (I : BInv T M l r ks j) : (∀ x ∈ ks, x.cell = -1) ∧ ks.Pairwise (fun a b => lessB a.key b.key = true) := by
 obtain ⟨s1, e1, e2⟩ := I.lv
 refine ⟨fun x hx => lvs_cell I.lay (by rw [lvs, e1]; simp [hx]), ?_⟩
 have := lvs_sorted I.ord.2.2.1
 rw [e1, List.pairwise_append] at this
 refine this.1.imp_of_mem (fun {a b} ha hb q => ?_)
 rcases lessN_iff.mp q with w | w
 ·
  have h1 := I.kt a ha; have h2 := I.kt b hb; omega
 ·
  exact w.2
theorem lvs_len {N : List Tbst_node} : ∀ t : BT, (lvs N t).length = t.inn + 1
 | .lf i => rfl
 | .nd i l r => by rw [lvs, List.length_append, lvs_len l, lvs_len r, BT.inn]; omega
section
variable {n : Nat} {T : Obst_Tree} {M : Omem_Mem} {x0 : Tbst_node} {k : ByteArray} {v : Int}
theorem dn0 {rc : RC} {C : Obst_Call} {kn : Tbst_node} {th : Clo} (h : T.nodes[0]? = some x0) (hc : 0 ≤ x0.cell) : F_bst_Tree_down rc T M C s0 kn th = some (some (.c_down_1 ⟨0, 0, 0, 0, 0, -1⟩ kn th), T, M, C) := down_nd (i := 0) rfl h hc
theorem beg_find (h : T.nodes[0]? = some x0) (hc : 0 ≤ x0.cell) : F_bst_Tree_Find n T M k = some (⟨false, k, 0, 0, some (.c_down_1 ⟨0, 0, 0, 0, 0, -1⟩ ⟨k, 0, 0, 0⟩ (.c_Find_1_1 ⟨k, 0, 0, 0⟩))⟩, T, M) := by
 unfold F_bst_Tree_Find F_bst_Tree_call_bst_Tree_Find_1 F_bst_Tree_Find_1 F_bst_Tree_search
 rw [dn0 h hc]; rfl
theorem beg_seek (h : T.nodes[0]? = some x0) (hc : 0 ≤ x0.cell) : F_bst_Tree_Seek n T M k = some (⟨false, k, 0, 0, some (.c_down_1 ⟨0, 0, 0, 0, 0, -1⟩ ⟨k, 0, 0, 0⟩ (.c_Seek_1_1 ⟨k, 0, 0, 0⟩))⟩, T, M) := by
 unfold F_bst_Tree_Seek F_bst_Tree_call_bst_Tree_Seek_1 F_bst_Tree_Seek_1 F_bst_Tree_search
 rw [dn0 h hc]; rfl
theorem beg_ins (h : T.nodes[0]? = some x0) (hc : 0 ≤ x0.cell) : F_bst_Tree_Insert n T M k v = some (⟨false, k, 0, 0, some (.c_down_1 ⟨0, 0, 0, 0, 0, -1⟩ ⟨k, 0, v, 0⟩ (.c_insert_2 ⟨k, 0, v, 0⟩ (.c_insert_1 ⟨k, 0, v, 0⟩)))⟩, T, M) := by
 unfold F_bst_Tree_Insert F_bst_Tree_call_bst_Tree_Insert_1 F_bst_Tree_Insert_1 F_bst_Tree_insert F_bst_Tree_search
 rw [dn0 h hc]; rfl
end
theorem BInv.root {T : Obst_Tree} {M : Omem_Mem} {l r : BT} {ks : List Tbst_node} {j : Nat} (I : BInv T M l r ks j) : ∃ x0, T.nodes[0]? = some x0 ∧ 0 ≤ x0.cell := by
 obtain ⟨x, c, w, h1, h2, _⟩ := I.lay
 exact ⟨x, h1, by omega⟩
theorem bnew_ok : F_bst_New ⟨[], 0⟩ = some (⟨[⟨ByteArray.empty, 2, 0, 0⟩, ⟨ByteArray.empty, 1, 0, -1⟩, ⟨ByteArray.empty, 2, 0, -1⟩], [⟨0, 0, 0, 0, 0⟩]⟩, ⟨[0, 1, 2], 2⟩) := by rfl
theorem inv0 : BInv ⟨[⟨ByteArray.empty, 2, 0, 0⟩, ⟨ByteArray.empty, 1, 0, -1⟩, ⟨ByteArray.empty, 2, 0, -1⟩], [⟨0, 0, 0, 0, 0⟩]⟩ ⟨[0, 1, 2], 2⟩ (.lf 1) (.lf 2) [] 0 := by
 constructor
 ·
  exact ⟨_, 0, 0, rfl, rfl, by omega, rfl, by omega, by omega, rfl, rfl, ⟨_, rfl, rfl⟩, ⟨_, rfl, rfl⟩⟩
 ·
  decide
 ·
  refine ⟨fun j hj => ?_, fun j hj => ?_, trivial, trivial⟩
  ·
   have : j = 1 := by simpa [BT.ids] using hj
   subst this; rfl
  ·
   have : j = 2 := by simpa [BT.ids] using hj
   subst this
   exact lessN_irrefl _
 ·
  have only : ∀ (i : Nat) (x : Tbst_node) (c : Nat), [(⟨ByteArray.empty, 2, 0, 0⟩ : Tbst_node), ⟨ByteArray.empty, 1, 0, -1⟩, ⟨ByteArray.empty, 2, 0, -1⟩][i]? = some x → x.cell = (c : Int) → i = 0 ∧ c = 0 := by
   intro i x c h hc
   match i, h with
   | 0, h => cases h; exact ⟨rfl, by simp at hc; omega⟩
   | 1, h => cases h; simp at hc
   | 2, h => cases h; simp at hc
   | i + 3, h => simp at h
  constructor
  ·
   intro i i2 x y c d h1 h2 h3 h4 h5
   exact absurd ((only i x c h1 h3).1.trans (only i2 y d h2 h4).1.symm) h5
  ·
   intro i x c h1 h2
   rw [(only i x c h1 h2).2]; simp
 ·
  exact ⟨_, rfl, rfl⟩
 ·
  exact ⟨⟨ByteArray.empty, 1, 0, -1⟩, rfl, rfl⟩
 ·
  intro x hx
  have : x = ⟨ByteArray.empty, 2, 0, -1⟩ := by simpa [lvs, nk] using hx
  rw [this]
 ·
  intro x hx; cases hx
 ·
  decide
 ·
  decide
 ·
  decide
 ·
  decide
theorem uniq_key {ks : List Tbst_node} (hs : ks.Pairwise (fun a b => lessB a.key b.key = true)) {y z : Tbst_node} (hy : y ∈ ks) (hz : z ∈ ks) (h : y.key = z.key) : y = z := by
 induction ks with
 | nil => cases hy
 | cons a ks ih =>
  rw [List.pairwise_cons] at hs
  rcases List.mem_cons.mp hy with q | q <;> rcases List.mem_cons.mp hz with w | w
  ·
   rw [q, w]
  ·
   subst q; have := hs.1 z w; rw [h, less_irrefl] at this; cases this
  ·
   subst w; have := hs.1 y q; rw [h, less_irrefl] at this; cases this
  ·
   exact ih hs.2 q w
inductive Atk (N : List Tbst_node) (k : Tbst_node) : BT → Int → BT → Int → Prop
 | here {u : BT} {t : Int} : Atk N k u t u t
 | inl {j : Nat} {l r u : BT} {t0 t : Int} (h : lessN k (nk N j) = true) (a : Atk N k l (j : Int) u t) : Atk N k (.nd j l r) t0 u t
 | inr {j : Nat} {l r u : BT} {t0 t : Int} (h : lessN k (nk N j) = false) (a : Atk N k r t0 u t) : Atk N k (.nd j l r) t0 u t
inductive Pos (N : List Tbst_node) : BT → Tbst_node → Nat → Bool → List Tbst_node → BT → List Tbst_node → Tbst_node → Prop
 | left {q : Nat} {l r : BT} {lb : Tbst_node} : Pos N (.nd q l r) lb q true [] l (lvs N r) lb
 | right {q : Nat} {l r : BT} {lb : Tbst_node} : Pos N (.nd q l r) lb q false (lvs N l) r [] (nk N q)
 | inl {j q : Nat} {s : Bool} {l r u : BT} {B A : List Tbst_node} {lb lb' : Tbst_node} (p : Pos N l lb q s B u A lb') : Pos N (.nd j l r) lb q s B u (A ++ lvs N r) lb'
 | inr {j q : Nat} {s : Bool} {l r u : BT} {B A : List Tbst_node} {lb lb' : Tbst_node} (p : Pos N r (nk N j) q s B u A lb') : Pos N (.nd j l r) lb q s (lvs N l ++ B) u A lb'
section
variable {N N' : List Tbst_node} {K : List Int} {k : Tbst_node}
theorem Atk.lay {t u : BT} {t0 tn : Int} (a : Atk N k t t0 u tn) (h : Lay N K t) : Lay N K u := by
 induction a with
 | here => exact h
 | inl _ _ ih => obtain ⟨x, c, w, h1, h2, h3, h4, h5, h6, h7, h8, h9, h10⟩ := h; exact ih h9
 | inr _ _ ih => obtain ⟨x, c, w, h1, h2, h3, h4, h5, h6, h7, h8, h9, h10⟩ := h; exact ih h10
theorem Atk.inn {t u : BT} {t0 tn : Int} (a : Atk N k t t0 u tn) : u.inn ≤ t.inn := by
 induction a with
 | here => exact Nat.le_refl _
 | inl _ _ ih => simp only [BT.inn]; omega
 | inr _ _ ih => simp only [BT.inn]; omega
theorem Atk.child {t l r : BT} {t0 tn : Int} {i : Nat} (a : Atk N k t t0 (.nd i l r) tn) : (lessN k (nk N i) = true → Atk N k t t0 l (i : Int)) ∧ (lessN k (nk N i) = false → Atk N k t t0 r tn) := by
 generalize hu : BT.nd i l r = u at a
 induction a with
 | here => subst hu; exact ⟨fun h => .inl h .here, fun h => .inr h .here⟩
 | inl h a ih => exact ⟨fun q => .inl h ((ih hu).1 q), fun q => .inl h ((ih hu).2 q)⟩
 | inr h a ih => exact ⟨fun q => .inr h ((ih hu).1 q), fun q => .inr h ((ih hu).2 q)⟩
theorem Atk.ext (e : NExt N N') {t u : BT} {t0 tn : Int} (a : Atk N k t t0 u tn) (h : ∀ i ∈ t.ids, i < N.length) : Atk N' k t t0 u tn := by
 induction a with
 | here => exact .here
 | inl q a ih => exact .inl (by rw [e.nk (h _ List.mem_cons_self)]; exact q) (ih (fun j hj => h j (List.mem_cons_of_mem _ (List.mem_append_left _ hj))))
 | inr q a ih => exact .inr (by rw [e.nk (h _ List.mem_cons_self)]; exact q) (ih (fun j hj => h j (List.mem_cons_of_mem _ (List.mem_append_right _ hj))))
theorem Atk.upd (e : NExt N N') {k' : Tbst_node} {f : BT} {t : BT} {t0 tn : Int} {i : Nat} {l r : BT} (a : Atk N k t t0 (.nd i l r) tn) (h : ∀ i ∈ t.ids, i < N.length) : ∃ l' r', Atk N' k (updT N k' f t) t0 (.nd i l' r') tn := by
 generalize hu : BT.nd i l r = u at a
 induction a with
 | here => subst hu; rw [updT]; split <;> exact ⟨_, _, .here⟩
 | @inl j a b u t0 tn q p ih =>
  have hl : ∀ i ∈ a.ids, i < N.length := fun j hj => h j (List.mem_cons_of_mem _ (List.mem_append_left _ hj))
  have q' : lessN k (nk N' j) = true := by rw [e.nk (h _ List.mem_cons_self)]; exact q
  rw [updT]
  split
  ·
   obtain ⟨l', r', w⟩ := ih hl hu; exact ⟨l', r', .inl q' w⟩
  ·
   subst hu; exact ⟨l, r, .inl q' (p.ext e hl)⟩
 | @inr j a b u t0 tn q p ih =>
  have hr : ∀ i ∈ b.ids, i < N.length := fun j hj => h j (List.mem_cons_of_mem _ (List.mem_append_right _ hj))
  have q' : lessN k (nk N' j) = false := by rw [e.nk (h _ List.mem_cons_self)]; exact q
  rw [updT]
  split
  ·
   subst hu; exact ⟨l, r, .inr q' (p.ext e hr)⟩
  ·
   obtain ⟨l', r', w⟩ := ih hr hu; exact ⟨l', r', .inr q' w⟩
theorem Pos.lay {t u : BT} {lb lb' : Tbst_node} {q : Nat} {s : Bool} {B A : List Tbst_node} (p : Pos N t lb q s B u A lb') (h : Lay N K t) : ∃ (x : Tbst_node) (c : Nat), N[q]? = some x ∧ x.cell = (c : Int) ∧ c < 1073741824 ∧ K[c + dn s]? = some ((u.root : Nat) : Int) ∧ Lay N K u := by
 induction p with
 | left => obtain ⟨x, c, w, h1, h2, h3, h4, h5, h6, h7, h8, h9, h10⟩ := h; exact ⟨x, c, h1, h2, h3, h7, h9⟩
 | right => obtain ⟨x, c, w, h1, h2, h3, h4, h5, h6, h7, h8, h9, h10⟩ := h; exact ⟨x, c, h1, h2, h3, h8, h10⟩
 | inl _ ih => obtain ⟨x, c, w, h1, h2, h3, h4, h5, h6, h7, h8, h9, h10⟩ := h; exact ih h9
 | inr _ ih => obtain ⟨x, c, w, h1, h2, h3, h4, h5, h6, h7, h8, h9, h10⟩ := h; exact ih h10
theorem Pos.lvs {t u : BT} {lb lb' : Tbst_node} {q : Nat} {s : Bool} {B A : List Tbst_node} (p : Pos N t lb q s B u A lb') : V.lvs N t = B ++ V.lvs N u ++ A := by
 induction p with
 | left => simp [V.lvs]
 | right => simp [V.lvs]
 | inl _ ih => rw [V.lvs, ih]; simp
 | inr _ ih => rw [V.lvs, ih]; simp
theorem Pos.inn {t u : BT} {lb lb' : Tbst_node} {q : Nat} {s : Bool} {B A : List Tbst_node} (p : Pos N t lb q s B u A lb') : u.inn ≤ t.inn := by
 induction p with
 | left => simp only [BT.inn]; omega
 | right => simp only [BT.inn]; omega
 | inl _ ih => simp only [BT.inn]; omega
 | inr _ ih => simp only [BT.inn]; omega
theorem Pos.deep {t a b : BT} {lb lb' : Tbst_node} {q c : Nat} {s : Bool} {B A : List Tbst_node} (p : Pos N t lb q s B (.nd c a b) A lb') : ∃ A', Pos N t lb c true B a A' lb' := by
 generalize hu : BT.nd c a b = u at p
 induction p with
 | left => subst hu; exact ⟨_, .inl .left⟩
 | @right q l r lb =>
  subst hu
  have := Pos.inr (N := N) (j := q) (l := l) (lb := lb) (Pos.left (N := N) (q := c) (l := a) (r := b) (lb := nk N q))
  rw [List.append_nil] at this
  exact ⟨_, this⟩
 | inl _ ih => obtain ⟨A', w⟩ := ih hu; exact ⟨_, .inl w⟩
 | inr _ ih => obtain ⟨A', w⟩ := ih hu; exact ⟨_, .inr w⟩
theorem Pos.ext (e : NExt N N') {t u : BT} {lb lb' : Tbst_node} {q : Nat} {s : Bool} {B A : List Tbst_node} (p : Pos N t lb q s B u A lb') (h : ∀ i ∈ t.ids, i < N.length) : Pos N' t lb q s B u A lb' := by
 induction p with
 | @left q l r lb =>
  rw [← lvs_ext e (t := r) (fun j hj => h j (List.mem_cons_of_mem _ (List.mem_append_right _ hj)))]; exact .left
 | @right q l r lb =>
  rw [← lvs_ext e (t := l) (fun j hj => h j (List.mem_cons_of_mem _ (List.mem_append_left _ hj))), ← e.nk (h _ List.mem_cons_self)]; exact .right
 | @inl j q s l r u B A lb lb' p ih =>
  rw [← lvs_ext e (t := r) (fun j hj => h j (List.mem_cons_of_mem _ (List.mem_append_right _ hj)))]
  exact .inl (ih (fun j hj => h j (List.mem_cons_of_mem _ (List.mem_append_left _ hj))))
 | @inr j q s l r u B A lb lb' p ih =>
  rw [← lvs_ext e (t := l) (fun j hj => h j (List.mem_cons_of_mem _ (List.mem_append_left _ hj)))]
  refine .inr ?_
  rw [e.nk (h _ List.mem_cons_self)]
  exact ih (fun j hj => h j (List.mem_cons_of_mem _ (List.mem_append_right _ hj)))
theorem upd_mem (e : NExt N N') {f : BT} {n y : Tbst_node} {t : BT} (h : ∀ i ∈ t.ids, i < N.length) (hf : ∀ y ∈ lvs N' f, y = nk N (leafOf N k t) ∨ y = n) (hy : y ∈ lvs N' (updT N k f t)) : y ∈ lvs N t ∨ y = n := by
 obtain ⟨A, B, h1, h2⟩ := lvs_upd (N' := N') (k := k) (f := f) e h
 rw [h2] at hy
 rw [h1]
 simp only [List.mem_append, List.mem_cons] at hy ⊢
 rcases hy with (w | w) | w
 ·
  exact .inl (.inl w)
 ·
  rcases hf y w with q | q
  ·
   exact .inl (.inr (.inl q))
  ·
   exact .inr q
 ·
  exact .inl (.inr (.inr w))
theorem Pos.upd (e : NExt N N') {f : BT} {n : Tbst_node} {t u : BT} {lb lb' : Tbst_node} {q : Nat} {s : Bool} {B A : List Tbst_node} (p : Pos N t lb q s B u A lb') (h : ∀ i ∈ t.ids, i < N.length) (hf : ∀ y ∈ V.lvs N' f, y = nk N (leafOf N k t) ∨ y = n) :
 ∃ B' u' A', Pos N' (updT N k f t) lb q s B' u' A' lb' ∧ ∀ y ∈ B', y ∈ B ∨ y = n := by
 induction p with
 | @left q l r lb =>
  rw [updT]
  split <;> exact ⟨_, _, _, .left, fun y hy => .inl hy⟩
 | @right q l r lb =>
  have hl : ∀ i ∈ l.ids, i < N.length := fun j hj => h j (List.mem_cons_of_mem _ (List.mem_append_left _ hj))
  have eq := e.nk (h q List.mem_cons_self)
  rw [updT]
  rw [leafOf] at hf
  rw [← eq]
  split
  ·
   rename_i c
   rw [eq] at c
   rw [if_pos c] at hf
   exact ⟨_, _, _, .right, fun y hy => upd_mem e hl hf hy⟩
  ·
   exact ⟨_, _, _, .right, fun y hy => by rw [lvs_ext e hl] at hy; exact .inl hy⟩
 | @inl j q s l r u B A lb lb' p ih =>
  have hl : ∀ i ∈ l.ids, i < N.length := fun j hj => h j (List.mem_cons_of_mem _ (List.mem_append_left _ hj))
  rw [updT]
  rw [leafOf] at hf
  split
  ·
   rename_i c
   rw [if_pos c] at hf
   obtain ⟨B', u', A', w, w2⟩ := ih hl hf
   exact ⟨_, _, _, .inl w, w2⟩
  ·
   exact ⟨_, _, _, .inl (p.ext e hl), fun y hy => .inl hy⟩
 | @inr j q s l r u B A lb lb' p ih =>
  have hl : ∀ i ∈ l.ids, i < N.length := fun j hj => h j (List.mem_cons_of_mem _ (List.mem_append_left _ hj))
  have hr : ∀ i ∈ r.ids, i < N.length := fun j hj => h j (List.mem_cons_of_mem _ (List.mem_append_right _ hj))
  have ej := e.nk (h j List.mem_cons_self)
  rw [updT]
  rw [leafOf] at hf
  split
  ·
   rename_i c
   rw [if_pos c] at hf
   refine ⟨_, _, _, .inr (by rw [ej]; exact p.ext e hr), fun y hy => ?_⟩
   rcases List.mem_append.mp hy with w | w
   ·
    rcases upd_mem e hl hf w with w | w
    ·
     exact .inl (List.mem_append_left _ w)
    ·
     exact .inr w
   ·
    exact .inl (List.mem_append_right _ w)
  ·
   rename_i c
   rw [if_neg c] at hf
   obtain ⟨B', u', A', w, w2⟩ := ih hr hf
   refine ⟨_, _, _, .inr (by rw [ej]; exact w), fun y hy => ?_⟩
   rcases List.mem_append.mp hy with w | w
   ·
    rw [lvs_ext e hl] at w; exact .inl (List.mem_append_left _ w)
   ·
    rcases w2 y w with w | w
    ·
     exact .inl (List.mem_append_right _ w)
    ·
     exact .inr w
theorem Atk.leaf {t : BT} {t0 tn : Int} {i : Nat} (lb : Tbst_node) (a : Atk N k t t0 (.lf i) tn) (o : Ord N t) : ∃ B A, lvs N t = B ++ nk N i :: A ∧ (∀ y ∈ B, lessN y k = true) ∧
 ((tn = t0 ∧ A = []) ∨ ∃ (q : Nat) (u : BT) (A' : List Tbst_node), tn = (q : Int) ∧ Pos N t lb q false (B ++ [nk N i]) u A' (nk N q) ∧ lessN k (nk N q) = true) := by
 generalize hu : BT.lf i = u at a
 induction a generalizing lb with
 | here => subst hu; exact ⟨[], [], rfl, fun _ h => absurd h List.not_mem_nil, .inl ⟨rfl, rfl⟩⟩
 | @inl j l r u t0 tn h a ih =>
  obtain ⟨B, A, h1, h2, h3⟩ := ih lb o.2.2.1 hu
  refine ⟨B, A ++ lvs N r, by rw [lvs, h1]; simp, h2, .inr ?_⟩
  rcases h3 with ⟨rfl, rfl⟩ | ⟨q, v, A', w1, w2, w3⟩
  ·
   refine ⟨j, r, [], rfl, ?_, h⟩
   rw [← h1]
   exact .right
  ·
   exact ⟨q, v, _, w1, .inl w2, w3⟩
 | @inr j l r u t0 tn h a ih =>
  obtain ⟨B, A, h1, h2, h3⟩ := ih (nk N j) o.2.2.2 hu
  refine ⟨lvs N l ++ B, A, by rw [lvs, h1]; simp, fun y hy => ?_, ?_⟩
  ·
   rcases List.mem_append.mp hy with w | w
   ·
    obtain ⟨m, hm, e⟩ := lvs_mem w
    have := o.1 m hm
    rw [e] at this
    exact lessN_le this h
   ·
    exact h2 y w
  ·
   rcases h3 with ⟨w1, w2⟩ | ⟨q, v, A', w1, w2, w3⟩
   ·
    exact .inl ⟨w1, w2⟩
   ·
    exact .inr ⟨q, v, _, w1, by rw [List.append_assoc]; exact .inr w2, w3⟩
end
section
variable {N N' : List Tbst_node} {t u : BT} {lb lb' : Tbst_node} {q : Nat} {s : Bool} {B A : List Tbst_node}
theorem Pos.sub (p : Pos N t lb q s B u A lb') : ∀ j ∈ u.ids, j ∈ t.ids := by
 induction p with
 | left => exact fun j hj => List.mem_cons_of_mem _ (List.mem_append_left _ hj)
 | right => exact fun j hj => List.mem_cons_of_mem _ (List.mem_append_right _ hj)
 | inl _ ih => exact fun j hj => List.mem_cons_of_mem _ (List.mem_append_left _ (ih j hj))
 | inr _ ih => exact fun j hj => List.mem_cons_of_mem _ (List.mem_append_right _ (ih j hj))
theorem Pos.low (p : Pos N t lb q s B u A lb') (o : Ord N t) : (∀ j ∈ u.ids, lessN (nk N j) lb' = false) ∨ lb' = lb := by
 induction p with
 | left => exact .inr rfl
 | right => exact .inl (fun j hj => o.2.1 j hj)
 | inl _ ih => exact ih o.2.2.1
 | inr p ih =>
  rcases ih o.2.2.2 with w | w
  ·
   exact .inl w
  ·
   refine .inl (fun j hj => ?_)
   rw [w]
   exact o.2.1 j (p.sub j hj)
end
theorem lessN0 {a b : Tbst_node} (ha : a.top = 0) (hb : b.top = 0) : lessN a b = lessB a.key b.key := by unfold lessN; simp [ha, hb]
abbrev kq (kb : ByteArray) : Tbst_node := ⟨kb, 0, 0, 0⟩
inductive Sk (N : List Tbst_node) (t : BT) (ks : List Tbst_node) (W : List ByteArray) (kb : ByteArray) : Obst_Call → Option Clo → Nat → Prop
 | word {C : Obst_Call} {s : Tbst_seen} {i : Nat} {a b : BT} {tn : Int} (h : Atk N (kq kb) t (-1) (.nd i a b) tn) (hp : s.parent = (i : Int)) (ht : s.turn = tn) : Sk N t ks W kb C (some (.c_down_1 s (kq kb) (.c_Seek_1_1 (kq kb)))) (2 * (a.inn + b.inn) + t.inn + 4)
 | child {C : Obst_Call} {s : Tbst_seen} {i : Nat} {a b : BT} {tn : Int} (h : Atk N (kq kb) t (-1) (.nd i a b) tn) (hp : s.parent = (i : Int)) (ht : s.turn = tn) : Sk N t ks W kb C (some (.c_down_1_1 s (kq kb) (.c_Seek_1_1 (kq kb)))) (2 * (a.inn + b.inn) + t.inn + 3)
 | least {C : Obst_Call} {q c : Nat} {x lb : Tbst_node} {s : Bool} {B A : List Tbst_node} {u : BT} (p : Pos N t (kq kb) q s B u A lb) (hl : lessN (kq kb) lb = true) (hB : ∀ y ∈ B, y.top = 0 → y.key ∈ W → lessB y.key kb = true) (hq : N[q]? = some x) (hc : x.cell = (c : Int)) :
  Sk N t ks W kb C (some (.c_least_1 ((c + dn s : Nat) : Int))) (u.inn + 1)
 | found {C : Obst_Call} {x : Tbst_node} (hx : x ∈ ks) (ho : C.told_Ok = true) (hk : C.told_Key = x.key) (hv : C.told_Val = x.val) (h1 : lessB x.key kb = false) (h2 : ∀ w ∈ W, lessB w kb = false → leB x.key w = true) : Sk N t ks W kb C none 0
 | none {C : Obst_Call} (ho : C.told_Ok = false) (h : ∀ w ∈ W, lessB w kb = true) : Sk N t ks W kb C none 0
theorem Sk.cong {N : List Tbst_node} {t : BT} {ks : List Tbst_node} {W : List ByteArray} {kb : ByteArray} {C : Obst_Call} {o : Option Clo} {m : Nat} (h : Sk N t ks W kb C o m) : m ≤ 3 * t.inn + 4 := by
 cases h with
 | word h _ _ => have := h.inn; simp only [BT.inn] at this; omega
 | child h _ _ => have := h.inn; simp only [BT.inn] at this; omega
 | least p _ _ _ _ => have := p.inn; omega
 | found => omega
 | none => omega
theorem found_ok {rc : RC} {T : Obst_Tree} {M : Omem_Mem} {C : Obst_Call} {x : Tbst_node} : F_bst_Call_found rc T M C x = some (Option.none, T, M, ⟨true, x.key, x.val, C.told_Err⟩) := rfl
section
variable {T : Obst_Tree} {M : Omem_Mem} {l r : BT} {ks : List Tbst_node} {j n : Nat} {W : List ByteArray} {kb : ByteArray}
theorem BInv.tops (I : BInv T M l r ks j) {y : Tbst_node} (h : y ∈ lvs T.nodes (.nd 0 l r)) : (y ∈ ks ∧ y.top = 0) ∨ 0 < y.top := by
 obtain ⟨s1, e1, e2⟩ := I.lv
 rw [lvs, e1] at h
 simp only [List.mem_append, List.mem_singleton] at h
 rcases h with (w | w) | w
 ·
  exact .inl ⟨w, I.kt y w⟩
 ·
  rw [w, e2]; exact .inr (by omega)
 ·
  rw [I.rv y w]; exact .inr (by omega)
theorem BInv.inl (I : BInv T M l r ks j) {y : Tbst_node} (h : y ∈ ks) : y ∈ lvs T.nodes (.nd 0 l r) := by
 obtain ⟨s1, e1, e2⟩ := I.lv
 rw [lvs, e1]
 simp [h]
theorem sk_end (I : BInv T M l r ks j) (hW : ∀ w ∈ W, ∃ y ∈ ks, y.key = w) {B A : List Tbst_node} {x : Tbst_node} (e : lvs T.nodes (.nd 0 l r) = B ++ x :: A) (hB : ∀ y ∈ B, y.top = 0 → y.key ∈ W → lessB y.key kb = true) (hx : x.top = 0) (hk : lessN x (kq kb) = false) {C : Obst_Call} (ho : C.told_Ok = true) (hc : C.told_Key = x.key) (hv : C.told_Val = x.val) :
 Sk T.nodes (.nd 0 l r) ks W kb C Option.none 0 := by
 have hxk : x ∈ ks := by
  rcases I.tops (y := x) (by rw [e]; simp) with w | w
  ·
   exact w.1
  ·
   omega
 refine .found hxk ho hc hv (by rw [lessN0 hx rfl] at hk; exact hk) (fun w hw hwk => ?_)
 obtain ⟨y, hy, rfl⟩ := hW w hw
 have y0 := I.kt y hy
 have so := lvs_sorted I.ord
 have hm := I.inl hy
 rw [e] at hm so
 rw [List.pairwise_append, List.pairwise_cons] at so
 rcases List.mem_append.mp hm with q | q
 ·
  rw [hB y q y0 hw] at hwk; cases hwk
 ·
  rcases List.mem_cons.mp q with q | q
  ·
   rw [q]; exact leB_refl _
  ·
   have := so.2.1.1 y q
   rw [lessN0 hx y0] at this
   unfold leB; rw [this]; rfl
theorem sk_none (I : BInv T M l r ks j) (hW : ∀ w ∈ W, ∃ y ∈ ks, y.key = w) {B A : List Tbst_node} {x : Tbst_node} (e : lvs T.nodes (.nd 0 l r) = B ++ x :: A) (hB : ∀ y ∈ B, y.top = 0 → y.key ∈ W → lessB y.key kb = true) (hx : x.top = 0 → lessN x (kq kb) = true) (hA : 0 < x.top ∨ A = []) {C : Obst_Call} (ho : C.told_Ok = false) :
 Sk T.nodes (.nd 0 l r) ks W kb C Option.none 0 := by
 refine .none ho (fun w hw => ?_)
 obtain ⟨y, hy, rfl⟩ := hW w hw
 have y0 := I.kt y hy
 have so := lvs_sorted I.ord
 have hm := I.inl hy
 rw [e] at hm so
 rw [List.pairwise_append, List.pairwise_cons] at so
 rcases List.mem_append.mp hm with q | q
 ·
  exact hB y q y0 hw
 ·
  rcases List.mem_cons.mp q with q | q
  ·
   subst q
   have := hx y0
   rw [lessN0 y0 rfl] at this
   exact this
  ·
   rcases hA with w | w
   ·
    have := lessN_iff.mp (so.2.1.1 y q); omega
   ·
    rw [w] at q; cases q
theorem sk_leaf {rc : RC} {s : Tbst_seen} {i : Nat} {tn : Int} {C : Obst_Call} (I : BInv T M l r ks j) (hW : ∀ w ∈ W, ∃ y ∈ ks, y.key = w) (a : Atk T.nodes (kq kb) (.nd 0 l r) (-1) (.lf i) tn) (hs : s.leaf = (i : Int)) (ht : s.turn = tn) :
 ∃ o C' m', F_bst_Tree_Seek_1_1 rc T M C s (kq kb) = some (o, T, M, C') ∧ Sk T.nodes (.nd 0 l r) ks W kb C' o m' ∧ m' ≤ (BT.nd 0 l r).inn + 1 := by
 obtain ⟨B, A, e, hB, h3⟩ := a.leaf (kq kb) I.ord
 obtain ⟨x, h1, h2⟩ := a.lay I.lay
 rw [nk_eq h1] at e h3
 have hB0 : ∀ y ∈ B, y.top = 0 → y.key ∈ W → lessB y.key kb = true := fun y hy h0 _ => by
  have := hB y hy
  rw [lessN0 h0 rfl] at this
  exact this
 unfold F_bst_Tree_Seek_1_1
 rw [hs, getI_nat, h1]
 simp only [Option.bind_some, less_ok]
 by_cases x0 : x.top = 0 ∧ lessN x (kq kb) = false
 ·
  rw [if_pos (by rw [x0.1]; rfl), x0.2]
  simp only [Option.bind_some, Bool.not_false, if_true, found_ok]
  exact ⟨_, _, 0, rfl, sk_end I hW e hB0 x0.1 x0.2 rfl rfl rfl, by omega⟩
 ·
  have hx : x.top = 0 → lessN x (kq kb) = true := fun q => by
   cases w : lessN x (kq kb) with
   | true => rfl
   | false => exact absurd ⟨q, w⟩ x0
  have : (if (x.top == 0) = true then some (!lessN x (kq kb)) else some false : Option Bool) = some false := by
   split
   ·
    rename_i q
    rw [hx (by simpa using q)]; rfl
   ·
    rfl
  rw [this]
  simp only [Option.bind_some, Bool.false_eq_true, if_false, tell_ok]
  rw [ht]
  rcases h3 with ⟨w1, w2⟩ | ⟨q, u, A', w1, w2, w3⟩
  ·
   rw [if_pos (by rw [w1]; rfl)]
   exact ⟨_, _, 0, rfl, sk_none I hW e hB0 hx (.inr w2) rfl, by omega⟩
  ·
   rw [if_neg (by rw [w1, decide_eq_true_iff]; omega), w1]
   obtain ⟨z, c, g1, g2, g3, g4, g5⟩ := w2.lay I.lay
   rw [show (2 : Int) = ((2 : Nat) : Int) from rfl, cell_ok g1 g2 (by omega)]
   simp only [Option.bind_some]
   refine ⟨_, _, u.inn + 1, rfl, Sk.least (s := false) w2 w3 (fun y hy h0 hw => ?_) g1 g2, by have := w2.inn; omega⟩
   rcases List.mem_append.mp hy with p | p
   ·
    exact hB0 y p h0 hw
   ·
    rw [List.mem_singleton] at p
    subst p
    have := hx h0
    rw [lessN0 h0 rfl] at this
    exact this
theorem sk_step {C : Obst_Call} {x : Clo} {m : Nat} (I : BInv T M l r ks j) (hj : j ≤ 20000) (hW : ∀ w ∈ W, ∃ y ∈ ks, y.key = w) (h : Sk T.nodes (.nd 0 l r) ks W kb C (some x) m) :
 ∃ o M' C' m', F_step (n + 2) T M C x .u = some (o, T, M', C') ∧ M'.cells = M.cells ∧ M'.count = IntKind.i64.wrap (M.count + 1) ∧ Sk T.nodes (.nd 0 l r) ks W kb C' o m' ∧ m' < m := by
 have b1 := I.b1
 generalize ho : (some x : Option Clo) = ox at h
 cases h with
 | @word s i a b tn h hp ht =>
  cases ho
  obtain ⟨y, c, w, h1, h2, h3, h4, h5, h6, h7, h8, h9, h10⟩ := h.lay I.lay
  exact ⟨_, _, _, _, step_word hp h1 h2 h3 h4, rfl, rfl, .child h hp ht, by omega⟩
 | @child s i a b tn h hp ht =>
  cases ho
  have La := h.lay I.lay
  obtain ⟨y, c, w, h1, h2, h3, h4, h5, h6, h7, h8, h9, h10⟩ := La
  obtain ⟨d1, d2⟩ := h.child
  have ey : nk T.nodes i = y := nk_eq h1
  rw [ey] at d1 d2
  obtain ⟨u, tn', hc, hu, hL, hA, hi⟩ : ∃ (u : BT) (tn' : Int), M.cells[c + (if lessN (kq kb) y = true then 1 else 2)]? = some ((u.root : Nat) : Int) ∧ (if lessN (kq kb) y = true then (i : Int) else s.turn) = tn' ∧ Lay T.nodes M.cells u ∧ Atk T.nodes (kq kb) (.nd 0 l r) (-1) u tn' ∧ u.inn ≤ a.inn + b.inn := by
   cases e : lessN (kq kb) y with
   | true => exact ⟨a, i, h7, rfl, h9, d1 e, by omega⟩
   | false => exact ⟨b, tn, h8, by simpa using ht, h10, d2 e, by omega⟩
  have hul : u.root < T.nodes.length := hL.lt _ u.root_mem
  rw [step_child (j := u.root) hp h1 h2 h3 (by omega) hc]
  cases u with
  | lf i2 =>
   obtain ⟨z, g1, g2⟩ := hL
   rw [down_lf (i := i2) rfl g1 g2]
   obtain ⟨o, C', m', q1, q2, q3⟩ := sk_leaf (rc := F_step n) (s := ⟨s.grand, s.parent, ((BT.lf i2).root : Int), s.grandWord, s.parentWord, if lessN (kq kb) y = true then (i : Int) else s.turn⟩) (C := C) (I.cells (M' := tick M) rfl) hW hA rfl hu
   exact ⟨o, _, C', m', q1, rfl, rfl, q2, by simp only [BT.inn] at q3 ⊢; omega⟩
  | nd i2 a2 b2 =>
   obtain ⟨z, c2, w2, g1, g2, _⟩ := hL
   rw [down_nd (i := i2) rfl g1 (by omega)]
   exact ⟨_, _, _, _, rfl, rfl, rfl, .word hA rfl hu, by simp only [BT.inn] at hi ⊢; omega⟩
 | @least q c y lb s B A u p hl hB hq hc =>
  cases ho
  obtain ⟨z, c', g1, g2, g3, g4, g5⟩ := p.lay I.lay
  rw [hq] at g1
  cases g1
  rw [hc] at g2
  obtain rfl : c = c' := by omega
  have hul : u.root < T.nodes.length := g5.lt _ u.root_mem
  show ∃ o M' C' m', F_bst_Tree_least_1 (F_step (n + 1)) T M C _ = _ ∧ _
  unfold F_bst_Tree_least_1
  rw [load_ok g4]
  simp only [Option.bind_some]
  cases u with
  | nd c2 a2 b2 =>
   obtain ⟨z, d, w2, k1, k2, k3, k4, k5, k6, k7, k8, k9, k10⟩ := g5
   rw [BT.root, getI_nat, k1]
   simp only [Option.bind_some, F_bst_node_leaf]
   rw [if_pos (by rw [k2]; simp), show IntKind.wrap .i64 ((c2 : Nat) : Int) = (c2 : Int) from wrap_id (by omega) (by simp only [BT.root] at hul; omega), show (1 : Int) = ((1 : Nat) : Int) from rfl]
   rw [cell_ok k1 k2 (by omega)]
   simp only [Option.bind_some]
   obtain ⟨A', p'⟩ := p.deep
   exact ⟨_, _, _, _, rfl, rfl, rfl, Sk.least (s := true) p' hl hB k1 k2, by simp only [BT.inn]; omega⟩
  | lf i2 =>
   obtain ⟨z, k1, k2⟩ := g5
   have e : lvs T.nodes (.nd 0 l r) = B ++ z :: A := by rw [p.lvs, lvs, nk_eq k1]; simp
   rw [BT.root, getI_nat, k1]
   simp only [Option.bind_some, F_bst_node_leaf]
   rw [if_neg (by rw [k2]; simp)]
   by_cases z0 : z.top > 0
   ·
    rw [if_pos (by simpa using z0), tell_ok]
    exact ⟨_, _, _, _, rfl, rfl, rfl, sk_none I hW e hB (fun q => by omega) (.inl z0) rfl, by simp only [BT.inn]; omega⟩
   ·
    rw [if_neg (by simpa using z0), found_ok]
    have zt : z.top = 0 := by
     rcases I.tops (y := z) (by rw [e]; simp) with w | w
     ·
      exact w.2
     ·
      omega
    have lz : lessN z (kq kb) = false := by
     rcases p.low I.ord with w | w
     ·
      have := w i2 (BT.root_mem (.lf i2))
      rw [nk_eq k1] at this
      have := lessN_le hl this
      rw [lessN0 rfl zt] at this
      rw [lessN0 zt rfl]
      exact less_asymm this
     ·
      rw [w, lessN_irrefl] at hl; cases hl
    exact ⟨_, _, _, _, rfl, rfl, rfl, sk_end I hW e hB zt lz rfl rfl rfl, by simp only [BT.inn]; omega⟩
 | found => cases ho
 | none => cases ho
theorem Sk.grew {T' : Obst_Tree} {l' : BT} {ks' : List Tbst_node} {k' : Tbst_node} {C : Obst_Call} {o : Option Clo} {m : Nat} (I : BInv T M l r ks j) (hk : k'.top = 0) (e : NExt T.nodes T'.nodes) (g : Grew T.nodes T'.nodes k' l l') (hks : ∀ y ∈ ks, y ∈ ks') (hn : k'.key ∉ W) (h : Sk T.nodes (.nd 0 l r) ks W kb C o m) :
 ∃ m', Sk T'.nodes (.nd 0 l' r) ks' W kb C o m' := by
 obtain ⟨f, rfl, hf⟩ := g
 have hu : BT.nd 0 (updT T.nodes k' f l) r = updT T.nodes k' f (.nd 0 l r) := by
  have := I.dir hk
  unfold dirN at this
  rw [updT, if_pos this]
 have hlt := I.lay.lt
 rw [hu]
 cases h with
 | @word s i a b tn h hp ht =>
  obtain ⟨l2, r2, w⟩ := h.upd e hlt (f := f)
  exact ⟨_, .word w hp ht⟩
 | @child s i a b tn h hp ht =>
  obtain ⟨l2, r2, w⟩ := h.upd e hlt (f := f)
  exact ⟨_, .child w hp ht⟩
 | @least q c y lb s B A u p hl hB hq hc =>
  obtain ⟨B', u', A', w1, w2⟩ := p.upd (k := k') (f := f) (n := ⟨k'.key, 0, k'.val, -1⟩) e hlt (fun y hy => by rw [I.leaf hk]; exact hf y hy)
  refine ⟨_, .least w1 hl (fun y hy h0 hw => ?_) (e _ _ hq) hc⟩
  rcases w2 y hy with p | p
  ·
   exact hB y p h0 hw
  ·
   rw [p] at hw; exact absurd hw hn
 | found hx ho hk hv h1 h2 => exact ⟨0, .found (hks _ hx) ho hk hv h1 h2⟩
 | none ho h => exact ⟨0, .none ho h⟩
end
end Go.Proofs.YtndhbaidibioeaaGreat.V
