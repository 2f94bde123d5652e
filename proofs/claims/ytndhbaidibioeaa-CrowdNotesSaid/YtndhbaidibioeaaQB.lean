/- The tree's steps, one by one: what each does to cells, nodes, and infos.
   No condition: these are laws of plain functions. -/
import Derived.Test.YtndhbaidibioeaaPF
import Derived.Test.YtndhbaidibioeaaMb
namespace Go.Proofs.Ytndhbaidibioeaa.V
open Go
set_option linter.unusedVariables false
set_option linter.unusedSimpArgs false
set_option maxRecDepth 100000
theorem wrap_u64 {n : Int} (h0 : 0 ≤ n) (h1 : n < 18446744073709551616) : IntKind.wrap .u64 n = n := by
 have : IntKind.wrap .u64 n = n % 18446744073709551616 := rfl
 rw [this, Int.emod_eq_of_lt h0 h1]
theorem and3 (w : Nat) (h : w < 18446744073709551616) : andI .u64 (w : Int) 3 = ((w % 4 : Nat) : Int) := by
 unfold andI
 have e : (BitVec.ofInt 64 (w : Int) &&& BitVec.ofInt 64 3).toNat = w % 4 := by
  rw [BitVec.toNat_and, BitVec.toNat_ofInt, BitVec.toNat_ofInt]
  have e1 : ((w : Int) % ((2 ^ 64 : Nat) : Int)).toNat = w := by
   rw [Int.emod_eq_of_lt (by omega) (by omega)]; omega
  have e2 : ((3 : Int) % ((2 ^ 64 : Nat) : Int)).toNat = 3 := rfl
  rw [e1, e2]
  exact Nat.and_two_pow_sub_one_eq_mod w 2
 show IntKind.wrap .u64 ((BitVec.ofInt 64 (w : Int) &&& BitVec.ofInt 64 3).toNat : Int) = _
 rw [e, wrap_u64 (by omega) (by omega)]
theorem wstate_ok (w : Nat) (h : w < 9223372036854775808) : F_word_State (w : Int) = some ((w % 4 : Nat) : Int) := by
 unfold F_word_State
 rw [and3 w (by omega), wrap_id (by omega) (by omega)]
theorem winfo_ok (w : Nat) (h : w < 9223372036854775808) : F_word_Info (w : Int) = some ((w / 4 : Nat) : Int) := by
 unfold F_word_Info shrI
 have : ((w : Int)).fdiv (2 ^ (min (2 : Int).toNat (IntKind.bits .u64))) = ((w / 4 : Nat) : Int) := by
  have e : (2 : Int) ^ (min (2 : Int).toNat (IntKind.bits .u64)) = 4 := rfl
  rw [e, Int.fdiv_eq_ediv_of_nonneg _ (by omega)]
  omega
 rw [this, wrap_id (by omega) (by omega)]
theorem wpack_ok (i st : Nat) (hi : i < 1099511627776) (hs : st < 4) : F_word_Pack (st : Int) (i : Int) = some ((4 * i + st : Nat) : Int) := by
 unfold F_word_Pack
 rw [wrap_u64 (by omega) (by omega), wrap_u64 (by omega) (by omega), and3 st (by omega)]
 have e1 : shlI .u64 (i : Int) 2 = ((i * 4 : Nat) : Int) := by
  unfold shlI
  have e : (2 : Int) ^ (min (2 : Int).toNat (IntKind.bits .u64)) = 4 := rfl
  rw [e, wrap_u64 (by omega) (by omega)]
  omega
 rw [e1]
 unfold orI
 have e2 : (BitVec.ofInt 64 ((i * 4 : Nat) : Int) ||| BitVec.ofInt 64 ((st % 4 : Nat) : Int)).toNat = 4 * i + st := by
  rw [BitVec.toNat_or, BitVec.toNat_ofInt, BitVec.toNat_ofInt]
  have q1 : (((i * 4 : Nat) : Int) % ((2 ^ 64 : Nat) : Int)).toNat = i * 4 := by
   rw [Int.emod_eq_of_lt (by omega) (by omega)]; omega
  have q2 : (((st % 4 : Nat) : Int) % ((2 ^ 64 : Nat) : Int)).toNat = st := by
   rw [Int.emod_eq_of_lt (by omega) (by omega)]; omega
  rw [q1, q2]
  have := Nat.shiftLeft_add_eq_or_of_lt (a := i) (b := st) (i := 2) hs
  rw [Nat.shiftLeft_eq] at this
  rw [← this]; omega
 show some (IntKind.wrap .u64 ((BitVec.ofInt 64 ((i * 4 : Nat) : Int) ||| BitVec.ofInt 64 ((st % 4 : Nat) : Int)).toNat : Int)) = _
 rw [e2, wrap_u64 (by omega) (by omega)]
def tick (M : Omem_Mem) : Omem_Mem := ⟨M.cells, IntKind.i64.wrap (M.count + 1)⟩
def setc (M : Omem_Mem) (a : Nat) (v : Int) : Omem_Mem := ⟨M.cells.set a v, IntKind.i64.wrap (M.count + 1)⟩
theorem load_ok {M : Omem_Mem} {a : Nat} {v : Int} (h : M.cells[a]? = some v) : F_mem_Mem_Load M (a : Int) = some (v, 0, tick M) := by
 unfold F_mem_Mem_Load
 rw [getI_nat, h]; rfl
theorem store_ok {M : Omem_Mem} {a : Nat} {v : Int} (h : a < M.cells.length) : F_mem_Mem_Store M (a : Int) v = some (0, setc M a v) := by
 unfold F_mem_Mem_Store
 rw [getI_nat, List.getElem?_eq_getElem h]; rfl
theorem cas_ok {M : Omem_Mem} {a : Nat} {v x : Int} (h : M.cells[a]? = some v) : F_mem_Mem_CAS M (a : Int) v x = some (v, true, setc M a x) := by
 unfold F_mem_Mem_CAS
 rw [getI_nat, h]
 simp [setc, setI]
theorem cas_no {M : Omem_Mem} {a : Nat} {v o x : Int} (h : M.cells[a]? = some v) (hn : v ≠ o) : F_mem_Mem_CAS M (a : Int) o x = some (v, false, tick M) := by
 unfold F_mem_Mem_CAS
 rw [getI_nat, h]
 have : (v == o) = false := by rw [beq_eq_false_iff_ne]; exact hn
 simp [this, tick]
theorem cell_ok {T : Obst_Tree} {M : Omem_Mem} {i c k : Nat} {x : Tbst_node} (h : T.nodes[i]? = some x) (hc : x.cell = (c : Int)) (hb : c + k < 4611686018427387904) : F_bst_Tree_cell T M (i : Int) (k : Int) = some (((c + k : Nat) : Int), T, M) := by
 unfold F_bst_Tree_cell
 rw [getI_nat, h]
 simp only [Option.bind_some, hc]
 rw [wrap_id (by omega) (by omega)]
 rfl
theorem grow_ok {M : Omem_Mem} (h : M.cells.length + 3 ≤ 65536) : F_mem_Mem_Grow M 3 = some ((M.cells.length : Int), 0, ⟨M.cells ++ [0, 0, 0], M.count⟩) := by
 unfold F_mem_Mem_Grow
 have e : decide ((3 : Int) > IntKind.i64.wrap (65536 - (M.cells.length : Int))) = false := by
  rw [wrap_id (by omega) (by omega)]
  exact decide_eq_false (by omega)
 rw [e]
 simp only [show decide ((3 : Int) < 0) = false from rfl, Bool.false_eq_true, if_false, Option.bind_some]
 have e2 : mkZ 3 = some [0, 0, 0] := rfl
 rw [e2]
 simp only [Option.bind_some, F_mem_Mem_add]
 rw [appL_ok (by simp; omega) (by omega) (by omega)]
 rfl
abbrev Rsl := (Option Clo) × Obst_Tree × Omem_Mem × Obst_Call
theorem rb (o : Option Rsl) : (o.bind fun x => some (x.1, (⟨x.2.1.nodes, x.2.1.infos⟩ : Obst_Tree), (⟨x.2.2.1.cells, x.2.2.1.count⟩ : Omem_Mem), (⟨x.2.2.2.told_Ok, x.2.2.2.told_Key, x.2.2.2.told_Val, x.2.2.2.told_Err⟩ : Obst_Call))) = o := by
 cases o <;> rfl
def lessN (a b : Tbst_node) : Bool := if (a.top != b.top) = true then decide (a.top < b.top) else lessB a.key b.key
theorem less_ok (a b : Tbst_node) : F_bst_node_less a b = some (lessN a b) := by unfold F_bst_node_less lessN; split <;> rfl
theorem lessN_iff {a b : Tbst_node} : lessN a b = true ↔ a.top < b.top ∨ (a.top = b.top ∧ lessB a.key b.key = true) := by
 unfold lessN
 by_cases h : a.top = b.top
 ·
  rw [if_neg (by simp [h])]
  exact ⟨fun q => .inr ⟨h, q⟩, fun q => by rcases q with q | q; omega; exact q.2⟩
 ·
  rw [if_pos (by simpa using h), decide_eq_true_iff]
  exact ⟨fun q => .inl q, fun q => by rcases q with q | q; exact q; exact absurd q.1 h⟩
theorem lessN_neg {a b : Tbst_node} : lessN a b = false ↔ b.top < a.top ∨ (a.top = b.top ∧ lessB a.key b.key = false) := by
 constructor
 ·
  intro h
  have h1 : ¬ (a.top < b.top ∨ (a.top = b.top ∧ lessB a.key b.key = true)) := fun q => by rw [lessN_iff.mpr q] at h; cases h
  by_cases q : a.top = b.top
  ·
   refine .inr ⟨q, ?_⟩
   cases e : lessB a.key b.key with
   | false => rfl
   | true => exact absurd (.inr ⟨q, e⟩) h1
  ·
   exact .inl (by have := fun w => h1 (.inl w); omega)
 ·
  intro h
  cases e : lessN a b with
  | false => rfl
  | true =>
   rcases lessN_iff.mp e with q | q <;> rcases h with w | w
   ·
    omega
   ·
    omega
   ·
    omega
   ·
    rw [w.2] at q; cases q.2
theorem lessN_le {a b c : Tbst_node} (h1 : lessN a b = true) (h2 : lessN c b = false) : lessN a c = true := by
 rw [lessN_iff] at *
 rw [lessN_neg] at h2
 rcases h1 with q | q <;> rcases h2 with w | w
 ·
  exact .inl (by omega)
 ·
  exact .inl (by omega)
 ·
  exact .inl (by omega)
 ·
  refine .inr ⟨by omega, ?_⟩
  have := less_le (x := a.key) (y := b.key) (z := c.key) q.2 (by rw [leB_not, w.2]; rfl)
  exact this
theorem lessN_eq {a b c : Tbst_node} (h1 : lessN a b = false) (h2 : lessN b a = false) : lessN a c = lessN b c := by
 cases e : lessN b c with
 | true =>
  cases e2 : lessN a c with
  | true => rfl
  | false => have := lessN_le e e2; rw [h2] at this; cases this
 | false =>
  cases e2 : lessN a c with
  | false => rfl
  | true => have := lessN_le e2 e; rw [h1] at this; cases this
inductive BT where
 | lf (i : Nat)
 | nd (i : Nat) (l r : BT)
namespace BT
def root : BT → Nat
 | lf i => i
 | nd i _ _ => i
def ids : BT → List Nat
 | lf i => [i]
 | nd i l r => i :: (ids l ++ ids r)
def inn : BT → Nat
 | lf _ => 0
 | nd _ l r => inn l + inn r + 1
def isNd : BT → Bool
 | lf _ => false
 | nd _ _ _ => true
theorem root_mem : ∀ t : BT, t.root ∈ t.ids
 | lf i => List.mem_cons_self
 | nd i l r => List.mem_cons_self
end BT
def nk (N : List Tbst_node) (i : Nat) : Tbst_node := N.getD i default
theorem nk_eq {N : List Tbst_node} {i : Nat} {x : Tbst_node} (h : N[i]? = some x) : nk N i = x := by
 unfold nk; rw [List.getD_eq_getElem?_getD, h]; rfl
def wd (K : List Int) (c : Nat) : Int := K.getD c 0
theorem wd_eq {K : List Int} {c : Nat} {w : Int} (h : K[c]? = some w) : wd K c = w := by
 unfold wd; rw [List.getD_eq_getElem?_getD, h]; rfl
def Lay (N : List Tbst_node) (K : List Int) : BT → Prop
 | .lf i => ∃ x, N[i]? = some x ∧ x.cell = -1
 | .nd i l r => ∃ x c w, N[i]? = some x ∧ x.cell = ((c : Nat) : Int) ∧ c < 1073741824 ∧ K[c]? = some ((w : Nat) : Int) ∧ w % 4 = 0 ∧ w < 1099511627776 ∧ K[c + 1]? = some ((l.root : Nat) : Int) ∧ K[c + 2]? = some ((r.root : Nat) : Int) ∧ Lay N K l ∧ Lay N K r
theorem Lay.lt {N : List Tbst_node} {K : List Int} : ∀ {t : BT}, Lay N K t → ∀ i ∈ t.ids, i < N.length
 | .lf i, ⟨x, h, _⟩, j, hj => by
  have : j = i := by simpa [BT.ids] using hj
  subst this
  exact (List.getElem?_eq_some_iff.mp h).1
 | .nd i l r, ⟨x, c, w, h, _, _, _, _, _, _, _, h1, h2⟩, j, hj => by
  rcases List.mem_cons.mp hj with q | q
  ·
   subst q; exact (List.getElem?_eq_some_iff.mp h).1
  ·
   rcases List.mem_append.mp q with q | q
   ·
    exact Lay.lt h1 j q
   ·
    exact Lay.lt h2 j q
abbrev Cfg := Obst_Tree × Omem_Mem × Obst_Call × Option Clo
inductive Rs (n : Nat) : Nat → Obst_Tree → Omem_Mem → Obst_Call → Option Clo → Cfg → Prop
 | refl {T : Obst_Tree} {M : Omem_Mem} {C : Obst_Call} {o : Option Clo} : Rs n 0 T M C o (T, M, C, o)
 | step {k : Nat} {T T2 : Obst_Tree} {M M2 : Omem_Mem} {C C2 : Obst_Call} {x : Clo} {o : Option Clo} {f : Cfg} (h : F_step n T M C x .u = some (o, T2, M2, C2)) (r : Rs n k T2 M2 C2 o f) : Rs n (k + 1) T M C (some x) f
def Outc (n : Nat) (r : Option Rsl) (b : Nat) (P : Cfg → Prop) : Prop := ∃ o T M C k f, r = some (o, T, M, C) ∧ k ≤ b ∧ Rs n k T M C o f ∧ P f
theorem Outc.done {n b : Nat} {o : Option Clo} {T : Obst_Tree} {M : Omem_Mem} {C : Obst_Call} {P : Cfg → Prop} (h : P (T, M, C, o)) : Outc n (some (o, T, M, C)) b P := ⟨o, T, M, C, 0, _, rfl, Nat.zero_le _, .refl, h⟩
theorem Outc.step {n b : Nat} {x : Clo} {T : Obst_Tree} {M : Omem_Mem} {C : Obst_Call} {P : Cfg → Prop} {r : Option Rsl} (e : F_step n T M C x .u = r) (h : Outc n r b P) : Outc n (some (some x, T, M, C)) (b + 1) P := by
 obtain ⟨o, T2, M2, C2, k, f, h1, h2, h3, h4⟩ := h
 exact ⟨some x, T, M, C, k + 1, f, rfl, by omega, .step (e.trans h1) h3, h4⟩
theorem Outc.le {n b c : Nat} {P : Cfg → Prop} {r : Option Rsl} (h : Outc n r b P) (hb : b ≤ c) : Outc n r c P := by
 obtain ⟨o, T2, M2, C2, k, f, h1, h2, h3, h4⟩ := h
 exact ⟨o, T2, M2, C2, k, f, h1, by omega, h3, h4⟩
theorem down_lf {rc : RC} {T : Obst_Tree} {M : Omem_Mem} {C : Obst_Call} {s : Tbst_seen} {k : Tbst_node} {th : Clo} {i : Nat} {x : Tbst_node} (hs : s.leaf = (i : Int)) (h : T.nodes[i]? = some x) (hc : x.cell = -1) :
 F_bst_Tree_down rc T M C s k th = rc T M C th (.s s) := by
 unfold F_bst_Tree_down F_bst_node_leaf
 rw [hs, getI_nat, h]
 simp only [Option.bind_some, hc]
 rw [if_pos (by decide)]
 exact rb _
theorem down_nd {rc : RC} {T : Obst_Tree} {M : Omem_Mem} {C : Obst_Call} {s : Tbst_seen} {k : Tbst_node} {th : Clo} {i : Nat} {x : Tbst_node} (hs : s.leaf = (i : Int)) (h : T.nodes[i]? = some x) (hc : 0 ≤ x.cell) :
 F_bst_Tree_down rc T M C s k th = some (some (.c_down_1 ⟨s.parent, (i : Int), (i : Int), s.parentWord, s.parentWord, s.turn⟩ k th), T, M, C) := by
 unfold F_bst_Tree_down F_bst_node_leaf
 rw [hs, getI_nat, h]
 simp only [Option.bind_some]
 rw [if_neg (by rw [decide_eq_true_iff]; omega)]
theorem side_ok {T : Obst_Tree} {M : Omem_Mem} {i c : Nat} {x k : Tbst_node} (h : T.nodes[i]? = some x) (hc : x.cell = (c : Int)) (hb : c < 1073741824) :
 F_bst_Tree_side T M (i : Int) k = some (((c + (if lessN k x = true then 1 else 2) : Nat) : Int), T, M) := by
 unfold F_bst_Tree_side
 rw [getI_nat, h]
 simp only [Option.bind_some, less_ok]
 cases e : lessN k x with
 | true =>
  simp only [if_true]
  rw [show (1 : Int) = ((1 : Nat) : Int) from rfl, cell_ok h hc (by omega)]
  rfl
 | false =>
  simp only [Bool.false_eq_true, if_false]
  rw [show (2 : Int) = ((2 : Nat) : Int) from rfl, cell_ok h hc (by omega)]
  rfl
theorem step_word {n : Nat} {T : Obst_Tree} {M : Omem_Mem} {C : Obst_Call} {s : Tbst_seen} {k : Tbst_node} {th : Clo} {i c : Nat} {x : Tbst_node} {w : Int} (hs : s.parent = (i : Int)) (h : T.nodes[i]? = some x) (hc : x.cell = (c : Int)) (hb : c < 1073741824) (hw : M.cells[c]? = some w) :
 F_step (n + 1) T M C (.c_down_1 s k th) .u = some (some (.c_down_1_1 ⟨s.grand, s.parent, s.leaf, s.grandWord, w, s.turn⟩ k th), T, tick M, C) := by
 show F_bst_Tree_down_1 (F_step n) T M C s k th = _
 unfold F_bst_Tree_down_1
 rw [hs, show (0 : Int) = ((0 : Nat) : Int) from rfl, cell_ok h hc (by omega)]
 simp only [Option.bind_some, Nat.add_zero]
 rw [load_ok hw]
 rfl
theorem step_child {n : Nat} {T : Obst_Tree} {M : Omem_Mem} {C : Obst_Call} {s : Tbst_seen} {k : Tbst_node} {th : Clo} {i c j : Nat} {x : Tbst_node} (hs : s.parent = (i : Int)) (h : T.nodes[i]? = some x) (hc : x.cell = (c : Int)) (hb : c < 1073741824) (hj : j < 1099511627776)
 (hw : M.cells[c + (if lessN k x = true then 1 else 2)]? = some ((j : Nat) : Int)) :
 F_step (n + 1) T M C (.c_down_1_1 s k th) .u = F_bst_Tree_down (F_step n) T (tick M) C ⟨s.grand, s.parent, (j : Int), s.grandWord, s.parentWord, if lessN k x = true then (i : Int) else s.turn⟩ k th := by
 show F_bst_Tree_down_1_1 (F_step n) T M C s k th = _
 unfold F_bst_Tree_down_1_1
 rw [hs, side_ok h hc hb]
 simp only [Option.bind_some]
 rw [show (1 : Int) = ((1 : Nat) : Int) from rfl, cell_ok h hc (by omega)]
 simp only [Option.bind_some]
 have e : (if ((((c + (if lessN k x = true then 1 else 2) : Nat) : Int)) == (((c + 1 : Nat) : Int))) = true then some ((i : Nat) : Int) else some s.turn) = some (if lessN k x = true then (i : Int) else s.turn) := by
  cases lessN k x with
  | true => simp
  | false => rw [if_neg (by simp), if_neg (by simp)]
 rw [e]
 simp only [Option.bind_some]
 rw [load_ok hw]
 simp only [Option.bind_some]
 rw [show IntKind.wrap .i64 ((j : Nat) : Int) = (j : Int) from wrap_id (by omega) (by omega)]
 exact rb _
def dsc (N : List Tbst_node) (K : List Int) (k : Tbst_node) : BT → Tbst_seen → Tbst_seen
 | .lf _, s => s
 | .nd i l r, s =>
  if lessN k (nk N i) = true then dsc N K k l ⟨s.parent, (i : Int), (l.root : Int), s.parentWord, wd K (nk N i).cell.toNat, (i : Int)⟩
  else dsc N K k r ⟨s.parent, (i : Int), (r.root : Int), s.parentWord, wd K (nk N i).cell.toNat, s.turn⟩
theorem search {n b : Nat} {T : Obst_Tree} {C : Obst_Call} {k : Tbst_node} {th : Clo} {P : Cfg → Prop} (hN : T.nodes.length < 1099511627776) : ∀ (t : BT) (s : Tbst_seen) (M : Omem_Mem), Lay T.nodes M.cells t → s.leaf = (t.root : Int) →
 (∀ M' : Omem_Mem, M'.cells = M.cells → Outc (n + 1) (F_step n T M' C th (.s (dsc T.nodes M.cells k t s))) b P) → Outc (n + 1) (F_bst_Tree_down (F_step n) T M C s k th) (b + 2 * t.inn) P := by
 intro t
 induction t with
 | lf i =>
  intro s M ⟨x, h1, h2⟩ hs H
  rw [down_lf hs h1 h2]
  exact (H M rfl).le (by omega)
 | nd i l r ihl ihr =>
  intro s M hL hs H
  have hL0 := hL
  obtain ⟨x, c, w, h1, h2, h3, h4, h5, h6, h7, h8, h9, h10⟩ := hL
  have hl : l.root < T.nodes.length := hL0.lt _ (List.mem_cons_of_mem _ (List.mem_append_left _ l.root_mem))
  have hr : r.root < T.nodes.length := hL0.lt _ (List.mem_cons_of_mem _ (List.mem_append_right _ r.root_mem))
  rw [down_nd hs h1 (by omega)]
  have e0 : nk T.nodes i = x := nk_eq h1
  have e1 : wd M.cells (nk T.nodes i).cell.toNat = ((w : Nat) : Int) := by rw [e0, h2, Int.toNat_natCast]; exact wd_eq h4
  refine (Outc.step (b := b + 2 * (l.inn + r.inn) + 1) (step_word rfl h1 h2 h3 h4) ?_).le (by simp only [BT.inn]; omega)
  refine Outc.step (b := b + 2 * (l.inn + r.inn)) rfl ?_
  cases e : lessN k x with
  | true =>
   rw [step_child (j := l.root) rfl h1 h2 h3 (by omega) (by rw [e]; exact h7)]
   rw [if_pos e]
   refine (ihl _ (tick (tick M)) h9 rfl (fun M' hM' => ?_)).le (by omega)
   have := H M' hM'
   rw [dsc, e0, if_pos e, ← e0, e1] at this
   exact this
  | false =>
   rw [step_child (j := r.root) rfl h1 h2 h3 (by omega) (by rw [e]; exact h8)]
   rw [if_neg (by rw [e]; simp)]
   refine (ihr _ (tick (tick M)) h10 rfl (fun M' hM' => ?_)).le (by omega)
   have := H M' hM'
   rw [dsc, e0, if_neg (by rw [e]; simp), ← e0, e1] at this
   exact this
def leafOf (N : List Tbst_node) (k : Tbst_node) : BT → Nat
 | .lf i => i
 | .nd i l r => if lessN k (nk N i) = true then leafOf N k l else leafOf N k r
theorem leafOf_lf {N : List Tbst_node} {K : List Int} {k : Tbst_node} : ∀ t : BT, Lay N K t → ∃ x, N[leafOf N k t]? = some x ∧ x.cell = -1
 | .lf i, h => h
 | .nd i l r, ⟨x, c, w, h1, h2, h3, h4, h5, h6, h7, h8, h9, h10⟩ => by
  rw [leafOf]
  split
  ·
   exact leafOf_lf l h9
  ·
   exact leafOf_lf r h10
structure Dis (N : List Tbst_node) (K : List Int) : Prop where
 apart : ∀ (i j : Nat) (x y : Tbst_node) (c d : Nat), N[i]? = some x → N[j]? = some y → x.cell = (c : Int) → y.cell = (d : Int) → i ≠ j → c + 3 ≤ d ∨ d + 3 ≤ c
 room : ∀ (i : Nat) (x : Tbst_node) (c : Nat), N[i]? = some x → x.cell = (c : Int) → c + 3 ≤ K.length
theorem Lay.frame {N N' : List Tbst_node} {K K' : List Int} : ∀ {t : BT}, Lay N K t → (∀ (i : Nat) (x : Tbst_node), N[i]? = some x → N'[i]? = some x) →
 (∀ i ∈ t.ids, ∀ (x : Tbst_node) (c : Nat), N[i]? = some x → x.cell = (c : Int) → ∀ (j : Nat) (v : Int), j < 3 → K[c + j]? = some v → K'[c + j]? = some v) → Lay N' K' t
 | .lf i, ⟨x, h1, h2⟩, hN, hK => ⟨x, hN _ _ h1, h2⟩
 | .nd i l r, ⟨x, c, w, h1, h2, h3, h4, h5, h6, h7, h8, h9, h10⟩, hN, hK => by
  have q := hK i List.mem_cons_self x c h1 h2
  exact ⟨x, c, w, hN _ _ h1, h2, h3, q 0 _ (by omega) h4, h5, h6, q 1 _ (by omega) h7, q 2 _ (by omega) h8,
   h9.frame hN (fun i hi => hK i (List.mem_cons_of_mem _ (List.mem_append_left _ hi))), h10.frame hN (fun i hi => hK i (List.mem_cons_of_mem _ (List.mem_append_right _ hi)))⟩
def updT (N : List Tbst_node) (k : Tbst_node) (f : BT) : BT → BT
 | .lf _ => f
 | .nd i l r => if lessN k (nk N i) = true then .nd i (updT N k f l) r else .nd i l (updT N k f r)
structure ParOK (N : List Tbst_node) (K : List Int) (k : Tbst_node) (t : BT) (p : Nat) : Prop where
 mem : p ∈ t.ids
 at_ : ∃ (x : Tbst_node) (c w : Nat), N[p]? = some x ∧ x.cell = (c : Int) ∧ c < 1073741824 ∧ K[c]? = some ((w : Nat) : Int) ∧ w % 4 = 0 ∧ w < 1099511627776 ∧ K[c + (if lessN k x = true then 1 else 2)]? = some ((leafOf N k t : Nat) : Int) ∧
  ∀ (N' : List Tbst_node) (K' : List Int) (f : BT) (w' : Nat), (∀ (i : Nat) (x : Tbst_node), N[i]? = some x → N'[i]? = some x) → (∀ (b : Nat) (v : Int), b ≠ c → b ≠ c + (if lessN k x = true then 1 else 2) → K[b]? = some v → K'[b]? = some v) →
   K'[c]? = some ((w' : Nat) : Int) → w' % 4 = 0 → w' < 1099511627776 → K'[c + (if lessN k x = true then 1 else 2)]? = some ((f.root : Nat) : Int) → Lay N' K' f → Lay N' K' (updT N k f t)
def Ord (N : List Tbst_node) : BT → Prop
 | .lf _ => True
 | .nd i l r => (∀ j ∈ l.ids, lessN (nk N j) (nk N i) = true) ∧ (∀ j ∈ r.ids, lessN (nk N j) (nk N i) = false) ∧ Ord N l ∧ Ord N r
def dirN (N : List Tbst_node) (k : Tbst_node) (i : Nat) : Bool := lessN k (nk N i)
def dn (b : Bool) : Nat := if b = true then 1 else 2
def delT (N : List Tbst_node) (k : Tbst_node) : BT → BT
 | .lf i => .lf i
 | .nd i l r => if lessN k (nk N i) = true then (if l.isNd = true then .nd i (delT N k l) r else r) else (if r.isNd = true then .nd i l (delT N k r) else l)
structure DelOK (N : List Tbst_node) (K : List Int) (k : Tbst_node) (t : BT) (p g : Nat) : Prop where
 gm : g ∈ t.ids
 pm : p ∈ t.ids
 ne : g ≠ p
 at_ : ∃ (x y z : Tbst_node) (c d w v s : Nat), N[g]? = some x ∧ x.cell = (c : Int) ∧ c < 1073741824 ∧ K[c]? = some ((w : Nat) : Int) ∧ w % 4 = 0 ∧ w < 1099511627776 ∧ K[c + dn (lessN k x)]? = some ((p : Nat) : Int) ∧
  N[p]? = some y ∧ y.cell = (d : Int) ∧ d < 1073741824 ∧ K[d]? = some ((v : Nat) : Int) ∧ v % 4 = 0 ∧ v < 1099511627776 ∧ K[d + dn (lessN k y)]? = some ((leafOf N k t : Nat) : Int) ∧ K[d + dn (!lessN k y)]? = some ((s : Nat) : Int) ∧
  s ∈ t.ids ∧ s ≠ leafOf N k t ∧ N[s]? = some z ∧ lessN z x = lessN k x ∧
  ∀ (N' : List Tbst_node) (K' : List Int) (w' : Nat), (∀ (i : Nat) (x : Tbst_node), N[i]? = some x → N'[i]? = some x) → (∀ (b : Nat) (u : Int), b ≠ c → b ≠ c + dn (lessN k x) → b ≠ d → K[b]? = some u → K'[b]? = some u) →
   K'[c]? = some ((w' : Nat) : Int) → w' % 4 = 0 → w' < 1099511627776 → K'[c + dn (lessN k x)]? = some ((s : Nat) : Int) → Lay N' K' (delT N k t) ∧ (delT N k t).root = t.root
theorem away {N : List Tbst_node} {K : List Int} (D : Dis N K) {q i' : Nat} {y x' : Tbst_node} {d c' : Nat} (hq : N[q]? = some y) (hd : y.cell = (d : Int)) (hi : i' ≠ q) (hx : N[i']? = some x') (hc : x'.cell = (c' : Int)) {j z : Nat} (hj : j < 3) (hz : z < 3) : c' + j ≠ d + z := by
 rcases D.apart i' q x' y c' d hx hq hc hd hi with w | w <;> omega
def isKey (x k : Tbst_node) : Bool := bif (x.top == 0) then (eqB x.key k.key) else false
theorem isKey_iff {x k : Tbst_node} : isKey x k = true ↔ x.top = 0 ∧ x.key = k.key := by
 unfold isKey
 by_cases h : x.top = 0
 ·
  simp [h, eqB_iff]
 ·
  have : (x.top == 0) = false := by rw [beq_eq_false_iff_ne]; exact h
  simp [this, h]
theorem is_ok {T : Obst_Tree} {M : Omem_Mem} {i : Nat} {x k : Tbst_node} (h : T.nodes[i]? = some x) : F_bst_Tree_is T M (i : Int) k = some (isKey x k, T, M) := by
 unfold F_bst_Tree_is
 rw [getI_nat, h]; rfl
theorem tell_ok {rc : RC} {T : Obst_Tree} {M : Omem_Mem} {C : Obst_Call} {b : Bool} {v : Int} : F_bst_Call_tell rc T M C b v = some (none, T, M, ⟨b, C.told_Key, v, C.told_Err⟩) := rfl
theorem ins_there {n : Nat} {T : Obst_Tree} {M : Omem_Mem} {C : Obst_Call} {s : Tbst_seen} {k : Tbst_node} {th : Clo} {i : Nat} {x : Tbst_node} (hs : s.leaf = (i : Int)) (h : T.nodes[i]? = some x) (hx : isKey x k = true) :
 F_step (n + 1) T M C (.c_insert_2 k th) (.s s) = some (none, T, M, ⟨false, C.told_Key, x.val, C.told_Err⟩) := by
 show F_bst_Tree_insert_2 (F_step n) T M C s k th = _
 unfold F_bst_Tree_insert_2
 rw [hs, is_ok h, hx]
 simp only [Option.bind_some, if_true]
 rw [getI_nat, h]
 simp only [Option.bind_some, tell_ok]
theorem find_ok {n : Nat} {T : Obst_Tree} {M : Omem_Mem} {C : Obst_Call} {s : Tbst_seen} {k : Tbst_node} {i : Nat} {x : Tbst_node} (hs : s.leaf = (i : Int)) (h : T.nodes[i]? = some x) :
 F_step (n + 1) T M C (.c_Find_1_1 k) (.s s) = some (none, T, M, ⟨isKey x k, C.told_Key, if isKey x k = true then x.val else 0, C.told_Err⟩) := by
 show F_bst_Tree_Find_1_1 (F_step n) T M C s k = _
 unfold F_bst_Tree_Find_1_1
 rw [hs, is_ok h]
 simp only [Option.bind_some]
 cases e : isKey x k with
 | true =>
  simp only [Bool.not_true, Bool.false_eq_true, if_false, if_true]
  rw [getI_nat, h]
  simp only [Option.bind_some, tell_ok]
 | false =>
  simp only [Bool.not_false, if_true, tell_ok, Option.bind_some, Bool.false_eq_true, if_false]
def lowOf (x k : Tbst_node) (L : Nat) : Nat := if lessN x k = true then L + 1 else L
def highOf (x k : Tbst_node) (L : Nat) : Nat := if lessN x k = true then L else L + 1
def innOf (x k : Tbst_node) (a : Nat) : Tbst_node := if lessN x k = true then ⟨k.key, k.top, 0, (a : Int)⟩ else ⟨x.key, x.top, 0, (a : Int)⟩
theorem innOf_cell (x k : Tbst_node) (a : Nat) : (innOf x k a).cell = (a : Int) := by unfold innOf; split <;> rfl
theorem ins_grow {n : Nat} {T : Obst_Tree} {M : Omem_Mem} {C : Obst_Call} {s : Tbst_seen} {k : Tbst_node} {th : Clo} {i p w : Nat} {x : Tbst_node} (hs : s.leaf = (i : Int)) (hp : s.parent = (p : Int)) (h : T.nodes[i]? = some x) (hx : isKey x k = false) (hw : s.parentWord = (w : Int)) (hw4 : w % 4 = 0) (hwb : w < 1099511627776)
 (hc : M.cells.length + 3 ≤ 65536) (hn : T.nodes.length ≤ 1000000) (hi : T.infos.length ≤ 1000000) :
 F_step (n + 1) T M C (.c_insert_2 k th) (.s s) = some (some (.c_grow_1 (M.cells.length : Int) (lowOf x k T.nodes.length : Int) (highOf x k T.nodes.length : Int) s (T.infos.length : Int) k),
  ⟨T.nodes ++ [⟨k.key, 0, k.val, -1⟩] ++ [⟨x.key, x.top, x.val, -1⟩] ++ [innOf x k M.cells.length], T.infos ++ [⟨0, (p : Int), (i : Int), ((T.nodes.length + 2 : Nat) : Int), 0⟩]⟩, ⟨M.cells ++ [0, 0, 0], M.count⟩, C) := by
 show F_bst_Tree_insert_2 (F_step n) T M C s k th = _
 unfold F_bst_Tree_insert_2
 rw [hs, is_ok h, hx, hw]
 simp only [Option.bind_some, Bool.false_eq_true, if_false]
 rw [wstate_ok w (by omega), hw4]
 simp only [Option.bind_some]
 rw [if_neg (by simp)]
 rw [grow_ok hc]
 simp only [Option.bind_some]
 rw [if_neg (by simp)]
 unfold F_bst_Tree_grow
 rw [hs, hp, getI_nat, h]
 simp only [Option.bind_some, F_bst_Tree_leaf, F_bst_Tree_node, F_bst_Tree_info]
 rw [appL_ok (by simp; omega) (by omega) (by omega)]
 simp only [Option.bind_some]
 rw [appL_ok (by simp; omega) (by omega) (by omega)]
 simp only [Option.bind_some, less_ok]
 have e1 : IntKind.wrap .i64 (((T.nodes ++ [(⟨k.key, 0, k.val, -1⟩ : Tbst_node)]).length : Int) - 1) = (T.nodes.length : Int) := by
  rw [List.length_append, List.length_singleton, wrap_id (by omega) (by omega)]; omega
 have e2 : IntKind.wrap .i64 (((T.nodes ++ [(⟨k.key, 0, k.val, -1⟩ : Tbst_node)] ++ [(⟨x.key, x.top, x.val, -1⟩ : Tbst_node)]).length : Int) - 1) = ((T.nodes.length + 1 : Nat) : Int) := by
  rw [List.length_append, List.length_append, List.length_singleton, List.length_singleton, wrap_id (by omega) (by omega)]; omega
 have e3 : ∀ y : Tbst_node, IntKind.wrap .i64 (((T.nodes ++ [(⟨k.key, 0, k.val, -1⟩ : Tbst_node)] ++ [(⟨x.key, x.top, x.val, -1⟩ : Tbst_node)] ++ [y]).length : Int) - 1) = ((T.nodes.length + 2 : Nat) : Int) := by
  intro y
  rw [List.length_append, List.length_append, List.length_append, List.length_singleton, List.length_singleton, List.length_singleton, wrap_id (by omega) (by omega)]; omega
 rw [e1, e2]
 have e4 : ∀ y : Tbst_info, IntKind.wrap .i64 (((T.infos ++ [y]).length : Int) - 1) = (T.infos.length : Int) := by
  intro y
  rw [List.length_append, List.length_singleton, wrap_id (by omega) (by omega)]; omega
 unfold lowOf highOf innOf
 cases e : lessN x k with
 | true =>
  simp only [if_true, Option.bind_some]
  rw [appL_ok (by simp; omega) (by omega) (by omega)]
  simp only [Option.bind_some]
  rw [appL_ok (by simp; omega) (by omega) (by omega)]
  simp only [Option.bind_some, e3, e4]
 | false =>
  simp only [Bool.false_eq_true, if_false, Option.bind_some]
  rw [appL_ok (by simp; omega) (by omega) (by omega)]
  simp only [Option.bind_some]
  rw [appL_ok (by simp; omega) (by omega) (by omega)]
  simp only [Option.bind_some, e3, e4]
theorem rem_none {n : Nat} {T : Obst_Tree} {M : Omem_Mem} {C : Obst_Call} {s : Tbst_seen} {k : Tbst_node} {th : Clo} {i : Nat} {x : Tbst_node} (hs : s.leaf = (i : Int)) (h : T.nodes[i]? = some x) (hx : isKey x k = false) :
 F_step (n + 1) T M C (.c_remove_2 k th) (.s s) = some (none, T, M, ⟨false, C.told_Key, 0, C.told_Err⟩) := by
 show F_bst_Tree_remove_2 (F_step n) T M C s k th = _
 unfold F_bst_Tree_remove_2
 rw [hs, is_ok h, hx]
 simp only [Option.bind_some, Bool.not_false, if_true, tell_ok]
theorem rem_begin {n : Nat} {T : Obst_Tree} {M : Omem_Mem} {C : Obst_Call} {s : Tbst_seen} {k : Tbst_node} {th : Clo} {i g p w v : Nat} {x : Tbst_node} (hs : s.leaf = (i : Int)) (hg : s.grand = (g : Int)) (hp : s.parent = (p : Int)) (h : T.nodes[i]? = some x) (hx : isKey x k = true)
 (hw : s.grandWord = (w : Int)) (hw4 : w % 4 = 0) (hwb : w < 1099511627776) (hv : s.parentWord = (v : Int)) (hv4 : v % 4 = 0) (hvb : v < 1099511627776) (hi : T.infos.length ≤ 1000000) :
 F_step (n + 1) T M C (.c_remove_2 k th) (.s s) = some (some (.c_remove_2_1 s (T.infos.length : Int) th x.val), ⟨T.nodes, T.infos ++ [⟨(g : Int), (p : Int), (i : Int), 0, (v : Int)⟩]⟩, M, C) := by
 show F_bst_Tree_remove_2 (F_step n) T M C s k th = _
 unfold F_bst_Tree_remove_2
 rw [hs, is_ok h, hx, hw, hv, Option.bind_some]
 rw [if_neg (by simp), wstate_ok w (by omega), hw4]
 simp only [Option.bind_some]
 rw [if_neg (by decide), wstate_ok v (by omega), hv4]
 simp only [Option.bind_some]
 rw [if_neg (by decide), hg, hp]
 unfold F_bst_Tree_info
 rw [appL_ok (show T.infos.length + 1 ≤ 1000000000 by omega) (by omega) (by omega)]
 simp only [Option.bind_some]
 rw [getI_nat, h]
 simp only [Option.bind_some]
 rw [show IntKind.wrap .i64 (((T.infos ++ [(⟨(g : Int), (p : Int), (i : Int), 0, (v : Int)⟩ : Tbst_info)]).length : Int) - 1) = (T.infos.length : Int) from by rw [List.length_append, List.length_singleton, wrap_id (by omega) (by omega)]; omega]
def lvs (N : List Tbst_node) : BT → List Tbst_node
 | .lf i => [nk N i]
 | .nd _ l r => lvs N l ++ lvs N r
def NExt (N N' : List Tbst_node) : Prop := ∀ (i : Nat) (x : Tbst_node), N[i]? = some x → N'[i]? = some x
theorem NExt.nk {N N' : List Tbst_node} (e : NExt N N') {i : Nat} (h : i < N.length) : V.nk N' i = V.nk N i := by
 have h1 := List.getElem?_eq_getElem h
 rw [nk_eq h1, nk_eq (e _ _ h1)]
theorem NExt.app (N M : List Tbst_node) : NExt N (N ++ M) := fun i x h => by
 rw [List.getElem?_append_left (List.getElem?_eq_some_iff.mp h).1]; exact h
theorem lvs_mem {N : List Tbst_node} {x : Tbst_node} : ∀ {t : BT}, x ∈ lvs N t → ∃ j ∈ t.ids, nk N j = x
 | .lf i, h => ⟨i, List.mem_cons_self, by rw [lvs, List.mem_singleton] at h; exact h.symm⟩
 | .nd i l r, h => by
  rcases List.mem_append.mp h with q | q
  ·
   obtain ⟨j, h1, h2⟩ := lvs_mem q; exact ⟨j, List.mem_cons_of_mem _ (List.mem_append_left _ h1), h2⟩
  ·
   obtain ⟨j, h1, h2⟩ := lvs_mem q; exact ⟨j, List.mem_cons_of_mem _ (List.mem_append_right _ h1), h2⟩
theorem leaf_lvs {N : List Tbst_node} {k : Tbst_node} : ∀ t : BT, nk N (leafOf N k t) ∈ lvs N t
 | .lf i => List.mem_singleton_self _
 | .nd i l r => by
  rw [leafOf, lvs]
  split
  ·
   exact List.mem_append_left _ (leaf_lvs l)
  ·
   exact List.mem_append_right _ (leaf_lvs r)
theorem leaf_key {N : List Tbst_node} {k y : Tbst_node} (h1 : lessN k y = false) (h2 : lessN y k = false) : ∀ {t : BT}, Ord N t → y ∈ lvs N t → nk N (leafOf N k t) = y
 | .lf i, _, h => by rw [lvs, List.mem_singleton] at h; exact h.symm
 | .nd i l r, ⟨o1, o2, o3, o4⟩, h => by
  rw [leafOf, lessN_eq h1 h2]
  rcases List.mem_append.mp h with q | q
  ·
   obtain ⟨j, hj, e⟩ := lvs_mem q
   have := o1 j hj
   rw [e] at this
   rw [if_pos this]
   exact leaf_key h1 h2 o3 q
  ·
   obtain ⟨j, hj, e⟩ := lvs_mem q
   have := o2 j hj
   rw [e] at this
   rw [if_neg (by rw [this]; simp)]
   exact leaf_key h1 h2 o4 q
structure BInv (T : Obst_Tree) (M : Omem_Mem) (l r : BT) (ks : List Tbst_node) (j : Nat) : Prop where
 lay : Lay T.nodes M.cells (.nd 0 l r)
 nod : (BT.nd 0 l r).ids.Nodup
 ord : Ord T.nodes (.nd 0 l r)
 dis : Dis T.nodes M.cells
 top0 : ∃ x0, T.nodes[0]? = some x0 ∧ x0.top = 2
 lv : ∃ s1, lvs T.nodes l = ks ++ [s1] ∧ s1.top = 1
 rv : ∀ x ∈ lvs T.nodes r, x.top = 2
 kt : ∀ x ∈ ks, x.top = 0
 b1 : T.nodes.length ≤ 3 + 3 * j
 b2 : T.infos.length ≤ 1 + j
 b3 : M.cells.length ≤ 3 + 3 * j
 bi : (BT.nd 0 l r).inn ≤ 1 + j
abbrev s0 : Tbst_seen := ⟨0, 0, 0, 0, 0, -1⟩
theorem gs_ne {l : List Int} {a b : Nat} {v : Int} (h : a ≠ b) : (l.set a v)[b]? = l[b]? := List.getElem?_set_ne h
theorem gs_eq {l : List Int} {a : Nat} {v : Int} (h : a < l.length) : (l.set a v)[a]? = some v := List.getElem?_set_self h
section
variable {T : Obst_Tree} {M : Omem_Mem} {l r : BT} {ks : List Tbst_node} {j : Nat}
theorem BInv.dir (I : BInv T M l r ks j) {k : Tbst_node} (hk : k.top = 0) : dirN T.nodes k 0 = true := by
 obtain ⟨x0, h1, h2⟩ := I.top0
 unfold dirN
 rw [nk_eq h1, lessN_iff]
 exact .inl (by omega)
theorem BInv.leaf (I : BInv T M l r ks j) {k : Tbst_node} (hk : k.top = 0) : leafOf T.nodes k (.nd 0 l r) = leafOf T.nodes k l := by
 have := I.dir hk
 unfold dirN at this
 rw [leafOf, if_pos this]
theorem BInv.cases (I : BInv T M l r ks j) {k : Tbst_node} (hk : k.top = 0) : ∃ x, T.nodes[leafOf T.nodes k (.nd 0 l r)]? = some x ∧ x.cell = -1 ∧ x ∈ lvs T.nodes l ∧
 ((isKey x k = true ∧ x ∈ ks ∧ x.key = k.key) ∨ (isKey x k = false ∧ ∀ y ∈ ks, y.key ≠ k.key)) := by
 obtain ⟨x, h1, h2⟩ := leafOf_lf (k := k) _ I.lay
 obtain ⟨s1, e1, e2⟩ := I.lv
 have e0 : nk T.nodes (leafOf T.nodes k l) = x := by rw [← I.leaf hk]; exact nk_eq h1
 have hx : x ∈ lvs T.nodes l := by rw [← e0]; exact leaf_lvs l
 refine ⟨x, h1, h2, hx, ?_⟩
 cases e : isKey x k with
 | true =>
  left
  obtain ⟨a, b⟩ := isKey_iff.mp e
  refine ⟨rfl, ?_, b⟩
  rw [e1] at hx
  rcases List.mem_append.mp hx with q | q
  ·
   exact q
  ·
   rw [List.mem_singleton] at q; rw [q, e2] at a; omega
 | false =>
  right
  refine ⟨rfl, fun y hy hyk => ?_⟩
  have ht := I.kt y hy
  have l1 : lessN k y = false := lessN_neg.mpr (.inr ⟨by rw [hk, ht], by rw [hyk]; exact less_irrefl _⟩)
  have l2 : lessN y k = false := lessN_neg.mpr (.inr ⟨by rw [hk, ht], by rw [hyk]; exact less_irrefl _⟩)
  have := leaf_key (N := T.nodes) l1 l2 (t := l) I.ord.2.2.1 (by rw [e1]; exact List.mem_append_left _ hy)
  rw [e0] at this
  have w := isKey_iff.mpr (show x.top = 0 ∧ x.key = k.key from by rw [this]; exact ⟨ht, hyk⟩)
  rw [e] at w; cases w
end
theorem step_some {n : Nat} {T T2 : Obst_Tree} {M M2 : Omem_Mem} {C C2 : Obst_Call} {x : Clo} {o : Option Clo} (h : F_step n T M C x .u = some (o, T2, M2, C2)) :
 F_bst_Call_Step n T M ⟨C.told_Ok, C.told_Key, C.told_Val, C.told_Err, some x⟩ = some (o.isNone, T2, M2, ⟨C2.told_Ok, C2.told_Key, C2.told_Val, C2.told_Err, o⟩) := by
 unfold F_bst_Call_Step
 rw [if_neg (by simp)]
 simp only [Option.bind_some]
 rw [h]
 rfl
def keysT (N : List Tbst_node) (t : BT) : List ByteArray := ((lvs N t).filter (fun x => x.top == 0)).map (·.key)
theorem BInv.mono {T : Obst_Tree} {M : Omem_Mem} {l r : BT} {ks : List Tbst_node} {j j' : Nat} (I : BInv T M l r ks j) (h : j ≤ j') : BInv T M l r ks j' :=
 ⟨I.lay, I.nod, I.ord, I.dis, I.top0, I.lv, I.rv, I.kt, by have := I.b1; omega, by have := I.b2; omega, by have := I.b3; omega, by have := I.bi; omega⟩
theorem BInv.cells {T : Obst_Tree} {M M' : Omem_Mem} {l r : BT} {ks : List Tbst_node} {j : Nat} (I : BInv T M l r ks j) (h : M'.cells = M.cells) : BInv T M' l r ks j := by
 obtain ⟨a, b, c, d, e, f, g, k, b1, b2, b3, bi⟩ := I
 exact ⟨by rw [h]; exact a, b, c, by rw [h]; exact d, e, f, g, k, b1, b2, by rw [h]; exact b3, bi⟩
theorem BInv.keys {T : Obst_Tree} {M : Omem_Mem} {l r : BT} {ks : List Tbst_node} {j : Nat} (I : BInv T M l r ks j) : keysT T.nodes (.nd 0 l r) = ks.map (·.key) := by
 obtain ⟨s1, e1, e2⟩ := I.lv
 unfold keysT
 rw [lvs, e1, List.filter_append, List.filter_append]
 have h1 : ks.filter (fun x => x.top == 0) = ks := List.filter_eq_self.mpr (fun x hx => by simpa using I.kt x hx)
 have h2 : [s1].filter (fun x => x.top == 0) = [] := by simp [e2]
 have h3 : (lvs T.nodes r).filter (fun x => x.top == 0) = [] := List.filter_eq_nil_iff.mpr (fun x hx => by rw [I.rv x hx]; decide)
 rw [h1, h2, h3]
 simp
section
variable {n : Nat} {T : Obst_Tree} {M : Omem_Mem} {x0 : Tbst_node} {k : ByteArray} {v : Int}
theorem dn0 {rc : RC} {C : Obst_Call} {kn : Tbst_node} {th : Clo} (h : T.nodes[0]? = some x0) (hc : 0 ≤ x0.cell) : F_bst_Tree_down rc T M C s0 kn th = some (some (.c_down_1 ⟨0, 0, 0, 0, 0, -1⟩ kn th), T, M, C) := down_nd (i := 0) rfl h hc
theorem beg_find (h : T.nodes[0]? = some x0) (hc : 0 ≤ x0.cell) : F_bst_Tree_Find n T M k = some (⟨false, k, 0, 0, some (.c_down_1 ⟨0, 0, 0, 0, 0, -1⟩ ⟨k, 0, 0, 0⟩ (.c_Find_1_1 ⟨k, 0, 0, 0⟩))⟩, T, M) := by
 unfold F_bst_Tree_Find F_bst_Tree_call_bst_Tree_Find_1 F_bst_Tree_Find_1 F_bst_Tree_search
 rw [dn0 h hc]; rfl
theorem beg_ins (h : T.nodes[0]? = some x0) (hc : 0 ≤ x0.cell) : F_bst_Tree_Insert n T M k v = some (⟨false, k, 0, 0, some (.c_down_1 ⟨0, 0, 0, 0, 0, -1⟩ ⟨k, 0, v, 0⟩ (.c_insert_2 ⟨k, 0, v, 0⟩ (.c_insert_1 ⟨k, 0, v, 0⟩)))⟩, T, M) := by
 unfold F_bst_Tree_Insert F_bst_Tree_call_bst_Tree_Insert_1 F_bst_Tree_Insert_1 F_bst_Tree_insert F_bst_Tree_search
 rw [dn0 h hc]; rfl
theorem beg_del (h : T.nodes[0]? = some x0) (hc : 0 ≤ x0.cell) : F_bst_Tree_Delete n T M k = some (⟨false, k, 0, 0, some (.c_down_1 ⟨0, 0, 0, 0, 0, -1⟩ ⟨k, 0, 0, 0⟩ (.c_remove_2 ⟨k, 0, 0, 0⟩ (.c_remove_1 ⟨k, 0, 0, 0⟩)))⟩, T, M) := by
 unfold F_bst_Tree_Delete F_bst_Tree_call_bst_Tree_Delete_1 F_bst_Tree_Delete_1 F_bst_Tree_remove F_bst_Tree_search
 rw [dn0 h hc]; rfl
end
theorem BInv.root {T : Obst_Tree} {M : Omem_Mem} {l r : BT} {ks : List Tbst_node} {j : Nat} (I : BInv T M l r ks j) : ∃ x0, T.nodes[0]? = some x0 ∧ 0 ≤ x0.cell := by
 obtain ⟨x, c, w, h1, h2, _⟩ := I.lay
 exact ⟨x, h1, by omega⟩
section
variable {T : Obst_Tree} {M : Omem_Mem} {l r : BT} {ks : List Tbst_node} {j n : Nat} {k : ByteArray} {v : Int}
end
theorem bnew_ok : F_bst_New ⟨[], 0⟩ = some (⟨[⟨ByteArray.empty, 2, 0, 0⟩, ⟨ByteArray.empty, 1, 0, -1⟩, ⟨ByteArray.empty, 2, 0, -1⟩], [⟨0, 0, 0, 0, 0⟩]⟩, ⟨[0, 1, 2], 2⟩) := by rfl
end Go.Proofs.Ytndhbaidibioeaa.V
