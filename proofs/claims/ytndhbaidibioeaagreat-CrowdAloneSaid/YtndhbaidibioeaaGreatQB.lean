/- The tree's steps, one by one: what each does to cells, nodes, and infos.
   No condition: these are laws of plain functions. -/
import Derived.Test.YtndhbaidibioeaaGreatPF
import Derived.Test.YtndhbaidibioeaaGreatMb
namespace Go.Proofs.YtndhbaidibioeaaGreat.V
open Go
set_option linter.unusedVariables false
set_option linter.unusedSimpArgs false
set_option maxRecDepth 100000
theorem wrap_u64 {n : Int} (h0 : 0 ≤ n) (h1 : n < 18446744073709551616) : IntKind.wrap .u64 n = n := by
 have : IntKind.wrap .u64 n = n % 18446744073709551616 := rfl
 rw [this, Int.emod_eq_of_lt h0 h1]
theorem and3 (w : Nat) (h : w < 18446744073709551616) : andI .u64 (w : Int) 3 = ((w % 4 : Nat) : Int) := by
 unfold andI
 have e : (BitVec.ofInt 64 (w : Int) &&& BitVec.ofInt 64 3).toNat = w % 4 := by
  rw [BitVec.toNat_and, BitVec.toNat_ofInt, BitVec.toNat_ofInt]
  have e1 : ((w : Int) % ((2 ^ 64 : Nat) : Int)).toNat = w := by
   rw [Int.emod_eq_of_lt (by omega) (by omega)]; omega
  have e2 : ((3 : Int) % ((2 ^ 64 : Nat) : Int)).toNat = 3 := rfl
  rw [e1, e2]
  exact Nat.and_two_pow_sub_one_eq_mod w 2
 show IntKind.wrap .u64 ((BitVec.ofInt 64 (w : Int) &&& BitVec.ofInt 64 3).toNat : Int) = _
 rw [e, wrap_u64 (by omega) (by omega)]
theorem wstate_ok (w : Nat) (h : w < 9223372036854775808) : F_word_State (w : Int) = some ((w % 4 : Nat) : Int) := by
 unfold F_word_State
 rw [and3 w (by omega), wrap_id (by omega) (by omega)]
theorem wpack_ok (i st : Nat) (hi : i < 1099511627776) (hs : st < 4) : F_word_Pack (st : Int) (i : Int) = some ((4 * i + st : Nat) : Int) := by
 unfold F_word_Pack
 rw [wrap_u64 (by omega) (by omega), wrap_u64 (by omega) (by omega), and3 st (by omega)]
 have e1 : shlI .u64 (i : Int) 2 = ((i * 4 : Nat) : Int) := by
  unfold shlI
  have e : (2 : Int) ^ (min (2 : Int).toNat (IntKind.bits .u64)) = 4 := rfl
  rw [e, wrap_u64 (by omega) (by omega)]
  omega
 rw [e1]
 unfold orI
 have e2 : (BitVec.ofInt 64 ((i * 4 : Nat) : Int) ||| BitVec.ofInt 64 ((st % 4 : Nat) : Int)).toNat = 4 * i + st := by
  rw [BitVec.toNat_or, BitVec.toNat_ofInt, BitVec.toNat_ofInt]
  have q1 : (((i * 4 : Nat) : Int) % ((2 ^ 64 : Nat) : Int)).toNat = i * 4 := by
   rw [Int.emod_eq_of_lt (by omega) (by omega)]; omega
  have q2 : (((st % 4 : Nat) : Int) % ((2 ^ 64 : Nat) : Int)).toNat = st := by
   rw [Int.emod_eq_of_lt (by omega) (by omega)]; omega
  rw [q1, q2]
  have := Nat.shiftLeft_add_eq_or_of_lt (a := i) (b := st) (i := 2) hs
  rw [Nat.shiftLeft_eq] at this
  rw [← this]; omega
 show some (IntKind.wrap .u64 ((BitVec.ofInt 64 ((i * 4 : Nat) : Int) ||| BitVec.ofInt 64 ((st % 4 : Nat) : Int)).toNat : Int)) = _
 rw [e2, wrap_u64 (by omega) (by omega)]
def tick (M : Omem_Mem) : Omem_Mem := ⟨M.cells, IntKind.i64.wrap (M.count + 1)⟩
def setc (M : Omem_Mem) (a : Nat) (v : Int) : Omem_Mem := ⟨M.cells.set a v, IntKind.i64.wrap (M.count + 1)⟩
theorem load_ok {M : Omem_Mem} {a : Nat} {v : Int} (h : M.cells[a]? = some v) : F_mem_Mem_Load M (a : Int) = some (v, 0, tick M) := by
 unfold F_mem_Mem_Load
 rw [getI_nat, h]; rfl
theorem store_ok {M : Omem_Mem} {a : Nat} {v : Int} (h : a < M.cells.length) : F_mem_Mem_Store M (a : Int) v = some (0, setc M a v) := by
 unfold F_mem_Mem_Store
 rw [getI_nat, List.getElem?_eq_getElem h]; rfl
theorem cas_ok {M : Omem_Mem} {a : Nat} {v x : Int} (h : M.cells[a]? = some v) : F_mem_Mem_CAS M (a : Int) v x = some (v, true, setc M a x) := by
 unfold F_mem_Mem_CAS
 rw [getI_nat, h]
 simp [setc, setI]
theorem peek_ok {M : Omem_Mem} {a : Nat} {v : Int} (h : M.cells[a]? = some v) : ∃ c, F_mem_Mem_Peek M (a : Int) = some (v, 0, ⟨M.cells, c⟩) := by
 unfold F_mem_Mem_Peek
 rw [getI_nat, h]; exact ⟨_, rfl⟩
theorem cell_ok {T : Obst_Tree} {M : Omem_Mem} {i c k : Nat} {x : Tbst_node} (h : T.nodes[i]? = some x) (hc : x.cell = (c : Int)) (hb : c + k < 4611686018427387904) : F_bst_Tree_cell T M (i : Int) (k : Int) = some (((c + k : Nat) : Int), T, M) := by
 unfold F_bst_Tree_cell
 rw [getI_nat, h]
 simp only [Option.bind_some, hc]
 rw [wrap_id (by omega) (by omega)]
 rfl
theorem grow_ok {M : Omem_Mem} (h : M.cells.length + 3 ≤ 65536) : F_mem_Mem_Grow M 3 = some ((M.cells.length : Int), 0, ⟨M.cells ++ [0, 0, 0], M.count⟩) := by
 unfold F_mem_Mem_Grow
 have e : decide ((3 : Int) > IntKind.i64.wrap (65536 - (M.cells.length : Int))) = false := by
  rw [wrap_id (by omega) (by omega)]
  exact decide_eq_false (by omega)
 rw [e]
 simp only [show decide ((3 : Int) < 0) = false from rfl, Bool.false_eq_true, if_false, Option.bind_some]
 have e2 : mkZ 3 = some [0, 0, 0] := rfl
 rw [e2]
 simp only [Option.bind_some, F_mem_Mem_add]
 rw [appL_ok (by simp; omega) (by omega) (by omega)]
 rfl
abbrev Rsl := (Option Clo) × Obst_Tree × Omem_Mem × Obst_Call
theorem rb (o : Option Rsl) : (o.bind fun x => some (x.1, (⟨x.2.1.nodes, x.2.1.infos⟩ : Obst_Tree), (⟨x.2.2.1.cells, x.2.2.1.count⟩ : Omem_Mem), (⟨x.2.2.2.told_Ok, x.2.2.2.told_Key, x.2.2.2.told_Val, x.2.2.2.told_Err⟩ : Obst_Call))) = o := by
 cases o <;> rfl
def lessN (a b : Tbst_node) : Bool := if (a.top != b.top) = true then decide (a.top < b.top) else lessB a.key b.key
theorem less_ok (a b : Tbst_node) : F_bst_node_less a b = some (lessN a b) := by unfold F_bst_node_less lessN; split <;> rfl
theorem lessN_irrefl (a : Tbst_node) : lessN a a = false := by unfold lessN; simp [less_irrefl]
theorem lessN_iff {a b : Tbst_node} : lessN a b = true ↔ a.top < b.top ∨ (a.top = b.top ∧ lessB a.key b.key = true) := by
 unfold lessN
 by_cases h : a.top = b.top
 ·
  rw [if_neg (by simp [h])]
  exact ⟨fun q => .inr ⟨h, q⟩, fun q => by rcases q with q | q; omega; exact q.2⟩
 ·
  rw [if_pos (by simpa using h), decide_eq_true_iff]
  exact ⟨fun q => .inl q, fun q => by rcases q with q | q; exact q; exact absurd q.1 h⟩
theorem lessN_neg {a b : Tbst_node} : lessN a b = false ↔ b.top < a.top ∨ (a.top = b.top ∧ lessB a.key b.key = false) := by
 constructor
 ·
  intro h
  have h1 : ¬ (a.top < b.top ∨ (a.top = b.top ∧ lessB a.key b.key = true)) := fun q => by rw [lessN_iff.mpr q] at h; cases h
  by_cases q : a.top = b.top
  ·
   refine .inr ⟨q, ?_⟩
   cases e : lessB a.key b.key with
   | false => rfl
   | true => exact absurd (.inr ⟨q, e⟩) h1
  ·
   exact .inl (by have := fun w => h1 (.inl w); omega)
 ·
  intro h
  cases e : lessN a b with
  | false => rfl
  | true =>
   rcases lessN_iff.mp e with q | q <;> rcases h with w | w
   ·
    omega
   ·
    omega
   ·
    omega
   ·
    rw [w.2] at q; cases q.2
theorem lessN_le {a b c : Tbst_node} (h1 : lessN a b = true) (h2 : lessN c b = false) : lessN a c = true := by
 rw [lessN_iff] at *
 rw [lessN_neg] at h2
 rcases h1 with q | q <;> rcases h2 with w | w
 ·
  exact .inl (by omega)
 ·
  exact .inl (by omega)
 ·
  exact .inl (by omega)
 ·
  refine .inr ⟨by omega, ?_⟩
  have := less_le (x := a.key) (y := b.key) (z := c.key) q.2 (by rw [leB_not, w.2]; rfl)
  exact this
theorem lessN_eq {a b c : Tbst_node} (h1 : lessN a b = false) (h2 : lessN b a = false) : lessN a c = lessN b c := by
 cases e : lessN b c with
 | true =>
  cases e2 : lessN a c with
  | true => rfl
  | false => have := lessN_le e e2; rw [h2] at this; cases this
 | false =>
  cases e2 : lessN a c with
  | false => rfl
  | true => have := lessN_le e2 e; rw [h1] at this; cases this
inductive BT where
 | lf (i : Nat)
 | nd (i : Nat) (l r : BT)
namespace BT
def root : BT → Nat
 | lf i => i
 | nd i _ _ => i
def ids : BT → List Nat
 | lf i => [i]
 | nd i l r => i :: (ids l ++ ids r)
def inn : BT → Nat
 | lf _ => 0
 | nd _ l r => inn l + inn r + 1
def isNd : BT → Bool
 | lf _ => false
 | nd _ _ _ => true
theorem root_mem : ∀ t : BT, t.root ∈ t.ids
 | lf i => List.mem_cons_self
 | nd i l r => List.mem_cons_self
end BT
def nk (N : List Tbst_node) (i : Nat) : Tbst_node := N.getD i default
theorem nk_eq {N : List Tbst_node} {i : Nat} {x : Tbst_node} (h : N[i]? = some x) : nk N i = x := by
 unfold nk; rw [List.getD_eq_getElem?_getD, h]; rfl
def wd (K : List Int) (c : Nat) : Int := K.getD c 0
theorem wd_eq {K : List Int} {c : Nat} {w : Int} (h : K[c]? = some w) : wd K c = w := by
 unfold wd; rw [List.getD_eq_getElem?_getD, h]; rfl
def Lay (N : List Tbst_node) (K : List Int) : BT → Prop
 | .lf i => ∃ x, N[i]? = some x ∧ x.cell = -1
 | .nd i l r => ∃ x c w, N[i]? = some x ∧ x.cell = ((c : Nat) : Int) ∧ c < 1073741824 ∧ K[c]? = some ((w : Nat) : Int) ∧ w % 4 = 0 ∧ w < 1099511627776 ∧ K[c + 1]? = some ((l.root : Nat) : Int) ∧ K[c + 2]? = some ((r.root : Nat) : Int) ∧ Lay N K l ∧ Lay N K r
theorem Lay.lt {N : List Tbst_node} {K : List Int} : ∀ {t : BT}, Lay N K t → ∀ i ∈ t.ids, i < N.length
 | .lf i, ⟨x, h, _⟩, j, hj => by
  have : j = i := by simpa [BT.ids] using hj
  subst this
  exact (List.getElem?_eq_some_iff.mp h).1
 | .nd i l r, ⟨x, c, w, h, _, _, _, _, _, _, _, h1, h2⟩, j, hj => by
  rcases List.mem_cons.mp hj with q | q
  ·
   subst q; exact (List.getElem?_eq_some_iff.mp h).1
  ·
   rcases List.mem_append.mp q with q | q
   ·
    exact Lay.lt h1 j q
   ·
    exact Lay.lt h2 j q
abbrev Cfg := Obst_Tree × Omem_Mem × Obst_Call × Option Clo
inductive Rs (n : Nat) : Nat → Obst_Tree → Omem_Mem → Obst_Call → Option Clo → Cfg → Prop
 | refl {T : Obst_Tree} {M : Omem_Mem} {C : Obst_Call} {o : Option Clo} : Rs n 0 T M C o (T, M, C, o)
 | step {k : Nat} {T T2 : Obst_Tree} {M M2 : Omem_Mem} {C C2 : Obst_Call} {x : Clo} {o : Option Clo} {f : Cfg} (h : F_step n T M C x .u = some (o, T2, M2, C2)) (r : Rs n k T2 M2 C2 o f) : Rs n (k + 1) T M C (some x) f
def Outc (n : Nat) (r : Option Rsl) (b : Nat) (P : Cfg → Prop) : Prop := ∃ o T M C k f, r = some (o, T, M, C) ∧ k ≤ b ∧ Rs n k T M C o f ∧ P f
theorem Outc.done {n b : Nat} {o : Option Clo} {T : Obst_Tree} {M : Omem_Mem} {C : Obst_Call} {P : Cfg → Prop} (h : P (T, M, C, o)) : Outc n (some (o, T, M, C)) b P := ⟨o, T, M, C, 0, _, rfl, Nat.zero_le _, .refl, h⟩
theorem Outc.step {n b : Nat} {x : Clo} {T : Obst_Tree} {M : Omem_Mem} {C : Obst_Call} {P : Cfg → Prop} {r : Option Rsl} (e : F_step n T M C x .u = r) (h : Outc n r b P) : Outc n (some (some x, T, M, C)) (b + 1) P := by
 obtain ⟨o, T2, M2, C2, k, f, h1, h2, h3, h4⟩ := h
 exact ⟨some x, T, M, C, k + 1, f, rfl, by omega, .step (e.trans h1) h3, h4⟩
theorem Outc.le {n b c : Nat} {P : Cfg → Prop} {r : Option Rsl} (h : Outc n r b P) (hb : b ≤ c) : Outc n r c P := by
 obtain ⟨o, T2, M2, C2, k, f, h1, h2, h3, h4⟩ := h
 exact ⟨o, T2, M2, C2, k, f, h1, by omega, h3, h4⟩
theorem down_lf {rc : RC} {T : Obst_Tree} {M : Omem_Mem} {C : Obst_Call} {s : Tbst_seen} {k : Tbst_node} {th : Clo} {i : Nat} {x : Tbst_node} (hs : s.leaf = (i : Int)) (h : T.nodes[i]? = some x) (hc : x.cell = -1) :
 F_bst_Tree_down rc T M C s k th = rc T M C th (.s s) := by
 unfold F_bst_Tree_down F_bst_node_leaf
 rw [hs, getI_nat, h]
 simp only [Option.bind_some, hc]
 rw [if_pos (by decide)]
 exact rb _
theorem down_nd {rc : RC} {T : Obst_Tree} {M : Omem_Mem} {C : Obst_Call} {s : Tbst_seen} {k : Tbst_node} {th : Clo} {i : Nat} {x : Tbst_node} (hs : s.leaf = (i : Int)) (h : T.nodes[i]? = some x) (hc : 0 ≤ x.cell) :
 F_bst_Tree_down rc T M C s k th = some (some (.c_down_1 ⟨s.parent, (i : Int), (i : Int), s.parentWord, s.parentWord, s.turn⟩ k th), T, M, C) := by
 unfold F_bst_Tree_down F_bst_node_leaf
 rw [hs, getI_nat, h]
 simp only [Option.bind_some]
 rw [if_neg (by rw [decide_eq_true_iff]; omega)]
theorem side_ok {T : Obst_Tree} {M : Omem_Mem} {i c : Nat} {x k : Tbst_node} (h : T.nodes[i]? = some x) (hc : x.cell = (c : Int)) (hb : c < 1073741824) :
 F_bst_Tree_side T M (i : Int) k = some (((c + (if lessN k x = true then 1 else 2) : Nat) : Int), T, M) := by
 unfold F_bst_Tree_side
 rw [getI_nat, h]
 simp only [Option.bind_some, less_ok]
 cases e : lessN k x with
 | true =>
  simp only [if_true]
  rw [show (1 : Int) = ((1 : Nat) : Int) from rfl, cell_ok h hc (by omega)]
  rfl
 | false =>
  simp only [Bool.false_eq_true, if_false]
  rw [show (2 : Int) = ((2 : Nat) : Int) from rfl, cell_ok h hc (by omega)]
  rfl
theorem step_word {n : Nat} {T : Obst_Tree} {M : Omem_Mem} {C : Obst_Call} {s : Tbst_seen} {k : Tbst_node} {th : Clo} {i c : Nat} {x : Tbst_node} {w : Int} (hs : s.parent = (i : Int)) (h : T.nodes[i]? = some x) (hc : x.cell = (c : Int)) (hb : c < 1073741824) (hw : M.cells[c]? = some w) :
 F_step (n + 1) T M C (.c_down_1 s k th) .u = some (some (.c_down_1_1 ⟨s.grand, s.parent, s.leaf, s.grandWord, w, s.turn⟩ k th), T, tick M, C) := by
 show F_bst_Tree_down_1 (F_step n) T M C s k th = _
 unfold F_bst_Tree_down_1
 rw [hs, show (0 : Int) = ((0 : Nat) : Int) from rfl, cell_ok h hc (by omega)]
 simp only [Option.bind_some, Nat.add_zero]
 rw [load_ok hw]
 rfl
theorem step_child {n : Nat} {T : Obst_Tree} {M : Omem_Mem} {C : Obst_Call} {s : Tbst_seen} {k : Tbst_node} {th : Clo} {i c j : Nat} {x : Tbst_node} (hs : s.parent = (i : Int)) (h : T.nodes[i]? = some x) (hc : x.cell = (c : Int)) (hb : c < 1073741824) (hj : j < 1099511627776)
 (hw : M.cells[c + (if lessN k x = true then 1 else 2)]? = some ((j : Nat) : Int)) :
 F_step (n + 1) T M C (.c_down_1_1 s k th) .u = F_bst_Tree_down (F_step n) T (tick M) C ⟨s.grand, s.parent, (j : Int), s.grandWord, s.parentWord, if lessN k x = true then (i : Int) else s.turn⟩ k th := by
 show F_bst_Tree_down_1_1 (F_step n) T M C s k th = _
 unfold F_bst_Tree_down_1_1
 rw [hs, side_ok h hc hb]
 simp only [Option.bind_some]
 rw [show (1 : Int) = ((1 : Nat) : Int) from rfl, cell_ok h hc (by omega)]
 simp only [Option.bind_some]
 have e : (if ((((c + (if lessN k x = true then 1 else 2) : Nat) : Int)) == (((c + 1 : Nat) : Int))) = true then some ((i : Nat) : Int) else some s.turn) = some (if lessN k x = true then (i : Int) else s.turn) := by
  cases lessN k x with
  | true => simp
  | false => rw [if_neg (by simp), if_neg (by simp)]
 rw [e]
 simp only [Option.bind_some]
 rw [load_ok hw]
 simp only [Option.bind_some]
 rw [show IntKind.wrap .i64 ((j : Nat) : Int) = (j : Int) from wrap_id (by omega) (by omega)]
 exact rb _
def dsc (N : List Tbst_node) (K : List Int) (k : Tbst_node) : BT → Tbst_seen → Tbst_seen
 | .lf _, s => s
 | .nd i l r, s =>
  if lessN k (nk N i) = true then dsc N K k l ⟨s.parent, (i : Int), (l.root : Int), s.parentWord, wd K (nk N i).cell.toNat, (i : Int)⟩
  else dsc N K k r ⟨s.parent, (i : Int), (r.root : Int), s.parentWord, wd K (nk N i).cell.toNat, s.turn⟩
theorem search {n b : Nat} {T : Obst_Tree} {C : Obst_Call} {k : Tbst_node} {th : Clo} {P : Cfg → Prop} (hN : T.nodes.length < 1099511627776) : ∀ (t : BT) (s : Tbst_seen) (M : Omem_Mem), Lay T.nodes M.cells t → s.leaf = (t.root : Int) →
 (∀ M' : Omem_Mem, M'.cells = M.cells → Outc (n + 1) (F_step n T M' C th (.s (dsc T.nodes M.cells k t s))) b P) → Outc (n + 1) (F_bst_Tree_down (F_step n) T M C s k th) (b + 2 * t.inn) P := by
 intro t
 induction t with
 | lf i =>
  intro s M ⟨x, h1, h2⟩ hs H
  rw [down_lf hs h1 h2]
  exact (H M rfl).le (by omega)
 | nd i l r ihl ihr =>
  intro s M hL hs H
  have hL0 := hL
  obtain ⟨x, c, w, h1, h2, h3, h4, h5, h6, h7, h8, h9, h10⟩ := hL
  have hl : l.root < T.nodes.length := hL0.lt _ (List.mem_cons_of_mem _ (List.mem_append_left _ l.root_mem))
  have hr : r.root < T.nodes.length := hL0.lt _ (List.mem_cons_of_mem _ (List.mem_append_right _ r.root_mem))
  rw [down_nd hs h1 (by omega)]
  have e0 : nk T.nodes i = x := nk_eq h1
  have e1 : wd M.cells (nk T.nodes i).cell.toNat = ((w : Nat) : Int) := by rw [e0, h2, Int.toNat_natCast]; exact wd_eq h4
  refine (Outc.step (b := b + 2 * (l.inn + r.inn) + 1) (step_word rfl h1 h2 h3 h4) ?_).le (by simp only [BT.inn]; omega)
  refine Outc.step (b := b + 2 * (l.inn + r.inn)) rfl ?_
  cases e : lessN k x with
  | true =>
   rw [step_child (j := l.root) rfl h1 h2 h3 (by omega) (by rw [e]; exact h7)]
   rw [if_pos e]
   refine (ihl _ (tick (tick M)) h9 rfl (fun M' hM' => ?_)).le (by omega)
   have := H M' hM'
   rw [dsc, e0, if_pos e, ← e0, e1] at this
   exact this
  | false =>
   rw [step_child (j := r.root) rfl h1 h2 h3 (by omega) (by rw [e]; exact h8)]
   rw [if_neg (by rw [e]; simp)]
   refine (ihr _ (tick (tick M)) h10 rfl (fun M' hM' => ?_)).le (by omega)
   have := H M' hM'
   rw [dsc, e0, if_neg (by rw [e]; simp), ← e0, e1] at this
   exact this
def leafOf (N : List Tbst_node) (k : Tbst_node) : BT → Nat
 | .lf i => i
 | .nd i l r => if lessN k (nk N i) = true then leafOf N k l else leafOf N k r
def parOf (N : List Tbst_node) (k : Tbst_node) : BT → Nat → Nat
 | .lf _, g => g
 | .nd i l r, _ => if lessN k (nk N i) = true then parOf N k l i else parOf N k r i
def grOf (N : List Tbst_node) (k : Tbst_node) : BT → Nat → Nat → Nat
 | .lf _, _, g => g
 | .nd i l r, p, _ => if lessN k (nk N i) = true then grOf N k l i p else grOf N k r i p
theorem dsc_leaf {N : List Tbst_node} {K : List Int} {k : Tbst_node} : ∀ (t : BT) (s : Tbst_seen), s.leaf = (t.root : Int) → (dsc N K k t s).leaf = (leafOf N k t : Int)
 | .lf i, s, h => h
 | .nd i l r, s, h => by
  rw [dsc, leafOf]
  split
  ·
   exact dsc_leaf l _ rfl
  ·
   exact dsc_leaf r _ rfl
theorem dsc_par {N : List Tbst_node} {K : List Int} {k : Tbst_node} : ∀ (t : BT) (s : Tbst_seen) (p g : Nat), s.parent = (p : Int) → s.parentWord = wd K (nk N p).cell.toNat → s.grand = (g : Int) → s.grandWord = wd K (nk N g).cell.toNat →
 (dsc N K k t s).parent = (parOf N k t p : Int) ∧ (dsc N K k t s).parentWord = wd K (nk N (parOf N k t p)).cell.toNat ∧ (dsc N K k t s).grand = (grOf N k t p g : Int) ∧ (dsc N K k t s).grandWord = wd K (nk N (grOf N k t p g)).cell.toNat
 | .lf i, s, p, g, h1, h2, h3, h4 => ⟨h1, h2, h3, h4⟩
 | .nd i l r, s, p, g, h1, h2, h3, h4 => by
  rw [dsc, parOf, grOf]
  split
  ·
   exact dsc_par l _ i p rfl rfl h1 h2
  ·
   exact dsc_par r _ i p rfl rfl h1 h2
theorem leafOf_mem {N : List Tbst_node} {k : Tbst_node} : ∀ t : BT, leafOf N k t ∈ t.ids
 | .lf i => List.mem_cons_self
 | .nd i l r => by
  rw [leafOf]
  split
  ·
   exact List.mem_cons_of_mem _ (List.mem_append_left _ (leafOf_mem l))
  ·
   exact List.mem_cons_of_mem _ (List.mem_append_right _ (leafOf_mem r))
theorem leafOf_lf {N : List Tbst_node} {K : List Int} {k : Tbst_node} : ∀ t : BT, Lay N K t → ∃ x, N[leafOf N k t]? = some x ∧ x.cell = -1
 | .lf i, h => h
 | .nd i l r, ⟨x, c, w, h1, h2, h3, h4, h5, h6, h7, h8, h9, h10⟩ => by
  rw [leafOf]
  split
  ·
   exact leafOf_lf l h9
  ·
   exact leafOf_lf r h10
structure Dis (N : List Tbst_node) (K : List Int) : Prop where
 apart : ∀ (i j : Nat) (x y : Tbst_node) (c d : Nat), N[i]? = some x → N[j]? = some y → x.cell = (c : Int) → y.cell = (d : Int) → i ≠ j → c + 3 ≤ d ∨ d + 3 ≤ c
 room : ∀ (i : Nat) (x : Tbst_node) (c : Nat), N[i]? = some x → x.cell = (c : Int) → c + 3 ≤ K.length
theorem Lay.frame {N N' : List Tbst_node} {K K' : List Int} : ∀ {t : BT}, Lay N K t → (∀ (i : Nat) (x : Tbst_node), N[i]? = some x → N'[i]? = some x) →
 (∀ i ∈ t.ids, ∀ (x : Tbst_node) (c : Nat), N[i]? = some x → x.cell = (c : Int) → ∀ (j : Nat) (v : Int), j < 3 → K[c + j]? = some v → K'[c + j]? = some v) → Lay N' K' t
 | .lf i, ⟨x, h1, h2⟩, hN, hK => ⟨x, hN _ _ h1, h2⟩
 | .nd i l r, ⟨x, c, w, h1, h2, h3, h4, h5, h6, h7, h8, h9, h10⟩, hN, hK => by
  have q := hK i List.mem_cons_self x c h1 h2
  exact ⟨x, c, w, hN _ _ h1, h2, h3, q 0 _ (by omega) h4, h5, h6, q 1 _ (by omega) h7, q 2 _ (by omega) h8,
   h9.frame hN (fun i hi => hK i (List.mem_cons_of_mem _ (List.mem_append_left _ hi))), h10.frame hN (fun i hi => hK i (List.mem_cons_of_mem _ (List.mem_append_right _ hi)))⟩
def updT (N : List Tbst_node) (k : Tbst_node) (f : BT) : BT → BT
 | .lf _ => f
 | .nd i l r => if lessN k (nk N i) = true then .nd i (updT N k f l) r else .nd i l (updT N k f r)
theorem updT_root {N : List Tbst_node} {k : Tbst_node} {f : BT} : ∀ {t : BT}, t.isNd = true → (updT N k f t).root = t.root
 | .nd i l r, _ => by rw [updT]; split <;> rfl
structure ParOK (N : List Tbst_node) (K : List Int) (k : Tbst_node) (t : BT) (p : Nat) : Prop where
 mem : p ∈ t.ids
 at_ : ∃ (x : Tbst_node) (c w : Nat), N[p]? = some x ∧ x.cell = (c : Int) ∧ c < 1073741824 ∧ K[c]? = some ((w : Nat) : Int) ∧ w % 4 = 0 ∧ w < 1099511627776 ∧ K[c + (if lessN k x = true then 1 else 2)]? = some ((leafOf N k t : Nat) : Int) ∧
  ∀ (N' : List Tbst_node) (K' : List Int) (f : BT) (w' : Nat), (∀ (i : Nat) (x : Tbst_node), N[i]? = some x → N'[i]? = some x) → (∀ (b : Nat) (v : Int), b ≠ c → b ≠ c + (if lessN k x = true then 1 else 2) → K[b]? = some v → K'[b]? = some v) →
   K'[c]? = some ((w' : Nat) : Int) → w' % 4 = 0 → w' < 1099511627776 → K'[c + (if lessN k x = true then 1 else 2)]? = some ((f.root : Nat) : Int) → Lay N' K' f → Lay N' K' (updT N k f t)
theorem par_ok {N : List Tbst_node} {K : List Int} {k : Tbst_node} (D : Dis N K) : ∀ (t : BT) (g : Nat), t.isNd = true → Lay N K t → t.ids.Nodup → ParOK N K k t (parOf N k t g)
 | .nd i l r, g, _, hL, hn => by
  obtain ⟨x, c, w, h1, h2, h3, h4, h5, h6, h7, h8, h9, h10⟩ := hL
  have e0 : nk N i = x := nk_eq h1
  unfold BT.ids at hn
  rw [List.nodup_cons, List.nodup_append] at hn
  obtain ⟨n0, n1, n2, n3⟩ := hn
  have away : ∀ (q : Nat) (y : Tbst_node) (d : Nat), N[q]? = some y → y.cell = (d : Int) → ∀ i' : Nat, i' ≠ q → ∀ (x' : Tbst_node) (c' : Nat), N[i']? = some x' → x'.cell = (c' : Int) → ∀ (j z : Nat), j < 3 → z < 3 → c' + j ≠ d + z := by
   intro q y d hq hd i' hi x' c' hx hc j z hj hz
   rcases D.apart i' q x' y c' d hx hq hc hd hi with w | w <;> omega
  rw [parOf]
  cases e : lessN k x with
  | true =>
   rw [if_pos (by rw [e0]; exact e)]
   have lo : leafOf N k (.nd i l r) = leafOf N k l := by rw [leafOf, if_pos (by rw [e0]; exact e)]
   have up : ∀ f, updT N k f (.nd i l r) = .nd i (updT N k f l) r := fun f => by rw [updT, if_pos (by rw [e0]; exact e)]
   cases l with
   | lf j =>
    refine ⟨List.mem_cons_self, x, c, w, h1, h2, h3, h4, h5, h6, by rw [e, lo]; exact h7, fun N' K' f w' hN hK k1 k2 k3 k4 k5 => ?_⟩
    rw [up]
    rw [e] at hK k4
    refine ⟨x, c, w', hN _ _ h1, h2, h3, k1, k2, k3, k4, hK _ _ (by omega) (by simp) h8, k5, h10.frame hN (fun i' hi' x' c' hx' hc' j' v hj hv => ?_)⟩
    have ne : i' ≠ i := fun q => n0 (List.mem_append_right _ (q ▸ hi'))
    exact hK _ _ (away i x c h1 h2 i' ne x' c' hx' hc' j' 0 hj (by omega)) (away i x c h1 h2 i' ne x' c' hx' hc' j' 1 hj (by omega)) hv
   | nd j l2 r2 =>
    obtain ⟨pm, y, d, w0, q1, q2, q3, q4, q5, q6, q7, q8⟩ := par_ok D (.nd j l2 r2) i rfl h9 n1
    refine ⟨List.mem_cons_of_mem _ (List.mem_append_left _ pm), y, d, w0, q1, q2, q3, q4, q5, q6, by rw [lo]; exact q7, fun N' K' f w' hN hK k1 k2 k3 k4 k5 => ?_⟩
    rw [up]
    have ni : i ≠ parOf N k (.nd j l2 r2) i := fun q => n0 (List.mem_append_left _ (q ▸ pm))
    have ds : ∀ b : Bool, (if b = true then 1 else 2) < 3 := fun b => by cases b <;> decide
    have kk : ∀ i' : Nat, i' ≠ parOf N k (.nd j l2 r2) i → ∀ (x' : Tbst_node) (c' : Nat), N[i']? = some x' → x'.cell = (c' : Int) → ∀ (j' : Nat) (v : Int), j' < 3 → K[c' + j']? = some v → K'[c' + j']? = some v := by
     intro i' hi' x' c' hx' hc' j' v hj hv
     exact hK _ _ (away _ y d q1 q2 i' hi' x' c' hx' hc' j' 0 hj (by omega)) (away _ y d q1 q2 i' hi' x' c' hx' hc' j' _ hj (ds _)) hv
    refine ⟨x, c, w, hN _ _ h1, h2, h3, kk i ni x c h1 h2 0 _ (by omega) h4, h5, h6, ?_, kk i ni x c h1 h2 2 _ (by omega) h8, q8 N' K' f w' hN hK k1 k2 k3 k4 k5, h10.frame hN (fun i' hi' => kk i' (fun q => n3 _ pm _ hi' q.symm))⟩
    rw [updT_root rfl]
    exact kk i ni x c h1 h2 1 _ (by omega) h7
  | false =>
   rw [if_neg (by rw [e0, e]; simp)]
   have lo : leafOf N k (.nd i l r) = leafOf N k r := by rw [leafOf, if_neg (by rw [e0, e]; simp)]
   have up : ∀ f, updT N k f (.nd i l r) = .nd i l (updT N k f r) := fun f => by rw [updT, if_neg (by rw [e0, e]; simp)]
   cases r with
   | lf j =>
    refine ⟨List.mem_cons_self, x, c, w, h1, h2, h3, h4, h5, h6, by rw [e, lo]; exact h8, fun N' K' f w' hN hK k1 k2 k3 k4 k5 => ?_⟩
    rw [up]
    rw [e] at hK k4
    refine ⟨x, c, w', hN _ _ h1, h2, h3, k1, k2, k3, hK _ _ (by omega) (by simp) h7, k4, h9.frame hN (fun i' hi' x' c' hx' hc' j' v hj hv => ?_), k5⟩
    have ne : i' ≠ i := fun q => n0 (List.mem_append_left _ (q ▸ hi'))
    exact hK _ _ (away i x c h1 h2 i' ne x' c' hx' hc' j' 0 hj (by omega)) (away i x c h1 h2 i' ne x' c' hx' hc' j' 2 hj (by omega)) hv
   | nd j l2 r2 =>
    obtain ⟨pm, y, d, w0, q1, q2, q3, q4, q5, q6, q7, q8⟩ := par_ok D (.nd j l2 r2) i rfl h10 n2
    refine ⟨List.mem_cons_of_mem _ (List.mem_append_right _ pm), y, d, w0, q1, q2, q3, q4, q5, q6, by rw [lo]; exact q7, fun N' K' f w' hN hK k1 k2 k3 k4 k5 => ?_⟩
    rw [up]
    have ni : i ≠ parOf N k (.nd j l2 r2) i := fun q => n0 (List.mem_append_right _ (q ▸ pm))
    have ds : ∀ b : Bool, (if b = true then 1 else 2) < 3 := fun b => by cases b <;> decide
    have kk : ∀ i' : Nat, i' ≠ parOf N k (.nd j l2 r2) i → ∀ (x' : Tbst_node) (c' : Nat), N[i']? = some x' → x'.cell = (c' : Int) → ∀ (j' : Nat) (v : Int), j' < 3 → K[c' + j']? = some v → K'[c' + j']? = some v := by
     intro i' hi' x' c' hx' hc' j' v hj hv
     exact hK _ _ (away _ y d q1 q2 i' hi' x' c' hx' hc' j' 0 hj (by omega)) (away _ y d q1 q2 i' hi' x' c' hx' hc' j' _ hj (ds _)) hv
    refine ⟨x, c, w, hN _ _ h1, h2, h3, kk i ni x c h1 h2 0 _ (by omega) h4, h5, h6, kk i ni x c h1 h2 1 _ (by omega) h7, ?_, h9.frame hN (fun i' hi' => kk i' (fun q => n3 _ hi' _ pm q)), q8 N' K' f w' hN hK k1 k2 k3 k4 k5⟩
    rw [updT_root rfl]
    exact kk i ni x c h1 h2 2 _ (by omega) h8
def Ord (N : List Tbst_node) : BT → Prop
 | .lf _ => True
 | .nd i l r => (∀ j ∈ l.ids, lessN (nk N j) (nk N i) = true) ∧ (∀ j ∈ r.ids, lessN (nk N j) (nk N i) = false) ∧ Ord N l ∧ Ord N r
def dirN (N : List Tbst_node) (k : Tbst_node) (i : Nat) : Bool := lessN k (nk N i)
def dn (b : Bool) : Nat := if b = true then 1 else 2
theorem dn_pos (b : Bool) : 0 < dn b ∧ dn b < 3 := by cases b <;> decide
theorem dn_ne (b : Bool) : dn b ≠ dn (!b) := by cases b <;> decide
def tow (N : List Tbst_node) (k : Tbst_node) (i : Nat) (l r : BT) : BT := if dirN N k i = true then l else r
def oth (N : List Tbst_node) (k : Tbst_node) (i : Nat) (l r : BT) : BT := if dirN N k i = true then r else l
def mkN (b : Bool) (i : Nat) (t o : BT) : BT := if b = true then .nd i t o else .nd i o t
theorem nd_mk {N : List Tbst_node} {k : Tbst_node} {i : Nat} {l r : BT} : BT.nd i l r = mkN (dirN N k i) i (tow N k i l r) (oth N k i l r) := by
 unfold mkN tow oth
 cases dirN N k i <;> rfl
theorem mk_ids {b : Bool} {i j : Nat} {t o : BT} : j ∈ (mkN b i t o).ids ↔ j = i ∨ j ∈ t.ids ∨ j ∈ o.ids := by
 unfold mkN
 cases b
 ·
  simp [BT.ids]; rw [or_comm (a := j ∈ o.ids)]
 ·
  simp [BT.ids]
theorem mk_nodup {b : Bool} {i : Nat} {t o : BT} : (mkN b i t o).ids.Nodup ↔ i ∉ t.ids ∧ i ∉ o.ids ∧ t.ids.Nodup ∧ o.ids.Nodup ∧ ∀ a ∈ t.ids, a ∉ o.ids := by
 unfold mkN
 cases b
 ·
  simp only [Bool.false_eq_true, if_false, BT.ids, List.nodup_cons, List.nodup_append, List.mem_append, not_or]
  exact ⟨fun ⟨⟨a, b⟩, c, d, e⟩ => ⟨b, a, d, c, fun x hx hy => e x hy x hx rfl⟩, fun ⟨a, b, c, d, e⟩ => ⟨⟨b, a⟩, d, c, fun x hx y hy q => e y hy (q ▸ hx)⟩⟩
 ·
  simp only [if_true, BT.ids, List.nodup_cons, List.nodup_append, List.mem_append, not_or]
  exact ⟨fun ⟨⟨a, b⟩, c, d, e⟩ => ⟨a, b, c, d, fun x hx hy => e x hx x hy rfl⟩, fun ⟨a, b, c, d, e⟩ => ⟨⟨a, b⟩, c, d, fun x hx y hy q => e x hx (q ▸ hy)⟩⟩
theorem mk_lay {N : List Tbst_node} {K : List Int} {b : Bool} {i : Nat} {t o : BT} : Lay N K (mkN b i t o) ↔ ∃ (x : Tbst_node) (c w : Nat), N[i]? = some x ∧ x.cell = (c : Int) ∧ c < 1073741824 ∧ K[c]? = some ((w : Nat) : Int) ∧ w % 4 = 0 ∧ w < 1099511627776 ∧ K[c + dn b]? = some ((t.root : Nat) : Int) ∧ K[c + dn (!b)]? = some ((o.root : Nat) : Int) ∧ Lay N K t ∧ Lay N K o := by
 unfold mkN
 cases b
 ·
  exact ⟨fun ⟨x, c, w, h1, h2, h3, h4, h5, h6, h7, h8, h9, h10⟩ => ⟨x, c, w, h1, h2, h3, h4, h5, h6, h8, h7, h10, h9⟩, fun ⟨x, c, w, h1, h2, h3, h4, h5, h6, h7, h8, h9, h10⟩ => ⟨x, c, w, h1, h2, h3, h4, h5, h6, h8, h7, h10, h9⟩⟩
 ·
  exact Iff.rfl
theorem mk_ord {N : List Tbst_node} {b : Bool} {i : Nat} {t o : BT} : Ord N (mkN b i t o) ↔ (∀ j ∈ t.ids, lessN (nk N j) (nk N i) = b) ∧ (∀ j ∈ o.ids, lessN (nk N j) (nk N i) = !b) ∧ Ord N t ∧ Ord N o := by
 unfold mkN
 cases b
 ·
  exact ⟨fun ⟨a, b, c, d⟩ => ⟨b, a, d, c⟩, fun ⟨a, b, c, d⟩ => ⟨b, a, d, c⟩⟩
 ·
  exact Iff.rfl
theorem mk_root {b : Bool} {i : Nat} {t o : BT} : (mkN b i t o).root = i := by unfold mkN; cases b <;> rfl
theorem mk_nd {b : Bool} {i : Nat} {t o : BT} : (mkN b i t o).isNd = true := by unfold mkN; cases b <;> rfl
theorem mk_inn {b : Bool} {i : Nat} {t o : BT} : (mkN b i t o).inn = t.inn + o.inn + 1 := by unfold mkN; cases b <;> simp [BT.inn]; omega
theorem leafOf_mk {N : List Tbst_node} {k : Tbst_node} {i : Nat} {t o : BT} : leafOf N k (mkN (dirN N k i) i t o) = leafOf N k t := by
 unfold mkN
 cases e : dirN N k i
 ·
  rw [if_neg (by simp), leafOf, if_neg (by unfold dirN at e; rw [e]; simp)]
 ·
  rw [if_pos rfl, leafOf, if_pos (by unfold dirN at e; exact e)]
theorem parOf_mk {N : List Tbst_node} {k : Tbst_node} {i g : Nat} {t o : BT} : parOf N k (mkN (dirN N k i) i t o) g = parOf N k t i := by
 unfold mkN
 cases e : dirN N k i
 ·
  rw [if_neg (by simp), parOf, if_neg (by unfold dirN at e; rw [e]; simp)]
 ·
  rw [if_pos rfl, parOf, if_pos (by unfold dirN at e; exact e)]
theorem grOf_mk {N : List Tbst_node} {k : Tbst_node} {i p g : Nat} {t o : BT} : grOf N k (mkN (dirN N k i) i t o) p g = grOf N k t i p := by
 unfold mkN
 cases e : dirN N k i
 ·
  rw [if_neg (by simp), grOf, if_neg (by unfold dirN at e; rw [e]; simp)]
 ·
  rw [if_pos rfl, grOf, if_pos (by unfold dirN at e; exact e)]
def delT (N : List Tbst_node) (k : Tbst_node) : BT → BT
 | .lf i => .lf i
 | .nd i l r => if lessN k (nk N i) = true then (if l.isNd = true then .nd i (delT N k l) r else r) else (if r.isNd = true then .nd i l (delT N k r) else l)
theorem delT_mk {N : List Tbst_node} {k : Tbst_node} {i : Nat} {t o : BT} : delT N k (mkN (dirN N k i) i t o) = if t.isNd = true then mkN (dirN N k i) i (delT N k t) o else o := by
 unfold mkN
 cases e : dirN N k i
 ·
  rw [if_neg (by simp), delT, if_neg (by unfold dirN at e; rw [e]; simp)]; simp
 ·
  rw [if_pos rfl, delT, if_pos (by unfold dirN at e; exact e)]; simp
theorem BT.mkcases {N : List Tbst_node} {k : Tbst_node} (t : BT) (h : t.isNd = true) : ∃ i a o, t = mkN (dirN N k i) i a o := by
 cases t with
 | lf i => cases h
 | nd i l r => exact ⟨i, _, _, nd_mk (N := N) (k := k)⟩
structure DelOK (N : List Tbst_node) (K : List Int) (k : Tbst_node) (t : BT) (p g : Nat) : Prop where
 gm : g ∈ t.ids
 pm : p ∈ t.ids
 ne : g ≠ p
 at_ : ∃ (x y z : Tbst_node) (c d w v s : Nat), N[g]? = some x ∧ x.cell = (c : Int) ∧ c < 1073741824 ∧ K[c]? = some ((w : Nat) : Int) ∧ w % 4 = 0 ∧ w < 1099511627776 ∧ K[c + dn (lessN k x)]? = some ((p : Nat) : Int) ∧
  N[p]? = some y ∧ y.cell = (d : Int) ∧ d < 1073741824 ∧ K[d]? = some ((v : Nat) : Int) ∧ v % 4 = 0 ∧ v < 1099511627776 ∧ K[d + dn (lessN k y)]? = some ((leafOf N k t : Nat) : Int) ∧ K[d + dn (!lessN k y)]? = some ((s : Nat) : Int) ∧
  s ∈ t.ids ∧ s ≠ leafOf N k t ∧ N[s]? = some z ∧ lessN z x = lessN k x ∧
  ∀ (N' : List Tbst_node) (K' : List Int) (w' : Nat), (∀ (i : Nat) (x : Tbst_node), N[i]? = some x → N'[i]? = some x) → (∀ (b : Nat) (u : Int), b ≠ c → b ≠ c + dn (lessN k x) → b ≠ d → K[b]? = some u → K'[b]? = some u) →
   K'[c]? = some ((w' : Nat) : Int) → w' % 4 = 0 → w' < 1099511627776 → K'[c + dn (lessN k x)]? = some ((s : Nat) : Int) → Lay N' K' (delT N k t) ∧ (delT N k t).root = t.root
theorem away {N : List Tbst_node} {K : List Int} (D : Dis N K) {q i' : Nat} {y x' : Tbst_node} {d c' : Nat} (hq : N[q]? = some y) (hd : y.cell = (d : Int)) (hi : i' ≠ q) (hx : N[i']? = some x') (hc : x'.cell = (c' : Int)) {j z : Nat} (hj : j < 3) (hz : z < 3) : c' + j ≠ d + z := by
 rcases D.apart i' q x' y c' d hx hq hc hd hi with w | w <;> omega
theorem root_lay {N : List Tbst_node} {K : List Int} {t : BT} (h : Lay N K t) : ∃ x, N[t.root]? = some x := by
 cases t with
 | lf i => obtain ⟨x, h1, _⟩ := h; exact ⟨x, h1⟩
 | nd i l r => obtain ⟨x, _, _, h1, _⟩ := h; exact ⟨x, h1⟩
theorem del_ok {N : List Tbst_node} {K : List Int} {k : Tbst_node} (D : Dis N K) : ∀ (m : Nat) (t : BT) (i : Nat) (a o : BT) (p0 g0 : Nat), t.inn ≤ m → t = mkN (dirN N k i) i a o → a.isNd = true → Lay N K t → t.ids.Nodup → Ord N t → DelOK N K k t (parOf N k t p0) (grOf N k t p0 g0)
 | 0, t, i, a, o, p0, g0, hm, ht, _, _, _, _ => by rw [ht, mk_inn] at hm; omega
 | m + 1, t, i, a, o, p0, g0, hm, ht, ha, hL, hn, hO => by
  have ht0 := ht
  subst ht
  rw [mk_lay] at hL
  rw [mk_nodup] at hn
  rw [mk_ord] at hO
  obtain ⟨x, c, w, h1, h2, h3, h4, h5, h6, h7, h8, h9, h10⟩ := hL
  obtain ⟨n1, n2, n3, n4, n5⟩ := hn
  obtain ⟨o1, o2, o3, o4⟩ := hO
  have e0 : nk N i = x := nk_eq h1
  rw [parOf_mk, grOf_mk]
  obtain ⟨j, a2, o2', hj⟩ := a.mkcases (N := N) (k := k) ha
  by_cases ha2 : a2.isNd = true
  ·
   -- deeper
   have hsz : a.inn ≤ m := by rw [mk_inn] at hm; omega
   obtain ⟨gm, pm, ne, y, z, u, d1, d2, w1, w2, s, q⟩ := del_ok D m a j a2 o2' i p0 hsz hj ha2 h9 n3 o3
   obtain ⟨g1, g2, g3, g4, g5, g6, g7, p1, p2, p3, p4, p5, p6, p7, p8, s1, s2, s3, s4, up⟩ := q
   refine ⟨mk_ids.mpr (.inr (.inl gm)), mk_ids.mpr (.inr (.inl pm)), ne, y, z, u, d1, d2, w1, w2, s, g1, g2, g3, g4, g5, g6, g7, p1, p2, p3, p4, p5, p6, by rw [leafOf_mk]; exact p7, p8, mk_ids.mpr (.inr (.inl s1)), by rw [leafOf_mk]; exact s2, s3, s4, fun N' K' w' hN hK k1 k2 k3 k4 => ?_⟩
   obtain ⟨r1, r2⟩ := up N' K' w' hN hK k1 k2 k3 k4
   rw [delT_mk, if_pos ha]
   refine ⟨?_, by rw [mk_root, mk_root]⟩
   have kk : ∀ i' : Nat, i' ≠ grOf N k a i p0 → i' ≠ parOf N k a i → ∀ (x' : Tbst_node) (c' : Nat), N[i']? = some x' → x'.cell = (c' : Int) → ∀ (j' : Nat) (v : Int), j' < 3 → K[c' + j']? = some v → K'[c' + j']? = some v := by
    intro i' hi hi2 x' c' hx' hc' j' v hj hv
    exact hK _ _ (away D g1 g2 hi hx' hc' hj (z := 0) (by omega)) (away D g1 g2 hi hx' hc' hj (dn_pos _).2) (away D p1 p2 hi2 hx' hc' hj (z := 0) (by omega)) hv
   have ig : i ≠ grOf N k a i p0 := fun q => n1 (q ▸ gm)
   have ip : i ≠ parOf N k a i := fun q => n1 (q ▸ pm)
   rw [mk_lay]
   refine ⟨x, c, w, hN _ _ h1, h2, h3, kk i ig ip x c h1 h2 0 _ (by omega) h4, h5, h6, ?_, kk i ig ip x c h1 h2 _ _ (dn_pos _).2 h8, r1, h10.frame hN (fun i' hi' => kk i' (fun q => n5 _ gm (q ▸ hi')) (fun q => n5 _ pm (q ▸ hi')))⟩
   rw [r2]
   exact kk i ig ip x c h1 h2 _ _ (dn_pos _).2 h7
  ·
   -- here
   have ha2 : a2.isNd = false := by simpa using ha2
   obtain ⟨e2, he2⟩ : ∃ e2, a2 = .lf e2 := by
    cases a2 with
    | lf e2 => exact ⟨e2, rfl⟩
    | nd _ _ _ => cases ha2
   subst he2
   subst hj
   rw [mk_lay] at h9
   rw [mk_nodup] at n3
   rw [mk_ord] at o3
   obtain ⟨y, d, v, f1, f2, f3, f4, f5, f6, f7, f8, f9, f10⟩ := h9
   obtain ⟨m1, m2, m3, m4, m5⟩ := n3
   have e1 : nk N j = y := nk_eq f1
   obtain ⟨z, hz⟩ := root_lay f10
   rw [parOf_mk, grOf_mk]
   show DelOK N K k _ j i
   have hij : i ≠ j := fun q => n1 (by rw [q]; exact mk_ids.mpr (.inl rfl))
   have ho' : ∀ q ∈ o2'.ids, q ∈ (mkN (dirN N k i) i (mkN (dirN N k j) j (.lf e2) o2') o).ids := fun q hq => mk_ids.mpr (.inr (.inl (mk_ids.mpr (.inr (.inr hq)))))
   refine ⟨mk_ids.mpr (.inl rfl), mk_ids.mpr (.inr (.inl (mk_ids.mpr (.inl rfl)))), hij, x, y, z, c, d, w, v, o2'.root, h1, h2, h3, h4, h5, h6, ?_, f1, f2, f3, f4, f5, f6, ?_, ?_, ho' _ o2'.root_mem, ?_, hz, ?_, fun N' K' w' hN hK k1 k2 k3 k4 => ?_⟩
   ·
    have := h7
    rw [mk_root] at this
    unfold dirN at this
    rw [e0] at this
    exact this
   ·
    rw [leafOf_mk, leafOf_mk]
    have := f7
    unfold dirN at this
    rw [e1] at this
    exact this
   ·
    have := f8
    unfold dirN at this
    rw [e1] at this
    exact this
   ·
    rw [leafOf_mk, leafOf_mk]
    intro q
    exact m5 e2 List.mem_cons_self (by rw [show e2 = o2'.root from q.symm]; exact o2'.root_mem)
   ·
    have := o1 o2'.root (mk_ids.mpr (.inr (.inr o2'.root_mem)))
    rw [nk_eq hz, e0] at this
    rw [this]
    unfold dirN
    rw [e0]
   ·
    rw [delT_mk, if_pos mk_nd, delT_mk, if_neg (by simp [BT.isNd])]
    refine ⟨?_, by rw [mk_root, mk_root]⟩
    have kk : ∀ i' : Nat, i' ≠ i → i' ≠ j → ∀ (x' : Tbst_node) (c' : Nat), N[i']? = some x' → x'.cell = (c' : Int) → ∀ (j' : Nat) (v : Int), j' < 3 → K[c' + j']? = some v → K'[c' + j']? = some v := by
     intro i' hi hi2 x' c' hx' hc' j' v hj hv
     exact hK _ _ (away D h1 h2 hi hx' hc' hj (z := 0) (by omega)) (away D h1 h2 hi hx' hc' hj (dn_pos _).2) (away D f1 f2 hi2 hx' hc' hj (z := 0) (by omega)) hv
    have dd : dirN N k i = lessN k x := by unfold dirN; rw [e0]
    rw [mk_lay]
    rw [dd] at h8 ⊢
    have a0 : c + dn (!lessN k x) ≠ d := by
     have := away D f1 f2 hij h1 h2 (dn_pos (!lessN k x)).2 (z := 0) (by omega)
     omega
    refine ⟨x, c, w', hN _ _ h1, h2, h3, k1, k2, k3, k4, ?_, f10.frame hN (fun i' hi' => kk i' (fun q => n1 (q ▸ mk_ids.mpr (.inr (.inr hi')))) (fun q => m2 (q ▸ hi'))), h10.frame hN (fun i' hi' => kk i' (fun q => n2 (q ▸ hi')) (fun q => n5 _ (mk_ids.mpr (.inl rfl)) (q ▸ hi')))⟩
    have ne := dn_ne (lessN k x)
    have p1 := dn_pos (!lessN k x)
    exact hK _ _ (by omega) (by omega) a0 h8
theorem dsc_p {N : List Tbst_node} {K : List Int} {k : Tbst_node} : ∀ (t : BT) (s : Tbst_seen) (p : Nat), s.parent = (p : Int) → s.parentWord = wd K (nk N p).cell.toNat →
 (dsc N K k t s).parent = (parOf N k t p : Int) ∧ (dsc N K k t s).parentWord = wd K (nk N (parOf N k t p)).cell.toNat
 | .lf i, s, p, h1, h2 => ⟨h1, h2⟩
 | .nd i l r, s, p, h1, h2 => by
  rw [dsc, parOf]
  split
  ·
   exact dsc_p l _ i rfl rfl
  ·
   exact dsc_p r _ i rfl rfl
def isKey (x k : Tbst_node) : Bool := bif (x.top == 0) then (eqB x.key k.key) else false
theorem isKey_iff {x k : Tbst_node} : isKey x k = true ↔ x.top = 0 ∧ x.key = k.key := by
 unfold isKey
 by_cases h : x.top = 0
 ·
  simp [h, eqB_iff]
 ·
  have : (x.top == 0) = false := by rw [beq_eq_false_iff_ne]; exact h
  simp [this, h]
theorem is_ok {T : Obst_Tree} {M : Omem_Mem} {i : Nat} {x k : Tbst_node} (h : T.nodes[i]? = some x) : F_bst_Tree_is T M (i : Int) k = some (isKey x k, T, M) := by
 unfold F_bst_Tree_is
 rw [getI_nat, h]; rfl
theorem tell_ok {rc : RC} {T : Obst_Tree} {M : Omem_Mem} {C : Obst_Call} {b : Bool} {v : Int} : F_bst_Call_tell rc T M C b v = some (none, T, M, ⟨b, C.told_Key, v, C.told_Err⟩) := rfl
theorem ins_there {n : Nat} {T : Obst_Tree} {M : Omem_Mem} {C : Obst_Call} {s : Tbst_seen} {k : Tbst_node} {th : Clo} {i : Nat} {x : Tbst_node} (hs : s.leaf = (i : Int)) (h : T.nodes[i]? = some x) (hx : isKey x k = true) :
 F_step (n + 1) T M C (.c_insert_2 k th) (.s s) = some (none, T, M, ⟨false, C.told_Key, x.val, C.told_Err⟩) := by
 show F_bst_Tree_insert_2 (F_step n) T M C s k th = _
 unfold F_bst_Tree_insert_2
 rw [hs, is_ok h, hx]
 simp only [Option.bind_some, if_true]
 rw [getI_nat, h]
 simp only [Option.bind_some, tell_ok]
theorem find_ok {n : Nat} {T : Obst_Tree} {M : Omem_Mem} {C : Obst_Call} {s : Tbst_seen} {k : Tbst_node} {i : Nat} {x : Tbst_node} (hs : s.leaf = (i : Int)) (h : T.nodes[i]? = some x) :
 F_step (n + 1) T M C (.c_Find_1_1 k) (.s s) = some (none, T, M, ⟨isKey x k, C.told_Key, if isKey x k = true then x.val else 0, C.told_Err⟩) := by
 show F_bst_Tree_Find_1_1 (F_step n) T M C s k = _
 unfold F_bst_Tree_Find_1_1
 rw [hs, is_ok h]
 simp only [Option.bind_some]
 cases e : isKey x k with
 | true =>
  simp only [Bool.not_true, Bool.false_eq_true, if_false, if_true]
  rw [getI_nat, h]
  simp only [Option.bind_some, tell_ok]
 | false =>
  simp only [Bool.not_false, if_true, tell_ok, Option.bind_some, Bool.false_eq_true, if_false]
def lowOf (x k : Tbst_node) (L : Nat) : Nat := if lessN x k = true then L + 1 else L
def highOf (x k : Tbst_node) (L : Nat) : Nat := if lessN x k = true then L else L + 1
def innOf (x k : Tbst_node) (a : Nat) : Tbst_node := if lessN x k = true then ⟨k.key, k.top, 0, (a : Int)⟩ else ⟨x.key, x.top, 0, (a : Int)⟩
theorem innOf_cell (x k : Tbst_node) (a : Nat) : (innOf x k a).cell = (a : Int) := by unfold innOf; split <;> rfl
theorem ins_grow {n : Nat} {T : Obst_Tree} {M : Omem_Mem} {C : Obst_Call} {s : Tbst_seen} {k : Tbst_node} {th : Clo} {i p w : Nat} {x : Tbst_node} (hs : s.leaf = (i : Int)) (hp : s.parent = (p : Int)) (h : T.nodes[i]? = some x) (hx : isKey x k = false) (hw : s.parentWord = (w : Int)) (hw4 : w % 4 = 0) (hwb : w < 1099511627776)
 (hc : M.cells.length + 3 ≤ 65536) (hn : T.nodes.length ≤ 1000000) (hi : T.infos.length ≤ 1000000) :
 F_step (n + 1) T M C (.c_insert_2 k th) (.s s) = some (some (.c_grow_1 (M.cells.length : Int) (lowOf x k T.nodes.length : Int) (highOf x k T.nodes.length : Int) s (T.infos.length : Int) k),
  ⟨T.nodes ++ [⟨k.key, 0, k.val, -1⟩] ++ [⟨x.key, x.top, x.val, -1⟩] ++ [innOf x k M.cells.length], T.infos ++ [⟨0, (p : Int), (i : Int), ((T.nodes.length + 2 : Nat) : Int), 0⟩]⟩, ⟨M.cells ++ [0, 0, 0], M.count⟩, C) := by
 show F_bst_Tree_insert_2 (F_step n) T M C s k th = _
 unfold F_bst_Tree_insert_2
 rw [hs, is_ok h, hx, hw]
 simp only [Option.bind_some, Bool.false_eq_true, if_false]
 rw [wstate_ok w (by omega), hw4]
 simp only [Option.bind_some]
 rw [if_neg (by simp)]
 rw [grow_ok hc]
 simp only [Option.bind_some]
 rw [if_neg (by simp)]
 unfold F_bst_Tree_grow
 rw [hs, hp, getI_nat, h]
 simp only [Option.bind_some, F_bst_Tree_leaf, F_bst_Tree_node, F_bst_Tree_info]
 rw [appL_ok (by simp; omega) (by omega) (by omega)]
 simp only [Option.bind_some]
 rw [appL_ok (by simp; omega) (by omega) (by omega)]
 simp only [Option.bind_some, less_ok]
 have e1 : IntKind.wrap .i64 (((T.nodes ++ [(⟨k.key, 0, k.val, -1⟩ : Tbst_node)]).length : Int) - 1) = (T.nodes.length : Int) := by
  rw [List.length_append, List.length_singleton, wrap_id (by omega) (by omega)]; omega
 have e2 : IntKind.wrap .i64 (((T.nodes ++ [(⟨k.key, 0, k.val, -1⟩ : Tbst_node)] ++ [(⟨x.key, x.top, x.val, -1⟩ : Tbst_node)]).length : Int) - 1) = ((T.nodes.length + 1 : Nat) : Int) := by
  rw [List.length_append, List.length_append, List.length_singleton, List.length_singleton, wrap_id (by omega) (by omega)]; omega
 have e3 : ∀ y : Tbst_node, IntKind.wrap .i64 (((T.nodes ++ [(⟨k.key, 0, k.val, -1⟩ : Tbst_node)] ++ [(⟨x.key, x.top, x.val, -1⟩ : Tbst_node)] ++ [y]).length : Int) - 1) = ((T.nodes.length + 2 : Nat) : Int) := by
  intro y
  rw [List.length_append, List.length_append, List.length_append, List.length_singleton, List.length_singleton, List.length_singleton, wrap_id (by omega) (by omega)]; omega
 rw [e1, e2]
 have e4 : ∀ y : Tbst_info, IntKind.wrap .i64 (((T.infos ++ [y]).length : Int) - 1) = (T.infos.length : Int) := by
  intro y
  rw [List.length_append, List.length_singleton, wrap_id (by omega) (by omega)]; omega
 unfold lowOf highOf innOf
 cases e : lessN x k with
 | true =>
  simp only [if_true, Option.bind_some]
  rw [appL_ok (by simp; omega) (by omega) (by omega)]
  simp only [Option.bind_some]
  rw [appL_ok (by simp; omega) (by omega) (by omega)]
  simp only [Option.bind_some, e3, e4]
 | false =>
  simp only [Bool.false_eq_true, if_false, Option.bind_some]
  rw [appL_ok (by simp; omega) (by omega) (by omega)]
  simp only [Option.bind_some]
  rw [appL_ok (by simp; omega) (by omega) (by omega)]
  simp only [Option.bind_some, e3, e4]
theorem st_grow1 {n : Nat} {T : Obst_Tree} {M : Omem_Mem} {C : Obst_Call} {s : Tbst_seen} {k : Tbst_node} {a l h i : Nat} (ha : a + 3 ≤ M.cells.length) (hb : a < 1073741824) (hl : l < 1099511627776) :
 F_step (n + 1) T M C (.c_grow_1 (a : Int) (l : Int) (h : Int) s (i : Int) k) .u = some (some (.c_grow_1_1 (a : Int) (h : Int) s (i : Int) k), T, setc M (a + 1) (l : Int), C) := by
 show F_bst_Tree_grow_1 (F_step n) T M C (a : Int) (l : Int) (h : Int) s (i : Int) k = _
 unfold F_bst_Tree_grow_1
 rw [show IntKind.wrap .i64 ((a : Int) + 1) = ((a + 1 : Nat) : Int) from by rw [wrap_id (by omega) (by omega)]; omega, wrap_u64 (by omega) (by omega), store_ok (by omega)]
 rfl
theorem st_grow2 {n : Nat} {T : Obst_Tree} {M : Omem_Mem} {C : Obst_Call} {s : Tbst_seen} {k : Tbst_node} {a h i : Nat} (ha : a + 3 ≤ M.cells.length) (hb : a < 1073741824) (hl : h < 1099511627776) :
 F_step (n + 1) T M C (.c_grow_1_1 (a : Int) (h : Int) s (i : Int) k) .u = some (some (.c_grow_1_1_1 s (i : Int) k), T, setc M (a + 2) (h : Int), C) := by
 show F_bst_Tree_grow_1_1 (F_step n) T M C (a : Int) (h : Int) s (i : Int) k = _
 unfold F_bst_Tree_grow_1_1
 rw [show IntKind.wrap .i64 ((a : Int) + 2) = ((a + 2 : Nat) : Int) from by rw [wrap_id (by omega) (by omega)]; omega, wrap_u64 (by omega) (by omega), store_ok (by omega)]
 rfl
theorem st_grow3 {n : Nat} {T : Obst_Tree} {M : Omem_Mem} {C : Obst_Call} {s : Tbst_seen} {k x : Tbst_node} {p c i : Nat} {w : Int} {y : Tbst_info} {p' l' n' : Nat} (hp : s.parent = (p : Int)) (h : T.nodes[p]? = some x) (hc : x.cell = (c : Int)) (hb : c < 1073741824) (hw : M.cells[c]? = some w) (hs : s.parentWord = w) (hi : T.infos[i]? = some y) (hib : i < 1000000)
 (y1 : y.parent = (p' : Int)) (y2 : y.leaf = (l' : Int)) (y3 : y.next = (n' : Int)) :
 F_step (n + 1) T M C (.c_grow_1_1_1 s (i : Int) k) .u = some (some (.c_turn_1 (p' : Int) (n' : Int) (l' : Int) (.c_grows_1 y (i : Int) (.c_grow_1_1_1_2 k))), T, setc M c ((4 * i + 1 : Nat) : Int), C) := by
 show F_bst_Tree_grow_1_1_1 (F_step n) T M C s (i : Int) k = _
 unfold F_bst_Tree_grow_1_1_1
 rw [hp, show (0 : Int) = ((0 : Nat) : Int) from rfl, cell_ok h hc (by omega)]
 simp only [Option.bind_some, Nat.add_zero]
 rw [show (1 : Int) = ((1 : Nat) : Int) from rfl, wpack_ok i 1 (by omega) (by omega)]
 simp only [Option.bind_some]
 rw [hs, cas_ok hw]
 simp only [Option.bind_some, Bool.not_true, Bool.false_eq_true, if_false]
 unfold F_bst_Tree_grows F_bst_Tree_turn
 rw [getI_nat, hi]
 simp only [Option.bind_some, y1, y2, y3]
theorem st_turn {n : Nat} {T : Obst_Tree} {M : Omem_Mem} {C : Obst_Call} {th : Clo} {p nx o c : Nat} {x z : Tbst_node} (h : T.nodes[p]? = some x) (hc : x.cell = (c : Int)) (hb : c < 1073741824) (hz : T.nodes[nx]? = some z) (ho : o < 1099511627776) (hnx : nx < 1099511627776)
 (hw : M.cells[c + (if lessN z x = true then 1 else 2)]? = some (o : Int)) :
 F_step (n + 1) T M C (.c_turn_1 (p : Int) (nx : Int) (o : Int) th) .u = F_step n T (setc M (c + (if lessN z x = true then 1 else 2)) (nx : Int)) C th .u := by
 show F_bst_Tree_turn_1 (F_step n) T M C (p : Int) (nx : Int) (o : Int) th = _
 unfold F_bst_Tree_turn_1
 rw [getI_nat, hz]
 simp only [Option.bind_some]
 rw [side_ok h hc hb]
 simp only [Option.bind_some]
 rw [wrap_u64 (by omega) (by omega), wrap_u64 (by omega) (by omega), cas_ok hw]
 simp only [Option.bind_some]
 exact rb _
theorem st_clean {n : Nat} {T : Obst_Tree} {M : Omem_Mem} {C : Obst_Call} {th : Clo} {p i st c : Nat} {x : Tbst_node} (h : T.nodes[p]? = some x) (hc : x.cell = (c : Int)) (hb : c < 1073741824) (hi : i < 1000000) (hst : st < 4)
 (hw : M.cells[c]? = some ((4 * i + st : Nat) : Int)) :
 F_step (n + 1) T M C (.c_clean_1 (p : Int) (st : Int) (i : Int) th) .u = F_step n T (setc M c ((4 * i + 0 : Nat) : Int)) C th .u := by
 show F_bst_Tree_clean_1 (F_step n) T M C (p : Int) (st : Int) (i : Int) th = _
 unfold F_bst_Tree_clean_1
 have e0 : F_word_Pack 0 (i : Int) = some ((4 * i + 0 : Nat) : Int) := wpack_ok i 0 (by omega) (by omega)
 have e1 : F_bst_Tree_cell T M (p : Int) 0 = some (((c + 0 : Nat) : Int), T, M) := cell_ok (k := 0) h hc (by omega)
 rw [e1]
 simp only [Option.bind_some, Nat.add_zero]
 rw [wpack_ok i st (by omega) hst, e0]
 simp only [Option.bind_some]
 rw [cas_ok hw]
 simp only [Option.bind_some]
 exact rb _
theorem st_grows1 {n : Nat} {T : Obst_Tree} {M : Omem_Mem} {C : Obst_Call} {th : Clo} {y : Tbst_info} {i : Int} : F_step (n + 1) T M C (.c_grows_1 y i th) .u = some (some (.c_clean_1 y.parent 1 i th), T, M, C) := rfl
theorem st_goes11 {n : Nat} {T : Obst_Tree} {M : Omem_Mem} {C : Obst_Call} {th : Clo} {y : Tbst_info} {i : Int} : F_step (n + 1) T M C (.c_goes_1_1 y i th) .u = some (some (.c_clean_1 y.grand 2 i th), T, M, C) := rfl
theorem st_told {n : Nat} {T : Obst_Tree} {M : Omem_Mem} {C : Obst_Call} {k : Tbst_node} : F_step (n + 1) T M C (.c_grow_1_1_1_2 k) .u = some (none, T, M, ⟨true, C.told_Key, k.val, C.told_Err⟩) := rfl
theorem rem_none {n : Nat} {T : Obst_Tree} {M : Omem_Mem} {C : Obst_Call} {s : Tbst_seen} {k : Tbst_node} {th : Clo} {i : Nat} {x : Tbst_node} (hs : s.leaf = (i : Int)) (h : T.nodes[i]? = some x) (hx : isKey x k = false) :
 F_step (n + 1) T M C (.c_remove_2 k th) (.s s) = some (none, T, M, ⟨false, C.told_Key, 0, C.told_Err⟩) := by
 show F_bst_Tree_remove_2 (F_step n) T M C s k th = _
 unfold F_bst_Tree_remove_2
 rw [hs, is_ok h, hx]
 simp only [Option.bind_some, Bool.not_false, if_true, tell_ok]
theorem rem_begin {n : Nat} {T : Obst_Tree} {M : Omem_Mem} {C : Obst_Call} {s : Tbst_seen} {k : Tbst_node} {th : Clo} {i g p w v : Nat} {x : Tbst_node} (hs : s.leaf = (i : Int)) (hg : s.grand = (g : Int)) (hp : s.parent = (p : Int)) (h : T.nodes[i]? = some x) (hx : isKey x k = true)
 (hw : s.grandWord = (w : Int)) (hw4 : w % 4 = 0) (hwb : w < 1099511627776) (hv : s.parentWord = (v : Int)) (hv4 : v % 4 = 0) (hvb : v < 1099511627776) (hi : T.infos.length ≤ 1000000) :
 F_step (n + 1) T M C (.c_remove_2 k th) (.s s) = some (some (.c_remove_2_1 s (T.infos.length : Int) th x.val), ⟨T.nodes, T.infos ++ [⟨(g : Int), (p : Int), (i : Int), 0, (v : Int)⟩]⟩, M, C) := by
 show F_bst_Tree_remove_2 (F_step n) T M C s k th = _
 unfold F_bst_Tree_remove_2
 rw [hs, is_ok h, hx, hw, hv, Option.bind_some]
 rw [if_neg (by simp), wstate_ok w (by omega), hw4]
 simp only [Option.bind_some]
 rw [if_neg (by decide), wstate_ok v (by omega), hv4]
 simp only [Option.bind_some]
 rw [if_neg (by decide), hg, hp]
 unfold F_bst_Tree_info
 rw [appL_ok (show T.infos.length + 1 ≤ 1000000000 by omega) (by omega) (by omega)]
 simp only [Option.bind_some]
 rw [getI_nat, h]
 simp only [Option.bind_some]
 rw [show IntKind.wrap .i64 (((T.infos ++ [(⟨(g : Int), (p : Int), (i : Int), 0, (v : Int)⟩ : Tbst_info)]).length : Int) - 1) = (T.infos.length : Int) from by rw [List.length_append, List.length_singleton, wrap_id (by omega) (by omega)]; omega]
theorem st_rem1 {n : Nat} {T : Obst_Tree} {M : Omem_Mem} {C : Obst_Call} {s : Tbst_seen} {th : Clo} {i g c : Nat} {w v : Int} {x : Tbst_node} {y : Tbst_info} (hg : s.grand = (g : Int)) (h : T.nodes[g]? = some x) (hc : x.cell = (c : Int)) (hb : c < 1073741824) (hw : M.cells[c]? = some w) (hs : s.grandWord = w) (hi : i < 1000000) (hy : T.infos[i]? = some y) :
 F_step (n + 1) T M C (.c_remove_2_1 s (i : Int) th v) .u = some (some (.c_loses_1 y ((4 * i + 3 : Nat) : Int) (i : Int) (.c_remove_2_1_1 th v)), T, setc M c ((4 * i + 2 : Nat) : Int), C) := by
 show F_bst_Tree_remove_2_1 (F_step n) T M C s (i : Int) th v = _
 unfold F_bst_Tree_remove_2_1
 have e1 : F_bst_Tree_cell T M (g : Int) 0 = some (((c + 0 : Nat) : Int), T, M) := cell_ok (k := 0) h hc (by omega)
 rw [hg, e1]
 simp only [Option.bind_some, Nat.add_zero]
 rw [show (2 : Int) = ((2 : Nat) : Int) from rfl, wpack_ok i 2 (by omega) (by omega)]
 simp only [Option.bind_some]
 rw [hs, cas_ok hw]
 simp only [Option.bind_some, Bool.not_true, Bool.false_eq_true, if_false]
 unfold F_bst_Tree_loses
 rw [getI_nat, hy]
 simp only [Option.bind_some]
 rw [show (3 : Int) = ((3 : Nat) : Int) from rfl, wpack_ok i 3 (by omega) (by omega)]
 rfl
theorem st_loses {n : Nat} {T : Obst_Tree} {M : Omem_Mem} {C : Obst_Call} {th : Clo} {i p c : Nat} {w mark : Int} {x : Tbst_node} {y : Tbst_info} (hp : y.parent = (p : Int)) (h : T.nodes[p]? = some x) (hc : x.cell = (c : Int)) (hb : c < 1073741824) (hw : M.cells[c]? = some w) (hs : y.was = w) (hy : T.infos[i]? = some y) :
 F_step (n + 1) T M C (.c_loses_1 y mark (i : Int) th) .u = some (some (.c_goes_2 y (.c_goes_1 y (i : Int) (.c_loses_1_1 th))), T, setc M c mark, C) := by
 show F_bst_Tree_loses_1 (F_step n) T M C y mark (i : Int) th = _
 unfold F_bst_Tree_loses_1
 have e1 : F_bst_Tree_cell T M (p : Int) 0 = some (((c + 0 : Nat) : Int), T, M) := cell_ok (k := 0) h hc (by omega)
 rw [hp, e1]
 simp only [Option.bind_some, Nat.add_zero]
 rw [hs, cas_ok hw]
 simp only [Option.bind_some, cond_true, if_true]
 unfold F_bst_Tree_goes
 rw [getI_nat, hy]
 rfl
theorem st_goes1 {n : Nat} {T : Obst_Tree} {M : Omem_Mem} {C : Obst_Call} {th : Clo} {y : Tbst_info} {i : Int} {s : Nat} (hs : s < 1099511627776) : F_step (n + 1) T M C (.c_goes_1 y i th) (.w (s : Int)) = some (some (.c_turn_1 y.grand (s : Int) y.parent (.c_goes_1_1 y i th)), T, M, C) := by
 show F_bst_Tree_goes_1 (F_step n) T M C (s : Int) y i th = _
 unfold F_bst_Tree_goes_1 F_bst_Tree_turn
 rw [wrap_id (by omega) (by omega)]
 rfl
theorem st_goes2_right {n : Nat} {T : Obst_Tree} {M : Omem_Mem} {C : Obst_Call} {th : Clo} {p c s l : Nat} {x : Tbst_node} {y : Tbst_info} (hp : y.parent = (p : Int)) (h : T.nodes[p]? = some x) (hc : x.cell = (c : Int)) (hb : c < 1073741824) (hw : M.cells[c + 2]? = some (s : Int)) (hsb : s < 1099511627776) (hl : y.leaf = (l : Int)) (hn : s ≠ l) :
 F_step (n + 1) T M C (.c_goes_2 y th) .u = F_step n T (tick M) C th (.w (s : Int)) := by
 show F_bst_Tree_goes_2 (F_step n) T M C y th = _
 unfold F_bst_Tree_goes_2
 have e1 : F_bst_Tree_cell T M (p : Int) 2 = some (((c + 2 : Nat) : Int), T, M) := cell_ok (k := 2) h hc (by omega)
 rw [hp, e1]
 simp only [Option.bind_some]
 rw [load_ok hw]
 simp only [Option.bind_some]
 rw [wrap_id (by omega) (by omega), hl, if_pos (by simp; omega)]
 exact rb _
theorem st_goes2_left {n : Nat} {T : Obst_Tree} {M : Omem_Mem} {C : Obst_Call} {th : Clo} {p c l : Nat} {x : Tbst_node} {y : Tbst_info} (hp : y.parent = (p : Int)) (h : T.nodes[p]? = some x) (hc : x.cell = (c : Int)) (hb : c < 1073741824) (hw : M.cells[c + 2]? = some (l : Int)) (hsb : l < 1099511627776) (hl : y.leaf = (l : Int)) :
 F_step (n + 1) T M C (.c_goes_2 y th) .u = some (some (.c_goes_2_1 y th), T, tick M, C) := by
 show F_bst_Tree_goes_2 (F_step n) T M C y th = _
 unfold F_bst_Tree_goes_2
 have e1 : F_bst_Tree_cell T M (p : Int) 2 = some (((c + 2 : Nat) : Int), T, M) := cell_ok (k := 2) h hc (by omega)
 rw [hp, e1]
 simp only [Option.bind_some]
 rw [load_ok hw]
 simp only [Option.bind_some]
 rw [wrap_id (by omega) (by omega), hl, if_neg (by simp)]
theorem st_goes21 {n : Nat} {T : Obst_Tree} {M : Omem_Mem} {C : Obst_Call} {th : Clo} {p c s : Nat} {x : Tbst_node} {y : Tbst_info} (hp : y.parent = (p : Int)) (h : T.nodes[p]? = some x) (hc : x.cell = (c : Int)) (hb : c < 1073741824) (hw : M.cells[c + 1]? = some (s : Int)) :
 F_step (n + 1) T M C (.c_goes_2_1 y th) .u = F_step n T (tick M) C th (.w (s : Int)) := by
 show F_bst_Tree_goes_2_1 (F_step n) T M C y th = _
 unfold F_bst_Tree_goes_2_1
 have e1 : F_bst_Tree_cell T M (p : Int) 1 = some (((c + 1 : Nat) : Int), T, M) := cell_ok (k := 1) h hc (by omega)
 rw [hp, e1]
 simp only [Option.bind_some]
 rw [load_ok hw]
 simp only [Option.bind_some]
 exact rb _
theorem st_loses11 {n : Nat} {T : Obst_Tree} {M : Omem_Mem} {C : Obst_Call} {th : Clo} : F_step (n + 1) T M C (.c_loses_1_1 th) .u = F_step n T M C th (.b true) := by
 show F_bst_Tree_loses_1_1 (F_step n) T M C th = _
 unfold F_bst_Tree_loses_1_1
 exact rb _
theorem st_rem211 {n : Nat} {T : Obst_Tree} {M : Omem_Mem} {C : Obst_Call} {th : Clo} {v : Int} : F_step (n + 1) T M C (.c_remove_2_1_1 th v) (.b true) = some (none, T, M, ⟨true, C.told_Key, v, C.told_Err⟩) := rfl
def lvs (N : List Tbst_node) : BT → List Tbst_node
 | .lf i => [nk N i]
 | .nd _ l r => lvs N l ++ lvs N r
def NExt (N N' : List Tbst_node) : Prop := ∀ (i : Nat) (x : Tbst_node), N[i]? = some x → N'[i]? = some x
theorem NExt.nk {N N' : List Tbst_node} (e : NExt N N') {i : Nat} (h : i < N.length) : V.nk N' i = V.nk N i := by
 have h1 := List.getElem?_eq_getElem h
 rw [nk_eq h1, nk_eq (e _ _ h1)]
theorem NExt.app (N M : List Tbst_node) : NExt N (N ++ M) := fun i x h => by
 rw [List.getElem?_append_left (List.getElem?_eq_some_iff.mp h).1]; exact h
theorem lvs_mem {N : List Tbst_node} {x : Tbst_node} : ∀ {t : BT}, x ∈ lvs N t → ∃ j ∈ t.ids, nk N j = x
 | .lf i, h => ⟨i, List.mem_cons_self, by rw [lvs, List.mem_singleton] at h; exact h.symm⟩
 | .nd i l r, h => by
  rcases List.mem_append.mp h with q | q
  ·
   obtain ⟨j, h1, h2⟩ := lvs_mem q; exact ⟨j, List.mem_cons_of_mem _ (List.mem_append_left _ h1), h2⟩
  ·
   obtain ⟨j, h1, h2⟩ := lvs_mem q; exact ⟨j, List.mem_cons_of_mem _ (List.mem_append_right _ h1), h2⟩
theorem lvs_ext {N N' : List Tbst_node} (e : NExt N N') : ∀ {t : BT}, (∀ i ∈ t.ids, i < N.length) → lvs N' t = lvs N t
 | .lf i, h => by rw [lvs, lvs, e.nk (h i List.mem_cons_self)]
 | .nd i l r, h => by
  rw [lvs, lvs, lvs_ext e (fun j hj => h j (List.mem_cons_of_mem _ (List.mem_append_left _ hj))), lvs_ext e (fun j hj => h j (List.mem_cons_of_mem _ (List.mem_append_right _ hj)))]
theorem lvs_cell {N : List Tbst_node} {K : List Int} {x : Tbst_node} : ∀ {t : BT}, Lay N K t → x ∈ lvs N t → x.cell = -1
 | .lf i, ⟨y, h1, h2⟩, h => by rw [lvs, List.mem_singleton, nk_eq h1] at h; rw [h]; exact h2
 | .nd i l r, ⟨y, c, w, h1, h2, h3, h4, h5, h6, h7, h8, h9, h10⟩, h => by
  rcases List.mem_append.mp h with q | q
  ·
   exact lvs_cell h9 q
  ·
   exact lvs_cell h10 q
theorem leaf_lvs {N : List Tbst_node} {k : Tbst_node} : ∀ t : BT, nk N (leafOf N k t) ∈ lvs N t
 | .lf i => List.mem_singleton_self _
 | .nd i l r => by
  rw [leafOf, lvs]
  split
  ·
   exact List.mem_append_left _ (leaf_lvs l)
  ·
   exact List.mem_append_right _ (leaf_lvs r)
theorem leaf_key {N : List Tbst_node} {k y : Tbst_node} (h1 : lessN k y = false) (h2 : lessN y k = false) : ∀ {t : BT}, Ord N t → y ∈ lvs N t → nk N (leafOf N k t) = y
 | .lf i, _, h => by rw [lvs, List.mem_singleton] at h; exact h.symm
 | .nd i l r, ⟨o1, o2, o3, o4⟩, h => by
  rw [leafOf, lessN_eq h1 h2]
  rcases List.mem_append.mp h with q | q
  ·
   obtain ⟨j, hj, e⟩ := lvs_mem q
   have := o1 j hj
   rw [e] at this
   rw [if_pos this]
   exact leaf_key h1 h2 o3 q
  ·
   obtain ⟨j, hj, e⟩ := lvs_mem q
   have := o2 j hj
   rw [e] at this
   rw [if_neg (by rw [this]; simp)]
   exact leaf_key h1 h2 o4 q
theorem lvs_sorted {N : List Tbst_node} : ∀ {t : BT}, Ord N t → (lvs N t).Pairwise (fun a b => lessN a b = true)
 | .lf i, _ => List.pairwise_singleton _ _
 | .nd i l r, ⟨o1, o2, o3, o4⟩ => by
  rw [lvs, List.pairwise_append]
  refine ⟨lvs_sorted o3, lvs_sorted o4, fun a ha b hb => ?_⟩
  obtain ⟨j, hj, e⟩ := lvs_mem ha
  obtain ⟨j2, hj2, e2⟩ := lvs_mem hb
  have h1 := o1 j hj
  have h2 := o2 j2 hj2
  rw [e] at h1; rw [e2] at h2
  exact lessN_le h1 h2
theorem lvs_upd {N N' : List Tbst_node} {k : Tbst_node} {f : BT} (e : NExt N N') : ∀ {t : BT}, (∀ i ∈ t.ids, i < N.length) → ∃ A B, lvs N t = A ++ nk N (leafOf N k t) :: B ∧ lvs N' (updT N k f t) = A ++ lvs N' f ++ B
 | .lf i, h => ⟨[], [], rfl, by simp [updT]⟩
 | .nd i l r, h => by
  have hl : ∀ j ∈ l.ids, j < N.length := fun j hj => h j (List.mem_cons_of_mem _ (List.mem_append_left _ hj))
  have hr : ∀ j ∈ r.ids, j < N.length := fun j hj => h j (List.mem_cons_of_mem _ (List.mem_append_right _ hj))
  rw [leafOf, updT]
  split
  ·
   obtain ⟨A, B, h1, h2⟩ := lvs_upd (k := k) (f := f) e hl
   exact ⟨A, B ++ lvs N r, by rw [lvs, h1]; simp, by rw [lvs, h2, lvs_ext e hr]; simp⟩
  ·
   obtain ⟨A, B, h1, h2⟩ := lvs_upd (k := k) (f := f) e hr
   exact ⟨lvs N l ++ A, B, by rw [lvs, h1]; simp, by rw [lvs, h2, lvs_ext e hl]; simp⟩
theorem lvs_del {N : List Tbst_node} {k : Tbst_node} : ∀ {t : BT}, t.isNd = true → ∃ A B, lvs N t = A ++ nk N (leafOf N k t) :: B ∧ lvs N (delT N k t) = A ++ B
 | .nd i l r, _ => by
  rw [leafOf, delT]
  split
  ·
   by_cases hl : l.isNd = true
   ·
    rw [if_pos hl]
    obtain ⟨A, B, h1, h2⟩ := lvs_del (N := N) (k := k) hl
    exact ⟨A, B ++ lvs N r, by rw [lvs, h1]; simp, by rw [lvs, h2]; simp⟩
   ·
    rw [if_neg hl]
    cases l with
    | lf j => exact ⟨[], lvs N r, rfl, rfl⟩
    | nd a b c => exact absurd rfl hl
  ·
   by_cases hr : r.isNd = true
   ·
    rw [if_pos hr]
    obtain ⟨A, B, h1, h2⟩ := lvs_del (N := N) (k := k) hr
    exact ⟨lvs N l ++ A, B, by rw [lvs, h1]; simp, by rw [lvs, h2]; simp⟩
   ·
    rw [if_neg hr]
    cases r with
    | lf j => exact ⟨lvs N l, [], rfl, by simp⟩
    | nd a b c => exact absurd rfl hr
theorem upd_ids {N : List Tbst_node} {k : Tbst_node} {f : BT} {j : Nat} : ∀ {t : BT}, j ∈ (updT N k f t).ids → j ∈ f.ids ∨ j ∈ t.ids
 | .lf i, h => .inl h
 | .nd i l r, h => by
  rw [updT] at h
  split at h
  ·
   rcases List.mem_cons.mp h with q | q
   ·
    exact .inr (q ▸ List.mem_cons_self)
   ·
    rcases List.mem_append.mp q with q | q
    ·
     rcases upd_ids q with q | q
     ·
      exact .inl q
     ·
      exact .inr (List.mem_cons_of_mem _ (List.mem_append_left _ q))
    ·
     exact .inr (List.mem_cons_of_mem _ (List.mem_append_right _ q))
  ·
   rcases List.mem_cons.mp h with q | q
   ·
    exact .inr (q ▸ List.mem_cons_self)
   ·
    rcases List.mem_append.mp q with q | q
    ·
     exact .inr (List.mem_cons_of_mem _ (List.mem_append_left _ q))
    ·
     rcases upd_ids q with q | q
     ·
      exact .inl q
     ·
      exact .inr (List.mem_cons_of_mem _ (List.mem_append_right _ q))
theorem upd_nodup {N : List Tbst_node} {k : Tbst_node} {f : BT} (hf : f.ids.Nodup) : ∀ {t : BT}, t.ids.Nodup → (∀ j ∈ f.ids, j ∉ t.ids) → (updT N k f t).ids.Nodup
 | .lf i, _, _ => hf
 | .nd i l r, h, hd => by
  unfold BT.ids at h
  rw [List.nodup_cons, List.nodup_append, List.mem_append, not_or] at h
  obtain ⟨⟨a1, a2⟩, b, c, d⟩ := h
  have d1 : ∀ j ∈ f.ids, j ∉ l.ids := fun j hj q => hd j hj (List.mem_cons_of_mem _ (List.mem_append_left _ q))
  have d2 : ∀ j ∈ f.ids, j ∉ r.ids := fun j hj q => hd j hj (List.mem_cons_of_mem _ (List.mem_append_right _ q))
  have d3 : i ∉ f.ids := fun q => hd i q List.mem_cons_self
  rw [updT]
  split
  ·
   unfold BT.ids
   rw [List.nodup_cons, List.nodup_append, List.mem_append, not_or]
   refine ⟨⟨fun q => ?_, a2⟩, upd_nodup hf b d1, c, fun x hx y hy e => ?_⟩
   ·
    rcases upd_ids q with q | q
    ·
     exact d3 q
    ·
     exact a1 q
   ·
    subst e
    rcases upd_ids hx with q | q
    ·
     exact d2 _ q hy
    ·
     exact d _ q _ hy rfl
  ·
   unfold BT.ids
   rw [List.nodup_cons, List.nodup_append, List.mem_append, not_or]
   refine ⟨⟨a1, fun q => ?_⟩, b, upd_nodup hf c d2, fun x hx y hy e => ?_⟩
   ·
    rcases upd_ids q with q | q
    ·
     exact d3 q
    ·
     exact a2 q
   ·
    subst e
    rcases upd_ids hy with q | q
    ·
     exact d1 _ q hx
    ·
     exact d _ hx _ q rfl
theorem del_ids {N : List Tbst_node} {k : Tbst_node} : ∀ {t : BT}, (delT N k t).ids.Sublist t.ids
 | .lf i => List.Sublist.refl _
 | .nd i l r => by
  rw [delT]
  split
  ·
   split
   ·
    rw [show (BT.nd i l r).ids = i :: (l.ids ++ r.ids) from rfl, show (BT.nd i (delT N k l) r).ids = i :: ((delT N k l).ids ++ r.ids) from rfl]; exact ((del_ids (t := l)).append (List.Sublist.refl _)).cons_cons _
   ·
    rw [show (BT.nd i l r).ids = i :: (l.ids ++ r.ids) from rfl]; exact ((List.sublist_append_right _ _)).cons _
  ·
   split
   ·
    rw [show (BT.nd i l r).ids = i :: (l.ids ++ r.ids) from rfl, show (BT.nd i l (delT N k r)).ids = i :: (l.ids ++ (delT N k r).ids) from rfl]; exact ((List.Sublist.refl _).append (del_ids (t := r))).cons_cons _
   ·
    rw [show (BT.nd i l r).ids = i :: (l.ids ++ r.ids) from rfl]; exact ((List.sublist_append_left _ _)).cons _
theorem upd_ord {N N' : List Tbst_node} {k : Tbst_node} {f : BT} (e : NExt N N') (of : Ord N' f) : ∀ {t : BT}, (∀ i ∈ t.ids, i < N.length) → Ord N t → (∀ (j : Nat), j ∈ f.ids → ∀ y : Tbst_node, lessN (nk N (leafOf N k t)) y = lessN k y → lessN (nk N' j) y = lessN k y) → Ord N' (updT N k f t)
 | .lf i, _, _, _ => of
 | .nd i l r, h, ⟨o1, o2, o3, o4⟩, hf => by
  have hl : ∀ j ∈ l.ids, j < N.length := fun j hj => h j (List.mem_cons_of_mem _ (List.mem_append_left _ hj))
  have hr : ∀ j ∈ r.ids, j < N.length := fun j hj => h j (List.mem_cons_of_mem _ (List.mem_append_right _ hj))
  have hi : nk N' i = nk N i := e.nk (h i List.mem_cons_self)
  have ol : ∀ j ∈ l.ids, lessN (nk N' j) (nk N' i) = true := fun j hj => by rw [hi, e.nk (hl j hj)]; exact o1 j hj
  have orr : ∀ j ∈ r.ids, lessN (nk N' j) (nk N' i) = false := fun j hj => by rw [hi, e.nk (hr j hj)]; exact o2 j hj
  have oext : ∀ {u : BT}, (∀ j ∈ u.ids, j < N.length) → Ord N u → Ord N' u := by
   intro u
   induction u with
   | lf _ => intro _ _; trivial
   | nd a b c ihb ihc =>
    intro hu ⟨p1, p2, p3, p4⟩
    have hb : ∀ j ∈ b.ids, j < N.length := fun j hj => hu j (List.mem_cons_of_mem _ (List.mem_append_left _ hj))
    have hc : ∀ j ∈ c.ids, j < N.length := fun j hj => hu j (List.mem_cons_of_mem _ (List.mem_append_right _ hj))
    have ha := e.nk (hu a List.mem_cons_self)
    exact ⟨fun j hj => by rw [ha, e.nk (hb j hj)]; exact p1 j hj, fun j hj => by rw [ha, e.nk (hc j hj)]; exact p2 j hj, ihb hb p3, ihc hc p4⟩
  rw [leafOf] at hf
  rw [updT]
  split
  ·
   rename_i q
   rw [if_pos q] at hf
   refine ⟨fun j hj => ?_, orr, upd_ord e of hl o3 hf, oext hr o4⟩
   rcases upd_ids hj with w | w
   ·
    rw [hi, hf j w (nk N i) ?_, q]
    rw [o1 _ (leafOf_mem l), q]
   ·
    exact ol j w
  ·
   rename_i q
   rw [if_neg q] at hf
   have q : lessN k (nk N i) = false := by simpa using q
   refine ⟨ol, fun j hj => ?_, oext hl o3, upd_ord e of hr o4 hf⟩
   rcases upd_ids hj with w | w
   ·
    rw [hi, hf j w (nk N i) ?_, q]
    rw [o2 _ (leafOf_mem r), q]
   ·
    exact orr j w
theorem del_ord {N : List Tbst_node} {k : Tbst_node} : ∀ {t : BT}, Ord N t → Ord N (delT N k t)
 | .lf i, h => h
 | .nd i l r, ⟨o1, o2, o3, o4⟩ => by
  rw [delT]
  split
  ·
   split
   ·
    exact ⟨fun j hj => o1 j (del_ids.subset hj), o2, del_ord o3, o4⟩
   ·
    exact o4
  ·
   split
   ·
    exact ⟨o1, fun j hj => o2 j (del_ids.subset hj), o3, del_ord o4⟩
   ·
    exact o3
theorem upd_inn {N : List Tbst_node} {k : Tbst_node} {f : BT} : ∀ {t : BT}, (updT N k f t).inn = t.inn + f.inn
 | .lf i => by simp [updT, BT.inn]
 | .nd i l r => by
  rw [updT]
  split
  ·
   simp only [BT.inn, upd_inn (t := l)]; omega
  ·
   simp only [BT.inn, upd_inn (t := r)]; omega
theorem del_inn {N : List Tbst_node} {k : Tbst_node} : ∀ {t : BT}, (delT N k t).inn ≤ t.inn
 | .lf i => Nat.le_refl _
 | .nd i l r => by
  have h1 := del_inn (N := N) (k := k) (t := l)
  have h2 := del_inn (N := N) (k := k) (t := r)
  rw [delT]
  split <;> split <;> simp only [BT.inn] <;> omega
structure BInv (T : Obst_Tree) (M : Omem_Mem) (l r : BT) (ks : List Tbst_node) (j : Nat) : Prop where
 lay : Lay T.nodes M.cells (.nd 0 l r)
 nod : (BT.nd 0 l r).ids.Nodup
 ord : Ord T.nodes (.nd 0 l r)
 dis : Dis T.nodes M.cells
 top0 : ∃ x0, T.nodes[0]? = some x0 ∧ x0.top = 2
 lv : ∃ s1, lvs T.nodes l = ks ++ [s1] ∧ s1.top = 1
 rv : ∀ x ∈ lvs T.nodes r, x.top = 2
 kt : ∀ x ∈ ks, x.top = 0
 b1 : T.nodes.length ≤ 3 + 3 * j
 b2 : T.infos.length ≤ 1 + j
 b3 : M.cells.length ≤ 3 + 3 * j
 bi : (BT.nd 0 l r).inn ≤ 1 + j
abbrev s0 : Tbst_seen := ⟨0, 0, 0, 0, 0, -1⟩
theorem gs_ne {l : List Int} {a b : Nat} {v : Int} (h : a ≠ b) : (l.set a v)[b]? = l[b]? := List.getElem?_set_ne h
theorem gs_eq {l : List Int} {a : Nat} {v : Int} (h : a < l.length) : (l.set a v)[a]? = some v := List.getElem?_set_self h
theorem dsc_nd {N : List Tbst_node} {K : List Int} {k : Tbst_node} {i : Nat} {l r : BT} (s : Tbst_seen) (g : Nat) : (dsc N K k (.nd i l r) s).parent = (parOf N k (.nd i l r) g : Int) ∧ (dsc N K k (.nd i l r) s).parentWord = wd K (nk N (parOf N k (.nd i l r) g)).cell.toNat := by
 rw [dsc, parOf]
 split
 ·
  exact dsc_p l _ i rfl rfl
 ·
  exact dsc_p r _ i rfl rfl
section
variable {T : Obst_Tree} {M : Omem_Mem} {l r : BT} {ks : List Tbst_node} {j : Nat}
theorem BInv.dir (I : BInv T M l r ks j) {k : Tbst_node} (hk : k.top = 0) : dirN T.nodes k 0 = true := by
 obtain ⟨x0, h1, h2⟩ := I.top0
 unfold dirN
 rw [nk_eq h1, lessN_iff]
 exact .inl (by omega)
theorem BInv.leaf (I : BInv T M l r ks j) {k : Tbst_node} (hk : k.top = 0) : leafOf T.nodes k (.nd 0 l r) = leafOf T.nodes k l := by
 have := I.dir hk
 unfold dirN at this
 rw [leafOf, if_pos this]
theorem BInv.cases (I : BInv T M l r ks j) {k : Tbst_node} (hk : k.top = 0) : ∃ x, T.nodes[leafOf T.nodes k (.nd 0 l r)]? = some x ∧ x.cell = -1 ∧ x ∈ lvs T.nodes l ∧
 ((isKey x k = true ∧ x ∈ ks ∧ x.key = k.key) ∨ (isKey x k = false ∧ ∀ y ∈ ks, y.key ≠ k.key)) := by
 obtain ⟨x, h1, h2⟩ := leafOf_lf (k := k) _ I.lay
 obtain ⟨s1, e1, e2⟩ := I.lv
 have e0 : nk T.nodes (leafOf T.nodes k l) = x := by rw [← I.leaf hk]; exact nk_eq h1
 have hx : x ∈ lvs T.nodes l := by rw [← e0]; exact leaf_lvs l
 refine ⟨x, h1, h2, hx, ?_⟩
 cases e : isKey x k with
 | true =>
  left
  obtain ⟨a, b⟩ := isKey_iff.mp e
  refine ⟨rfl, ?_, b⟩
  rw [e1] at hx
  rcases List.mem_append.mp hx with q | q
  ·
   exact q
  ·
   rw [List.mem_singleton] at q; rw [q, e2] at a; omega
 | false =>
  right
  refine ⟨rfl, fun y hy hyk => ?_⟩
  have ht := I.kt y hy
  have l1 : lessN k y = false := lessN_neg.mpr (.inr ⟨by rw [hk, ht], by rw [hyk]; exact less_irrefl _⟩)
  have l2 : lessN y k = false := lessN_neg.mpr (.inr ⟨by rw [hk, ht], by rw [hyk]; exact less_irrefl _⟩)
  have := leaf_key (N := T.nodes) l1 l2 (t := l) I.ord.2.2.1 (by rw [e1]; exact List.mem_append_left _ hy)
  rw [e0] at this
  have w := isKey_iff.mpr (show x.top = 0 ∧ x.key = k.key from by rw [this]; exact ⟨ht, hyk⟩)
  rw [e] at w; cases w
theorem leaf_side {N : List Tbst_node} {k : Tbst_node} : ∀ (t : BT), Ord N t → t.isNd = true → ∀ (g : Nat) (y' : Tbst_node), N[parOf N k t g]? = some y' → lessN (nk N (leafOf N k t)) y' = lessN k y' := by
 intro t
 induction t with
 | lf _ => intro _ h; cases h
 | nd i a b iha ihb =>
  intro ⟨o1, o2, o3, o4⟩ _ g y' hy'
  rw [leafOf]
  rw [parOf] at hy'
  split
  ·
   rename_i q
   rw [if_pos q] at hy'
   cases a with
   | lf m =>
    have ey := nk_eq hy'
    rw [show parOf N k (.lf m) i = i from rfl] at ey
    rw [← ey, q]
    exact o1 m List.mem_cons_self
   | nd m a1 a2 => exact iha o3 rfl i y' hy'
  ·
   rename_i q
   rw [if_neg q] at hy'
   have q : lessN k (nk N i) = false := by simpa using q
   cases b with
   | lf m =>
    have ey := nk_eq hy'
    rw [show parOf N k (.lf m) i = i from rfl] at ey
    rw [← ey, q]
    exact o2 m List.mem_cons_self
   | nd m a1 a2 => exact ihb o4 rfl i y' hy'
theorem lessN_congr {a b c d : Tbst_node} (h1 : a.key = b.key) (h2 : a.top = b.top) (h3 : c.key = d.key) (h4 : c.top = d.top) : lessN a c = lessN b d := by unfold lessN; rw [h1, h2, h3, h4]
theorem gt_of {x k : Tbst_node} (h : lessN x k = false) (hx : isKey x k = false) (hk : k.top = 0) : lessN k x = true := by
 rw [lessN_iff]
 rcases lessN_neg.mp h with q | ⟨q1, q2⟩
 ·
  exact .inl q
 ·
  right
  refine ⟨q1.symm, ?_⟩
  cases e : lessB k.key x.key with
  | true => rfl
  | false =>
   have := less_total q2 e
   have w := isKey_iff.mpr (show x.top = 0 ∧ x.key = k.key from ⟨by omega, this⟩)
   rw [hx] at w; cases w
theorem find_op {n : Nat} {C : Obst_Call} {k : Tbst_node} (I : BInv T M l r ks j) (hj : j ≤ 1000) (hk : k.top = 0) :
 Outc (n + 2) (F_bst_Tree_down (F_step (n + 1)) T M C s0 k (.c_Find_1_1 k)) (2 * (j + 1)) (fun f => ∃ M' b v, M'.cells = M.cells ∧ f = (T, M', ⟨b, C.told_Key, v, C.told_Err⟩, none) ∧
  ((∃ y ∈ ks, y.key = k.key ∧ b = true ∧ v = y.val) ∨ ((∀ y ∈ ks, y.key ≠ k.key) ∧ b = false ∧ v = 0))) := by
 have b1 := I.b1
 have bi := I.bi
 refine (search (b := 0) (by omega) (.nd 0 l r) s0 M I.lay rfl (fun M' hM' => ?_)).le (by omega)
 obtain ⟨x, h1, h2, h3, h4⟩ := I.cases hk
 rw [find_ok (dsc_leaf _ _ rfl) h1]
 refine Outc.done ⟨M', _, _, hM', rfl, ?_⟩
 rcases h4 with ⟨e, h5, h6⟩ | ⟨e, h5⟩
 ·
  rw [e]; exact .inl ⟨x, h5, h6, rfl, rfl⟩
 ·
  rw [e]; exact .inr ⟨h5, rfl, rfl⟩
theorem split_ks {A B : List Tbst_node} {x s1 n a b : Tbst_node} (h : A ++ x :: B = ks ++ [s1]) (hs : s1.top = 1) (hk : ∀ y ∈ ks, y.top = 0) (hn : n.top = 0) (hab : (a = n ∧ b = x) ∨ (a = x ∧ b = n)) (hb : lessN x n = true → b = n) (hb2 : lessN x n = false → b = x) :
 ∃ ks', A ++ [a, b] ++ B = ks' ++ [s1] ∧ ∀ y, y ∈ ks' ↔ y ∈ ks ∨ y = n := by
 rcases List.eq_nil_or_concat B with q | ⟨B', z, q⟩
 ·
  subst q
  have h' := List.append_inj' h rfl
  obtain ⟨h1, h2⟩ := h'
  have h2 : x = s1 := by simpa using h2
  subst h1 h2
  have e : lessN x n = false := lessN_neg.mpr (.inl (by omega))
  have hb' := hb2 e
  rcases hab with ⟨q1, q2⟩ | ⟨q1, q2⟩
  ·
   exact ⟨A ++ [n], by rw [q1, q2]; simp, fun y => by simp⟩
  ·
   exfalso
   rw [hb'] at q2
   rw [q2] at hs; omega
 ·
  subst q
  have h' : (A ++ x :: B') ++ [z] = ks ++ [s1] := by rw [← h]; simp
  obtain ⟨h1, h2⟩ := List.append_inj' h' rfl
  have h2 : z = s1 := by simpa using h2
  subst h2
  refine ⟨A ++ [a, b] ++ B', by simp, fun y => ?_⟩
  rw [← h1]
  rcases hab with ⟨q1, q2⟩ | ⟨q1, q2⟩
  ·
   rw [q1, q2]; simp only [List.mem_append, List.mem_cons, List.not_mem_nil, or_false]; grind
  ·
   rw [q1, q2]; simp only [List.mem_append, List.mem_cons, List.not_mem_nil, or_false]; grind
def Grew (N N' : List Tbst_node) (k : Tbst_node) (l l' : BT) : Prop := ∃ f, l' = updT N k f l ∧ ∀ z ∈ lvs N' f, z = nk N (leafOf N k l) ∨ z = ⟨k.key, 0, k.val, -1⟩
theorem ins_op {n : Nat} {C : Obst_Call} {k : Tbst_node} {th : Clo} (I : BInv T M l r ks j) (hj : j ≤ 1000) (hk : k.top = 0) :
 Outc (n + 3) (F_bst_Tree_down (F_step (n + 2)) T M C s0 k (.c_insert_2 k th)) (2 * (j + 1) + 6) (fun f =>
  (∃ M' y, M'.cells = M.cells ∧ y ∈ ks ∧ y.key = k.key ∧ f = (T, M', ⟨false, C.told_Key, y.val, C.told_Err⟩, none)) ∨
  ((∀ y ∈ ks, y.key ≠ k.key) ∧ ∃ T' M' l' ks', BInv T' M' l' r ks' (j + 1) ∧ (NExt T.nodes T'.nodes ∧ Grew T.nodes T'.nodes k l l') ∧ (∀ y, y ∈ ks' ↔ y ∈ ks ∨ y = ⟨k.key, 0, k.val, -1⟩) ∧ f = (T', M', ⟨true, C.told_Key, k.val, C.told_Err⟩, none))) := by
 have b1 := I.b1
 have b2 := I.b2
 have b3 := I.b3
 have bi := I.bi
 refine (search (b := 6) (by omega) (.nd 0 l r) s0 M I.lay rfl (fun M1 hM1 => ?_)).le (by omega)
 obtain ⟨x, h1, h2, h3, h4⟩ := I.cases hk
 have hlf := dsc_leaf (N := T.nodes) (K := M.cells) (k := k) (.nd 0 l r) s0 rfl
 rcases h4 with ⟨e, h5, h6⟩ | ⟨e, h5⟩
 ·
  rw [ins_there hlf h1 e]
  exact Outc.done (.inl ⟨M1, x, hM1, h5, h6, rfl⟩)
 ·
  obtain ⟨hp, hpw⟩ := dsc_nd (N := T.nodes) (K := M.cells) (k := k) (i := 0) (l := l) (r := r) s0 0
  obtain ⟨pm, y, c, w, g1, g2, g3, g4, g5, g6, g7, up⟩ := par_ok (k := k) I.dis (.nd 0 l r) 0 rfl I.lay I.nod
  rw [nk_eq g1, g2, Int.toNat_natCast, wd_eq g4] at hpw
  generalize dsc T.nodes M.cells k (.nd 0 l r) s0 = s at hlf hp hpw ⊢
  generalize hpp : parOf T.nodes k (.nd 0 l r) 0 = p at hp g1 pm ⊢
  obtain ⟨s1, e1, e2⟩ := I.lv
  have hlt := I.lay.lt
  have hc : c + 3 ≤ M.cells.length := I.dis.room _ _ _ g1 g2
  have hlf' : leafOf T.nodes k (.nd 0 l r) < T.nodes.length := (List.getElem?_eq_some_iff.mp h1).1
  generalize hLF : leafOf T.nodes k (.nd 0 l r) = lf at *
  rw [ins_grow (n := n + 1) hlf hp h1 e hpw g5 g6 (by rw [hM1]; omega) (by omega) (by omega), hM1]
  have hL : T.nodes.length = T.nodes.length := rfl
  generalize hT' : (⟨T.nodes ++ [⟨k.key, 0, k.val, -1⟩] ++ [⟨x.key, x.top, x.val, -1⟩] ++ [innOf x k M.cells.length], T.infos ++ [⟨0, (p : Int), (lf : Int), ((T.nodes.length + 2 : Nat) : Int), 0⟩]⟩ : Obst_Tree) = T'
  have hN' : T'.nodes = T.nodes ++ [⟨k.key, 0, k.val, -1⟩] ++ [⟨x.key, x.top, x.val, -1⟩] ++ [innOf x k M.cells.length] := by rw [← hT']
  have hI' : T'.infos = T.infos ++ [⟨0, (p : Int), (lf : Int), ((T.nodes.length + 2 : Nat) : Int), 0⟩] := by rw [← hT']
  have ext : NExt T.nodes T'.nodes := by
   intro i z hz
   rw [hN', List.append_assoc, List.append_assoc]
   exact NExt.app _ _ i z hz
  have n0 : T'.nodes[T.nodes.length]? = some ⟨k.key, 0, k.val, -1⟩ := by rw [hN']; simp
  have n1 : T'.nodes[T.nodes.length + 1]? = some ⟨x.key, x.top, x.val, -1⟩ := by
   rw [hN', List.getElem?_append_left (by simp), List.getElem?_append_right (by simp)]; simp
  have n2 : T'.nodes[T.nodes.length + 2]? = some (innOf x k M.cells.length) := by
   rw [hN', List.getElem?_append_right (by simp)]; simp
  have i0 : T'.infos[T.infos.length]? = some ⟨0, (p : Int), (lf : Int), ((T.nodes.length + 2 : Nat) : Int), 0⟩ := by rw [hI']; simp
  have hxx : (⟨x.key, x.top, x.val, -1⟩ : Tbst_node) = x := by rw [← h2]
  have lb : lowOf x k T.nodes.length ≤ T.nodes.length + 1 := by unfold lowOf; split <;> omega
  have hb : highOf x k T.nodes.length ≤ T.nodes.length + 1 := by unfold highOf; split <;> omega
  have hz : lessN (innOf x k M.cells.length) y = lessN k y := by
   unfold innOf
   split
   ·
    rfl
   ·
    rename_i q
    have q : lessN x k = false := by simpa using q
    have := leaf_side (N := T.nodes) (k := k) (.nd 0 l r) I.ord rfl 0 y (by rw [hpp]; exact g1)
    rw [hLF, nk_eq h1] at this
    exact this
  have hcd : c + (if lessN k y = true then 1 else 2) < c + 3 := by split <;> omega
  have hcd0 : c < c + (if lessN k y = true then 1 else 2) := by split <;> omega
  refine Outc.step (b := 5) (st_grow1 (n := n + 2) (T := T') (a := M.cells.length) (l := lowOf x k T.nodes.length) (h := highOf x k T.nodes.length) (i := T.infos.length) (by simp) (by omega) (by omega)) ?_
  refine Outc.step (b := 4) (st_grow2 (n := n + 2) (a := M.cells.length) (by simp [setc]) (by omega) (by omega)) ?_
  have w0 : (M.cells ++ [0, 0, 0])[c]? = some ((w : Nat) : Int) := by rw [List.getElem?_append_left (by omega)]; exact g4
  refine Outc.step (b := 3) (st_grow3 (n := n + 2) hp (ext _ _ g1) g2 g3 (w := (w : Int)) (by simp only [setc]; rw [gs_ne (by omega), gs_ne (by omega)]; exact w0) hpw i0 (by omega) rfl rfl rfl) ?_
  have w1 : (M.cells ++ [0, 0, 0])[c + (if lessN k y = true then 1 else 2)]? = some ((lf : Nat) : Int) := by rw [List.getElem?_append_left (by omega)]; exact g7
  refine Outc.step (b := 2) (st_turn (n := n + 2) (nx := T.nodes.length + 2) (o := lf) (ext _ _ g1) g2 g3 n2 (by omega) (by omega) (by simp only [setc]; rw [hz, gs_ne (by omega), gs_ne (by omega), gs_ne (by omega)]; exact w1)) ?_
  rw [hz, st_grows1]
  refine Outc.step (b := 1) (st_clean (n := n + 2) (p := p) (i := T.infos.length) (st := 1) (c := c) (ext _ _ g1) g2 g3 (by omega) (by omega) (by simp only [setc]; rw [gs_ne (by omega), gs_eq (by simp; omega)])) ?_
  rw [st_told]
  have hu : ∀ f, updT T.nodes k f (.nd 0 l r) = .nd 0 (updT T.nodes k f l) r := fun f => by
   have := I.dir hk
   unfold dirN at this
   rw [updT, if_pos this]
  have hll : ∀ i ∈ l.ids, i < T.nodes.length := fun i hi => hlt i (List.mem_cons_of_mem _ (List.mem_append_left _ hi))
  have hrl : ∀ i ∈ r.ids, i < T.nodes.length := fun i hi => hlt i (List.mem_cons_of_mem _ (List.mem_append_right _ hi))
  have m0 := nk_eq n0
  have m1 := nk_eq n1
  have m2 := nk_eq n2
  have ex : nk T.nodes lf = x := nk_eq h1
  have hlow : T'.nodes[lowOf x k T.nodes.length]? = some (if lessN x k = true then ⟨x.key, x.top, x.val, -1⟩ else ⟨k.key, 0, k.val, -1⟩) := by unfold lowOf; split <;> assumption
  have hhigh : T'.nodes[highOf x k T.nodes.length]? = some (if lessN x k = true then ⟨k.key, 0, k.val, -1⟩ else ⟨x.key, x.top, x.val, -1⟩) := by unfold highOf; split <;> assumption
  have lne : lowOf x k T.nodes.length ≠ highOf x k T.nodes.length := by unfold lowOf highOf; split <;> omega
  have lge : T.nodes.length ≤ lowOf x k T.nodes.length := by unfold lowOf; split <;> omega
  have hge : T.nodes.length ≤ highOf x k T.nodes.length := by unfold highOf; split <;> omega
  generalize hlo : lowOf x k T.nodes.length = lo at *
  generalize hhi : highOf x k T.nodes.length = hi at *
  have hlfl : leafOf T.nodes k l = lf := by rw [← I.leaf hk]; exact hLF
  obtain ⟨A, B, a1, a2⟩ := lvs_upd (N' := T'.nodes) (k := k) (f := .nd (T.nodes.length + 2) (.lf lo) (.lf hi)) ext hll
  rw [hlfl, ex] at a1
  have hsp := split_ks (n := ⟨k.key, 0, k.val, -1⟩) (a := nk T'.nodes lo) (b := nk T'.nodes hi) (a1.symm.trans e1) e2 I.kt rfl
   (by rw [nk_eq hlow, nk_eq hhigh]; cases q : lessN x k <;> simp [hxx])
   (fun q => by rw [nk_eq hhigh, if_pos (by rw [← q]; exact lessN_congr rfl rfl rfl hk)])
   (fun q => by rw [nk_eq hhigh, if_neg (by rw [show lessN x k = lessN x ⟨k.key, 0, k.val, -1⟩ from lessN_congr rfl rfl rfl hk, q]; simp)]; exact hxx)
  obtain ⟨ks', k1, k2⟩ := hsp
  have ordf : Ord T'.nodes (.nd (T.nodes.length + 2) (.lf lo) (.lf hi)) := by
   refine ⟨fun q hq => ?_, fun q hq => ?_, trivial, trivial⟩
   ·
    have hq : q = lo := by simpa [BT.ids] using hq
    rw [hq, nk_eq hlow, m2]
    cases q2 : lessN x k with
    | true => rw [if_pos rfl]; unfold innOf; rw [if_pos q2, ← q2]; exact lessN_congr rfl rfl rfl rfl
    | false => rw [if_neg (by simp)]; unfold innOf; rw [if_neg (by rw [q2]; simp), ← gt_of q2 e hk]; exact lessN_congr rfl hk.symm rfl rfl
   ·
    have hq : q = hi := by simpa [BT.ids] using hq
    rw [hq, nk_eq hhigh, m2]
    cases q2 : lessN x k with
    | true => rw [if_pos rfl]; unfold innOf; rw [if_pos q2, ← lessN_irrefl k]; exact lessN_congr rfl hk.symm rfl rfl
    | false => rw [if_neg (by simp)]; unfold innOf; rw [if_neg (by rw [q2]; simp), ← lessN_irrefl x]; exact lessN_congr rfl rfl rfl rfl
  have fid : ∀ q ∈ (BT.nd (T.nodes.length + 2) (.lf lo) (.lf hi)).ids, q = T.nodes.length + 2 ∨ q = lo ∨ q = hi := fun q hq => by simpa [BT.ids] using hq
  have main : ∀ Mf : Omem_Mem, Mf.cells = (((((M.cells ++ [0, 0, 0]).set (M.cells.length + 1) (lo : Int)).set (M.cells.length + 2) (hi : Int)).set c ((4 * T.infos.length + 1 : Nat) : Int)).set (c + (if lessN k y = true then 1 else 2)) ((T.nodes.length + 2 : Nat) : Int)).set c ((4 * T.infos.length + 0 : Nat) : Int) →
   BInv T' Mf (updT T.nodes k (.nd (T.nodes.length + 2) (.lf lo) (.lf hi)) l) r ks' (j + 1) := by
   intro Mf hMf
   constructor
   ·
    -- lay
    rw [← hu]
    refine up T'.nodes _ _ (4 * T.infos.length + 0) ext (fun b v hb1 hb2 hv => ?_) ?_ (by omega) (by omega) ?_ ?_
    ·
     have hbl := (List.getElem?_eq_some_iff.mp hv).1
     rw [hMf, gs_ne (by omega), gs_ne (by omega), gs_ne (by omega), gs_ne (by omega), gs_ne (by omega), List.getElem?_append_left hbl]; exact hv
    ·
     rw [hMf, gs_eq (by simp; omega)]
    ·
     rw [hMf, gs_ne (by omega), gs_eq (by simp; omega)]; rfl
    ·
     refine ⟨_, M.cells.length, 0, n2, innOf_cell _ _ _, by omega, ?_, rfl, by omega, ?_, ?_, ⟨_, hlow, by split <;> rfl⟩, ⟨_, hhigh, by split <;> rfl⟩⟩
     ·
      rw [hMf, gs_ne (by omega), gs_ne (by omega), gs_ne (by omega), gs_ne (by omega), gs_ne (by omega)]; simp
     ·
      rw [hMf, gs_ne (by omega), gs_ne (by omega), gs_ne (by omega), gs_ne (by omega), gs_eq (by simp)]; rfl
     ·
      rw [hMf, gs_ne (by omega), gs_ne (by omega), gs_ne (by omega), gs_eq (by simp)]; rfl
   ·
    -- nod
    rw [← hu]
    refine upd_nodup ?_ I.nod (fun q hq hq2 => ?_)
    ·
     simp [BT.ids]; omega
    ·
     have := hlt q hq2
     rcases fid q hq with w | w | w <;> omega
   ·
    -- ord
    rw [← hu]
    refine upd_ord ext ordf hlt I.ord (fun q hq y' hy' => ?_)
    rw [hLF, ex] at hy'
    rcases fid q hq with w | w | w
    ·
     rw [w, m2]; unfold innOf; split
     ·
      exact lessN_congr rfl rfl rfl rfl
     ·
      rw [← hy']; exact lessN_congr rfl rfl rfl rfl
    ·
     rw [w, nk_eq hlow]; split
     ·
      rw [← hy']; exact lessN_congr rfl rfl rfl rfl
     ·
      exact lessN_congr rfl hk.symm rfl rfl
    ·
     rw [w, nk_eq hhigh]; split
     ·
      exact lessN_congr rfl hk.symm rfl rfl
     ·
      rw [← hy']; exact lessN_congr rfl rfl rfl rfl
   ·
    -- dis
    have old : ∀ (i : Nat) (z : Tbst_node) (q : Nat), T'.nodes[i]? = some z → z.cell = (q : Int) → (T.nodes[i]? = some z) ∨ (i = T.nodes.length + 2 ∧ q = M.cells.length) := by
     intro i z q hz hq
     have hi3 := (List.getElem?_eq_some_iff.mp hz).1
     rw [hN'] at hi3
     simp at hi3
     by_cases c1 : i < T.nodes.length
     ·
      left
      have := ext i _ (List.getElem?_eq_getElem c1)
      rw [hz] at this
      rw [List.getElem?_eq_getElem c1]; exact this.symm
     ·
      by_cases c2 : i = T.nodes.length
      ·
       subst c2; rw [n0] at hz; cases hz; simp at hq
      ·
       by_cases c3 : i = T.nodes.length + 1
       ·
        subst c3; rw [n1] at hz; cases hz; simp at hq
       ·
        have c4 : i = T.nodes.length + 2 := by omega
        subst c4
        rw [n2] at hz
        cases hz
        rw [innOf_cell] at hq
        exact .inr ⟨rfl, by omega⟩
    constructor
    ·
     intro i i2 z z2 q q2 hz hz2 hq hq2 hne
     rcases old i z q hz hq with w | ⟨w, w2⟩ <;> rcases old i2 z2 q2 hz2 hq2 with u | ⟨u, u2⟩
     ·
      exact I.dis.apart i i2 z z2 q q2 w u hq hq2 hne
     ·
      have := I.dis.room i z q w hq; omega
     ·
      have := I.dis.room i2 z2 q2 u hq2; omega
     ·
      omega
    ·
     intro i z q hz hq
     rw [hMf]; simp only [List.length_set, List.length_append, List.length_cons, List.length_nil]
     rcases old i z q hz hq with w | ⟨w, w2⟩
     ·
      have := I.dis.room i z q w hq; omega
     ·
      omega
   ·
    obtain ⟨x0, t1, t2⟩ := I.top0
    exact ⟨x0, ext _ _ t1, t2⟩
   ·
    exact ⟨s1, by rw [a2, ← k1]; simp [lvs], e2⟩
   ·
    intro z hz
    rw [lvs_ext ext hrl] at hz
    exact I.rv z hz
   ·
    intro z hz
    rcases (k2 z).mp hz with w | w
    ·
     exact I.kt z w
    ·
     rw [w]
   ·
    rw [hN']; simp; omega
   ·
    rw [hI']; simp; omega
   ·
    rw [hMf]; simp; omega
   ·
    rw [← hu, upd_inn]
    simp only [BT.inn] at bi ⊢
    omega
  have gr : ∀ z ∈ lvs T'.nodes (.nd (T.nodes.length + 2) (.lf lo) (.lf hi)), z = nk T.nodes (leafOf T.nodes k l) ∨ z = ⟨k.key, 0, k.val, -1⟩ := by
   intro z hz
   rw [hlfl, ex]
   simp only [lvs, List.mem_append, List.mem_singleton] at hz
   rw [nk_eq hlow, nk_eq hhigh, hxx] at hz
   rcases hz with w | w <;> split at w <;> simp [w]
  exact Outc.done (.inr ⟨h5, T', _, _, ks', main _ rfl, ⟨ext, _, rfl, gr⟩, k2, rfl⟩)
end
theorem dsc_mk {N : List Tbst_node} {K : List Int} {k : Tbst_node} {i : Nat} {t o : BT} (s : Tbst_seen) : ∃ s', dsc N K k (mkN (dirN N k i) i t o) s = dsc N K k t s' ∧ s'.parent = (i : Int) ∧ s'.parentWord = wd K (nk N i).cell.toNat := by
 unfold mkN
 cases e : dirN N k i
 ·
  rw [if_neg (by simp), dsc, if_neg (by unfold dirN at e; rw [e]; simp)]; exact ⟨_, rfl, rfl, rfl⟩
 ·
  rw [if_pos rfl, dsc, if_pos (by unfold dirN at e; exact e)]; exact ⟨_, rfl, rfl, rfl⟩
theorem dsc_nd2 {N : List Tbst_node} {K : List Int} {k : Tbst_node} {i : Nat} {t o : BT} (ht : t.isNd = true) (s : Tbst_seen) (p g : Nat) :
 (dsc N K k (mkN (dirN N k i) i t o) s).parent = (parOf N k (mkN (dirN N k i) i t o) p : Int) ∧ (dsc N K k (mkN (dirN N k i) i t o) s).parentWord = wd K (nk N (parOf N k (mkN (dirN N k i) i t o) p)).cell.toNat ∧
 (dsc N K k (mkN (dirN N k i) i t o) s).grand = (grOf N k (mkN (dirN N k i) i t o) p g : Int) ∧ (dsc N K k (mkN (dirN N k i) i t o) s).grandWord = wd K (nk N (grOf N k (mkN (dirN N k i) i t o) p g)).cell.toNat := by
 have one : ∀ (s : Tbst_seen), s.parent = (i : Int) → s.parentWord = wd K (nk N i).cell.toNat → (dsc N K k t s).parent = (parOf N k t i : Int) ∧ (dsc N K k t s).parentWord = wd K (nk N (parOf N k t i)).cell.toNat ∧ (dsc N K k t s).grand = (grOf N k t i p : Int) ∧ (dsc N K k t s).grandWord = wd K (nk N (grOf N k t i p)).cell.toNat := by
  intro s h1 h2
  cases t with
  | lf _ => cases ht
  | nd a b c =>
   rw [dsc, parOf, grOf]
   split
   ·
    exact dsc_par b _ a i rfl rfl h1 h2
   ·
    exact dsc_par c _ a i rfl rfl h1 h2
 rw [parOf_mk, grOf_mk]
 obtain ⟨s', h, h1, h2⟩ := dsc_mk (N := N) (K := K) (k := k) (i := i) (t := t) (o := o) s
 rw [h]
 exact one s' h1 h2
theorem cut_ks {A B ks : List Tbst_node} {x s1 : Tbst_node} (h : A ++ x :: B = ks ++ [s1]) (hs : s1.top = 1) (hx : x.top = 0) (hp : (A ++ x :: B).Pairwise (fun a b => lessN a b = true)) :
 ∃ ks', A ++ B = ks' ++ [s1] ∧ ∀ y, y ∈ ks' ↔ y ∈ ks ∧ y ≠ x := by
 rcases List.eq_nil_or_concat B with q | ⟨B', z, q⟩
 ·
  subst q
  have h' := (List.append_inj' h rfl).2
  have h2 : x = s1 := by simpa using h'
  rw [h2] at hx; omega
 ·
  rw [List.concat_eq_append] at q
  subst q
  have h' : (A ++ x :: B') ++ [z] = ks ++ [s1] := by rw [← h]; simp
  obtain ⟨h1, h2⟩ := List.append_inj' h' rfl
  have h2 : z = s1 := by simpa using h2
  subst h2
  refine ⟨A ++ B', by simp, fun y => ?_⟩
  rw [← h1]
  rw [List.pairwise_append, List.pairwise_cons] at hp
  have n1 : x ∉ A := fun q => by have := hp.2.2 x q x List.mem_cons_self; rw [lessN_irrefl] at this; cases this
  have n2 : x ∉ B' := fun q => by have := hp.2.1.1 x (List.mem_append_left _ q); rw [lessN_irrefl] at this; cases this
  simp only [List.mem_append, List.mem_cons]
  grind
theorem del_op {T : Obst_Tree} {M : Omem_Mem} {l r : BT} {ks : List Tbst_node} {j n : Nat} {C : Obst_Call} {k : Tbst_node} {th : Clo} (I : BInv T M l r ks j) (hj : j ≤ 1000) (hk : k.top = 0) :
 Outc (n + 4) (F_bst_Tree_down (F_step (n + 3)) T M C s0 k (.c_remove_2 k th)) (2 * (j + 1) + 7) (fun f =>
  ((∀ y ∈ ks, y.key ≠ k.key) ∧ ∃ M', M'.cells = M.cells ∧ f = (T, M', ⟨false, C.told_Key, 0, C.told_Err⟩, none)) ∨
  (∃ x ∈ ks, x.key = k.key ∧ ∃ T' M' l' ks', BInv T' M' l' r ks' (j + 1) ∧ T'.nodes = T.nodes ∧ (∀ y, y ∈ ks' ↔ y ∈ ks ∧ y ≠ x) ∧ f = (T', M', ⟨true, C.told_Key, x.val, C.told_Err⟩, none))) := by
 have b1 := I.b1
 have b2 := I.b2
 have b3 := I.b3
 have bi := I.bi
 refine (search (b := 7) (by omega) (.nd 0 l r) s0 M I.lay rfl (fun M1 hM1 => ?_)).le (by omega)
 obtain ⟨x, h1, h2, h3, h4⟩ := I.cases hk
 have hlf := dsc_leaf (N := T.nodes) (K := M.cells) (k := k) (.nd 0 l r) s0 rfl
 rcases h4 with ⟨e, h5, h6⟩ | ⟨e, h5⟩
 rotate_left
 ·
  rw [rem_none hlf h1 e]
  exact Outc.done (.inl ⟨h5, M1, hM1, rfl⟩)
 ·
  have hx0 := I.kt x h5
  obtain ⟨s1, e1, e2⟩ := I.lv
  have hd := I.dir hk
  have hl : l.isNd = true := by
   cases l with
   | nd _ _ _ => rfl
   | lf i =>
    rw [lvs] at e1
    have := congrArg List.length e1
    simp at this
    rw [this] at h5; cases h5
  have hmk : BT.nd 0 l r = mkN (dirN T.nodes k 0) 0 l r := by rw [hd]; rfl
  obtain ⟨hp, hpw, hg, hgw⟩ := dsc_nd2 (N := T.nodes) (K := M.cells) (k := k) (i := 0) (t := l) (o := r) hl s0 0 0
  rw [← hmk] at hp hpw hg hgw
  obtain ⟨gm, pm, ne, xg, yp, z, c, d, w, v, s, g1, g2, g3, g4, g5, g6, g7, p1, p2, p3, p4, p5, p6, p7, p8, q1, q2, q3, q4, up⟩ := del_ok I.dis _ (.nd 0 l r) 0 l r 0 0 (Nat.le_refl _) hmk hl I.lay I.nod I.ord
  rw [nk_eq g1, g2, Int.toNat_natCast, wd_eq g4] at hgw
  rw [nk_eq p1, p2, Int.toNat_natCast, wd_eq p4] at hpw
  have hlt := I.lay.lt
  have hsl := hlt s q1
  have hpl := hlt _ pm
  have hll := hlt _ (leafOf_mem (N := T.nodes) (k := k) (.nd 0 l r))
  have room1 := I.dis.room _ _ _ g1 g2
  have room2 := I.dis.room _ _ _ p1 p2
  have apart : ∀ a b : Nat, a < 3 → b < 3 → c + a ≠ d + b := fun a b ha hb => away I.dis p1 p2 ne g1 g2 ha hb
  have dp := dn_pos (lessN k xg)
  have del0 : delT T.nodes k (.nd 0 l r) = .nd 0 (delT T.nodes k l) r := by
   rw [hmk, delT_mk, if_pos hl, hd]; rfl
  obtain ⟨A, B, a1, a2⟩ := lvs_del (N := T.nodes) (k := k) hl
  have elf : nk T.nodes (leafOf T.nodes k l) = x := by rw [← I.leaf hk]; exact nk_eq h1
  generalize dsc T.nodes M.cells k (.nd 0 l r) s0 = se at hlf hp hpw hg hgw ⊢
  generalize grOf T.nodes k (.nd 0 l r) 0 0 = g at *
  generalize parOf T.nodes k (.nd 0 l r) 0 = p at *
  generalize leafOf T.nodes k (.nd 0 l r) = lf at *
  rw [rem_begin (n := n + 2) hlf hg hp h1 e hgw g5 g6 hpw p5 p6 (by omega)]
  generalize hT' : (⟨T.nodes, T.infos ++ [⟨(g : Int), (p : Int), (lf : Int), 0, (v : Int)⟩]⟩ : Obst_Tree) = T'
  have hN' : T'.nodes = T.nodes := by rw [← hT']
  have hI' : T'.infos = T.infos ++ [⟨(g : Int), (p : Int), (lf : Int), 0, (v : Int)⟩] := by rw [← hT']
  have i0 : T'.infos[T.infos.length]? = some ⟨(g : Int), (p : Int), (lf : Int), 0, (v : Int)⟩ := by rw [hI']; simp
  have g1' := g1
  have p1' := p1
  have q3' := q3
  rw [← hN'] at g1' p1' q3'
  refine Outc.step (b := 6) (st_rem1 (n := n + 3) hg g1' g2 g3 (w := (w : Int)) (by rw [hM1]; exact g4) hgw (by omega) i0) ?_
  refine Outc.step (b := 5) (st_loses (n := n + 3) rfl p1' p2 p3 (w := (v : Int)) (by simp only [setc]; rw [gs_ne (by have := apart 0 0 (by omega) (by omega); omega), hM1]; exact p4) rfl i0) ?_
  have K2 : ∀ b u : Nat, b < 3 → 0 < b → M.cells[d + b]? = some (u : Int) → ((M1.cells.set c ((4 * T.infos.length + 2 : Nat) : Int)).set d ((4 * T.infos.length + 3 : Nat) : Int))[d + b]? = some (u : Int) := by
   intro b u hb hb0 hu
   rw [gs_ne (by omega), gs_ne (by have := apart 0 b (by omega) hb; omega), hM1]; exact hu
  have fin : ∀ M2 : Omem_Mem, M2.cells = (M1.cells.set c ((4 * T.infos.length + 2 : Nat) : Int)).set d ((4 * T.infos.length + 3 : Nat) : Int) →
   Outc (n + 4) (some (some (.c_turn_1 (g : Int) (s : Int) (p : Int) (.c_goes_1_1 ⟨(g : Int), (p : Int), (lf : Int), 0, (v : Int)⟩ (T.infos.length : Int) (.c_loses_1_1 (.c_remove_2_1_1 th x.val)))), T', M2, C)) 3 (fun f =>
   ((∀ y ∈ ks, y.key ≠ k.key) ∧ ∃ M', M'.cells = M.cells ∧ f = (T, M', ⟨false, C.told_Key, 0, C.told_Err⟩, none)) ∨
   (∃ x ∈ ks, x.key = k.key ∧ ∃ T' M' l' ks', BInv T' M' l' r ks' (j + 1) ∧ T'.nodes = T.nodes ∧ (∀ y, y ∈ ks' ↔ y ∈ ks ∧ y ≠ x) ∧ f = (T', M', ⟨true, C.told_Key, x.val, C.told_Err⟩, none))) := by
   intro M2 hM2
   have dz : (if lessN z xg = true then 1 else 2) = dn (lessN k xg) := by rw [q4]; rfl
   refine Outc.step (b := 2) (st_turn (n := n + 3) (o := p) g1' g2 g3 q3' (by omega) (by omega) (by rw [dz, hM2, gs_ne (by have := apart (dn (lessN k xg)) 0 dp.2 (by omega); omega), gs_ne (by omega), hM1]; exact g7)) ?_
   rw [dz, st_goes11]
   refine Outc.step (b := 1) (st_clean (n := n + 3) (p := g) (i := T.infos.length) (st := 2) (c := c) g1' g2 g3 (by omega) (by omega) (by simp only [setc]; rw [gs_ne (by omega), hM2, gs_ne (by have := apart 0 0 (by omega) (by omega); omega), gs_eq (by rw [hM1]; omega)])) ?_
   rw [st_loses11, st_rem211]
   have hpw2 := lvs_sorted I.ord.2.2.1
   rw [a1, elf] at hpw2
   obtain ⟨ks', k1, k2⟩ := cut_ks (by rw [← elf, ← a1]; exact e1) e2 hx0 hpw2
   have main : ∀ Mf : Omem_Mem, Mf.cells = (((M.cells.set c ((4 * T.infos.length + 2 : Nat) : Int)).set d ((4 * T.infos.length + 3 : Nat) : Int)).set (c + dn (lessN k xg)) (s : Int)).set c ((4 * T.infos.length + 0 : Nat) : Int) →
    BInv T' Mf (delT T.nodes k l) r ks' (j + 1) := by
    intro Mf hMf
    constructor
    ·
     rw [← del0]
     refine (up T'.nodes _ (4 * T.infos.length + 0) (fun i z hz => by rw [hN']; exact hz) (fun b u hb1 hb2 hb3 hu => ?_) ?_ (by omega) (by omega) ?_).1
     ·
      rw [hMf, gs_ne (by omega), gs_ne (by omega), gs_ne (by omega), gs_ne (by omega)]; exact hu
     ·
      rw [hMf, gs_eq (by simp; omega)]
     ·
      rw [hMf, gs_ne (by omega), gs_eq (by simp; omega)]
    ·
     rw [← del0]; exact del_ids.nodup I.nod
    ·
     rw [← del0, hN']; exact del_ord I.ord
    ·
     constructor
     ·
      rw [hN']; exact I.dis.apart
     ·
      rw [hN', hMf]; simp only [List.length_set]; exact I.dis.room
    ·
     rw [hN']; exact I.top0
    ·
     exact ⟨s1, by rw [hN', a2, k1], e2⟩
    ·
     rw [hN']; exact I.rv
    ·
     intro y hy; exact I.kt y ((k2 y).mp hy).1
    ·
     rw [hN']; omega
    ·
     rw [hI']; simp; omega
    ·
     rw [hMf]; simp; omega
    ·
     rw [← del0]
     have := del_inn (N := T.nodes) (k := k) (t := .nd 0 l r)
     omega
   refine Outc.done (.inr ⟨x, h5, h6, T', _, _, ks', main _ ?_, hN', k2, rfl⟩)
   simp only [setc]
   rw [hM2, hM1]
  cases hdir : lessN k yp with
  | true =>
   rw [hdir] at p7 p8
   refine Outc.step (b := 3) (st_goes2_right (n := n + 3) rfl p1' p2 p3 (s := s) (by simp only [setc]; exact K2 2 s (by omega) (by omega) p8) (by omega) rfl q2) ?_ |>.le (by omega)
   rw [st_goes1 (by omega)]
   exact fin _ rfl
  | false =>
   rw [hdir] at p7 p8
   refine Outc.step (b := 4) (st_goes2_left (n := n + 3) rfl p1' p2 p3 (by simp only [setc]; exact K2 2 lf (by omega) (by omega) p7) (by omega) rfl) ?_
   refine Outc.step (b := 3) (st_goes21 (n := n + 3) rfl p1' p2 p3 (s := s) (by simp only [setc, tick]; exact K2 1 s (by omega) (by omega) p8)) ?_
   rw [st_goes1 (by omega)]
   exact fin _ rfl
theorem step_some {n : Nat} {T T2 : Obst_Tree} {M M2 : Omem_Mem} {C C2 : Obst_Call} {x : Clo} {o : Option Clo} (h : F_step n T M C x .u = some (o, T2, M2, C2)) :
 F_bst_Call_Step n T M ⟨C.told_Ok, C.told_Key, C.told_Val, C.told_Err, some x⟩ = some (o.isNone, T2, M2, ⟨C2.told_Ok, C2.told_Key, C2.told_Val, C2.told_Err, o⟩) := by
 unfold F_bst_Call_Step
 rw [if_neg (by simp)]
 simp only [Option.bind_some]
 rw [h]
 rfl
theorem pick_cell {T : Obst_Tree} {M : Omem_Mem} {a : Nat} {v : Nat} (h : M.cells[a]? = some ((v : Nat) : Int)) (hv : v < 1099511627776) : ∃ c, F_bst_Tree_peek T M (a : Int) = some ((v : Int), T, ⟨M.cells, c⟩) := by
 obtain ⟨c, hc⟩ := peek_ok h
 refine ⟨c, ?_⟩
 unfold F_bst_Tree_peek
 rw [hc]
 simp only [Option.bind_some]
 rw [wrap_id (by omega) (by omega)]
def keysT (N : List Tbst_node) (t : BT) : List ByteArray := ((lvs N t).filter (fun x => x.top == 0)).map (·.key)
theorem keys_ok {T : Obst_Tree} (hN : T.nodes.length < 1099511627776) : ∀ (t : BT) (M : Omem_Mem) (m : Nat) (acc : List ByteArray), Lay T.nodes M.cells t → t.inn < m → acc.length + (lvs T.nodes t).length ≤ 1000000 →
 ∃ c, F_bst_Tree_Keys_1 m T M (t.root : Int) ⟨acc⟩ = some (T, ⟨M.cells, c⟩, ⟨acc ++ keysT T.nodes t⟩)
 | .lf i, M, 0, acc, _, hm, _ => by omega
 | .lf i, M, m + 1, acc, ⟨x, h1, h2⟩, hm, ha => by
  rw [F_bst_Tree_Keys_1, BT.root, getI_nat, h1]
  simp only [Option.bind_some, F_bst_node_leaf, h2]
  rw [if_neg (by decide)]
  unfold keysT
  rw [lvs, nk_eq h1]
  by_cases ht : x.top = 0
  ·
   rw [if_pos (by simpa using ht), appL_ok (by simp [lvs] at ha ⊢; omega) (by omega) (by omega)]
   exact ⟨M.count, by simp [ht]⟩
  ·
   rw [if_neg (by simpa using ht)]
   exact ⟨M.count, by simp [ht]⟩
 | .nd i l r, M, 0, acc, _, hm, _ => by omega
 | .nd i l r, M, m + 1, acc, hL, hm, ha => by
  have hlt := hL.lt
  have hl : l.root < T.nodes.length := hlt _ (List.mem_cons_of_mem _ (List.mem_append_left _ l.root_mem))
  have hr : r.root < T.nodes.length := hlt _ (List.mem_cons_of_mem _ (List.mem_append_right _ r.root_mem))
  obtain ⟨x, c, w, h1, h2, h3, h4, h5, h6, h7, h8, h9, h10⟩ := hL
  rw [lvs, List.length_append] at ha
  simp only [BT.inn] at hm
  rw [F_bst_Tree_Keys_1, BT.root, getI_nat, h1]
  simp only [Option.bind_some, F_bst_node_leaf, h2]
  have e0 : decide ((c : Int) < 0) = false := decide_eq_false (by omega)
  rw [if_pos (by rw [e0]; rfl)]
  rw [show IntKind.wrap .i64 ((c : Int) + 1) = ((c + 1 : Nat) : Int) from by rw [wrap_id (by omega) (by omega)]; omega, show IntKind.wrap .i64 ((c : Int) + 2) = ((c + 2 : Nat) : Int) from by rw [wrap_id (by omega) (by omega)]; omega]
  obtain ⟨c1, e1⟩ := pick_cell (T := T) h7 (by omega)
  rw [e1]
  simp only [Option.bind_some]
  obtain ⟨c2, e2⟩ := keys_ok hN l ⟨M.cells, c1⟩ m acc h9 (by omega) (by omega)
  rw [e2]
  simp only [Option.bind_some]
  obtain ⟨c3, e3⟩ := pick_cell (T := T) (M := ⟨M.cells, c2⟩) h8 (by omega)
  rw [e3]
  simp only [Option.bind_some]
  have lk : (keysT T.nodes l).length ≤ (lvs T.nodes l).length := by unfold keysT; rw [List.length_map]; exact List.length_filter_le _ _
  obtain ⟨c4, e4⟩ := keys_ok hN r ⟨M.cells, c3⟩ m (acc ++ keysT T.nodes l) h10 (by omega) (by rw [List.length_append]; omega)
  rw [e4]
  refine ⟨c4, ?_⟩
  simp [keysT, lvs]
theorem keptL2 (z : ByteArray) : ∀ (A B : List ByteArray) (j : Nat), (∀ a ∈ A, lessB a z = true) → (∀ b ∈ B, lessB b z = false) → ∃ r, F_ref15_Kept_L2 z (A ++ B) j = some r ∧ r.1 = ((j + A.length : Nat) : Int)
 | [], B, j, _, h => by
  cases B with
  | nil => exact ⟨_, rfl, by simp⟩
  | cons b B =>
   rw [List.nil_append, F_ref15_Kept_L2, if_neg (by rw [h b List.mem_cons_self]; simp)]
   exact ⟨_, rfl, by simp⟩
 | a :: A, B, j, h1, h2 => by
  rw [List.cons_append, F_ref15_Kept_L2, if_pos (h1 a List.mem_cons_self)]
  obtain ⟨r, c, d⟩ := keptL2 z A B (j + 1) (fun x hx => h1 x (List.mem_cons_of_mem _ hx)) h2
  exact ⟨r, c, by rw [d, List.length_cons]; omega⟩
def SoK (l : List ByteArray) : Prop := l.Pairwise (fun a b => lessB a b = true)
theorem splitK {m : List ByteArray} (h : SoK m) (k : ByteArray) : ∃ A B, m = A ++ B ∧ (∀ a ∈ A, lessB a k = true) ∧ (∀ b ∈ B, lessB b k = false) := by
 induction m with
 | nil => exact ⟨[], [], rfl, fun _ h => absurd h List.not_mem_nil, fun _ h => absurd h List.not_mem_nil⟩
 | cons a m ih =>
  unfold SoK at h
  rw [List.pairwise_cons] at h
  cases hc : lessB a k with
  | true =>
   obtain ⟨A, B, e, h1, h2⟩ := ih h.2
   refine ⟨a :: A, B, by rw [e]; rfl, fun x hx => ?_, h2⟩
   rcases List.mem_cons.mp hx with q | q
   ·
    subst q; exact hc
   ·
    exact h1 x q
  | false =>
   refine ⟨[], a :: m, rfl, fun _ h => absurd h List.not_mem_nil, fun b hb => ?_⟩
   rcases List.mem_cons.mp hb with q | q
   ·
    subst q; exact hc
   ·
    cases e : lessB b k with
    | false => rfl
    | true => have := less_trans (h.1 b q) e; rw [hc] at this; cases this
theorem kept_ok : ∀ (l : List ByteArray) (i : Nat) (out : List ByteArray), SoK out → out.length + l.length ≤ 100000 → ∃ ys, F_ref15_Kept_L1 l i out = some ys ∧ SoK ys ∧ ∀ k, k ∈ ys ↔ k ∈ out ∨ k ∈ l
 | [], i, out, h, _ => ⟨out, rfl, h, fun k => by simp⟩
 | z :: l, i, out, h, hl => by
  rw [List.length_cons] at hl
  obtain ⟨A, B, rfl, hA, hB⟩ := splitK h z
  rw [List.length_append] at hl
  obtain ⟨s, g1, g2⟩ := keptL2 z A B 0 hA hB
  rw [Nat.zero_add] at g2
  rw [F_ref15_Kept_L1, g1]
  simp only [Option.bind_some]
  rw [g2]
  have ins : (∀ b ∈ B, b ≠ z) → ∃ ys, ((subL0 (A ++ B) 0 (A.length : Int)).bind fun x13 => (appL 16 ([] : List ByteArray) x13).bind fun x15 => (appL 16 (([] : List ByteArray) ++ x13) ([z] : List ByteArray)).bind fun x18 => (subL0 (A ++ B) (A.length : Int) ((A ++ B).length : Int)).bind fun x19 => (appL 16 ((([] : List ByteArray) ++ x13) ++ ([z] : List ByteArray)) x19).bind fun x20 => F_ref15_Kept_L1 l (i + 1) (((([] : List ByteArray) ++ x13) ++ ([z] : List ByteArray)) ++ x19)) = some ys ∧ SoK ys ∧ ∀ k, k ∈ ys ↔ k ∈ A ++ B ∨ k ∈ z :: l := by
   intro hne
   have e1 : subL0 (A ++ B) 0 (A.length : Int) = some A := by
    unfold subL0
    rw [if_pos ⟨by omega, by omega, by rw [List.length_append]; omega⟩]
    simp
   have e2 : subL0 (A ++ B) (A.length : Int) ((A ++ B).length : Int) = some B := by
    unfold subL0
    rw [if_pos ⟨by omega, by rw [List.length_append]; omega, by omega⟩, Int.toNat_natCast, Int.toNat_natCast, List.drop_left, List.take_of_length_le (by rw [List.length_append]; omega)]
   rw [e1, e2]
   simp only [Option.bind_some]
   rw [appL_ok (by simp; omega) (by omega) (by omega)]
   simp only [Option.bind_some]
   rw [appL_ok (by simp; omega) (by omega) (by omega)]
   simp only [Option.bind_some]
   rw [appL_ok (by simp; omega) (by omega) (by omega)]
   simp only [Option.bind_some, List.nil_append]
   have so : SoK (A ++ [z] ++ B) := by
    unfold SoK at h ⊢
    rw [List.pairwise_append] at h
    rw [List.append_assoc, List.pairwise_append]
    refine ⟨h.1, ?_, fun a ha b hb' => ?_⟩
    ·
     rw [List.singleton_append, List.pairwise_cons]
     refine ⟨fun b hb' => ?_, h.2.1⟩
     cases w : lessB z b with
     | true => rfl
     | false => exact absurd (less_total w (hB b hb')).symm (hne b hb')
    ·
     rw [List.singleton_append] at hb'
     rcases List.mem_cons.mp hb' with q | q
     ·
      rw [q]; exact hA a ha
     ·
      exact h.2.2 a ha b q
   obtain ⟨ys, k1, k2, k3⟩ := kept_ok l (i + 1) (A ++ [z] ++ B) so (by simp; omega)
   refine ⟨ys, k1, k2, fun k => ?_⟩
   rw [k3]
   simp only [List.mem_append, List.mem_cons, List.not_mem_nil, or_false]
   grind
  have there : (∃ b ∈ B, b = z) → ∃ B', B = z :: B' := by
   rintro ⟨b, hb, rfl⟩
   cases B with
   | nil => cases hb
   | cons c B' =>
    refine ⟨B', ?_⟩
    rcases List.mem_cons.mp hb with q | q
    ·
     rw [q]
    ·
     exfalso
     unfold SoK at h
     rw [List.pairwise_append, List.pairwise_cons] at h
     have := h.2.1.1 b q
     rw [hB c List.mem_cons_self] at this; cases this
  cases B with
  | nil =>
   rw [show decide ((A.length : Int) < ((A ++ ([] : List ByteArray)).length : Int)) = false from decide_eq_false (by simp)]
   simp only [Bool.false_eq_true, if_false, Option.bind_some]
   obtain ⟨ys, k1, k2⟩ := ins (fun b hb => absurd hb List.not_mem_nil)
   refine ⟨ys, ?_, k2⟩
   rw [← k1]
   simp only [Option.bind_assoc, Option.bind_some]
  | cons c B =>
   rw [show decide ((A.length : Int) < ((A ++ c :: B).length : Int)) = true from decide_eq_true (by simp; omega)]
   rw [if_pos rfl, getI_nat, show (A ++ c :: B)[A.length]? = some c from by simp]
   simp only [Option.bind_some]
   by_cases hc : c = z
   ·
    subst hc
    rw [if_pos (eqB_self _)]
    simp only [Option.bind_some]
    obtain ⟨ys, k1, k2, k3⟩ := kept_ok l (i + 1) (A ++ c :: B) h (by simp at hl ⊢; omega)
    refine ⟨ys, k1, k2, fun k => ?_⟩
    rw [k3]
    simp only [List.mem_append, List.mem_cons]
    grind
   ·
    rw [if_neg (by rw [eqB_ne.mpr hc]; simp)]
    have hne : ∀ b ∈ c :: B, b ≠ z := by
     intro b hb q
     obtain ⟨B', hB'⟩ := there ⟨b, hb, q⟩
     exact hc (List.cons.inj hB').1
    obtain ⟨ys, k1, k2⟩ := ins hne
    refine ⟨ys, ?_, k2⟩
    rw [← k1]
    simp only [Option.bind_assoc, Option.bind_some]
theorem sameB (p : List ByteArray) : F_ref15_Same p p = some true := by
 unfold F_ref15_Same
 rw [if_neg (by simp)]
 have : ∀ (r : List ByteArray) (i : Nat), p.drop i = r → F_ref15_Same_L1 p r i = some (.go ()) := by
  intro r
  induction r with
  | nil => intro i _; rw [F_ref15_Same_L1]
  | cons z r ih =>
   intro i h
   have hlt : i < p.length := by
    rcases Nat.lt_or_ge i p.length with q | q
    ·
     exact q
    ·
     rw [List.drop_of_length_le q] at h; cases h
   have hz : p[i] = z := by
    have := List.drop_eq_getElem_cons hlt
    rw [h] at this
    exact (List.cons.inj this).1.symm
   rw [F_ref15_Same_L1, getI_nat, List.getElem?_eq_getElem hlt]
   simp only [Option.bind_some]
   rw [hz, eqB_self]
   rw [if_neg (by simp)]
   exact ih (i + 1) (by rw [← List.drop_drop, h]; rfl)
 rw [this p 0 rfl]
 rfl
theorem BInv.mono {T : Obst_Tree} {M : Omem_Mem} {l r : BT} {ks : List Tbst_node} {j j' : Nat} (I : BInv T M l r ks j) (h : j ≤ j') : BInv T M l r ks j' :=
 ⟨I.lay, I.nod, I.ord, I.dis, I.top0, I.lv, I.rv, I.kt, by have := I.b1; omega, by have := I.b2; omega, by have := I.b3; omega, by have := I.bi; omega⟩
theorem BInv.cells {T : Obst_Tree} {M M' : Omem_Mem} {l r : BT} {ks : List Tbst_node} {j : Nat} (I : BInv T M l r ks j) (h : M'.cells = M.cells) : BInv T M' l r ks j := by
 obtain ⟨a, b, c, d, e, f, g, k, b1, b2, b3, bi⟩ := I
 exact ⟨by rw [h]; exact a, b, c, by rw [h]; exact d, e, f, g, k, b1, b2, by rw [h]; exact b3, bi⟩
theorem BInv.kkey {T : Obst_Tree} {M : Omem_Mem} {l r : BT} {ks : List Tbst_node} {j : Nat} (I : BInv T M l r ks j) : (∀ x ∈ ks, x.cell = -1) ∧ ks.Pairwise (fun a b => lessB a.key b.key = true) := by
 obtain ⟨s1, e1, e2⟩ := I.lv
 refine ⟨fun x hx => lvs_cell I.lay (by rw [lvs, e1]; simp [hx]), ?_⟩
 have := lvs_sorted I.ord.2.2.1
 rw [e1, List.pairwise_append] at this
 refine this.1.imp_of_mem (fun {a b} ha hb q => ?_)
 rcases lessN_iff.mp q with w | w
 ·
  have h1 := I.kt a ha; have h2 := I.kt b hb; omega
 ·
  exact w.2
theorem BInv.keys {T : Obst_Tree} {M : Omem_Mem} {l r : BT} {ks : List Tbst_node} {j : Nat} (I : BInv T M l r ks j) : keysT T.nodes (.nd 0 l r) = ks.map (·.key) := by
 obtain ⟨s1, e1, e2⟩ := I.lv
 unfold keysT
 rw [lvs, e1, List.filter_append, List.filter_append]
 have h1 : ks.filter (fun x => x.top == 0) = ks := List.filter_eq_self.mpr (fun x hx => by simpa using I.kt x hx)
 have h2 : [s1].filter (fun x => x.top == 0) = [] := by simp [e2]
 have h3 : (lvs T.nodes r).filter (fun x => x.top == 0) = [] := List.filter_eq_nil_iff.mpr (fun x hx => by rw [I.rv x hx]; decide)
 rw [h1, h2, h3]
 simp
theorem lvs_len {N : List Tbst_node} : ∀ t : BT, (lvs N t).length = t.inn + 1
 | .lf i => rfl
 | .nd i l r => by rw [lvs, List.length_append, lvs_len l, lvs_len r, BT.inn]; omega
section
variable {n : Nat} {T : Obst_Tree} {M : Omem_Mem} {x0 : Tbst_node} {k : ByteArray} {v : Int}
theorem dn0 {rc : RC} {C : Obst_Call} {kn : Tbst_node} {th : Clo} (h : T.nodes[0]? = some x0) (hc : 0 ≤ x0.cell) : F_bst_Tree_down rc T M C s0 kn th = some (some (.c_down_1 ⟨0, 0, 0, 0, 0, -1⟩ kn th), T, M, C) := down_nd (i := 0) rfl h hc
theorem beg_find (h : T.nodes[0]? = some x0) (hc : 0 ≤ x0.cell) : F_bst_Tree_Find n T M k = some (⟨false, k, 0, 0, some (.c_down_1 ⟨0, 0, 0, 0, 0, -1⟩ ⟨k, 0, 0, 0⟩ (.c_Find_1_1 ⟨k, 0, 0, 0⟩))⟩, T, M) := by
 unfold F_bst_Tree_Find F_bst_Tree_call_bst_Tree_Find_1 F_bst_Tree_Find_1 F_bst_Tree_search
 rw [dn0 h hc]; rfl
theorem beg_ins (h : T.nodes[0]? = some x0) (hc : 0 ≤ x0.cell) : F_bst_Tree_Insert n T M k v = some (⟨false, k, 0, 0, some (.c_down_1 ⟨0, 0, 0, 0, 0, -1⟩ ⟨k, 0, v, 0⟩ (.c_insert_2 ⟨k, 0, v, 0⟩ (.c_insert_1 ⟨k, 0, v, 0⟩)))⟩, T, M) := by
 unfold F_bst_Tree_Insert F_bst_Tree_call_bst_Tree_Insert_1 F_bst_Tree_Insert_1 F_bst_Tree_insert F_bst_Tree_search
 rw [dn0 h hc]; rfl
theorem beg_del (h : T.nodes[0]? = some x0) (hc : 0 ≤ x0.cell) : F_bst_Tree_Delete n T M k = some (⟨false, k, 0, 0, some (.c_down_1 ⟨0, 0, 0, 0, 0, -1⟩ ⟨k, 0, 0, 0⟩ (.c_remove_2 ⟨k, 0, 0, 0⟩ (.c_remove_1 ⟨k, 0, 0, 0⟩)))⟩, T, M) := by
 unfold F_bst_Tree_Delete F_bst_Tree_call_bst_Tree_Delete_1 F_bst_Tree_Delete_1 F_bst_Tree_remove F_bst_Tree_search
 rw [dn0 h hc]; rfl
end
theorem BInv.root {T : Obst_Tree} {M : Omem_Mem} {l r : BT} {ks : List Tbst_node} {j : Nat} (I : BInv T M l r ks j) : ∃ x0, T.nodes[0]? = some x0 ∧ 0 ≤ x0.cell := by
 obtain ⟨x, c, w, h1, h2, _⟩ := I.lay
 exact ⟨x, h1, by omega⟩
section
variable {T : Obst_Tree} {M : Omem_Mem} {l r : BT} {ks : List Tbst_node} {j n : Nat} {k : ByteArray} {v : Int}
theorem run_keys (I : BInv T M l r ks j) (hj : j ≤ 300) (hn : 1000 ≤ n) : ∃ c, F_bst_Tree_Keys n T M = some (ks.map (·.key), T, ⟨M.cells, c⟩) := by
 have b1 := I.b1
 have bi := I.bi
 obtain ⟨c, h⟩ := keys_ok (T := T) (by omega) (.nd 0 l r) M n [] I.lay (by omega) (by rw [lvs_len]; simp; omega)
 refine ⟨c, ?_⟩
 unfold F_bst_Tree_Keys
 rw [show (0 : Int) = ((BT.nd 0 l r).root : Int) from rfl, h, I.keys]
 rfl
end
theorem bnew_ok : F_bst_New ⟨[], 0⟩ = some (⟨[⟨ByteArray.empty, 2, 0, 0⟩, ⟨ByteArray.empty, 1, 0, -1⟩, ⟨ByteArray.empty, 2, 0, -1⟩], [⟨0, 0, 0, 0, 0⟩]⟩, ⟨[0, 1, 2], 2⟩) := by rfl
theorem inv0 : BInv ⟨[⟨ByteArray.empty, 2, 0, 0⟩, ⟨ByteArray.empty, 1, 0, -1⟩, ⟨ByteArray.empty, 2, 0, -1⟩], [⟨0, 0, 0, 0, 0⟩]⟩ ⟨[0, 1, 2], 2⟩ (.lf 1) (.lf 2) [] 0 := by
 constructor
 ·
  exact ⟨_, 0, 0, rfl, rfl, by omega, rfl, rfl, by omega, rfl, rfl, ⟨_, rfl, rfl⟩, ⟨_, rfl, rfl⟩⟩
 ·
  decide
 ·
  refine ⟨fun j hj => ?_, fun j hj => ?_, trivial, trivial⟩
  ·
   have : j = 1 := by simpa [BT.ids] using hj
   subst this; rfl
  ·
   have : j = 2 := by simpa [BT.ids] using hj
   subst this
   exact lessN_irrefl _
 ·
  have only : ∀ (i : Nat) (x : Tbst_node) (c : Nat), [(⟨ByteArray.empty, 2, 0, 0⟩ : Tbst_node), ⟨ByteArray.empty, 1, 0, -1⟩, ⟨ByteArray.empty, 2, 0, -1⟩][i]? = some x → x.cell = (c : Int) → i = 0 ∧ c = 0 := by
   intro i x c h hc
   match i, h with
   | 0, h => cases h; exact ⟨rfl, by simp at hc; omega⟩
   | 1, h => cases h; simp at hc
   | 2, h => cases h; simp at hc
   | i + 3, h => simp at h
  constructor
  ·
   intro i i2 x y c d h1 h2 h3 h4 h5
   exact absurd ((only i x c h1 h3).1.trans (only i2 y d h2 h4).1.symm) h5
  ·
   intro i x c h1 h2
   rw [(only i x c h1 h2).2]; simp
 ·
  exact ⟨_, rfl, rfl⟩
 ·
  exact ⟨⟨ByteArray.empty, 1, 0, -1⟩, rfl, rfl⟩
 ·
  intro x hx
  have : x = ⟨ByteArray.empty, 2, 0, -1⟩ := by simpa [lvs, nk] using hx
  rw [this]
 ·
  intro x hx; cases hx
 ·
  decide
 ·
  decide
 ·
  decide
 ·
  decide
theorem uniq_keyA {ks : List Tbst_node} (hs : ks.Pairwise (fun a b => lessB a.key b.key = true)) {y z : Tbst_node} (hy : y ∈ ks) (hz : z ∈ ks) (h : y.key = z.key) : y = z := by
 induction ks with
 | nil => cases hy
 | cons a ks ih =>
  rw [List.pairwise_cons] at hs
  rcases List.mem_cons.mp hy with q | q <;> rcases List.mem_cons.mp hz with w | w
  ·
   rw [q, w]
  ·
   subst q; have := hs.1 z w; rw [h, less_irrefl] at this; cases this
  ·
   subst w; have := hs.1 y q; rw [h, less_irrefl] at this; cases this
  ·
   exact ih hs.2 q w
abbrev zt : Th Obst_Call_2 := ⟨none, -1⟩
abbrev wth (o : Option Obst_Call_2) (a : Int) : List (Th Obst_Call_2) := [zt, zt, ⟨o, a⟩, zt]
abbrev cal (C : Obst_Call) (o : Option Clo) : Obst_Call_2 := ⟨C.told_Ok, C.told_Key, C.told_Val, C.told_Err, o⟩
section
variable {n : Nat} {T T2 : Obst_Tree} {M M2 : Omem_Mem} {C C2 : Obst_Call} {x y : Clo} {L : List Torder_Call} {q : Torder_Call} {c : Int}
theorem idle_two {o : Option Obst_Call_2} {a : Int} : F_crowd_Crowd_Idle ⟨wth o a, L, c⟩ 2 = some (decide (a < 0), ⟨wth o a, L, c⟩) := rfl
theorem pick_go {a : Nat} (h : F_step n T M C x .u = some (some y, T2, M2, C2)) : F_crowd_Crowd_Pick n T M ⟨wth (some (cal C (some x))) (a : Int), L, c⟩ 2 = some (true, T2, M2, ⟨wth (some (cal C2 (some y))) (a : Int), L, IntKind.i64.wrap (c + 1)⟩) := by
 unfold F_crowd_Crowd_Pick
 rw [show getI (⟨wth (some (cal C (some x))) (a : Int), L, c⟩ : Ocrowd_Crowd).threads 2 = some ⟨some (cal C (some x)), (a : Int)⟩ from rfl]
 dsimp only
 rw [if_neg (by rw [decide_eq_true_iff]; omega)]
 simp only [Option.bind_some]
 rw [step_some h]
 rfl
theorem getI_last : getI (L ++ [q]) (L.length : Int) = some q := by rw [getI_nat]; simp
theorem setI_last {v : Torder_Call} : setI (L ++ [q]) (L.length : Int) v = L ++ [v] := by
 show (L ++ [q]).set L.length v = _
 simp
theorem pick_end (h : F_step n T M C x .u = some (none, T2, M2, C2)) (he : C2.told_Err = 0) : F_crowd_Crowd_Pick n T M ⟨wth (some (cal C (some x))) (L.length : Int), L ++ [q], c⟩ 2 = some (true, T2, M2, ⟨wth none (-1), L ++ [⟨q.Kind, q.Key, C2.told_Ok, q.Inv, c⟩], IntKind.i64.wrap (c + 1)⟩) := by
 unfold F_crowd_Crowd_Pick
 rw [show getI (⟨wth (some (cal C (some x))) (L.length : Int), L ++ [q], c⟩ : Ocrowd_Crowd).threads 2 = some ⟨some (cal C (some x)), (L.length : Int)⟩ from rfl]
 dsimp only
 rw [if_neg (by rw [decide_eq_true_iff]; omega)]
 simp only [Option.bind_some]
 rw [step_some h]
 simp only [Option.bind_some]
 rw [if_pos (by rfl)]
 have ea : F_bst_Call_Answer T2 M2 (cal C2 none) = some (⟨C2.told_Ok, C2.told_Key, C2.told_Val, C2.told_Err⟩, true, T2, M2, cal C2 none) := rfl
 rw [ea]
 simp only [Option.bind_some]
 rw [getI_last]
 simp only [Option.bind_some]
 rw [he, if_pos (by rfl), setI_last, setI_last]
 rfl
theorem alone_L2 : ∀ (k m : Nat) (y : Int) (T : Obst_Tree) (M : Omem_Mem) (C : Obst_Call) (x : Clo) (T' : Obst_Tree) (M' : Omem_Mem) (C' : Obst_Call) (c : Int), Rs n k T M C (some x) (T', M', C', none) → k < m → 0 ≤ y → y + k < 2000 → 0 ≤ c → c + k ≤ 1000000 → C'.told_Err = 0 →
 ∃ u1 u2 u3 u4 u5 c', F_law16_CrowdAlone_L2 n m y (T, M) ⟨wth (some (cal C (some x))) (L.length : Int), L ++ [q], c⟩ = some (u1, u2, u3, u4, u5, (T', M'), ⟨wth none (-1), L ++ [⟨q.Kind, q.Key, C'.told_Ok, q.Inv, c'⟩], c + k⟩) ∧ 0 ≤ c'
 | 0, _, _, _, _, _, _, _, _, _, _, h, _, _, _, _, _, _ => by cases h
 | k + 1, 0, _, _, _, _, _, _, _, _, _, _, hm, _, _, _, _, _ => by omega
 | k + 1, m + 1, y, T, M, C, x, T', M', C', c, h, hm, hy, hyk, hc, hck, he => by
  have wy : IntKind.i64.wrap (y + 1) = y + 1 := wrap_id (by omega) (by omega)
  have wc : IntKind.i64.wrap (c + 1) = c + 1 := wrap_id (by omega) (by omega)
  cases h with
  | @step _ _ T2 _ M2 _ C2 _ o _ h r =>
   rw [F_law16_CrowdAlone_L2, if_pos (decide_eq_true (by omega)), idle_two]
   simp only [Option.bind_some]
   rw [decide_eq_false (show ¬ ((L.length : Int) < 0) by omega)]
   rw [if_pos (by rfl)]
   cases o with
   | none =>
    cases r
    rw [pick_end h he]
    simp only [Option.bind_some]
    obtain ⟨m, rfl⟩ : ∃ m', m = m' + 1 := ⟨m - 1, by omega⟩
    rw [F_law16_CrowdAlone_L2, wy, if_pos (decide_eq_true (by omega)), idle_two]
    simp only [Option.bind_some]
    rw [show decide ((-1 : Int) < 0) = true from rfl]
    rw [if_neg (by simp), wc]
    exact ⟨_, _, _, _, _, c, rfl, hc⟩
   | some z =>
    rw [pick_go h]
    simp only [Option.bind_some]
    rw [wy, wc]
    obtain ⟨u1, u2, u3, u4, u5, c', g, g2⟩ := alone_L2 k m (y + 1) T2 M2 C2 z T' M' C' (c + 1) r (by omega) (by omega) (by omega) (by omega) (by omega) he
    refine ⟨u1, u2, u3, u4, u5, c', ?_, g2⟩
    rw [g, show c + 1 + (k : Int) = c + ((k + 1 : Nat) : Int) from by omega]
end
theorem beg_two {T : Obst_Tree} {M : Omem_Mem} {L : List Torder_Call} {c : Int} {C : Obst_Call_2} {kind : Int} {key : ByteArray} (hL : L.length ≤ 1000) (hc : 0 ≤ c) (hc2 : c ≤ 1000000) : F_crowd_Crowd_Begin ⟨wth none (-1), L, c⟩ 2 C kind key = some (0, ⟨wth (some C) (L.length : Int), L ++ [⟨kind, key, false, c, -1⟩], c + 1⟩) := by
 unfold F_crowd_Crowd_Begin
 rw [show getI (⟨wth none (-1), L, c⟩ : Ocrowd_Crowd).threads 2 = some ⟨none, -1⟩ from rfl]
 dsimp only
 rw [if_neg (by decide)]
 unfold F_crowd_Crowd_note
 dsimp only
 rw [appL_ok (by simp; omega) (by omega) (by omega)]
 simp only [Option.bind_some]
 rw [show IntKind.i64.wrap (c + 1) = c + 1 from wrap_id (by omega) (by omega)]
 rfl
theorem in_ok (k : ByteArray) (S : List ByteArray) : ∃ b, F_ref14_In S k = some b ∧ (b = true ↔ k ∈ S) := by
 have : ∀ (S : List ByteArray) (i : Nat), ∃ s, F_ref14_In_L1 k S i = some s ∧ ((s = .out true ∧ k ∈ S) ∨ (s = .go () ∧ k ∉ S)) := by
  intro S
  induction S with
  | nil => intro i; exact ⟨_, by rw [F_ref14_In_L1], .inr ⟨rfl, List.not_mem_nil⟩⟩
  | cons z S ih =>
   intro i
   rw [F_ref14_In_L1]
   by_cases h : z = k
   ·
    rw [if_pos (eqB_iff.mpr h)]
    exact ⟨_, rfl, .inl ⟨rfl, by rw [h]; exact List.mem_cons_self⟩⟩
   ·
    rw [if_neg (by rw [eqB_ne.mpr h]; simp)]
    obtain ⟨s, h1, h2⟩ := ih (i + 1)
    refine ⟨s, h1, ?_⟩
    rcases h2 with ⟨w, w2⟩ | ⟨w, w2⟩
    ·
     exact .inl ⟨w, List.mem_cons_of_mem _ w2⟩
    ·
     refine .inr ⟨w, fun q => ?_⟩
     rcases List.mem_cons.mp q with v | v
     ·
      exact h v.symm
     ·
      exact w2 v
 unfold F_ref14_In
 obtain ⟨s, h1, h2⟩ := this S 0
 rw [h1]
 rcases h2 with ⟨rfl, w⟩ | ⟨rfl, w⟩
 ·
  exact ⟨true, rfl, by simp [w]⟩
 ·
  exact ⟨false, rfl, by simp [w]⟩
theorem dofil (c : Timpostref14_Call) : ∀ (S : List ByteArray) (i : Nat) (out : List ByteArray), out.length + S.length ≤ 100000 → F_ref14_Do_L1 c S i out = some (out ++ S.filter (fun z => !eqB z c.Key))
 | [], i, out, _ => by rw [F_ref14_Do_L1]; simp
 | z :: S, i, out, h => by
  rw [List.length_cons] at h
  rw [F_ref14_Do_L1]
  cases hz : eqB z c.Key with
  | true =>
   rw [if_neg (by simp)]
   simp only [Option.bind_some]
   rw [dofil c S (i + 1) out (by omega), List.filter_cons, if_neg (by rw [hz]; simp)]
  | false =>
   rw [if_pos (by simp), appL_ok (by simp; omega) (by omega) (by omega)]
   simp only [Option.bind_some]
   rw [dofil c S (i + 1) _ (by simp; omega), List.filter_cons, if_pos (by rw [hz]; rfl)]
   simp
def Kset (ks : List Tbst_node) (S : List ByteArray) : Prop := ∀ k, k ∈ S ↔ ∃ y ∈ ks, y.key = k
theorem rdo_ok {S : List ByteArray} (hS : S.length ≤ 1000) (kind : Int) (k : ByteArray) (h : kind = 1 ∨ kind = 2 ∨ kind = 3) :
 ∃ S' b, F_ref14_Do S ⟨kind, k, false, 0, 0⟩ = some (S', b) ∧ S'.length ≤ S.length + 1 ∧
  ((kind = 1 ∧ (∀ z, z ∈ S' ↔ z ∈ S ∨ z = k) ∧ (b = true ↔ k ∉ S)) ∨ (kind = 2 ∧ (∀ z, z ∈ S' ↔ z ∈ S ∧ z ≠ k) ∧ (b = true ↔ k ∈ S)) ∨ (kind = 3 ∧ S' = S ∧ (b = true ↔ k ∈ S))) := by
 obtain ⟨b, h1, h2⟩ := in_ok k S
 unfold F_ref14_Do
 dsimp only
 rw [h1]
 simp only [Option.bind_some]
 have fl := List.length_filter_le (fun z => !eqB z k) S
 have mf : ∀ z, z ∈ S.filter (fun z => !eqB z k) ↔ z ∈ S ∧ z ≠ k := fun z => by
  rw [List.mem_filter]
  refine and_congr_right fun _ => ?_
  by_cases q : z = k
  ·
   simp [q, eqB_self]
  ·
   simp [q, eqB_ne.mpr q]
 rcases h with rfl | rfl | rfl
 ·
  rw [if_neg (by decide), dofil _ _ _ _ (by simp; omega)]
  simp only [Option.bind_some, List.nil_append]
  rw [if_neg (by decide), appL_ok (by simp; omega) (by omega) (by omega)]
  simp only [Option.bind_some]
  refine ⟨_, _, rfl, by simp; omega, .inl ⟨by trivial, fun z => ?_, ?_⟩⟩
  ·
   rw [List.mem_append, List.mem_singleton, mf]
   by_cases q : z = k
   ·
    simp [q]
   ·
    simp [q]
  ·
   rw [← h2]; cases b <;> simp
 ·
  rw [if_neg (by decide), dofil _ _ _ _ (by simp; omega)]
  simp only [Option.bind_some, List.nil_append]
  rw [if_pos (by decide)]
  exact ⟨_, _, rfl, by omega, .inr (.inl ⟨by trivial, mf, h2⟩)⟩
 ·
  rw [if_pos (by decide)]
  exact ⟨_, _, rfl, by omega, .inr (.inr ⟨rfl, rfl, h2⟩)⟩
theorem deed_ok {T : Obst_Tree} {M : Omem_Mem} {l r : BT} {ks : List Tbst_node} {j n : Nat} {S : List ByteArray} {L : List Torder_Call} {c : Int} (I : BInv T M l r ks j) (E : Kset ks S) (hS : S.length ≤ 100) (hj : j ≤ 100) (hn : 4000 ≤ n) (hL : L.length ≤ 100) (hc0 : 0 ≤ c) (hc1 : c ≤ 500000) (kind : Int) (key : ByteArray) (hk : kind = 1 ∨ kind = 2 ∨ kind = 3) :
 ∃ S' b T' M' l' ks' W u1 u2 u3 u4 u5 c' q, F_law16_do n T M ⟨wth none (-1), L, c⟩ ⟨kind, 2, key⟩ = some (0, T, M, W) ∧ F_law16_CrowdAlone_L2 n n 0 (T, M) W = some (u1, u2, u3, u4, u5, (T', M'), ⟨wth none (-1), L ++ [q], c'⟩) ∧
  F_ref14_Do S ⟨kind, key, false, 0, 0⟩ = some (S', b) ∧ q.Ok = b ∧ 0 ≤ q.Ret ∧ BInv T' M' l' r ks' (j + 1) ∧ Kset ks' S' ∧ S'.length ≤ S.length + 1 ∧ 0 ≤ c' ∧ c' ≤ c + 2001 := by
 obtain ⟨x0, h0, hcell⟩ := I.root
 have so := I.kkey.2
 have boo : ∀ {a b : Bool}, (a = true ↔ b = true) → a = b := fun {a b} h => by cases a <;> cases b <;> simp_all
 obtain ⟨S', b, D, hl, D2⟩ := rdo_ok (S := S) (by omega) kind key hk
 have fin : ∀ {C : Obst_Call} {x : Clo} {kk : Nat} {T' : Obst_Tree} {M' : Omem_Mem} {C' : Obst_Call} {l' : BT} {ks' : List Tbst_node}, F_law16_do n T M ⟨wth none (-1), L, c⟩ ⟨kind, 2, key⟩ = some (0, T, M, ⟨wth (some (cal C (some x))) (L.length : Int), L ++ [⟨kind, key, false, c, -1⟩], c + 1⟩) → Rs n kk T M C (some x) (T', M', C', none) → kk ≤ 1999 → C'.told_Err = 0 → C'.told_Ok = b → BInv T' M' l' r ks' (j + 1) → Kset ks' S' →
  ∃ S' b T' M' l' ks' W u1 u2 u3 u4 u5 c' q, F_law16_do n T M ⟨wth none (-1), L, c⟩ ⟨kind, 2, key⟩ = some (0, T, M, W) ∧ F_law16_CrowdAlone_L2 n n 0 (T, M) W = some (u1, u2, u3, u4, u5, (T', M'), ⟨wth none (-1), L ++ [q], c'⟩) ∧
  F_ref14_Do S ⟨kind, key, false, 0, 0⟩ = some (S', b) ∧ q.Ok = b ∧ 0 ≤ q.Ret ∧ BInv T' M' l' r ks' (j + 1) ∧ Kset ks' S' ∧ S'.length ≤ S.length + 1 ∧ 0 ≤ c' ∧ c' ≤ c + 2001 := by
  intro C x kk T' M' C' l' ks' e1 e2 e3 e4 e5 e6 e7
  obtain ⟨u1, u2, u3, u4, u5, c', g1, g2⟩ := alone_L2 (n := n) (L := L) (q := ⟨kind, key, false, c, -1⟩) kk n 0 T M C x T' M' C' (c + 1) e2 (by omega) (by omega) (by omega) (by omega) (by omega) e4
  exact ⟨S', b, T', M', l', ks', _, u1, u2, u3, u4, u5, _, _, e1, g1, D, e5, g2, e6, e7, hl, by omega, by omega⟩
 have memS : ∀ {y : Tbst_node}, y ∈ ks → y.key ∈ S := fun {y} hy => (E y.key).mpr ⟨y, hy, rfl⟩
 have notS : (∀ y ∈ ks, y.key ≠ key) → key ∉ S := fun h q => by obtain ⟨y, hy, e⟩ := (E key).mp q; exact h y hy e
 rcases D2 with ⟨rfl, d1, d2⟩ | ⟨rfl, d1, d2⟩ | ⟨rfl, rfl, d2⟩
 ·
  obtain ⟨m, rfl⟩ : ∃ m, n = m + 3 := ⟨n - 3, by omega⟩
  have H := ins_op (n := m) (C := ⟨false, key, 0, 0⟩) (k := ⟨key, 0, 5, 0⟩) (th := .c_insert_1 ⟨key, 0, 5, 0⟩) I (by omega) rfl
  rw [dn0 h0 hcell] at H
  obtain ⟨o, T1, M1, C1, kk, ⟨T', M', C', o'⟩, q1, q2, q3, q4⟩ := H
  cases q1
  have hdo : F_law16_do (m + 3) T M ⟨wth none (-1), L, c⟩ ⟨1, 2, key⟩ = some (0, T, M, ⟨wth (some (cal ⟨false, key, 0, 0⟩ (some (.c_down_1 ⟨0, 0, 0, 0, 0, -1⟩ ⟨key, 0, 5, 0⟩ (.c_insert_2 ⟨key, 0, 5, 0⟩ (.c_insert_1 ⟨key, 0, 5, 0⟩)))))) (L.length : Int), L ++ [⟨1, key, false, c, -1⟩], c + 1⟩) := by
   unfold F_law16_do
   rw [if_pos (by rfl), beg_ins h0 hcell]
   simp only [Option.bind_some]
   rw [beg_two (T := T) (M := M) (by omega) hc0 (by omega)]
   rfl
  rcases q4 with ⟨M2, y, w1, w2, w3, w4⟩ | ⟨w1, T2, M2, l2, ks2, w2, w3, w4, w5⟩
  ·
   cases w4
   have w3 : y.key = key := w3
   refine fin hdo q3 (by omega) rfl (boo ?_) ((I.cells w1).mono (Nat.le_succ j)) (fun k => ?_)
   ·
    rw [d2]
    have := memS w2
    rw [w3] at this
    simp [this]
   ·
    rw [d1, E k]
    refine ⟨fun h => ?_, .inl⟩
    rcases h with h | h
    ·
     exact h
    ·
     exact ⟨y, w2, by rw [w3, h]⟩
  ·
   cases w5
   refine fin hdo q3 (by omega) rfl (boo ?_) w2 (fun k => ?_)
   ·
    rw [d2]; simp [notS w1]
   ·
    rw [d1, E k]
    constructor
    ·
     rintro (⟨y, hy, e⟩ | e)
     ·
      exact ⟨y, (w4 y).mpr (.inl hy), e⟩
     ·
      exact ⟨⟨key, 0, 5, -1⟩, (w4 _).mpr (.inr rfl), e.symm⟩
    ·
     rintro ⟨y, hy, e⟩
     rcases (w4 y).mp hy with v | v
     ·
      exact .inl ⟨y, v, e⟩
     ·
      right; rw [v] at e; exact e.symm
 ·
  obtain ⟨m, rfl⟩ : ∃ m, n = m + 4 := ⟨n - 4, by omega⟩
  have H := del_op (n := m) (C := ⟨false, key, 0, 0⟩) (k := ⟨key, 0, 0, 0⟩) (th := .c_remove_1 ⟨key, 0, 0, 0⟩) I (by omega) rfl
  rw [dn0 h0 hcell] at H
  obtain ⟨o, T1, M1, C1, kk, ⟨T', M', C', o'⟩, q1, q2, q3, q4⟩ := H
  cases q1
  have hdo : F_law16_do (m + 4) T M ⟨wth none (-1), L, c⟩ ⟨2, 2, key⟩ = some (0, T, M, ⟨wth (some (cal ⟨false, key, 0, 0⟩ (some (.c_down_1 ⟨0, 0, 0, 0, 0, -1⟩ ⟨key, 0, 0, 0⟩ (.c_remove_2 ⟨key, 0, 0, 0⟩ (.c_remove_1 ⟨key, 0, 0, 0⟩)))))) (L.length : Int), L ++ [⟨2, key, false, c, -1⟩], c + 1⟩) := by
   unfold F_law16_do
   rw [if_neg (show ¬ ((2 : Int) == 1) = true from by decide), if_pos (by rfl), beg_del h0 hcell]
   simp only [Option.bind_some]
   rw [beg_two (T := T) (M := M) (by omega) hc0 (by omega)]
   rfl
  rcases q4 with ⟨w1, M2, w2, w3⟩ | ⟨x, w1, w2, T2, M2, l2, ks2, w3, w4, w5, w6⟩
  ·
   cases w3
   refine fin hdo q3 (by omega) rfl (boo ?_) ((I.cells w2).mono (Nat.le_succ j)) (fun k => ?_)
   ·
    rw [d2]; simp [notS w1]
   ·
    rw [d1, E k]
    refine ⟨fun h => h.1, fun h => ⟨h, fun q => ?_⟩⟩
    obtain ⟨y, hy, e⟩ := h
    exact w1 y hy (e.trans q)
  ·
   cases w6
   have w2 : x.key = key := w2
   refine fin hdo q3 (by omega) rfl (boo ?_) w3 (fun k => ?_)
   ·
    rw [d2]
    have := memS w1
    rw [w2] at this
    simp [this]
   ·
    rw [d1, E k]
    constructor
    ·
     rintro ⟨⟨y, hy, e⟩, h⟩
     exact ⟨y, (w5 y).mpr ⟨hy, fun q => h (by rw [← e, q, w2])⟩, e⟩
    ·
     rintro ⟨y, hy, e⟩
     obtain ⟨v1, v2⟩ := (w5 y).mp hy
     exact ⟨⟨y, v1, e⟩, fun q => v2 (uniq_keyA so v1 w1 (by rw [e, q, w2]))⟩
 ·
  obtain ⟨m, rfl⟩ : ∃ m, n = m + 2 := ⟨n - 2, by omega⟩
  have H := find_op (n := m) (C := ⟨false, key, 0, 0⟩) (k := ⟨key, 0, 0, 0⟩) I (by omega) rfl
  rw [dn0 h0 hcell] at H
  obtain ⟨o, T1, M1, C1, kk, ⟨T', M', C', o'⟩, q1, q2, q3, M2, b2, v2, w1, w2, w3⟩ := H
  cases q1
  have hdo : F_law16_do (m + 2) T M ⟨wth none (-1), L, c⟩ ⟨3, 2, key⟩ = some (0, T, M, ⟨wth (some (cal ⟨false, key, 0, 0⟩ (some (.c_down_1 ⟨0, 0, 0, 0, 0, -1⟩ ⟨key, 0, 0, 0⟩ (.c_Find_1_1 ⟨key, 0, 0, 0⟩))))) (L.length : Int), L ++ [⟨3, key, false, c, -1⟩], c + 1⟩) := by
   unfold F_law16_do
   rw [if_neg (show ¬ ((3 : Int) == 1) = true from by decide), if_neg (show ¬ ((3 : Int) == 2) = true from by decide), if_pos (by rfl), beg_find h0 hcell]
   simp only [Option.bind_some]
   rw [beg_two (T := T) (M := M) (by omega) hc0 (by omega)]
   rfl
  cases w2
  refine fin hdo q3 (by omega) rfl (boo ?_) ((I.cells w1).mono (Nat.le_succ j)) E
  rw [d2]
  rcases w3 with ⟨y, v1, v2, rfl, _⟩ | ⟨v1, rfl, _⟩
  ·
   have v2 : y.key = key := v2
   have := memS v1
   rw [v2] at this
   simp [this]
  ·
   simp [notS v1]
theorem calls_two {L : List Torder_Call} {t : List (Th Obst_Call_2)} {c : Int} (h : L.length ≤ 1000) : F_crowd_Crowd_Calls ⟨t, L, c⟩ = some (L, ⟨t, L, c⟩) := by
 unfold F_crowd_Crowd_Calls cloneL
 rw [appL_ok (by simp; omega) (by omega) (by omega)]
 rfl
theorem alone_L1 {n : Nat} (hn : 4000 ≤ n) : ∀ (ds : List Timpostlaw16_Deed) (i : Nat) (S : List ByteArray) (T : Obst_Tree) (M : Omem_Mem) (l r : BT) (ks : List Tbst_node) (L : List Torder_Call) (j : Nat) (c : Int), BInv T M l r ks j → Kset ks S → S.length ≤ j → L.length ≤ j → 0 ≤ c → c ≤ 3000 * j → j + ds.length ≤ 60 →
 ∃ S' T' M' l' ks' W, F_law16_CrowdAlone_L1 n ds i S (T, M) ⟨wth none (-1), L, c⟩ = some (.go (S', (T', M'), W)) ∧ BInv T' M' l' r ks' 60 ∧ Kset ks' S' ∧ S'.length ≤ 60
 | [], i, S, T, M, l, r, ks, L, j, c, I, E, hS, hL, hc0, hc1, hj => by
  have hj : j ≤ 60 := by simpa using hj
  exact ⟨S, T, M, l, ks, _, by rw [F_law16_CrowdAlone_L1], I.mono hj, E, by omega⟩
 | d :: ds, i, S, T, M, l, r, ks, L, j, c, I, E, hS, hL, hc0, hc1, hj => by
  rw [List.length_cons] at hj
  rw [F_law16_CrowdAlone_L1]
  by_cases hk : d.Kind = 1 ∨ d.Kind = 2 ∨ d.Kind = 3
  ·
   have e1 : (bif (decide (d.Kind < 1)) then true else (decide (d.Kind > 3))) = false := by
    rw [decide_eq_false (by omega), decide_eq_false (by omega)]; rfl
   rw [if_neg (by rw [e1]; simp)]
   obtain ⟨S', b, T', M', l', ks', W, u1, u2, u3, u4, u5, c', q, g1, g2, g3, g4, g5, g6, g7, g8, g9, g10⟩ := deed_ok (L := L) (c := c) I E (by omega) (by omega) hn (by omega) hc0 (by omega) d.Kind d.Key hk
   rw [g1]
   simp only [Option.bind_some]
   rw [g2]
   simp only [Option.bind_some]
   rw [g3]
   simp only [Option.bind_some]
   rw [calls_two (by simp; omega)]
   simp only [Option.bind_some]
   have el : IntKind.i64.wrap (((L ++ [q]).length : Nat) - 1 : Int) = (L.length : Int) := by
    have e2 : (L ++ [q]).length = L.length + 1 := by simp
    rw [e2, wrap_id (by omega) (by omega)]; omega
   rw [if_neg (by simp; omega), el, getI_last]
   simp only [Option.bind_some]
   rw [g4, beq_self_eq_true]
   simp only [Bool.not_true, Bool.false_eq_true, if_false, Option.bind_some]
   rw [decide_eq_false (by omega)]
   simp only [Bool.false_eq_true, if_false, Option.bind_some, lpK2]
   exact alone_L1 hn ds (i + 1) S' T' M' l' r ks' (L ++ [q]) (j + 1) c' g6 g7 (by omega) (by simp; omega) g9 (by omega) (by omega)
  ·
   have e1 : (bif (decide (d.Kind < 1)) then true else (decide (d.Kind > 3))) = true := by
    by_cases w : d.Kind < 1
    ·
     rw [decide_eq_true w]; rfl
    ·
     rw [decide_eq_false w, decide_eq_true (by omega)]; rfl
   rw [if_pos e1]
   simp only [Option.bind_some, lpK2]
   exact alone_L1 hn ds (i + 1) S T M l r ks L j c I E hS hL hc0 hc1 (by omega)
theorem plain_CrowdAlone (p0 : List Timpostlaw16_Deed) (w0 : (∀ a ∈ p0, W_Timpostlaw16_Deed a) ∧ p0.length ≤ maxLen) : ∃ n, F_law16_CrowdAlone n p0 = some true := by
 refine ⟨4000, ?_⟩
 unfold F_law16_CrowdAlone
 by_cases hl : p0.length ≤ 60
 ·
  rw [if_neg (by rw [decide_eq_true_iff]; omega)]
  unfold F_law16_begun F_mem_New_nil
  simp only [Option.bind_some]
  rw [bnew_ok]
  simp only [Option.bind_some]
  rw [F_law16_begun_L1]
  simp only [Option.bind_some]
  have e4 : F_crowd_New_nil = some ⟨wth none (-1), [], 0⟩ := rfl
  rw [e4]
  simp only [Option.bind_some]
  obtain ⟨S, T, M, l', ks, W, h, I, E, hS⟩ := alone_L1 (n := 4000) (Nat.le_refl _) p0 0 [] _ _ _ _ _ [] 0 0 inv0 (fun k => by simp) (Nat.le_refl _) (Nat.le_refl _) (Int.le_refl 0) (by omega) (by omega)
  rw [h]
  simp only [Option.bind_some, lpK]
  obtain ⟨c, hk⟩ := run_keys (n := 4000) I (by omega) (by omega)
  rw [hk]
  simp only [Option.bind_some]
  obtain ⟨ys, y1, y2, y3⟩ := kept_ok S 0 [] List.Pairwise.nil (by simp; omega)
  unfold F_ref15_Kept
  rw [y1]
  simp only [Option.bind_some]
  have : ys = ks.map (·.key) := by
   refine sorted_ext (R := fun a b => lessB a b = true) (fun a q => by rw [less_irrefl] at q; cases q) (fun a b q w => by rw [less_asymm q] at w; cases w) y2 (List.pairwise_map.mpr I.kkey.2) (fun k => ?_)
   rw [y3, List.mem_map]
   simp only [List.not_mem_nil, false_or]
   exact E k
  rw [this, sameB]
  rfl
 ·
  rw [if_pos (decide_eq_true (by omega))]
end Go.Proofs.YtndhbaidibioeaaGreat.V
