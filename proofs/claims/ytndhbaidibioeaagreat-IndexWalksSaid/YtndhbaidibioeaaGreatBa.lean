/- The tree's steps, one by one: what each does to cells, nodes, and infos.
   No condition: these are laws of plain functions. -/
import Derived.Test.YtndhbaidibioeaaGreatPF
import Derived.Test.YtndhbaidibioeaaGreatMb
namespace Go.Proofs.YtndhbaidibioeaaGreat.V
open Go
set_option linter.unusedVariables false
set_option linter.unusedSimpArgs false
set_option maxRecDepth 100000

/-! ### Words -/
theorem wrap_u64 {n : Int} (h0 : 0 ≤ n) (h1 : n < 18446744073709551616) : IntKind.wrap .u64 n = n := by
  have : IntKind.wrap .u64 n = n % 18446744073709551616 := rfl
  rw [this, Int.emod_eq_of_lt h0 h1]
theorem and3 (w : Nat) (h : w < 18446744073709551616) : andI .u64 (w : Int) 3 = ((w % 4 : Nat) : Int) := by
  unfold andI
  have e : (BitVec.ofInt 64 (w : Int) &&& BitVec.ofInt 64 3).toNat = w % 4 := by
    rw [BitVec.toNat_and, BitVec.toNat_ofInt, BitVec.toNat_ofInt]
    have e1 : ((w : Int) % ((2 ^ 64 : Nat) : Int)).toNat = w := by
      rw [Int.emod_eq_of_lt (by omega) (by omega)]; omega
    have e2 : ((3 : Int) % ((2 ^ 64 : Nat) : Int)).toNat = 3 := rfl
    rw [e1, e2]
    exact Nat.and_two_pow_sub_one_eq_mod w 2
  show IntKind.wrap .u64 ((BitVec.ofInt 64 (w : Int) &&& BitVec.ofInt 64 3).toNat : Int) = _
  rw [e, wrap_u64 (by omega) (by omega)]
theorem wstate_ok (w : Nat) (h : w < 9223372036854775808) : F_word_State (w : Int) = some ((w % 4 : Nat) : Int) := by
  unfold F_word_State
  rw [and3 w (by omega), wrap_id (by omega) (by omega)]
theorem wpack_ok (i st : Nat) (hi : i < 1099511627776) (hs : st < 4) : F_word_Pack (st : Int) (i : Int) = some ((4 * i + st : Nat) : Int) := by
  unfold F_word_Pack
  rw [wrap_u64 (by omega) (by omega), wrap_u64 (by omega) (by omega), and3 st (by omega)]
  have e1 : shlI .u64 (i : Int) 2 = ((i * 4 : Nat) : Int) := by
    unfold shlI
    have e : (2 : Int) ^ (min (2 : Int).toNat (IntKind.bits .u64)) = 4 := rfl
    rw [e, wrap_u64 (by omega) (by omega)]
    omega
  rw [e1]
  unfold orI
  have e2 : (BitVec.ofInt 64 ((i * 4 : Nat) : Int) ||| BitVec.ofInt 64 ((st % 4 : Nat) : Int)).toNat = 4 * i + st := by
    rw [BitVec.toNat_or, BitVec.toNat_ofInt, BitVec.toNat_ofInt]
    have q1 : (((i * 4 : Nat) : Int) % ((2 ^ 64 : Nat) : Int)).toNat = i * 4 := by
      rw [Int.emod_eq_of_lt (by omega) (by omega)]; omega
    have q2 : (((st % 4 : Nat) : Int) % ((2 ^ 64 : Nat) : Int)).toNat = st := by
      rw [Int.emod_eq_of_lt (by omega) (by omega)]; omega
    rw [q1, q2]
    have := Nat.shiftLeft_add_eq_or_of_lt (a := i) (b := st) (i := 2) hs
    rw [Nat.shiftLeft_eq] at this
    rw [← this]; omega
  show some (IntKind.wrap .u64 ((BitVec.ofInt 64 ((i * 4 : Nat) : Int) ||| BitVec.ofInt 64 ((st % 4 : Nat) : Int)).toNat : Int)) = _
  rw [e2, wrap_u64 (by omega) (by omega)]

/-! ### Cells -/
def tick (M : Omem_Mem) : Omem_Mem := ⟨M.cells, IntKind.i64.wrap (M.count + 1)⟩
def setc (M : Omem_Mem) (a : Nat) (v : Int) : Omem_Mem := ⟨M.cells.set a v, IntKind.i64.wrap (M.count + 1)⟩
theorem load_ok {M : Omem_Mem} {a : Nat} {v : Int} (h : M.cells[a]? = some v) : F_mem_Mem_Load M (a : Int) = some (v, 0, tick M) := by
  unfold F_mem_Mem_Load
  rw [getI_nat, h]; rfl
theorem store_ok {M : Omem_Mem} {a : Nat} {v : Int} (h : a < M.cells.length) : F_mem_Mem_Store M (a : Int) v = some (0, setc M a v) := by
  unfold F_mem_Mem_Store
  rw [getI_nat, List.getElem?_eq_getElem h]; rfl
theorem cas_ok {M : Omem_Mem} {a : Nat} {v x : Int} (h : M.cells[a]? = some v) : F_mem_Mem_CAS M (a : Int) v x = some (v, true, setc M a x) := by
  unfold F_mem_Mem_CAS
  rw [getI_nat, h]
  simp [setc, setI]
theorem cell_ok {T : Obst_Tree} {M : Omem_Mem} {i c k : Nat} {x : Tbst_node} (h : T.nodes[i]? = some x) (hc : x.cell = (c : Int)) (hb : c + k < 4611686018427387904) : F_bst_Tree_cell T M (i : Int) (k : Int) = some (((c + k : Nat) : Int), T, M) := by
  unfold F_bst_Tree_cell
  rw [getI_nat, h]
  simp only [Option.bind_some, hc]
  rw [wrap_id (by omega) (by omega)]
  rfl
theorem grow_ok {M : Omem_Mem} (h : M.cells.length + 3 ≤ 65536) : F_mem_Mem_Grow M 3 = some ((M.cells.length : Int), 0, ⟨M.cells ++ [0, 0, 0], M.count⟩) := by
  unfold F_mem_Mem_Grow
  have e : decide ((3 : Int) > IntKind.i64.wrap (65536 - (M.cells.length : Int))) = false := by
    rw [wrap_id (by omega) (by omega)]
    exact decide_eq_false (by omega)
  rw [e]
  simp only [show decide ((3 : Int) < 0) = false from rfl, Bool.false_eq_true, if_false, Option.bind_some]
  have e2 : mkZ 3 = some [0, 0, 0] := rfl
  rw [e2]
  simp only [Option.bind_some, F_mem_Mem_add]
  rw [appL_ok (by simp; omega) (by omega) (by omega)]
  rfl

/-! ### Results told again -/
abbrev Rsl := (Option Clo) × Obst_Tree × Omem_Mem × Obst_Call
theorem rb (o : Option Rsl) : (o.bind fun x => some (x.1, (⟨x.2.1.nodes, x.2.1.infos⟩ : Obst_Tree), (⟨x.2.2.1.cells, x.2.2.1.count⟩ : Omem_Mem), (⟨x.2.2.2.told_Ok, x.2.2.2.told_Key, x.2.2.2.told_Val, x.2.2.2.told_Err⟩ : Obst_Call))) = o := by
  cases o <;> rfl

/-! ### Order -/
def lessN (a b : Tbst_node) : Bool := if (a.top != b.top) = true then decide (a.top < b.top) else lessB a.key b.key
theorem less_ok (a b : Tbst_node) : F_bst_node_less a b = some (lessN a b) := by unfold F_bst_node_less lessN; split <;> rfl
theorem lessN_irrefl (a : Tbst_node) : lessN a a = false := by unfold lessN; simp [less_irrefl]
theorem lessN_iff {a b : Tbst_node} : lessN a b = true ↔ a.top < b.top ∨ (a.top = b.top ∧ lessB a.key b.key = true) := by
  unfold lessN
  by_cases h : a.top = b.top
  · rw [if_neg (by simp [h])]
    exact ⟨fun q => .inr ⟨h, q⟩, fun q => by rcases q with q | q; omega; exact q.2⟩
  · rw [if_pos (by simpa using h), decide_eq_true_iff]
    exact ⟨fun q => .inl q, fun q => by rcases q with q | q; exact q; exact absurd q.1 h⟩
theorem lessN_neg {a b : Tbst_node} : lessN a b = false ↔ b.top < a.top ∨ (a.top = b.top ∧ lessB a.key b.key = false) := by
  constructor
  · intro h
    have h1 : ¬ (a.top < b.top ∨ (a.top = b.top ∧ lessB a.key b.key = true)) := fun q => by rw [lessN_iff.mpr q] at h; cases h
    by_cases q : a.top = b.top
    · refine .inr ⟨q, ?_⟩
      cases e : lessB a.key b.key with
      | false => rfl
      | true => exact absurd (.inr ⟨q, e⟩) h1
    · exact .inl (by have := fun w => h1 (.inl w); omega)
  · intro h
    cases e : lessN a b with
    | false => rfl
    | true =>
      rcases lessN_iff.mp e with q | q <;> rcases h with w | w
      · omega
      · omega
      · omega
      · rw [w.2] at q; cases q.2
theorem lessN_le {a b c : Tbst_node} (h1 : lessN a b = true) (h2 : lessN c b = false) : lessN a c = true := by
  rw [lessN_iff] at *
  rw [lessN_neg] at h2
  rcases h1 with q | q <;> rcases h2 with w | w
  · exact .inl (by omega)
  · exact .inl (by omega)
  · exact .inl (by omega)
  · refine .inr ⟨by omega, ?_⟩
    have := less_le (x := a.key) (y := b.key) (z := c.key) q.2 (by rw [leB_not, w.2]; rfl)
    exact this
/-- Alike in the order. -/
theorem lessN_eq {a b c : Tbst_node} (h1 : lessN a b = false) (h2 : lessN b a = false) : lessN a c = lessN b c := by
  cases e : lessN b c with
  | true =>
    cases e2 : lessN a c with
    | true => rfl
    | false => have := lessN_le e e2; rw [h2] at this; cases this
  | false =>
    cases e2 : lessN a c with
    | false => rfl
    | true => have := lessN_le e2 e; rw [h1] at this; cases this
end Go.Proofs.YtndhbaidibioeaaGreat.V
