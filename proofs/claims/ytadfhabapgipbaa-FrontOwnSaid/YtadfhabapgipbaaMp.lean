/- Plain models of transactions, and what entries do.
   No condition: these are definitions, and small laws of them. -/
import Derived.Test.YtadfhabapgipbaaMo
namespace Go.Proofs.Ytadfhabapgipbaa.V
open Go
set_option linter.unusedVariables false
set_option linter.unusedSimpArgs false

def cmpS (x y : ByteArray) : Int := if lessB x y then -1 else if !(lessB x y || eqB x y) then 1 else 0

structure Cmp where
  kind : Int
  key : ByteArray
  val : ByteArray
  rev : Int
  deriving DecidableEq
def Cmp.c (x : Cmp) : List Value := [.int .i64 x.kind, .string x.key, .string x.val, .int .i64 x.rev]
structure OpX where
  key : ByteArray
  val : ByteArray
  del : Bool
  deriving DecidableEq
def OpX.c (x : OpX) : List Value := [.string x.key, .string x.val, .bool x.del]
structure Evt where
  rev : Int
  key : ByteArray
  val : ByteArray
  del : Bool
  deriving DecidableEq
def Evt.c (x : Evt) : List Value := [.int .i64 x.rev, .string x.key, .string x.val, .bool x.del]

/-- Where in a sorted row. -/
def bs (p : Nat → Bool) (i j : Nat) : Nat :=
  if i < j then (if p ((i + j) / 2) then bs p ((i + j) / 2 + 1) j else bs p i ((i + j) / 2)) else i
termination_by j - i
decreasing_by all_goals omega
theorem bs_lt {p : Nat → Bool} {i j : Nat} (h : i < j) : bs p i j = if p ((i + j) / 2) then bs p ((i + j) / 2 + 1) j else bs p i ((i + j) / 2) := by
  rw [bs]; rw [if_pos h]
theorem bs_ge {p : Nat → Bool} {i j : Nat} (h : ¬ i < j) : bs p i j = i := by
  rw [bs]; rw [if_neg h]
theorem bs_le {p : Nat → Bool} : ∀ (n i j : Nat), j - i ≤ n → i ≤ j → bs p i j ≤ j := by
  intro n
  induction n with
  | zero => intro i j h1 h2; rw [bs_ge (by omega)]; exact h2
  | succ n ih =>
    intro i j h1 h2
    by_cases q : i < j
    · rw [bs_lt q]
      split
      · exact ih _ _ (by omega) (by omega)
      · exact Nat.le_trans (ih _ _ (by omega) (by omega)) (by omega)
    · rw [bs_ge q]; exact h2
def keyLt (m : List KV) (k : ByteArray) (i : Nat) : Bool := match m[i]? with | some x => decide (cmpS x.key k < 0) | none => false
def findI (m : List KV) (k : ByteArray) : Nat := bs (keyLt m k) 0 m.length
def findK (m : List KV) (k : ByteArray) : Option KV := match m[findI m k]? with | some x => if cmpS x.key k == 0 then some x else none | none => none
def kvOr : Option KV → KV
  | some x => x
  | none => ⟨ByteArray.empty, ByteArray.empty, 0⟩
/-- A compare that doesn't hold. -/
def bad1 (m : List KV) (c : Cmp) : Bool :=
  if c.kind == 1 then (!(findK m c.key).isSome || !eqB (kvOr (findK m c.key)).val c.val)
  else if (c.kind == 2 && c.rev == 0) then (findK m c.key).isSome
  else if c.kind == 2 then (!(findK m c.key).isSome || (kvOr (findK m c.key)).rev != c.rev)
  else true
def holds (m : List KV) (l : List Cmp) : Bool := !l.any (bad1 m)
def planOps (m : List KV) (l : List OpX) : List OpX := l.filter (fun o => (findK m o.key).isSome || !o.del)
def idxFrom {α : Type} (p : α → Bool) : List α → Nat → Int
  | [], _ => -1
  | x :: r, i => if p x then i else idxFrom p r (i + 1)
theorem idx_cons {α : Type} (p : α → Bool) (x : α) (r : List α) (i : Nat) : idxFrom p (x :: r) i = if p x then (i : Int) else idxFrom p r (i + 1) := rfl
theorem idx_any {α : Type} (p : α → Bool) : ∀ (l : List α) (i : Nat), decide (idxFrom p l i ≥ 0) = l.any p := by
  intro l
  induction l with
  | nil => intro i; rfl
  | cons x r ih =>
    intro i
    unfold idxFrom
    rw [List.any_cons]
    cases e : p x
    · simpa using ih (i + 1)
    · simp
theorem findK_at {m : List KV} {k : ByteArray} {x : KV} (h : findK m k = some x) : m[findI m k]? = some x ∧ cmpS x.key k = 0 := by
  unfold findK at h
  split at h
  · rename_i y hy
    split at h
    · rename_i hc
      cases h
      exact ⟨hy, by simpa using hc⟩
    · cases h
  · cases h

def evOf (rev : Int) (o : OpX) : Evt := ⟨rev, o.key, if o.del then ByteArray.empty else o.val, o.del⟩
structure PlanX where
  ok : Bool
  rows : List Evt
  err : Int
  hor : Int
def decide1 (kind rev : Int) (ok : Bool) (ops : List OpX) (hr z : Int) : PlanX :=
  if kind == 3 then (if rev > hr then ⟨false, [], 6, 0⟩ else ⟨false, [], 0, rev⟩)
  else if kind == 1 then
    (if ops.length == 0 then ⟨ok, [], 0, 0⟩ else if hr ≥ 1000 then ⟨false, [], 9, 0⟩
     else if IntKind.i64.wrap (IntKind.i64.wrap (hr + 1) - z) > 16 then ⟨false, [], 3, 0⟩
     else ⟨ok, ops.map (evOf (IntKind.i64.wrap (hr + 1))), 0, 0⟩)
  else ⟨false, [], 0, 0⟩
/-- The plan of an entry. -/
def decideX (m : List KV) (k r : Int) (cs : List Cmp) (th el : List OpX) (hr z : Int) : PlanX :=
  decide1 k r (holds m cs) (planOps m (if holds m cs then th else el)) hr z
def mapB : List KV → Bool
  | x :: y :: r => lessB x.key y.key && mapB (y :: r)
  | _ => true
theorem map_cons2 (x y : KV) (r : List KV) : mapB (x :: y :: r) = (lessB x.key y.key && mapB (y :: r)) := rfl
theorem decide_err {k r : Int} {ok : Bool} {ops : List OpX} {hr z : Int} (h : (decide1 k r ok ops hr z).err ≠ 0) : (decide1 k r ok ops hr z).rows = [] ∧ (decide1 k r ok ops hr z).ok = false ∧ (decide1 k r ok ops hr z).hor = 0 := by
  unfold decide1 at h ⊢
  repeat' split
  all_goals simp_all
theorem decide_rows {k r : Int} {ok : Bool} {ops : List OpX} {hr z : Int} : ∀ e ∈ (decide1 k r ok ops hr z).rows, e.rev = IntKind.i64.wrap (hr + 1) := by
  intro e he
  unfold decide1 at he
  repeat' split at he
  all_goals first
    | (exact absurd he (List.not_mem_nil))
    | (obtain ⟨o, _, rfl⟩ := List.mem_map.mp he; rfl)
theorem decide_len {k r : Int} {ok : Bool} {ops : List OpX} {hr z : Int} : (decide1 k r ok ops hr z).rows.length ≤ ops.length := by
  unfold decide1
  repeat' split
  all_goals simp
theorem plan_len {m : List KV} {b : Bool} {th el : List OpX} {n : Nat} (h1 : th.length ≤ n) (h2 : el.length ≤ n) : (planOps m (if b then th else el)).length ≤ n :=
  Nat.le_trans (List.length_filter_le _ _) (by split; exact h1; exact h2)
theorem wrap_ne {n : Int} (h0 : -9223372036854775808 ≤ n) (h1 : n ≤ 1099511627776) : IntKind.i64.wrap (n + 1) ≠ n := by
  rw [wrap_id (by omega) (by omega)]; omega
theorem plan_cons (m : List KV) (x : OpX) (r : List OpX) : planOps m (x :: r) = if ((findK m x.key).isSome || !x.del) then x :: planOps m r else planOps m r := by
  unfold planOps; rw [List.filter_cons]
theorem map_len {α : Type} {c : α → List Value} {k : Nat} (h : ∀ x, (c x).length = k) {l : List α} : ∀ q ∈ l.map c, q.length = k := by
  intro q hq
  obtain ⟨x, _, rfl⟩ := List.mem_map.mp hq
  exact h x
theorem roomy_le {n b : Nat} (hn : n ≤ 1000000000) (hb : b ≤ 1000) (h0 : 0 < b) : roomy n b = true := by
  unfold roomy
  rw [Bool.and_eq_true]
  refine ⟨Nat.ble_eq_true_of_le ?_, ?_⟩
  · exact Nat.le_trans (Nat.mul_le_mul (by omega : 2 * n + 1024 ≤ 2000001024) hb) (by decide)
  · simp only [Nat.blt, Nat.ble_eq]; omega
theorem mid_eq {i j : Nat} (h : i + j < 9223372036854775808) :
    IntKind.i64.wrap (Int.fdiv (IntKind.u64.wrap (IntKind.i64.wrap ((i : Int) + (j : Int)))) (2 ^ (min (Int.toNat 1) IntKind.u64.bits))) = (((i + j) / 2 : Nat) : Int) := by
  rw [wrap_id (n := (i : Int) + j) (by omega) (by omega)]
  have h1 : IntKind.u64.wrap ((i : Int) + j) = (i : Int) + j := by
    unfold IntKind.wrap; simp [IntKind.bits, IntKind.signed]; omega
  rw [h1]
  have h2 : (2 : Int) ^ (min (Int.toNat 1) IntKind.u64.bits) = 2 := by decide
  rw [h2, Int.fdiv_eq_ediv_of_nonneg _ (by omega), wrap_id (by omega) (by omega)]
  omega
end Go.Proofs.Ytadfhabapgipbaa.V
