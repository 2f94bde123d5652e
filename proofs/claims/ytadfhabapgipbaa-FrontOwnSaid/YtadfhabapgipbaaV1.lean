/- The clean machine: a deterministic big-step interpreter over the model's own code, with a heap of its own.
   No condition: these are definitions, and small laws of them. -/
import Derived.Calls
import Derived.Deep.Quiet
import Derived.Deep.LoopGhost
import Derived.Scope
import Derived.Below
namespace Go.Proofs.Ytadfhabapgipbaa.V
open Go
set_option linter.unusedVariables false
set_option linter.unusedSimpArgs false

/-! ### Tries -/
inductive Trie (α : Type) where
  | nil
  | node (v : Option α) (l r : Trie α)

namespace Trie
variable {α : Type}
def get : Trie α → Nat → Option α
  | .nil, _ => none
  | .node v l r, i => bif Nat.beq i 0 then v else bif Nat.beq (i % 2) 1 then l.get (i / 2) else r.get (i / 2 - 1)

def setF : Nat → Trie α → Nat → α → Trie α
  | 0, t, _, _ => t
  | f + 1, .nil, i, a => bif Nat.beq i 0 then .node (some a) .nil .nil else bif Nat.beq (i % 2) 1 then .node none (setF f .nil (i / 2) a) .nil else .node none .nil (setF f .nil (i / 2 - 1) a)
  | f + 1, .node v l r, i, a => bif Nat.beq i 0 then .node (some a) l r else bif Nat.beq (i % 2) 1 then .node v (setF f l (i / 2) a) r else .node v l (setF f r (i / 2 - 1) a)

def set (t : Trie α) (i : Nat) (a : α) : Trie α := setF (i + 1) t i a

theorem nb {i k : Nat} (h : ¬ i = k) : Nat.beq i k = false := by
  cases e : Nat.beq i k
  · rfl
  · exact absurd (Nat.eq_of_beq_eq_true e) h

theorem get_nil (j : Nat) : (nil : Trie α).get j = none := rfl

theorem get_setF (a : α) : ∀ (f : Nat) (t : Trie α) (i j : Nat), i < f → (setF f t i a).get j = if i = j then some a else t.get j := by
  intro f
  induction f with
  | zero => intro t i j h; omega
  | succ f ih =>
    intro t i j h
    by_cases i0 : i = 0
    · subst i0
      cases t with
      | nil =>
        by_cases j0 : j = 0
        · subst j0; simp [setF, get]
        · have : ¬ 0 = j := fun h => j0 h.symm
          simp [setF, get, nb j0, this]
      | node v l r =>
        by_cases j0 : j = 0
        · subst j0; simp [setF, get]
        · have : ¬ 0 = j := fun h => j0 h.symm
          simp [setF, get, nb j0, this]
    · have ib : Nat.beq i 0 = false := nb (by omega)
      by_cases i1 : i % 2 = 1
      · have i1b : Nat.beq (i % 2) 1 = true := by simpa using i1
        have hi : i / 2 < f := by omega
        by_cases j0 : j = 0
        · subst j0
          have : ¬ i = 0 := i0
          cases t <;> simp [setF, get, ib, i1b, this]
        · have jb : Nat.beq j 0 = false := nb (by omega)
          by_cases j1 : j % 2 = 1
          · have j1b : Nat.beq (j % 2) 1 = true := by simpa using j1
            have e : (i / 2 = j / 2) ↔ i = j := by omega
            cases t with
            | nil => simp only [setF, get, ib, i1b, jb, j1b, cond_false, cond_true, ih _ _ _ hi, e]
            | node v l r => simp only [setF, get, ib, i1b, jb, j1b, cond_false, cond_true, ih _ _ _ hi, e]
          · have j1b : Nat.beq (j % 2) 1 = false := nb (by omega)
            have : ¬ i = j := by intro e; subst e; exact j1 i1
            cases t with
            | nil => simp only [setF, get, ib, i1b, jb, j1b, cond_false, cond_true, this, if_false]
            | node v l r => simp only [setF, get, ib, i1b, jb, j1b, cond_false, cond_true, this, if_false]
      · have i1b : Nat.beq (i % 2) 1 = false := nb (by omega)
        have hi : i / 2 - 1 < f := by omega
        by_cases j0 : j = 0
        · subst j0
          have : ¬ i = 0 := i0
          cases t <;> simp [setF, get, ib, i1b, this]
        · have jb : Nat.beq j 0 = false := nb (by omega)
          by_cases j1 : j % 2 = 1
          · have j1b : Nat.beq (j % 2) 1 = true := by simpa using j1
            have : ¬ i = j := by intro e; subst e; exact i1 j1
            cases t with
            | nil => simp only [setF, get, ib, i1b, jb, j1b, cond_false, cond_true, this, if_false]
            | node v l r => simp only [setF, get, ib, i1b, jb, j1b, cond_false, cond_true, this, if_false]
          · have j1b : Nat.beq (j % 2) 1 = false := nb (by omega)
            have e : (i / 2 - 1 = j / 2 - 1) ↔ i = j := by omega
            cases t with
            | nil => simp only [setF, get, ib, i1b, jb, j1b, cond_false, ih _ _ _ hi, e]
            | node v l r => simp only [setF, get, ib, i1b, jb, j1b, cond_false, ih _ _ _ hi, e]

theorem get_set (t : Trie α) (i j : Nat) (a : α) : (t.set i a).get j = if i = j then some a else t.get j := get_setF a _ _ _ _ (by omega)
theorem get_set_same (t : Trie α) (i : Nat) (a : α) : (t.set i a).get i = some a := by rw [get_set, if_pos rfl]
theorem get_set_ne (t : Trie α) {i j : Nat} (h : i ≠ j) (a : α) : (t.set i a).get j = t.get j := by rw [get_set, if_neg h]
end Trie

/-! ### The heap -/
inductive O where
  | cells (c : List Value) (T : TypeId)
  | map (es : List (Value × Value))
  | dead
  deriving Inhabited

/-- 'base': what was there before (read only); 't': what was made since, 'n' how many; blocks below 'lim' are not written. -/
structure Heap where
  base : Nat → Nat → Option Value
  lim : Nat
  n : Nat
  t : Trie O

def Heap.get (h : Heap) (b : Nat) : Option O := h.t.get b
def Heap.set (h : Heap) (b : Nat) (o : O) : Heap := { h with t := h.t.set b o }
def Heap.alloc (h : Heap) (o : O) : Heap := { h with n := h.n + 1, t := h.t.set h.n o }

/-- Flags of addresses ('spot'): none: made here; some 0: a slice made here whose capacity may be more; some 1: of the base; some 2: a slice of nothing, wherever. -/
def elemAddr (a : Addr) (k : Nat) : Option Addr :=
  match a.spot with
  | none => some ⟨a.block, a.off + k, none⟩
  | some 0 => some ⟨a.block, a.off + k, none⟩
  | some 1 => some ⟨a.block, a.off + k, some 1⟩
  | some _ => none

def plainN : Nat → Value → Bool
  | _, .bool _ | _, .int _ _ | _, .float _ _ | _, .complex _ _ _ | _, .string _ | _, .nilFunc | _, .nilIface => true
  | _, .pointer a => a.isNone
  | _, .slice a l c => a.isNone && Nat.beq l 0 && Nat.beq c 0
  | _, .map r => r.isNone
  | _, .chan r => r.isNone
  | _, .func (.func _) f c => f.toList.isEmpty && c.toList.isEmpty
  | _, .func _ _ _ => false
  | n + 1, .iface _ v => plainN n v
  | n + 1, .agg cs => cs.toList.all (plainN n)
  | n + 1, .tuple vs => vs.toList.all (plainN n)
  | 0, _ => false

def cellOk : Value → Bool
  | .agg _ | .tuple _ => false
  | _ => true

def cellAt (h : Heap) (a : Addr) : Option Value :=
  match a.spot with
  | none => match h.get a.block with | some (.cells c _) => c[a.off]? | _ => none
  | some 1 => h.base a.block a.off
  | some _ => none

def baseCells (h : Heap) (b : Nat) : Nat → Nat → Option (List Value)
  | _, 0 => some []
  | o, n + 1 => match h.base b o with
    | some v => match baseCells h b (o + 1) n with | some r => some (v :: r) | none => none
    | none => none

def cellsAt (h : Heap) (a : Addr) (n : Nat) : Option (List Value) :=
  match a.spot with
  | none => match h.get a.block with
    | some (.cells c _) => bif Nat.ble (a.off + n) c.length then some ((c.drop a.off).take n) else none
    | _ => none
  | some 1 => baseCells h a.block a.off n
  | some _ => none

def splice (c : List Value) (off : Nat) (vs : List Value) : List Value := c.take off ++ (vs ++ c.drop (off + vs.length))

def storeCells (h : Heap) (a : Addr) (vs : List Value) : Option Heap :=
  match a.spot with
  | none => match h.get a.block with
    | some (.cells c T) =>
      bif Nat.ble h.lim a.block && Nat.ble (a.off + vs.length) c.length && vs.all cellOk then some (h.set a.block (.cells (splice c a.off vs) T)) else none
    | _ => none
  | some _ => none

/-! ### Types -/
inductive CK where
  | int (k : IntKind) | str | bool
  deriving DecidableEq

structure Env where
  P : Program
  eqT : TypeId → Option (List CK)
  prim : FuncId → Option (List Value → Heap → Option (Value × Heap))
  meth : TypeId → String → Option FuncId

/-- A method that is the type's own, and takes the value as it stands. -/
def methRow (P : Program) (t : TypeId) (name : String) : Option FuncId := match P.info? t with
  | none => none
  | some i => match i.methods.find? (·.name == name) with
    | none => none
    | some m => bif m.path.toList.isEmpty then match m.func with
        | some (f, pr) => match P.underlying t, pr with
          | some (.pointer _), true => some f
          | some (.pointer _), false => none
          | some _, false => some f
          | _, _ => none
        | none => none
      else none
def sz (P : Program) (t : TypeId) : Option Nat := match P.info? t with | some i => some i.size | none => none
def bytesOf (P : Program) (t : TypeId) : Option Nat := match P.info? t with | some i => some i.bytes | none => none
def zeroOf (P : Program) (t : TypeId) : Option Value := match P.info? t with
  | some i => match i.zero with | some z => bif plainN 4 z then some z else none | none => none
  | none => none
def isAggT (P : Program) (t : TypeId) : Option Bool := match P.underlying t with
  | some (.struct _) => some true
  | some (.array _ _) => some true
  | some _ => some false
  | none => none

/-! ### Frames -/
abbrev Fr := Trie Value
def Fr.at (fr : Fr) (t : Nat) : Value := match fr.get t with | some v => v | none => undef
def Fr.put (nt : Nat) (fr : Fr) (d : Option Tmp) (v : Value) : Option Fr :=
  match d with
  | none => some fr
  | some d => bif Nat.blt d nt then some (fr.set d v) else none

def ev (fr : Fr) : Operand → Option Value
  | .tmp t => some (fr.at t)
  | .const v => bif plainN 4 v then some v else none
  | .func f => some (.func (.func f) #[] #[])
  | .global _ => none

def evs (fr : Fr) : List Operand → Option (List Value)
  | [] => some []
  | x :: r => match ev fr x with
    | some v => match evs fr r with | some vs => some (v :: vs) | none => none
    | none => none

def evParts (fr : Fr) : List (Nat × Operand) → Option (List (Nat × Value))
  | [] => some []
  | (i, x) :: r => match ev fr x with
    | some v => match evParts fr r with | some vs => some ((i, v) :: vs) | none => none
    | none => none

def evOpt (fr : Fr) : Option Operand → Option (Option Value)
  | none => some none
  | some x => match ev fr x with | some v => some (some v) | none => none

/-! ### Operations that only read -/
def intBin (op : BinOp) (k : IntKind) (a b : Int) : Option Value :=
  match op with
  | .add => some (.int k (k.wrap (a + b)))
  | .sub => some (.int k (k.wrap (a - b)))
  | .mul => some (.int k (k.wrap (a * b)))
  | .quo => if b = 0 then none else some (.int k (k.wrap (a.tdiv b)))
  | .rem => if b = 0 then none else some (.int k (a.tmod b))
  | .and => some (.int k (k.wrap (BitVec.ofInt k.bits a &&& BitVec.ofInt k.bits b).toNat))
  | .or => some (.int k (k.wrap (BitVec.ofInt k.bits a ||| BitVec.ofInt k.bits b).toNat))
  | .xor => some (.int k (k.wrap (BitVec.ofInt k.bits a ^^^ BitVec.ofInt k.bits b).toNat))
  | .andNot => some (.int k (k.wrap (BitVec.ofInt k.bits a &&& ~~~(BitVec.ofInt k.bits b)).toNat))
  | .eql => some (.bool (a == b))
  | .neq => some (.bool (a != b))
  | .lss => some (.bool (decide (a < b)))
  | .leq => some (.bool (decide (a ≤ b)))
  | .gtr => some (.bool (decide (a > b)))
  | .geq => some (.bool (decide (a ≥ b)))
  | .shl | .shr => none

def strBin (op : BinOp) (x y : ByteArray) : Option Value :=
  match op with
  | .add => if x.size + y.size ≤ 9223372036854775807 then some (.string (x ++ y)) else none
  | .eql => some (.bool (x.toList == y.toList))
  | .neq => some (.bool (!(x.toList == y.toList)))
  | .lss => some (.bool (Op.bytesLess x.toList y.toList))
  | .leq => some (.bool (Op.bytesLess x.toList y.toList || x.toList == y.toList))
  | .gtr => some (.bool (!(Op.bytesLess x.toList y.toList || x.toList == y.toList)))
  | .geq => some (.bool (!Op.bytesLess x.toList y.toList))
  | _ => none

def ckEq : CK → Value → Value → Option Bool
  | .int k, .int k1 a, .int k2 b => if k1 = k ∧ k2 = k then some (a == b) else none
  | .str, .string a, .string b => some (a == b)
  | .bool, .bool a, .bool b => some (a == b)
  | _, _, _ => none

/-- All cells alike? (none: a cell is not of its kind) -/
def ckAll : List CK → List Value → List Value → Option Bool
  | [], [], [] => some true
  | k :: ks, x :: xs, y :: ys => match ckEq k x y with
    | some b => match ckAll ks xs ys with | some r => some (b && r) | none => none
    | none => none
  | _, _, _ => none

/-- '==' of what is no number and no text -/
def eqV (E : Env) (t : TypeId) (x y : Value) : Option Bool :=
  match E.P.underlying t, x, y with
  | some .bool, .bool a, .bool b => some (a == b)
  | some (.pointer _), .pointer none, .pointer b => some b.isNone
  | some (.pointer _), .pointer (some _), .pointer none => some false
  | some (.slice _), .slice none _ _, .slice b _ _ => some b.isNone
  | some (.slice _), .slice (some _) _ _, .slice none _ _ => some false
  | some (.map _ _), .map none, .map b => some b.isNone
  | some (.map _ _), .map (some _), .map none => some false
  | some (.func _ _ _), .nilFunc, .nilFunc => some true
  | some (.func _ _ _), .nilFunc, .func _ _ _ => some false
  | some (.func _ _ _), .func _ _ _, .nilFunc => some false
  | some (.struct _), .agg xs, .agg ys => match E.eqT t with | some ks => ckAll ks xs.toList ys.toList | none => none
  | _, _, _ => none

def binV (E : Env) (op : BinOp) (t : TypeId) (x y : Value) : Option Value :=
  match x, y with
  | .int k a, .int k' b =>
    match op with
    | .shl => if b < 0 then none else some (.int k (k.wrap (a * 2 ^ (min b.toNat k.bits))))
    | .shr => if b < 0 then none else some (.int k (a.fdiv (2 ^ (min b.toNat k.bits))))
    | op => if k = k' then intBin op k a b else none
  | .string a, .string b => strBin op a b
  | x, y => match op with
    | .eql => match eqV E t x y with | some b => some (.bool b) | none => none
    | .neq => match eqV E t x y with | some b => some (.bool (!b)) | none => none
    | _ => none

def unV (op : UnOp) (x : Value) : Option Value :=
  match op, x with
  | .neg, .int k n => some (.int k (k.wrap (0 - n)))
  | .not, .bool b => some (.bool (!b))
  | _, _ => none

def loadV (E : Env) (h : Heap) (t : TypeId) (a : Addr) : Option Value :=
  match isAggT E.P t with
  | some true => match sz E.P t with
    | some n => match cellsAt h a n with | some l => some (.agg l.toArray) | none => none
    | none => none
  | some false => cellAt h a
  | none => none

def partV (E : Env) (t : TypeId) (cs : List Value) (off : Nat) : Option Value :=
  match isAggT E.P t with
  | some true => match sz E.P t with
    | some n => some (.agg ((cs.drop off).take n).toArray)
    | none => none
  | some false => cs[off]?
  | none => none

def boundV (x : Option Value) (dflt : Nat) (y : Nat) : Option Nat :=
  match x with
  | none => some dflt
  | some (.int _ i) => if 0 ≤ i ∧ i ≤ (y : Int) then some i.toNat else none
  | some _ => none

def isSlack (a : Addr) : Bool := match a.spot with | some 0 => true | _ => false
def exactA (a : Addr) : Addr := match a.spot with | some 0 => ⟨a.block, a.off, none⟩ | _ => a

/-- A slice's new address: where nothing is left it stays; where the capacity may be more, it is nowhere. -/
def sliceAddr (a : Addr) (m l k : Nat) : Option Addr :=
  match a.spot with
  | none => bif Nat.beq m l then some a else some ⟨a.block, a.off + k, none⟩
  | some 0 => bif Nat.beq m l then some ⟨0, 0, some 2⟩ else some ⟨a.block, a.off + k, some 0⟩
  | some 1 => bif Nat.beq m l then some a else some ⟨a.block, a.off + k, some 1⟩
  | some _ => bif Nat.beq m l then some a else none

/-- A slice whose capacity may be more is cut only where its block is there, and of that type. -/
def slackOk (h : Heap) (a : Addr) (elem : TypeId) : Bool :=
  match a.spot with
  | some 0 => match h.get a.block with | some (.cells _ T) => Nat.beq T elem | _ => false
  | _ => true

def sliceV (E : Env) (hp : Heap) (t : TypeId) (x : Value) (lo hi mx : Option Value) : Option Value :=
  match E.P.underlying t, x with
  | some .string, .string s =>
    match mx with
    | some _ => none
    | none => match boundV hi s.size s.size with
      | some h => match boundV lo 0 h with | some l => some (.string (s.extract l h)) | none => none
      | none => none
  | some (.slice elem), .slice a len cap =>
    match boundV mx cap cap with
    | none => none
    | some m =>
      bif mx.isSome && hi.isNone then none else
      match boundV hi len m with
      | none => none
      | some h => match boundV lo 0 h with
        | none => none
        | some l => match sz E.P elem with
          | none => none
          | some k => match a with
            | none => some (.slice none (h - l) (m - l))
            | some a => bif Nat.ble h m && (mx.isSome || slackOk hp a elem) then
                match sliceAddr (bif mx.isSome then exactA a else a) m l (l * k) with
                | some a' => some (.slice (some a') (h - l) (m - l))
                | none => none
              else none
  | _, _ => none

def fieldsOf (P : Program) (t : TypeId) : Option (Array Field) := match P.underlying t with | some (.struct fs) => some fs | _ => none

def fieldAddrV (E : Env) (s : TypeId) (x : Value) (f : Nat) : Option Value :=
  match fieldsOf E.P s, x with
  | some fs, .pointer (some a) => match fs[f]? with
    | some fd => match sz E.P fd.type with
      | some (_ + 1) => match a.spot with
        | none => some (.pointer (some ⟨a.block, a.off + fd.offset, none⟩))
        | some 1 => some (.pointer (some ⟨a.block, a.off + fd.offset, some 1⟩))
        | some _ => none
      | _ => none
    | none => none
  | _, _ => none

def fieldV (E : Env) (t : TypeId) (x : Value) (f : Nat) : Option Value :=
  match fieldsOf E.P t, x with
  | some fs, .agg cs => match fs[f]? with
    | some fd => partV E fd.type cs.toList fd.offset
    | none => none
  | _, _ => none

def indexAddrV (E : Env) (t : TypeId) (x i : Value) : Option Value :=
  match i with
  | .int _ i => match E.P.underlying t, x with
    | some (.slice elem), .slice (some a) len _ =>
      if 0 ≤ i ∧ i < (len : Int) then
        match sz E.P elem with
        | some k => match elemAddr a (i.toNat * k) with | some a' => some (.pointer (some a')) | none => none
        | none => none
      else none
    | some (.array len elem), .pointer (some a) =>
      if 0 ≤ i ∧ i < (len : Int) then
        match sz E.P elem with
        | some k => match a.spot with
          | none => some (.pointer (some ⟨a.block, a.off + i.toNat * k, none⟩))
          | some _ => none
        | none => none
      else none
    | _, _ => none
  | _ => none

def indexV (E : Env) (t : TypeId) (x i : Value) : Option Value :=
  match i with
  | .int _ i => match E.P.underlying t, x with
    | some .string, .string s => if 0 ≤ i then match s[i.toNat]? with | some b => some (.int .u8 b.toNat) | none => none else none
    | some (.array len elem), .agg cs =>
      if 0 ≤ i ∧ i < (len : Int) then match sz E.P elem with | some k => partV E elem cs.toList (i.toNat * k) | none => none
      else none
    | _, _ => none
  | _ => none

def scalarT (P : Program) (t : TypeId) : Option TypeDesc := match P.underlying t with
  | some (.int k) => some (.int k)
  | some .string => some .string
  | some .bool => some .bool
  | _ => none

/-- An entry's place and value; none: the keys are of other kinds. -/
def findM (kind : TypeDesc) (k : Value) : List (Value × Value) → Nat → Option (Option (Nat × Value))
  | [], _ => some none
  | e :: es, i => match Instr.sameNow kind k e.1 with
    | some true => some (some (i, e.2))
    | some false => findM kind k es (i + 1)
    | none => none

def mapOf (h : Heap) : Value → Option (List (Value × Value))
  | .map none => some []
  | .map (some r) => match h.get r with | some (.map es) => some es | _ => none
  | _ => none

def lookupV (E : Env) (h : Heap) (t : TypeId) (m k : Value) (ok : Bool) : Option Value :=
  match E.P.underlying t with
  | some (.map key elem) => match (bif plainN 0 k then scalarT E.P key else none) with
    | some kd => match mapOf h m with
      | some es => match findM kd k es 0 with
        | some (some (_, v)) => some (if ok then .tuple #[v, .bool true] else v)
        | some none => match zeroOf E.P elem with
          | some z => some (if ok then .tuple #[z, .bool false] else z)
          | none => none
        | none => none
      | none => none
    | none => none
  | _ => none

def notIface (P : Program) (t : TypeId) : Bool := match P.underlying t with
  | some (.interface _) => false
  | some _ => true
  | none => false

def assertV (E : Env) (x : Value) (t : TypeId) (ok : Bool) : Option Value :=
  bif notIface E.P t then
    match x with
    | .iface u v => if u = t then some (if ok then .tuple #[v, .bool true] else v)
      else if ok then match zeroOf E.P t with | some z => some (.tuple #[z, .bool false]) | none => none else none
    | .nilIface => if ok then match zeroOf E.P t with | some z => some (.tuple #[z, .bool false]) | none => none else none
    | _ => none
  else none

def fillL (place : Nat → Option (Nat × Nat)) : List Value → List (Nat × Value) → Option (List Value)
  | cells, [] => some cells
  | cells, (i, v) :: rest =>
    match place i with
    | none => none
    | some (off, size) =>
      bif Nat.beq v.cells.size size && Nat.ble (off + size) cells.length then fillL place (splice cells off v.cells.toList) rest else none

def placesOf (P : Program) : List Field → Option (List (Nat × Nat))
  | [] => some []
  | f :: r => match sz P f.type with
    | some k => match placesOf P r with | some l => some ((f.offset, k) :: l) | none => none
    | none => none

def buildV (E : Env) (t : TypeId) (parts : List (Nat × Value)) : Option Value :=
  match zeroOf E.P t with
  | none => none
  | some z => match E.P.underlying t with
    | some (.struct fs) => match placesOf E.P fs.toList with
      | some pl => match fillL (fun i => pl[i]?) z.cells.toList parts with | some c => some (.agg c.toArray) | none => none
      | none => none
    | some (.array _ elem) => match sz E.P elem with
      | some k => match fillL (fun i => some (i * k, k)) z.cells.toList parts with | some c => some (.agg c.toArray) | none => none
      | none => none
    | _ => none

def convV (E : Env) (src dst : TypeId) (x : Value) : Option Value :=
  match E.P.underlying src, E.P.underlying dst, x with
  | some _, some (.int k), .int _ n => some (.int k (k.wrap n))
  | some _, some .string, .string s => some (.string s)
  | _, _, _ => none

def lenV (E : Env) (h : Heap) (t : TypeId) (x : Value) : Option Value :=
  match E.P.underlying t, x with
  | some .string, .string s => some (goInt s.size)
  | some (.slice _), .slice _ n _ => some (goInt n)
  | some (.map _ _), m => match mapOf h m with | some es => some (goInt es.length) | none => none
  | some (.array n _), _ => some (goInt n)
  | _, _ => none

def capV (E : Env) (t : TypeId) (x : Value) : Option Value :=
  match E.P.underlying t, x with
  | some (.slice _), .slice none _ n => some (goInt n)
  | some (.slice _), .slice (some a) _ n => match a.spot with
    | none => some (goInt n)
    | some 1 => some (goInt n)
    | some _ => none
  | _, _ => none

def max2V : Value → Value → Option Value
  | .int k x, .int _ y => some (.int k (if y > x then y else x))
  | .string x, .string y => some (.string (if !Op.bytesLess x.toList y.toList then x else y))
  | _, _ => none
def min2V : Value → Value → Option Value
  | .int k x, .int _ y => some (.int k (if y < x then y else x))
  | .string x, .string y => some (.string (if Op.bytesLess x.toList y.toList || x.toList == y.toList then x else y))
  | _, _ => none
def foldV (f : Value → Value → Option Value) : Value → List Value → Option Value
  | x, [] => some x
  | x, y :: r => match f x y with | some z => foldV f z r | none => none

def fnOk : Fn → Bool
  | .func _ => true
  | _ => false

/-- What a reading operation yields. -/
def readV (E : Env) (fr : Fr) (h : Heap) (op : Op) : Option Value :=
  match op with
  | .move x | .assign x => ev fr x
  | .pick c a b => match ev fr c with
    | some (.bool true) => ev fr a
    | some (.bool false) => ev fr b
    | _ => none
  | .load t x => match ev fr x with | some (.pointer (some a)) => loadV E h t a | _ => none
  | .nilCheck x => match ev fr x with
    | some (.pointer (some a)) => some (.pointer (some a))
    | some (.func (.func f) a c) => some (.func (.func f) a c)
    | some (.iface t v) => some (.iface t v)
    | some (.map r) => some (.map r)
    | some (.slice a l c) => some (.slice a l c)
    | _ => none
  | .binOp op t x y _ => match ev fr x, ev fr y with | some a, some b => binV E op t a b | _, _ => none
  | .unOp op _ x => match ev fr x with | some a => unV op a | none => none
  | .convert src dst x => match ev fr x with | some a => convV E src dst a | none => none
  | .makeInterface t x => bif notIface E.P t then match ev fr x with | some a => some (.iface t a) | none => none else none
  | .makeFunc fn first cap => bif fnOk fn then match evs fr first.toList, evs fr cap.toList with
    | some a, some c => some (.func fn a.toArray c.toArray) | _, _ => none else none
  | .slice t x lo hi mx => match ev fr x, evOpt fr lo, evOpt fr hi, evOpt fr mx with
    | some x, some lo, some hi, some mx => sliceV E h t x lo hi mx | _, _, _, _ => none
  | .fieldAddr s x f => match ev fr x with | some a => fieldAddrV E s a f | none => none
  | .field t x f => match ev fr x with | some a => fieldV E t a f | none => none
  | .indexAddr t x i => match ev fr x, ev fr i with | some a, some b => indexAddrV E t a b | _, _ => none
  | .index t x i => match ev fr x, ev fr i with | some a, some b => indexV E t a b | _, _ => none
  | .lookup t m k ok => match ev fr m, ev fr k with | some m, some k => lookupV E h t m k ok | _, _ => none
  | .typeAssert x _ t ok => match ev fr x with | some a => assertV E a t ok | none => none
  | .extract x i => match ev fr x with | some (.tuple vs) => vs[i]? | _ => none
  | .build t parts => match evParts fr parts.toList with | some p => buildV E t p | none => none
  | .call c => match c.callee with
    | .builtin .len => match evs fr c.args.toList with
      | some [x] => match c.argTypes[0]? with | some t => lenV E h t x | none => none
      | _ => none
    | .builtin .cap => match evs fr c.args.toList with
      | some [x] => match c.argTypes[0]? with | some t => capV E t x | none => none
      | _ => none
    | .builtin .max => match evs fr c.args.toList with | some (x :: r) => foldV max2V x r | _ => none
    | .builtin .min => match evs fr c.args.toList with | some (x :: r) => foldV min2V x r | _ => none
    | _ => none
  | _ => none

/-! ### Operations that make or write memory -/
def lenOfV : Value → Option Nat
  | .slice _ n _ => some n
  | .string s => some s.size
  | _ => none

def firstV (h : Heap) (k n : Nat) : Value → Option (List Value)
  | .slice (some a) _ _ => bif Nat.beq (n * k) 0 then some [] else match elemAddr a 0 with | some a => cellsAt h a (n * k) | none => none
  | .slice none _ _ => some []
  | .string s => some ((s.data.toList.take n).map fun b => .int .u8 b.toNat)
  | _ => none

def repZ (z : List Value) : Nat → List Value
  | 0 => []
  | n + 1 => z ++ repZ z n

def zerosV (P : Program) (ts : Array TypeId) : Option Bool :=
  match ts[1]? with
  | some t => match P.underlying t with | some (.int _) => some true | some _ => some false | none => none
  | none => some false

/-- What is appended: how many, and their cells. -/
def newV (E : Env) (h : Heap) (elem k bytes : Nat) (zeros : Bool) (x : Value) : Option (Nat × List Value) :=
  bif zeros then
    match x with
    | .int _ i => if 0 ≤ i ∧ i ≤ 140737488355328 ∧ i * bytes ≤ 281474976710656 then match zeroOf E.P elem with
      | some z => bif Nat.beq z.cells.size k then some (i.toNat, repZ z.cells.toList i.toNat) else none
      | none => none
      else none
    | _ => none
  else match lenOfV x with
    | some n => match firstV h k n x with | some c => some (n, c) | none => none
    | none => none

def roomy (n b : Nat) : Bool := Nat.ble ((2 * n + 1024) * b) 281474976710656 && Nat.blt 0 b

/-- Appended where there is room. -/
def putV (h : Heap) (base : Option Addr) (len cap n k : Nat) (new : List Value) : Option (Value × Heap) :=
  bif Nat.beq (n * k) 0 then some (.slice base (len + n) cap, h)
  else match base with
    | none => none
    | some a => match elemAddr a (len * k) with
      | none => none
      | some a' => match storeCells h a' new with
        | some h' => some (.slice base (len + n) cap, h')
        | none => none

/-- Appended where there is none: a new row; the elder one, where its capacity may be more, is gone. -/
def growV (h : Heap) (base : Option Addr) (len cap n k elem : Nat) (new : List Value) : Option (Value × Heap) :=
  match base with
  | none => bif Nat.beq len 0 then some (.slice (some ⟨h.n, 0, some 0⟩) (len + n) (len + n), h.alloc (.cells new elem)) else none
  | some a =>
    bif isSlack a then
      match h.get a.block with
      | some (.cells c T) =>
        bif Nat.ble h.lim a.block && Nat.beq T elem && Nat.ble (a.off + len * k) c.length && new.all cellOk then
          some (.slice (some ⟨h.n, 0, some 0⟩) (len + n) (len + n), (h.set a.block .dead).alloc (.cells ((c.drop a.off).take (len * k) ++ new) elem))
        else none
      | _ => none
    else match a.spot with
      | some 2 => none
      | _ => match firstV h k len (.slice (some a) len cap) with
        | some old => some (.slice (some ⟨h.n, 0, some 0⟩) (len + n) (len + n), h.alloc (.cells (old ++ new) elem))
        | none => none

def appendV (E : Env) (h : Heap) (ts : Array TypeId) (s x : Value) : Option (Value × Heap) :=
  match ts[0]? with
  | none => none
  | some sT => match E.P.underlying sT with
    | some (.slice elem) => match sz E.P elem, bytesOf E.P elem, zeroOf E.P elem, zerosV E.P ts with
      | some k, some bytes, some z, some zeros =>
        match s with
        | .slice base len cap =>
          match newV E h elem k bytes zeros x with
          | none => none
          | some (n, new) =>
            bif Nat.beq new.length (n * k) then
              bif Nat.ble (len + n) cap then putV h base len cap n k new
              else bif roomy (len + n) bytes && Nat.beq z.cells.size k then growV h base len cap n k elem new
              else none
            else none
        | _ => none
      | _, _, _, _ => none
    | _ => none

def copyV (E : Env) (h : Heap) (ts : Array TypeId) (d x : Value) : Option (Value × Heap) :=
  match ts[0]? with
  | none => none
  | some sT => match E.P.underlying sT with
    | some (.slice elem) => match sz E.P elem, d, lenOfV x with
      | some k, .slice base len _, some n =>
        match firstV h k (Nat.min n len) x with
        | none => none
        | some c =>
          bif !Nat.beq c.length (Nat.min n len * k) then none
          else bif Nat.beq (Nat.min n len * k) 0 then some (goInt (Nat.min n len), h)
          else match base with
            | none => none
            | some a => match elemAddr a 0 with
              | none => none
              | some a' => match storeCells h a' c with
                | some h' => some (goInt (Nat.min n len), h')
                | none => none
      | _, _, _ => none
    | _ => none

def clearV (E : Env) (h : Heap) (ts : Array TypeId) (x : Value) : Option (Value × Heap) :=
  match ts[0]? with
  | none => none
  | some sT => match E.P.underlying sT with
    | some (.slice elem) => match x with
      | .slice none _ _ => some (.tuple #[], h)
      | .slice (some a) n _ =>
        bif Nat.beq n 0 then some (.tuple #[], h)
        else match zeroOf E.P elem with
          | some z => match elemAddr a 0 with
            | none => none
            | some a' => match storeCells h a' (repZ z.cells.toList n) with
              | some h' => some (.tuple #[], h')
              | none => none
          | none => none
      | _ => none
    | some (.map _ _) => match x with
      | .map none => some (.tuple #[], h)
      | .map (some r) => match h.get r with
        | some (.map _) => bif Nat.ble h.lim r then some (.tuple #[], h.set r (.map [])) else none
        | _ => none
      | _ => none
    | _ => none

def deleteV (E : Env) (h : Heap) (ts : Array TypeId) (m k : Value) : Option (Value × Heap) :=
  match ts[0]? with
  | none => none
  | some mT => match E.P.underlying mT with
    | some (.map key _) => match (bif plainN 0 k then scalarT E.P key else none) with
      | some kd => match m with
        | .map none => some (.tuple #[], h)
        | .map (some r) => match h.get r with
          | some (.map es) => bif Nat.ble h.lim r then
              match findM kd k es 0 with
              | some (some (i, _)) => some (.tuple #[], h.set r (.map (es.eraseIdx i)))
              | some none => some (.tuple #[], h.set r (.map es))
              | none => none
            else none
          | _ => none
        | _ => none
      | none => none
    | _ => none

def updateV (E : Env) (h : Heap) (t : TypeId) (m k v : Value) : Option Heap :=
  match E.P.underlying t with
  | some (.map key _) => match (bif plainN 0 k then scalarT E.P key else none), m with
    | some kd, .map (some r) => match h.get r with
      | some (.map es) => bif Nat.ble h.lim r then
          match findM kd k es 0 with
          | some (some (i, _)) => some (h.set r (.map (es.set i (k, v))))
          | some none => some (h.set r (.map (es ++ [(k, v)])))
          | none => none
        else none
      | _ => none
    | _, _ => none
  | _ => none

def storeV (E : Env) (h : Heap) (t : TypeId) (a v : Value) : Option Heap :=
  match a with
  | .pointer (some a) => match sz E.P t with
    | some k => bif Nat.beq v.cells.size k then storeCells h a v.cells.toList else none
    | none => none
  | _ => none

def ptrTo (b : Nat) : Value := .pointer (some ⟨b, 0, none⟩)

def mkMapV (E : Env) (h : Heap) (t : TypeId) : Option Operand → Option (Value × Heap)
  | none => some (.map (some h.n), h.alloc (.map []))
  | some (.const (.int _ _)) => match E.P.underlying t with | some (.map _ _) => some (.map (some h.n), h.alloc (.map [])) | _ => none
  | some _ => none

def writeV (E : Env) (fr : Fr) (h : Heap) (op : Op) : Option (Value × Heap) :=
  match op with
  | .alloc t => match zeroOf E.P t with | some z => some (ptrTo h.n, h.alloc (.cells z.cells.toList t)) | none => none
  | .box t x => match ev fr x with | some v => some (ptrTo h.n, h.alloc (.cells v.cells.toList t)) | none => none
  | .buildSlice t len parts => match E.P.underlying t, evParts fr parts.toList with
    | some (.slice elem), some p => match sz E.P elem, zeroOf E.P elem with
      | some k, some z => bif Nat.ble (len * k) 16777216 && Nat.beq z.cells.size k then
          match fillL (fun i => some (i * k, k)) (repZ z.cells.toList len) p with
          | some c => some (.slice (some ⟨h.n, 0, none⟩) len len, h.alloc (.cells c elem))
          | none => none
        else none
      | _, _ => none
    | _, _ => none
  | .makeMap t r => mkMapV E h t r
  | .makeSlice t l c => match E.P.underlying t, ev fr l, ev fr c with
    | some (.slice elem), some (.int .i64 l), some (.int .i64 c) => match sz E.P elem, bytesOf E.P elem, zeroOf E.P elem with
      | some k, some b, some z => bif decide (0 ≤ l ∧ l ≤ c ∧ c ≤ 140737488355328 ∧ b * c ≤ 281474976710656) && Nat.beq z.cells.size k then
          some (.slice (some ⟨h.n, 0, none⟩) l.toNat c.toNat, h.alloc (.cells (repZ z.cells.toList c.toNat) elem))
        else none
      | _, _, _ => none
    | _, _, _ => none
  | .store t a x => match ev fr a, ev fr x with
    | some a, some v => match storeV E h t a v with | some h' => some (undef, h') | none => none
    | _, _ => none
  | .mapUpdate t m k x => match ev fr m, ev fr k, ev fr x with
    | some m, some k, some v => match updateV E h t m k v with | some h' => some (undef, h') | none => none
    | _, _, _ => none
  | .insert t m k x => match ev fr m, ev fr k, ev fr x with
    | some m, some k, some v => match updateV E h t m k v with | some h' => some (undef, h') | none => none
    | _, _, _ => none
  | .call c => match c.callee with
    | .builtin .append => match evs fr c.args.toList with | some [s, x] => appendV E h c.argTypes s x | _ => none
    | .builtin .copy => match evs fr c.args.toList with | some [d, x] => copyV E h c.argTypes d x | _ => none
    | .builtin .clear => match evs fr c.args.toList with | some [x] => clearV E h c.argTypes x | _ => none
    | .builtin .delete => match evs fr c.args.toList with | some [m, k] => deleteV E h c.argTypes m k | _ => none
    | _ => none
  | _ => none

def hasBody (P : Program) (g : FuncId) : Bool := match P.funcs[g]? with
  | some fn => match fn.body with | some _ => true | none => false
  | none => false

/-- What a call calls, and with what. -/
def calleeV (E : Env) (fr : Fr) (op : Op) : Option (FuncId × List Value) :=
  match op with
  | .call c => match c.callee with
    | .value f => match ev fr f with
      | some (.func (.func g) first cap) => match evs fr c.args.toList with
        | some args => bif hasBody E.P g then some (g, first.toList ++ (args ++ cap.toList)) else none
        | none => none
      | _ => none
    | .invoke r name => match ev fr r with
      | some (.iface t v) => match E.meth t name with
        | some g => match evs fr c.args.toList with | some args => bif hasBody E.P g then some (g, v :: args) else none | none => none
        | none => none
      | _ => none
    | .builtin _ => none
  | _ => none

/-! ### The machine -/
inductive Ex where
  | normal
  | exit (id : Nat)
  | ret
  deriving DecidableEq

def wantedV (ops : Array Oper) (fr : Fr) (o : Oper) : Bool :=
  match o.guard with
  | none => true
  | some (j, want) => match ops[j]? with
    | some oj => match oj.dst with
      | some d => match fr.at d with | .bool b => b == want | _ => false
      | none => false
    | none => false

def opV (E : Env) (call : FuncId → List Value → Heap → Option (Value × Heap)) (fr : Fr) (h : Heap) (op : Op) : Option (Value × Heap) :=
  match readV E fr h op with
  | some v => some (v, h)
  | none => match writeV E fr h op with
    | some r => some r
    | none => match calleeV E fr op with
      | some (g, args) => call g args h
      | none => none

def quietV (E : Env) (call : FuncId → List Value → Heap → Option (Value × Heap)) (fr : Fr) (h : Heap) (op : Op) : Option Value :=
  match readV E fr h op with
  | some v => some v
  | none => match calleeV E fr op with
    | some (g, args) => match call g args { h with lim := h.n } with
      | some (v, _) => bif plainN 4 v then some v else none
      | none => none
    | none => none

def runOps (E : Env) (nt : Nat) (call : FuncId → List Value → Heap → Option (Value × Heap)) (ops : Array Oper) : List Oper → Fr → Heap → Option (Fr × Heap)
  | [], fr, h => some (fr, h)
  | o :: rest, fr, h =>
    bif wantedV ops fr o then
      match opV E call fr h o.op with
      | some (v, h') => match fr.put nt o.dst v with | some fr' => runOps E nt call ops rest fr' h' | none => none
      | none => none
    else match fr.put nt o.dst undef with | some fr' => runOps E nt call ops rest fr' h | none => none

def runQuiet (E : Env) (nt : Nat) (call : FuncId → List Value → Heap → Option (Value × Heap)) (ops : Array Oper) : List Oper → Fr → Heap → Option (Fr × Heap)
  | [], fr, h => some (fr, h)
  | o :: rest, fr, h =>
    bif wantedV ops fr o then
      match quietV E call fr h o.op with
      | some v => match fr.put nt o.dst v with | some fr' => runQuiet E nt call ops rest fr' h | none => none
      | none => none
    else match fr.put nt o.dst undef with | some fr' => runQuiet E nt call ops rest fr' h | none => none

/-! ### Regions that draw their order and write -/
/-- Operations that read. -/
def readK : Op → Bool
  | .move _ => true | .assign _ => true | .pick _ _ _ => true | .load _ _ => true | .nilCheck _ => true
  | .binOp _ _ _ _ _ => true | .unOp _ _ _ => true | .convert _ _ _ => true | .makeInterface _ _ => true
  | .makeFunc _ _ _ => true | .slice _ _ _ _ _ => true | .fieldAddr _ _ _ => true | .field _ _ _ => true
  | .indexAddr _ _ _ => true | .index _ _ _ => true | .lookup _ _ _ _ => true | .typeAssert _ _ _ _ => true
  | .extract _ _ => true | .build _ _ => true
  | .call c => match c.callee with
    | .builtin .len => true | .builtin .cap => true | .builtin .max => true | .builtin .min => true
    | _ => false
  | _ => false
/-- Operations that read memory. -/
def heapK : Op → Bool
  | .load _ _ => true | .slice _ _ _ _ _ => true | .lookup _ _ _ _ => true
  | .call c => match c.callee with | .builtin .len => true | _ => false
  | _ => false

/-- New variables: their numbers are laid by ahead of the region, so that it is all one when they come. -/
def allocK : Op → Bool
  | .alloc _ => true
  | _ => false

/-- A region of readings. -/
def quietR (P : Program) (ops : Array Oper) : Bool := ops.toList.all fun o => readK o.op

def afters (o : Oper) : List Nat := (o.after.toList.filter (Region.binds .any)).map (·.on)

def hasBit : Nat → Nat → Bool
  | m, i => Nat.beq (Nat.land (Nat.shiftRight m i) 1) 1
def addBit (m i : Nat) : Nat := Nat.lor m (Nat.shiftLeft 1 i)

def lookT : List (Nat × Nat) → Nat → Nat
  | [], _ => 0
  | (i, t) :: r, j => bif Nat.beq i j then t else lookT r j
/-- All that one waits for. -/
def maskT (T : List (Nat × Nat)) : List Nat → Nat
  | [] => 0
  | e :: r => Nat.lor (addBit (lookT T e) e) (maskT T r)

def rdyB (m : Nat) (p : Nat × Oper) : Bool := !hasBit m p.1 && (afters p.2).all fun e => hasBit m e
def pickB (l : List (Nat × Oper)) (m : Nat) : Option (Nat × Oper) :=
  match l.find? fun p => readK p.2.op && rdyB m p with
  | some p => some p
  | none => match l.find? fun p => !allocK p.2.op && rdyB m p with
    | some p => some p
    | none => l.find? fun p => rdyB m p

/-- An order: readings as early as they may be; behind what writes: the readings that do not come before it by rule (to be looked at again). -/
def schedGo (l : List (Nat × Oper)) : Nat → Nat → List (Nat × Nat) → List Nat → List (Nat × List Nat)
  | 0, _, _, _ => []
  | f + 1, m, T, hs => match pickB l m with
    | none => []
    | some (j, o) =>
      (j, bif readK o.op || allocK o.op then [] else hs.filter fun r => !hasBit (maskT T (afters o)) r) ::
        schedGo l f (addBit m j) ((j, maskT T (afters o)) :: T) (bif heapK o.op then hs ++ [j] else hs)
def numbered : Nat → List Oper → List (Nat × Oper)
  | _, [] => []
  | i, o :: r => (i, o) :: numbered (i + 1) r
def sched (ops : Array Oper) : List (Nat × List Nat) := schedGo (numbered 0 ops.toList) ops.size 0 [] []

/-- The same value? (no: not known) -/
def veqN : Nat → Value → Value → Bool
  | _, .bool a, .bool b => a == b
  | _, .int k a, .int k' b => decide (k = k') && decide (a = b)
  | _, .string a, .string b => a == b
  | _, .pointer a, .pointer b => decide (a = b)
  | _, .slice a l c, .slice a' l' c' => decide (a = a') && Nat.beq l l' && Nat.beq c c'
  | _, .map a, .map b => decide (a = b)
  | _, .nilFunc, .nilFunc => true
  | _, .nilIface, .nilIface => true
  | n + 1, .iface t v, .iface t' v' => Nat.beq t t' && veqN n v v'
  | n + 1, .func f a c, .func f' a' c' => decide (f = f') && (Nat.beq a.size a'.size && (List.zipWith (veqN n) a.toList a'.toList).all id) && (Nat.beq c.size c'.size && (List.zipWith (veqN n) c.toList c'.toList).all id)
  | n + 1, .agg a, .agg a' => Nat.beq a.size a'.size && (List.zipWith (veqN n) a.toList a'.toList).all id
  | n + 1, .tuple a, .tuple a' => Nat.beq a.size a'.size && (List.zipWith (veqN n) a.toList a'.toList).all id
  | _, _, _ => false
def same : Option Value → Option Value → Bool
  | some a, some b => veqN 6 a b
  | _, _ => false

/-- Those readings tell what they told. -/
def chkR (E : Env) (ops : Array Oper) (fr : Fr) (h h' : Heap) : List Nat → Bool
  | [] => true
  | r :: rs => (match ops[r]? with
    | some o => !wantedV ops fr o || same (readV E fr h o.op) (readV E fr h' o.op)
    | none => false) && chkR E ops fr h h' rs

def slotL : List (Nat × Nat) → Nat → Option Nat
  | [], _ => none
  | (i, b) :: r, j => bif Nat.beq i j then some b else slotL r j
/-- The numbers of the new variables. -/
def slotsOf : List (Nat × Oper) → Nat → List (Nat × Nat)
  | [], _ => []
  | (i, o) :: r, n => bif allocK o.op then (i, n) :: slotsOf r (n + 1) else slotsOf r n
def slots (ops : Array Oper) (n : Nat) : List (Nat × Nat) := slotsOf (numbered 0 ops.toList) n
/-- Numbers laid by. -/
def resv : Nat → Heap → Heap
  | 0, h => h
  | k + 1, h => resv k (h.alloc .dead)
def rsvV (E : Env) (h : Heap) (b : Nat) : Op → Option (Value × Heap)
  | .alloc t => match zeroOf E.P t with
    | some z => match h.get b with
      | some .dead => some (ptrTo b, h.set b (.cells z.cells.toList t))
      | _ => none
    | none => none
  | _ => none
def opS (E : Env) (call : FuncId → List Value → Heap → Option (Value × Heap)) (sl : List (Nat × Nat)) (i : Nat) (fr : Fr) (h : Heap) (op : Op) : Option (Value × Heap) :=
  bif allocK op then match slotL sl i with | some b => rsvV E h b op | none => none
  else opV E call fr h op

def runSched (E : Env) (nt : Nat) (call : FuncId → List Value → Heap → Option (Value × Heap)) (ops : Array Oper) (sl : List (Nat × Nat)) : List (Nat × List Nat) → Fr → Heap → Option (Fr × Heap)
  | [], fr, h => some (fr, h)
  | (i, ck) :: rest, fr, h => match ops[i]? with
    | none => none
    | some o =>
      bif wantedV ops fr o then
        match opS E call sl i fr h o.op with
        | some (v, h') => bif chkR E ops fr h h' ck then
            match fr.put nt o.dst v with | some fr' => runSched E nt call ops sl rest fr' h' | none => none
          else none
        | none => none
      else match fr.put nt o.dst undef with | some fr' => runSched E nt call ops sl rest fr' h | none => none

def runDrawn (E : Env) (nt : Nat) (call : FuncId → List Value → Heap → Option (Value × Heap)) (ops : Array Oper) (fr : Fr) (h : Heap) : Option (Fr × Heap) :=
  runSched E nt call ops (slots ops h.n) (sched ops) fr (resv (slots ops h.n).length h)

def iter (F : Fr → Heap → Option (Ex × Fr × Heap)) : Nat → Fr → Heap → Option (Ex × Fr × Heap)
  | 0, _, _ => none
  | k + 1, fr, h => match F fr h with
    | some (.normal, fr', h') => iter F k fr' h'
    | r => r

def evalC (E : Env) (nt : Nat) (call : FuncId → List Value → Heap → Option (Value × Heap)) (lf : Nat) : Code → Fr → Heap → Option (Ex × Fr × Heap)
  | .skip, fr, h => some (.normal, fr, h)
  | .label _, fr, h => some (.normal, fr, h)
  | .region _ ops draw, fr, h =>
    match (bif draw then (bif quietR E.P ops then runQuiet E nt call ops ops.toList fr h else runDrawn E nt call ops fr h) else runOps E nt call ops ops.toList fr h) with
    | some (fr', h') => some (.normal, fr', h')
    | none => none
  | .seq a b, fr, h => match evalC E nt call lf a fr h with
    | some (.normal, fr', h') => evalC E nt call lf b fr' h'
    | r => r
  | .cond c a b, fr, h => match ev fr c with
    | some (.bool true) => evalC E nt call lf a fr h
    | some (.bool false) => evalC E nt call lf b fr h
    | _ => none
  | .block id body, fr, h => match evalC E nt call lf body fr h with
    | some (.exit id', fr', h') => if id' = id then some (.normal, fr', h') else some (.exit id', fr', h')
    | r => r
  | .loop body, fr, h => iter (fun fr h => evalC E nt call lf body fr h) lf fr h
  | .exit id, fr, h => some (.exit id, fr, h)
  | .scope body, fr, h => evalC E nt call lf body fr h
  | .ret, fr, h => some (.ret, fr, h)
  | _, _, _ => none

def initF : List Value → Nat → Fr → Fr
  | [], _, fr => fr
  | v :: r, i, fr => initF r (i + 1) (fr.set i v)

def resultV (E : Env) (fr : Fr) (h : Heap) : ResultVar → Option Value
  | .tmp t => some (fr.at t)
  | .cell a t => match fr.at a with | .pointer (some a) => loadV E h t a | _ => none

def resultsV (E : Env) (fr : Fr) (h : Heap) : List ResultVar → Option (List Value)
  | [] => some []
  | r :: rs => match resultV E fr h r with
    | some v => match resultsV E fr h rs with | some l => some (v :: l) | none => none
    | none => none

def packV : List Value → Value
  | [v] => v
  | l => .tuple l.toArray

def run (E : Env) : Nat → FuncId → List Value → Heap → Option (Value × Heap)
  | 0, _, _, _ => none
  | n + 1, f, args, h =>
    match E.prim f with
    | some p => p args h
    | none => match E.P.funcs[f]? with
      | none => none
      | some fn => match fn.body with
        | none => none
        | some c => bif Nat.ble args.length fn.ntmps then
            match evalC E fn.ntmps (run E n) n c (initF args 0 .nil) h with
            | some (.exit _, _, _) => none
            | some (_, fr, h') => match resultsV E fr h' fn.results.toList with
              | some l => some (packV l, h')
              | none => none
            | none => none
          else none

end Go.Proofs.Ytadfhabapgipbaa.V
