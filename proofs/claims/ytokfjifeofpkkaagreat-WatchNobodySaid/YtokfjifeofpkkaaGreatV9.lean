/- The clean machine: a deterministic big-step interpreter over the model's own code, with a heap of its own. .. and what follows it, in one text.
   No condition beyond those that each part names. -/
import Derived.Below
import Derived.Calls
import Derived.Deep.LoopGhost
import Derived.Deep.Quiet
import Derived.Laws.BytesString
import Derived.Laws.Cells
import Derived.Laws.Sem
import Derived.Laws.World
import Derived.Scope
namespace Go.Proofs.YtokfjifeofpkkaaGreat.V
open Go
set_option linter.unusedVariables false
set_option linter.unusedSimpArgs false
inductive Trie (α : Type) where
 | nil
 | node (v : Option α) (l r : Trie α)
namespace Trie
variable {α : Type}
def get : Trie α → Nat → Option α
 | .nil, _ => none
 | .node v l r, i => bif Nat.beq i 0 then v else bif Nat.beq (i % 2) 1 then l.get (i / 2) else r.get (i / 2 - 1)
def setF : Nat → Trie α → Nat → α → Trie α
 | 0, t, _, _ => t
 | f + 1, .nil, i, a => bif Nat.beq i 0 then .node (some a) .nil .nil else bif Nat.beq (i % 2) 1 then .node none (setF f .nil (i / 2) a) .nil else .node none .nil (setF f .nil (i / 2 - 1) a)
 | f + 1, .node v l r, i, a => bif Nat.beq i 0 then .node (some a) l r else bif Nat.beq (i % 2) 1 then .node v (setF f l (i / 2) a) r else .node v l (setF f r (i / 2 - 1) a)
def set (t : Trie α) (i : Nat) (a : α) : Trie α := setF (i + 1) t i a
theorem nb {i k : Nat} (h : ¬ i = k) : Nat.beq i k = false := by
 cases e : Nat.beq i k
 ·
  rfl
 ·
  exact absurd (Nat.eq_of_beq_eq_true e) h
theorem get_setF (a : α) : ∀ (f : Nat) (t : Trie α) (i j : Nat), i < f → (setF f t i a).get j = if i = j then some a else t.get j := by
 intro f
 induction f with
 | zero => intro t i j h; omega
 | succ f ih =>
  intro t i j h
  by_cases i0 : i = 0
  ·
   subst i0
   cases t with
   | nil =>
    by_cases j0 : j = 0
    ·
     subst j0; simp [setF, get]
    ·
     have : ¬ 0 = j := fun h => j0 h.symm
     simp [setF, get, nb j0, this]
   | node v l r =>
    by_cases j0 : j = 0
    ·
     subst j0; simp [setF, get]
    ·
     have : ¬ 0 = j := fun h => j0 h.symm
     simp [setF, get, nb j0, this]
  ·
   have ib : Nat.beq i 0 = false := nb (by omega)
   by_cases i1 : i % 2 = 1
   ·
    have i1b : Nat.beq (i % 2) 1 = true := by simpa using i1
    have hi : i / 2 < f := by omega
    by_cases j0 : j = 0
    ·
     subst j0
     have : ¬ i = 0 := i0
     cases t <;> simp [setF, get, ib, i1b, this]
    ·
     have jb : Nat.beq j 0 = false := nb (by omega)
     by_cases j1 : j % 2 = 1
     ·
      have j1b : Nat.beq (j % 2) 1 = true := by simpa using j1
      have e : (i / 2 = j / 2) ↔ i = j := by omega
      cases t with
      | nil => simp only [setF, get, ib, i1b, jb, j1b, cond_false, cond_true, ih _ _ _ hi, e]
      | node v l r => simp only [setF, get, ib, i1b, jb, j1b, cond_false, cond_true, ih _ _ _ hi, e]
     ·
      have j1b : Nat.beq (j % 2) 1 = false := nb (by omega)
      have : ¬ i = j := by intro e; subst e; exact j1 i1
      cases t with
      | nil => simp only [setF, get, ib, i1b, jb, j1b, cond_false, cond_true, this, if_false]
      | node v l r => simp only [setF, get, ib, i1b, jb, j1b, cond_false, cond_true, this, if_false]
   ·
    have i1b : Nat.beq (i % 2) 1 = false := nb (by omega)
    have hi : i / 2 - 1 < f := by omega
    by_cases j0 : j = 0
    ·
     subst j0
     have : ¬ i = 0 := i0
     cases t <;> simp [setF, get, ib, i1b, this]
    ·
     have jb : Nat.beq j 0 = false := nb (by omega)
     by_cases j1 : j % 2 = 1
     ·
      have j1b : Nat.beq (j % 2) 1 = true := by simpa using j1
      have : ¬ i = j := by intro e; subst e; exact i1 j1
      cases t with
      | nil => simp only [setF, get, ib, i1b, jb, j1b, cond_false, cond_true, this, if_false]
      | node v l r => simp only [setF, get, ib, i1b, jb, j1b, cond_false, cond_true, this, if_false]
     ·
      have j1b : Nat.beq (j % 2) 1 = false := nb (by omega)
      have e : (i / 2 - 1 = j / 2 - 1) ↔ i = j := by omega
      cases t with
      | nil => simp only [setF, get, ib, i1b, jb, j1b, cond_false, ih _ _ _ hi, e]
      | node v l r => simp only [setF, get, ib, i1b, jb, j1b, cond_false, ih _ _ _ hi, e]
theorem get_set (t : Trie α) (i j : Nat) (a : α) : (t.set i a).get j = if i = j then some a else t.get j := get_setF a _ _ _ _ (by omega)
theorem get_set_same (t : Trie α) (i : Nat) (a : α) : (t.set i a).get i = some a := by rw [get_set, if_pos rfl]
theorem get_set_ne (t : Trie α) {i j : Nat} (h : i ≠ j) (a : α) : (t.set i a).get j = t.get j := by rw [get_set, if_neg h]
end Trie
inductive O where
 | cells (c : List Value) (T : TypeId)
 | map (es : List (Value × Value)) (c : Nat)
 | iter (r : Nat) (s : Bool)
 | dead
 deriving Inhabited
structure Heap where
 base : Nat → Nat → Option Value
 lim : Nat
 n : Nat
 t : Trie O
def Heap.get (h : Heap) (b : Nat) : Option O := h.t.get b
def Heap.set (h : Heap) (b : Nat) (o : O) : Heap := { h with t := h.t.set b o }
def Heap.alloc (h : Heap) (o : O) : Heap := { h with n := h.n + 1, t := h.t.set h.n o }
def elemAddr (a : Addr) (k : Nat) : Option Addr :=
 match a.spot with
 | none => some ⟨a.block, a.off + k, none⟩
 | some 0 => some ⟨a.block, a.off + k, none⟩
 | some 1 => some ⟨a.block, a.off + k, some 1⟩
 | some _ => none
def plainN : Nat → Value → Bool
 | _, .bool _ | _, .int _ _ | _, .float _ _ | _, .complex _ _ _ | _, .string _ | _, .nilFunc | _, .nilIface => true
 | _, .pointer a => a.isNone
 | _, .slice a l c => a.isNone && Nat.beq l 0 && Nat.beq c 0
 | _, .map r => r.isNone
 | _, .chan r => r.isNone
 | _, .func (.func _) f c => f.toList.isEmpty && c.toList.isEmpty
 | _, .func _ _ _ => false
 | n + 1, .iface _ v => plainN n v
 | n + 1, .agg cs => cs.toList.all (plainN n)
 | n + 1, .tuple vs => vs.toList.all (plainN n)
 | 0, _ => false
def cellOk : Value → Bool
 | .agg _ | .tuple _ => false
 | _ => true
def cellAt (h : Heap) (a : Addr) : Option Value :=
 match a.spot with
 | none => match h.get a.block with | some (.cells c _) => c[a.off]? | _ => none
 | some 1 => h.base a.block a.off
 | some _ => none
def baseCells (h : Heap) (b : Nat) : Nat → Nat → Option (List Value)
 | _, 0 => some []
 | o, n + 1 => match h.base b o with
  | some v => match baseCells h b (o + 1) n with | some r => some (v :: r) | none => none
  | none => none
def cellsAt (h : Heap) (a : Addr) (n : Nat) : Option (List Value) :=
 match a.spot with
 | none => match h.get a.block with
  | some (.cells c _) => bif Nat.ble (a.off + n) c.length then some ((c.drop a.off).take n) else none
  | _ => none
 | some 1 => baseCells h a.block a.off n
 | some _ => none
def splice (c : List Value) (off : Nat) (vs : List Value) : List Value := c.take off ++ (vs ++ c.drop (off + vs.length))
def storeCells (h : Heap) (a : Addr) (vs : List Value) : Option Heap :=
 match a.spot with
 | none => match h.get a.block with
  | some (.cells c T) =>
   bif Nat.ble h.lim a.block && Nat.ble (a.off + vs.length) c.length && vs.all cellOk then some (h.set a.block (.cells (splice c a.off vs) T)) else none
  | _ => none
 | some _ => none
inductive CK where
 | int (k : IntKind) | str | bool
 deriving DecidableEq
structure Env where
 P : Program
 eqT : TypeId → Option (List CK)
 prim : FuncId → Option (List Value → Heap → Option (Value × Heap))
 meth : TypeId → String → Option FuncId
def methRow (P : Program) (t : TypeId) (name : String) : Option FuncId := match P.info? t with
 | none => none
 | some i => match i.methods.find? (·.name == name) with
  | none => none
  | some m => bif m.path.toList.isEmpty then match m.func with
   | some (f, pr) => match P.underlying t, pr with
    | some (.pointer _), true => some f
    | some (.pointer _), false => none
    | some _, false => some f
    | _, _ => none
   | none => none
   else none
def sz (P : Program) (t : TypeId) : Option Nat := match P.info? t with | some i => some i.size | none => none
def bytesOf (P : Program) (t : TypeId) : Option Nat := match P.info? t with | some i => some i.bytes | none => none
def zeroOf (P : Program) (t : TypeId) : Option Value := match P.info? t with
 | some i => match i.zero with | some z => bif plainN 4 z then some z else none | none => none
 | none => none
def isAggT (P : Program) (t : TypeId) : Option Bool := match P.underlying t with
 | some (.struct _) => some true
 | some (.array _ _) => some true
 | some _ => some false
 | none => none
abbrev Fr := Trie Value
def Fr.at (fr : Fr) (t : Nat) : Value := match fr.get t with | some v => v | none => undef
def Fr.put (nt : Nat) (fr : Fr) (d : Option Tmp) (v : Value) : Option Fr :=
 match d with
 | none => some fr
 | some d => bif Nat.blt d nt then some (fr.set d v) else none
def ev (fr : Fr) : Operand → Option Value
 | .tmp t => some (fr.at t)
 | .const v => bif plainN 4 v then some v else none
 | .func f => some (.func (.func f) #[] #[])
 | .global _ => none
def evs (fr : Fr) : List Operand → Option (List Value)
 | [] => some []
 | x :: r => match ev fr x with
  | some v => match evs fr r with | some vs => some (v :: vs) | none => none
  | none => none
def evParts (fr : Fr) : List (Nat × Operand) → Option (List (Nat × Value))
 | [] => some []
 | (i, x) :: r => match ev fr x with
  | some v => match evParts fr r with | some vs => some ((i, v) :: vs) | none => none
  | none => none
def evOpt (fr : Fr) : Option Operand → Option (Option Value)
 | none => some none
 | some x => match ev fr x with | some v => some (some v) | none => none
def intBin (op : BinOp) (k : IntKind) (a b : Int) : Option Value :=
 match op with
 | .add => some (.int k (k.wrap (a + b)))
 | .sub => some (.int k (k.wrap (a - b)))
 | .mul => some (.int k (k.wrap (a * b)))
 | .quo => if b = 0 then none else some (.int k (k.wrap (a.tdiv b)))
 | .rem => if b = 0 then none else some (.int k (a.tmod b))
 | .and => some (.int k (k.wrap (BitVec.ofInt k.bits a &&& BitVec.ofInt k.bits b).toNat))
 | .or => some (.int k (k.wrap (BitVec.ofInt k.bits a ||| BitVec.ofInt k.bits b).toNat))
 | .xor => some (.int k (k.wrap (BitVec.ofInt k.bits a ^^^ BitVec.ofInt k.bits b).toNat))
 | .andNot => some (.int k (k.wrap (BitVec.ofInt k.bits a &&& ~~~(BitVec.ofInt k.bits b)).toNat))
 | .eql => some (.bool (a == b))
 | .neq => some (.bool (a != b))
 | .lss => some (.bool (decide (a < b)))
 | .leq => some (.bool (decide (a ≤ b)))
 | .gtr => some (.bool (decide (a > b)))
 | .geq => some (.bool (decide (a ≥ b)))
 | .shl | .shr => none
def strBin (op : BinOp) (x y : ByteArray) : Option Value :=
 match op with
 | .add => if x.size + y.size ≤ 9223372036854775807 then some (.string (x ++ y)) else none
 | .eql => some (.bool (x.toList == y.toList))
 | .neq => some (.bool (!(x.toList == y.toList)))
 | .lss => some (.bool (Op.bytesLess x.toList y.toList))
 | .leq => some (.bool (Op.bytesLess x.toList y.toList || x.toList == y.toList))
 | .gtr => some (.bool (!(Op.bytesLess x.toList y.toList || x.toList == y.toList)))
 | .geq => some (.bool (!Op.bytesLess x.toList y.toList))
 | _ => none
def ckEq : CK → Value → Value → Option Bool
 | .int k, .int k1 a, .int k2 b => if k1 = k ∧ k2 = k then some (a == b) else none
 | .str, .string a, .string b => some (a == b)
 | .bool, .bool a, .bool b => some (a == b)
 | _, _, _ => none
def ckAll : List CK → List Value → List Value → Option Bool
 | [], [], [] => some true
 | k :: ks, x :: xs, y :: ys => match ckEq k x y with
  | some b => match ckAll ks xs ys with | some r => some (b && r) | none => none
  | none => none
 | _, _, _ => none
def eqV (E : Env) (t : TypeId) (x y : Value) : Option Bool :=
 match E.P.underlying t, x, y with
 | some .bool, .bool a, .bool b => some (a == b)
 | some (.pointer _), .pointer none, .pointer b => some b.isNone
 | some (.pointer _), .pointer (some _), .pointer none => some false
 | some (.slice _), .slice none _ _, .slice b _ _ => some b.isNone
 | some (.slice _), .slice (some _) _ _, .slice none _ _ => some false
 | some (.map _ _), .map none, .map b => some b.isNone
 | some (.map _ _), .map (some _), .map none => some false
 | some (.func _ _ _), .nilFunc, .nilFunc => some true
 | some (.func _ _ _), .nilFunc, .func _ _ _ => some false
 | some (.func _ _ _), .func _ _ _, .nilFunc => some false
 | some (.struct _), .agg xs, .agg ys => match E.eqT t with | some ks => ckAll ks xs.toList ys.toList | none => none
 | some (.pointer e), .pointer (some a), .pointer (some b) => match sz E.P e with
  | some (_ + 1) => bif a.spot.isNone && (b.spot.isNone && Nat.beq a.block b.block) then some (Nat.beq a.off b.off) else none
  | _ => none
 | _, _, _ => none
def binV (E : Env) (op : BinOp) (t : TypeId) (x y : Value) : Option Value :=
 match x, y with
 | .int k a, .int k' b =>
  match op with
  | .shl => if b < 0 then none else some (.int k (k.wrap (a * 2 ^ (min b.toNat k.bits))))
  | .shr => if b < 0 then none else some (.int k (a.fdiv (2 ^ (min b.toNat k.bits))))
  | op => if k = k' then intBin op k a b else none
 | .string a, .string b => strBin op a b
 | x, y => match op with
  | .eql => match eqV E t x y with | some b => some (.bool b) | none => none
  | .neq => match eqV E t x y with | some b => some (.bool (!b)) | none => none
  | _ => none
def unV (op : UnOp) (x : Value) : Option Value :=
 match op, x with
 | .neg, .int k n => some (.int k (k.wrap (0 - n)))
 | .not, .bool b => some (.bool (!b))
 | _, _ => none
def loadV (E : Env) (h : Heap) (t : TypeId) (a : Addr) : Option Value :=
 match isAggT E.P t with
 | some true => match sz E.P t with
  | some n => match cellsAt h a n with | some l => some (.agg l.toArray) | none => none
  | none => none
 | some false => cellAt h a
 | none => none
def partV (E : Env) (t : TypeId) (cs : List Value) (off : Nat) : Option Value :=
 match isAggT E.P t with
 | some true => match sz E.P t with
  | some n => some (.agg ((cs.drop off).take n).toArray)
  | none => none
 | some false => cs[off]?
 | none => none
def boundV (x : Option Value) (dflt : Nat) (y : Nat) : Option Nat :=
 match x with
 | none => some dflt
 | some (.int _ i) => if 0 ≤ i ∧ i ≤ (y : Int) then some i.toNat else none
 | some _ => none
def isSlack (a : Addr) : Bool := match a.spot with | some 0 => true | _ => false
def exactA (a : Addr) : Addr := match a.spot with | some 0 => ⟨a.block, a.off, none⟩ | _ => a
def sliceAddr (a : Addr) (m l k : Nat) : Option Addr :=
 match a.spot with
 | none => bif Nat.beq m l then some a else some ⟨a.block, a.off + k, none⟩
 | some 0 => bif Nat.beq m l then some ⟨0, 0, some 2⟩ else some ⟨a.block, a.off + k, some 0⟩
 | some 1 => bif Nat.beq m l then some a else some ⟨a.block, a.off + k, some 1⟩
 | some _ => bif Nat.beq m l then some a else none
def slackOk (h : Heap) (a : Addr) (elem : TypeId) : Bool :=
 match a.spot with
 | some 0 => match h.get a.block with | some (.cells _ T) => Nat.beq T elem | _ => false
 | _ => true
def sliceV (E : Env) (hp : Heap) (t : TypeId) (x : Value) (lo hi mx : Option Value) : Option Value :=
 match E.P.underlying t, x with
 | some .string, .string s =>
  match mx with
  | some _ => none
  | none => match boundV hi s.size s.size with
   | some h => match boundV lo 0 h with | some l => some (.string (s.extract l h)) | none => none
   | none => none
 | some (.slice elem), .slice a len cap =>
  match boundV mx cap cap with
  | none => none
  | some m =>
   bif mx.isSome && hi.isNone then none else
   match boundV hi len m with
   | none => none
   | some h => match boundV lo 0 h with
    | none => none
    | some l => match sz E.P elem with
     | none => none
     | some k => match a with
      | none => some (.slice none (h - l) (m - l))
      | some a => bif Nat.ble h m && (mx.isSome || slackOk hp a elem) then
       match sliceAddr (bif mx.isSome then exactA a else a) m l (l * k) with
       | some a' => some (.slice (some a') (h - l) (m - l))
       | none => none
       else none
 | _, _ => none
def fieldsOf (P : Program) (t : TypeId) : Option (Array Field) := match P.underlying t with | some (.struct fs) => some fs | _ => none
def fieldAddrV (E : Env) (s : TypeId) (x : Value) (f : Nat) : Option Value :=
 match fieldsOf E.P s, x with
 | some fs, .pointer (some a) => match fs[f]? with
  | some fd => match sz E.P fd.type with
   | some (_ + 1) => match a.spot with
    | none => some (.pointer (some ⟨a.block, a.off + fd.offset, none⟩))
    | some 1 => some (.pointer (some ⟨a.block, a.off + fd.offset, some 1⟩))
    | some _ => none
   | _ => none
  | none => none
 | _, _ => none
def fieldV (E : Env) (t : TypeId) (x : Value) (f : Nat) : Option Value :=
 match fieldsOf E.P t, x with
 | some fs, .agg cs => match fs[f]? with
  | some fd => partV E fd.type cs.toList fd.offset
  | none => none
 | _, _ => none
def indexAddrV (E : Env) (t : TypeId) (x i : Value) : Option Value :=
 match i with
 | .int _ i => match E.P.underlying t, x with
  | some (.slice elem), .slice (some a) len _ =>
   if 0 ≤ i ∧ i < (len : Int) then
    match sz E.P elem with
    | some k => match elemAddr a (i.toNat * k) with | some a' => some (.pointer (some a')) | none => none
    | none => none
   else none
  | some (.array len elem), .pointer (some a) =>
   if 0 ≤ i ∧ i < (len : Int) then
    match sz E.P elem with
    | some k => match a.spot with
     | none => some (.pointer (some ⟨a.block, a.off + i.toNat * k, none⟩))
     | some _ => none
    | none => none
   else none
  | _, _ => none
 | _ => none
def indexV (E : Env) (t : TypeId) (x i : Value) : Option Value :=
 match i with
 | .int _ i => match E.P.underlying t, x with
  | some .string, .string s => if 0 ≤ i then match s[i.toNat]? with | some b => some (.int .u8 b.toNat) | none => none else none
  | some (.array len elem), .agg cs =>
   if 0 ≤ i ∧ i < (len : Int) then match sz E.P elem with | some k => partV E elem cs.toList (i.toNat * k) | none => none
   else none
  | _, _ => none
 | _ => none
def scalarT (P : Program) (t : TypeId) : Option TypeDesc := match P.underlying t with
 | some (.int k) => some (.int k)
 | some .string => some .string
 | some .bool => some .bool
 | _ => none
def findM (kind : TypeDesc) (k : Value) : List (Value × Value) → Nat → Option (Option (Nat × Value))
 | [], _ => some none
 | e :: es, i => match Instr.sameNow kind k e.1 with
  | some true => some (some (i, e.2))
  | some false => findM kind k es (i + 1)
  | none => none
def mapOf (h : Heap) : Value → Option (List (Value × Value))
 | .map none => some []
 | .map (some r) => match h.get r with | some (.map es _) => some es | _ => none
 | _ => none
def keyS (P : Program) (t : TypeId) (cs : Array Value) : Bool := match P.underlying t with
 | some (.struct fs) => cs.toList.all (plainN 0) && fs.toList.all fun f => match scalarT P f.type with
  | some _ => Nat.blt f.offset cs.size
  | none => false
 | _ => false
def findS (ks : List CK) (xs : List Value) : List (Value × Value) → Nat → Option (Option (Nat × Value))
 | [], _ => some none
 | e :: es, i => match e.1 with
  | .agg ys => match ckAll ks xs ys.toList with
   | some true => some (some (i, e.2))
   | some false => findS ks xs es (i + 1)
   | none => none
  | _ => none
def keyFind (E : Env) (key : TypeId) (k : Value) : Option (List (Value × Value) → Option (Option (Nat × Value))) :=
 match (bif plainN 0 k then scalarT E.P key else none) with
 | some kd => some fun es => findM kd k es 0
 | none => match k with
  | .agg xs => match E.eqT key with
   | some ks => bif keyS E.P key xs then some fun es => findS ks xs.toList es 0 else none
   | none => none
  | _ => none
def lookupV (E : Env) (h : Heap) (t : TypeId) (m k : Value) (ok : Bool) : Option Value :=
 match E.P.underlying t with
 | some (.map key elem) => match keyFind E key k with
  | some kd => match mapOf h m with
   | some es => match kd es with
    | some (some (_, v)) => some (if ok then .tuple #[v, .bool true] else v)
    | some none => match zeroOf E.P elem with
     | some z => some (if ok then .tuple #[z, .bool false] else z)
     | none => none
    | none => none
   | none => none
  | none => none
 | _ => none
def notIface (P : Program) (t : TypeId) : Bool := match P.underlying t with
 | some (.interface _) => false
 | some _ => true
 | none => false
def assertV (E : Env) (x : Value) (t : TypeId) (ok : Bool) : Option Value :=
 bif notIface E.P t then
  match x with
  | .iface u v => if u = t then some (if ok then .tuple #[v, .bool true] else v)
   else if ok then match zeroOf E.P t with | some z => some (.tuple #[z, .bool false]) | none => none else none
  | .nilIface => if ok then match zeroOf E.P t with | some z => some (.tuple #[z, .bool false]) | none => none else none
  | _ => none
 else none
def fillL (place : Nat → Option (Nat × Nat)) : List Value → List (Nat × Value) → Option (List Value)
 | cells, [] => some cells
 | cells, (i, v) :: rest =>
  match place i with
  | none => none
  | some (off, size) =>
   bif Nat.beq v.cells.size size && Nat.ble (off + size) cells.length then fillL place (splice cells off v.cells.toList) rest else none
def placesOf (P : Program) : List Field → Option (List (Nat × Nat))
 | [] => some []
 | f :: r => match sz P f.type with
  | some k => match placesOf P r with | some l => some ((f.offset, k) :: l) | none => none
  | none => none
def buildV (E : Env) (t : TypeId) (parts : List (Nat × Value)) : Option Value :=
 match zeroOf E.P t with
 | none => none
 | some z => match E.P.underlying t with
  | some (.struct fs) => match placesOf E.P fs.toList with
   | some pl => match fillL (fun i => pl[i]?) z.cells.toList parts with | some c => some (.agg c.toArray) | none => none
   | none => none
  | some (.array _ elem) => match sz E.P elem with
   | some k => match fillL (fun i => some (i * k, k)) z.cells.toList parts with | some c => some (.agg c.toArray) | none => none
   | none => none
  | _ => none
def convV (E : Env) (src dst : TypeId) (x : Value) : Option Value :=
 match E.P.underlying src, E.P.underlying dst, x with
 | some _, some (.int k), .int _ n => some (.int k (k.wrap n))
 | some _, some .string, .string s => some (.string s)
 | _, _, _ => none
def intsU : List Value → Option (List Int)
 | [] => some []
 | .int .u8 n :: l => match intsU l with | some b => some (n :: b) | none => none
 | _ => none
def txtU (ns : List Int) : ByteArray := ns.foldl (fun r n => r.push (UInt8.ofNat n.toNat)) ByteArray.empty
def convH (E : Env) (h : Heap) (src dst : TypeId) (x : Value) : Option Value :=
 match E.P.underlying src, E.P.underlying dst, x with
 | some (.slice e), some .string, .slice (some a) len _ => match E.P.underlying e with
  | some (.int .u8) => match cellsAt h a len with
   | some l => match intsU l with | some ns => some (.string (txtU ns)) | none => none
   | none => none
  | _ => none
 | _, _, _ => none
def lenV (E : Env) (h : Heap) (t : TypeId) (x : Value) : Option Value :=
 match E.P.underlying t, x with
 | some .string, .string s => some (goInt s.size)
 | some (.slice _), .slice _ n _ => some (goInt n)
 | some (.map _ _), m => match mapOf h m with | some es => some (goInt es.length) | none => none
 | some (.array n _), _ => some (goInt n)
 | _, _ => none
def capV (E : Env) (t : TypeId) (x : Value) : Option Value :=
 match E.P.underlying t, x with
 | some (.slice _), .slice none _ n => some (goInt n)
 | some (.slice _), .slice (some a) _ n => match a.spot with
  | none => some (goInt n)
  | some 1 => some (goInt n)
  | some _ => none
 | _, _ => none
def max2V : Value → Value → Option Value
 | .int k x, .int _ y => some (.int k (if y > x then y else x))
 | .string x, .string y => some (.string (if !Op.bytesLess x.toList y.toList then x else y))
 | _, _ => none
def min2V : Value → Value → Option Value
 | .int k x, .int _ y => some (.int k (if y < x then y else x))
 | .string x, .string y => some (.string (if Op.bytesLess x.toList y.toList || x.toList == y.toList then x else y))
 | _, _ => none
def foldV (f : Value → Value → Option Value) : Value → List Value → Option Value
 | x, [] => some x
 | x, y :: r => match f x y with | some z => foldV f z r | none => none
def fnOk : Fn → Bool
 | .func _ => true
 | _ => false
def readV (E : Env) (fr : Fr) (h : Heap) (op : Op) : Option Value :=
 match op with
 | .move x | .assign x => ev fr x
 | .pick c a b => match ev fr c with
  | some (.bool true) => ev fr a
  | some (.bool false) => ev fr b
  | _ => none
 | .load t x => match ev fr x with | some (.pointer (some a)) => loadV E h t a | _ => none
 | .nilCheck x => match ev fr x with
  | some (.pointer (some a)) => some (.pointer (some a))
  | some (.func (.func f) a c) => some (.func (.func f) a c)
  | some (.iface t v) => some (.iface t v)
  | some (.map r) => some (.map r)
  | some (.slice a l c) => some (.slice a l c)
  | _ => none
 | .binOp op t x y _ => match ev fr x, ev fr y with | some a, some b => binV E op t a b | _, _ => none
 | .unOp op _ x => match ev fr x with | some a => unV op a | none => none
 | .convert src dst x => match ev fr x with | some a => (match convV E src dst a with | some v => some v | none => convH E h src dst a) | none => none
 | .makeInterface t x => bif notIface E.P t then match ev fr x with | some a => some (.iface t a) | none => none else none
 | .makeFunc fn first cap => bif fnOk fn then match evs fr first.toList, evs fr cap.toList with
  | some a, some c => some (.func fn a.toArray c.toArray) | _, _ => none else none
 | .slice t x lo hi mx => match ev fr x, evOpt fr lo, evOpt fr hi, evOpt fr mx with
  | some x, some lo, some hi, some mx => sliceV E h t x lo hi mx | _, _, _, _ => none
 | .fieldAddr s x f => match ev fr x with | some a => fieldAddrV E s a f | none => none
 | .field t x f => match ev fr x with | some a => fieldV E t a f | none => none
 | .indexAddr t x i => match ev fr x, ev fr i with | some a, some b => indexAddrV E t a b | _, _ => none
 | .index t x i => match ev fr x, ev fr i with | some a, some b => indexV E t a b | _, _ => none
 | .lookup t m k ok => match ev fr m, ev fr k with | some m, some k => lookupV E h t m k ok | _, _ => none
 | .typeAssert x _ t ok => match ev fr x with | some a => assertV E a t ok | none => none
 | .extract x i => match ev fr x with | some (.tuple vs) => vs[i]? | _ => none
 | .build t parts => match evParts fr parts.toList with | some p => buildV E t p | none => none
 | .call c => match c.callee with
  | .builtin .len => match evs fr c.args.toList with
   | some [x] => match c.argTypes[0]? with | some t => lenV E h t x | none => none
   | _ => none
  | .builtin .cap => match evs fr c.args.toList with
   | some [x] => match c.argTypes[0]? with | some t => capV E t x | none => none
   | _ => none
  | .builtin .max => match evs fr c.args.toList with | some (x :: r) => foldV max2V x r | _ => none
  | .builtin .min => match evs fr c.args.toList with | some (x :: r) => foldV min2V x r | _ => none
  | _ => none
 | _ => none
def lenOfV : Value → Option Nat
 | .slice _ n _ => some n
 | .string s => some s.size
 | _ => none
def firstV (h : Heap) (k n : Nat) : Value → Option (List Value)
 | .slice (some a) _ _ => bif Nat.beq (n * k) 0 then some [] else match elemAddr a 0 with | some a => cellsAt h a (n * k) | none => none
 | .slice none _ _ => some []
 | .string s => some ((s.data.toList.take n).map fun b => .int .u8 b.toNat)
 | _ => none
def repZ (z : List Value) : Nat → List Value
 | 0 => []
 | n + 1 => z ++ repZ z n
def zerosV (P : Program) (ts : Array TypeId) : Option Bool :=
 match ts[1]? with
 | some t => match P.underlying t with | some (.int _) => some true | some _ => some false | none => none
 | none => some false
def newV (E : Env) (h : Heap) (elem k bytes : Nat) (zeros : Bool) (x : Value) : Option (Nat × List Value) :=
 bif zeros then
  match x with
  | .int _ i => if 0 ≤ i ∧ i ≤ 140737488355328 ∧ i * bytes ≤ 281474976710656 then match zeroOf E.P elem with
   | some z => bif Nat.beq z.cells.size k then some (i.toNat, repZ z.cells.toList i.toNat) else none
   | none => none
   else none
  | _ => none
 else match lenOfV x with
  | some n => match firstV h k n x with | some c => some (n, c) | none => none
  | none => none
def roomy (n b : Nat) : Bool := Nat.ble ((n + n / 4 + 1024) * b) 281474976710656 && Nat.blt 0 b
def putV (h : Heap) (base : Option Addr) (len cap n k : Nat) (new : List Value) : Option (Value × Heap) :=
 bif Nat.beq (n * k) 0 then some (.slice base (len + n) cap, h)
 else match base with
  | none => none
  | some a => match elemAddr a (len * k) with
   | none => none
   | some a' => match storeCells h a' new with
    | some h' => some (.slice base (len + n) cap, h')
    | none => none
def growV (h : Heap) (base : Option Addr) (len cap n k elem : Nat) (new : List Value) : Option (Value × Heap) :=
 match base with
 | none => bif Nat.beq len 0 then some (.slice (some ⟨h.n, 0, some 0⟩) (len + n) (len + n), h.alloc (.cells new elem)) else none
 | some a =>
  bif isSlack a then
   match h.get a.block with
   | some (.cells c T) =>
    bif Nat.ble h.lim a.block && Nat.beq T elem && Nat.ble (a.off + len * k) c.length && new.all cellOk then
     some (.slice (some ⟨h.n, 0, some 0⟩) (len + n) (len + n), (h.set a.block .dead).alloc (.cells ((c.drop a.off).take (len * k) ++ new) elem))
    else none
   | _ => none
  else match a.spot with
   | some 2 => none
   | _ => match firstV h k len (.slice (some a) len cap) with
    | some old => some (.slice (some ⟨h.n, 0, some 0⟩) (len + n) (len + n), h.alloc (.cells (old ++ new) elem))
    | none => none
def appendV (E : Env) (h : Heap) (ts : Array TypeId) (s x : Value) : Option (Value × Heap) :=
 match ts[0]? with
 | none => none
 | some sT => match E.P.underlying sT with
  | some (.slice elem) => match sz E.P elem, bytesOf E.P elem, zeroOf E.P elem, zerosV E.P ts with
   | some k, some bytes, some z, some zeros =>
    match s with
    | .slice base len cap =>
     match newV E h elem k bytes zeros x with
     | none => none
     | some (n, new) =>
      bif Nat.beq new.length (n * k) then
       bif Nat.ble (len + n) cap then putV h base len cap n k new
       else bif roomy (len + n) bytes && Nat.beq z.cells.size k then growV h base len cap n k elem new
       else none
      else none
    | _ => none
   | _, _, _, _ => none
  | _ => none
def copyV (E : Env) (h : Heap) (ts : Array TypeId) (d x : Value) : Option (Value × Heap) :=
 match ts[0]? with
 | none => none
 | some sT => match E.P.underlying sT with
  | some (.slice elem) => match sz E.P elem, d, lenOfV x with
   | some k, .slice base len _, some n =>
    match firstV h k (Nat.min n len) x with
    | none => none
    | some c =>
     bif !Nat.beq c.length (Nat.min n len * k) then none
     else bif Nat.beq (Nat.min n len * k) 0 then some (goInt (Nat.min n len), h)
     else match base with
      | none => none
      | some a => match elemAddr a 0 with
       | none => none
       | some a' => match storeCells h a' c with
        | some h' => some (goInt (Nat.min n len), h')
        | none => none
   | _, _, _ => none
  | _ => none
def clearV (E : Env) (h : Heap) (ts : Array TypeId) (x : Value) : Option (Value × Heap) :=
 match ts[0]? with
 | none => none
 | some sT => match E.P.underlying sT with
  | some (.slice elem) => match x with
   | .slice none _ _ => some (.tuple #[], h)
   | .slice (some a) n _ =>
    bif Nat.beq n 0 then some (.tuple #[], h)
    else match zeroOf E.P elem with
     | some z => match elemAddr a 0 with
      | none => none
      | some a' => match storeCells h a' (repZ z.cells.toList n) with
       | some h' => some (.tuple #[], h')
       | none => none
     | none => none
   | _ => none
  | some (.map _ _) => match x with
   | .map none => some (.tuple #[], h)
   | .map (some r) => match h.get r with
    | some (.map _ c) => bif Nat.ble h.lim r then some (.tuple #[], h.set r (.map [] c)) else none
    | _ => none
   | _ => none
  | _ => none
def deleteV (E : Env) (h : Heap) (ts : Array TypeId) (m k : Value) : Option (Value × Heap) :=
 match ts[0]? with
 | none => none
 | some mT => match E.P.underlying mT with
  | some (.map key _) => match (bif plainN 0 k then scalarT E.P key else none) with
   | some kd => match m with
    | .map none => some (.tuple #[], h)
    | .map (some r) => match h.get r with
     | some (.map es c) => bif Nat.ble h.lim r then
      match findM kd k es 0 with
      | some (some (i, _)) => some (.tuple #[], h.set r (.map (es.eraseIdx i) c))
      | some none => some (.tuple #[], h.set r (.map es c))
      | none => none
      else none
     | _ => none
    | _ => none
   | none => none
  | _ => none
def updateV (E : Env) (h : Heap) (t : TypeId) (m k v : Value) : Option Heap :=
 match E.P.underlying t with
 | some (.map key _) => match (bif plainN 0 k then scalarT E.P key else none), m with
  | some kd, .map (some r) => match h.get r with
   | some (.map es c) => bif Nat.ble h.lim r then
    match findM kd k es 0 with
    | some (some (i, _)) => some (h.set r (.map (es.set i (k, v)) c))
    | some none => some (h.set r (.map (es ++ [(k, v)]) (c + 1)))
    | none => none
    else none
   | _ => none
  | _, _ => none
 | _ => none
def storeV (E : Env) (h : Heap) (t : TypeId) (a v : Value) : Option Heap :=
 match a with
 | .pointer (some a) => match sz E.P t with
  | some k => bif Nat.beq v.cells.size k then storeCells h a v.cells.toList else none
  | none => none
 | _ => none
def ptrTo (b : Nat) : Value := .pointer (some ⟨b, 0, none⟩)
def mkMapV (E : Env) (h : Heap) (t : TypeId) : Option Operand → Option (Value × Heap)
 | none => some (.map (some h.n), h.alloc (.map [] 0))
 | some (.const (.int _ _)) => match E.P.underlying t with | some (.map _ _) => some (.map (some h.n), h.alloc (.map [] 0)) | _ => none
 | some _ => none
def writeV (E : Env) (fr : Fr) (h : Heap) (op : Op) : Option (Value × Heap) :=
 match op with
 | .alloc t => match zeroOf E.P t with | some z => some (ptrTo h.n, h.alloc (.cells z.cells.toList t)) | none => none
 | .box t x => match ev fr x with | some v => some (ptrTo h.n, h.alloc (.cells v.cells.toList t)) | none => none
 | .buildSlice t len parts => match E.P.underlying t, evParts fr parts.toList with
  | some (.slice elem), some p => match sz E.P elem, zeroOf E.P elem with
   | some k, some z => bif Nat.ble (len * k) 16777216 && Nat.beq z.cells.size k then
    match fillL (fun i => some (i * k, k)) (repZ z.cells.toList len) p with
    | some c => some (.slice (some ⟨h.n, 0, none⟩) len len, h.alloc (.cells c elem))
    | none => none
    else none
   | _, _ => none
  | _, _ => none
 | .makeMap t r => mkMapV E h t r
 | .makeSlice t l c => match E.P.underlying t, ev fr l, ev fr c with
  | some (.slice elem), some (.int .i64 l), some (.int .i64 c) => match sz E.P elem, bytesOf E.P elem, zeroOf E.P elem with
   | some k, some b, some z => bif decide (0 ≤ l ∧ l ≤ c ∧ c ≤ 140737488355328 ∧ b * c ≤ 281474976710656) && Nat.beq z.cells.size k then
    some (.slice (some ⟨h.n, 0, none⟩) l.toNat c.toNat, h.alloc (.cells (repZ z.cells.toList c.toNat) elem))
    else none
   | _, _, _ => none
  | _, _, _ => none
 | .store t a x => match ev fr a, ev fr x with
  | some a, some v => match storeV E h t a v with | some h' => some (undef, h') | none => none
  | _, _ => none
 | .mapUpdate t m k x => match ev fr m, ev fr k, ev fr x with
  | some m, some k, some v => match updateV E h t m k v with | some h' => some (undef, h') | none => none
  | _, _, _ => none
 | .insert t m k x => match ev fr m, ev fr k, ev fr x with
  | some m, some k, some v => match updateV E h t m k v with | some h' => some (undef, h') | none => none
  | _, _, _ => none
 | .call c => match c.callee with
  | .builtin .append => match evs fr c.args.toList with | some [s, x] => appendV E h c.argTypes s x | _ => none
  | .builtin .copy => match evs fr c.args.toList with | some [d, x] => copyV E h c.argTypes d x | _ => none
  | .builtin .clear => match evs fr c.args.toList with | some [x] => clearV E h c.argTypes x | _ => none
  | .builtin .delete => match evs fr c.args.toList with | some [m, k] => deleteV E h c.argTypes m k | _ => none
  | _ => none
 | _ => none
def hasBody (P : Program) (g : FuncId) : Bool := match P.funcs[g]? with
 | some fn => match fn.body with | some _ => true | none => false
 | none => false
def calleeV (E : Env) (fr : Fr) (op : Op) : Option (FuncId × List Value) :=
 match op with
 | .call c => match c.callee with
  | .value f => match ev fr f with
   | some (.func (.func g) first cap) => match evs fr c.args.toList with
    | some args => bif hasBody E.P g then some (g, first.toList ++ (args ++ cap.toList)) else none
    | none => none
   | _ => none
  | .invoke r name => match ev fr r with
   | some (.iface t v) => match E.meth t name with
    | some g => match evs fr c.args.toList with | some args => bif hasBody E.P g then some (g, v :: args) else none | none => none
    | none => none
   | _ => none
  | .builtin _ => none
 | _ => none
inductive Ex where
 | normal
 | exit (id : Nat)
 | ret
 deriving DecidableEq
def wantedV (ops : Array Oper) (fr : Fr) (o : Oper) : Bool :=
 match o.guard with
 | none => true
 | some (j, want) => match ops[j]? with
  | some oj => match oj.dst with
   | some d => match fr.at d with | .bool b => b == want | _ => false
   | none => false
  | none => false
def opV (E : Env) (call : FuncId → List Value → Heap → Option (Value × Heap)) (fr : Fr) (h : Heap) (op : Op) : Option (Value × Heap) :=
 match readV E fr h op with
 | some v => some (v, h)
 | none => match writeV E fr h op with
  | some r => some r
  | none => match calleeV E fr op with
   | some (g, args) => call g args h
   | none => none
def promoM (P : Program) (t : TypeId) (name : String) : Option (FuncId × TypeId × Nat × TypeId) := match P.info? t with
 | none => none
 | some i => match i.methods.find? (·.name == name) with
  | none => none
  | some m => match m.path.toList, m.func with
   | [s], some (f, true) => bif s.deref then match P.underlying s.struct with
    | some (.struct fs) => match fs[s.index]? with
     | some fd => match P.underlying fd.type with
      | some (.pointer _) => some (f, s.struct, s.index, fd.type)
      | _ => none
     | none => none
    | _ => none
    else none
   | _, _ => none
def promoV (E : Env) (fr : Fr) (h : Heap) : Op → Option (FuncId × List Value)
 | .call c => match c.callee with
  | .invoke r name => match ev fr r with
   | some (.iface t v) => match E.meth t name with
    | some _ => none
    | none => match promoM E.P t name with
     | some (g, st, i, ft) => match fieldAddrV E st v i with
      | some (.pointer (some a)) => match loadV E h ft a with
       | some u => match evs fr c.args.toList with | some args => bif hasBody E.P g then some (g, u :: args) else none | none => none
       | none => none
      | _ => none
     | none => none
   | _ => none
  | _ => none
 | _ => none
def mapsV (E : Env) (fr : Fr) (h : Heap) : Op → Option (Value × Heap)
 | .mapUpdate t m k x => match E.P.underlying t, ev fr m, ev fr k, ev fr x with
  | some (.map key _), some (.map (some r)), some (.agg xs), some v => match h.get r, E.eqT key with
   | some (.map es c), some ks => bif keyS E.P key xs && Nat.ble h.lim r then
    match findS ks xs.toList es 0 with
    | some none => some (undef, h.set r (.map (es ++ [(.agg xs, v)]) (c + 1)))
    | _ => none
    else none
   | _, _ => none
  | _, _, _, _ => none
 | .range t x => match E.P.underlying t, ev fr x with
  | some (.map _ _), some (.map (some r)) => match h.get r with
   | some (.map _ c) => bif Nat.beq c 1 then some (ptrTo h.n, h.alloc (.iter r false)) else none
   | _ => none
  | _, _ => none
 | .next it false => match ev fr it with
  | some (.pointer (some a)) => bif a.spot.isNone && Nat.beq a.off 0 then match h.get a.block with
   | some (.iter r s) => match h.get r with
    | some (.map [e] c) => bif Nat.beq c 1 then
     (bif s then some (.tuple #[.bool false], h) else bif Nat.ble h.lim a.block then some (.tuple #[.bool true, e.1, e.2], h.set a.block (.iter r true)) else none)
     else none
    | _ => none
   | _ => none
   else none
  | _ => none
 | .entry it => match ev fr it with
  | some (.pointer (some a)) => bif a.spot.isNone && Nat.beq a.off 0 then match h.get a.block with
   | some (.iter r true) => match h.get r with
    | some (.map [e] c) => bif Nat.beq c 1 then some (.tuple #[e.1, e.2], h) else none
    | _ => none
   | _ => none
   else none
  | _ => none
 | _ => none
def opP (E : Env) (call : FuncId → List Value → Heap → Option (Value × Heap)) (fr : Fr) (h : Heap) (op : Op) : Option (Value × Heap) :=
 match opV E call fr h op with
 | some r => some r
 | none => match promoV E fr h op with
  | some (g, args) => call g args h
  | none => mapsV E fr h op
def quietV (E : Env) (call : FuncId → List Value → Heap → Option (Value × Heap)) (fr : Fr) (h : Heap) (op : Op) : Option Value :=
 match readV E fr h op with
 | some v => some v
 | none => match calleeV E fr op with
  | some (g, args) => match call g args { h with lim := h.n } with
   | some (v, _) => bif plainN 4 v then some v else none
   | none => none
  | none => none
def runOps (E : Env) (nt : Nat) (call : FuncId → List Value → Heap → Option (Value × Heap)) (ops : Array Oper) : List Oper → Fr → Heap → Option (Fr × Heap)
 | [], fr, h => some (fr, h)
 | o :: rest, fr, h =>
  bif wantedV ops fr o then
   match opP E call fr h o.op with
   | some (v, h') => match fr.put nt o.dst v with | some fr' => runOps E nt call ops rest fr' h' | none => none
   | none => none
  else match fr.put nt o.dst undef with | some fr' => runOps E nt call ops rest fr' h | none => none
def runQuiet (E : Env) (nt : Nat) (call : FuncId → List Value → Heap → Option (Value × Heap)) (ops : Array Oper) : List Oper → Fr → Heap → Option (Fr × Heap)
 | [], fr, h => some (fr, h)
 | o :: rest, fr, h =>
  bif wantedV ops fr o then
   match quietV E call fr h o.op with
   | some v => match fr.put nt o.dst v with | some fr' => runQuiet E nt call ops rest fr' h | none => none
   | none => none
  else match fr.put nt o.dst undef with | some fr' => runQuiet E nt call ops rest fr' h | none => none
def readK : Op → Bool
 | .move _ => true | .assign _ => true | .pick _ _ _ => true | .load _ _ => true | .nilCheck _ => true
 | .binOp _ _ _ _ _ => true | .unOp _ _ _ => true | .convert _ _ _ => true | .makeInterface _ _ => true
 | .makeFunc _ _ _ => true | .slice _ _ _ _ _ => true | .fieldAddr _ _ _ => true | .field _ _ _ => true
 | .indexAddr _ _ _ => true | .index _ _ _ => true | .lookup _ _ _ _ => true | .typeAssert _ _ _ _ => true
 | .extract _ _ => true | .build _ _ => true
 | .call c => match c.callee with
  | .builtin .len => true | .builtin .cap => true | .builtin .max => true | .builtin .min => true
  | _ => false
 | _ => false
def heapK : Op → Bool
 | .load _ _ => true | .slice _ _ _ _ _ => true | .lookup _ _ _ _ => true | .convert _ _ _ => true
 | .call c => match c.callee with | .builtin .len => true | _ => false
 | _ => false
def allocK : Op → Bool
 | .alloc _ => true
 | .box _ _ => true
 | .buildSlice _ _ _ => true
 | _ => false
def quietR (P : Program) (ops : Array Oper) : Bool := ops.toList.all fun o => readK o.op
def afters (o : Oper) : List Nat := (o.after.toList.filter (Region.binds .any)).map (·.on)
def hasBit : Nat → Nat → Bool
 | m, i => Nat.beq (Nat.land (Nat.shiftRight m i) 1) 1
def addBit (m i : Nat) : Nat := Nat.lor m (Nat.shiftLeft 1 i)
def lookT : List (Nat × Nat) → Nat → Nat
 | [], _ => 0
 | (i, t) :: r, j => bif Nat.beq i j then t else lookT r j
def maskT (T : List (Nat × Nat)) : List Nat → Nat
 | [] => 0
 | e :: r => Nat.lor (addBit (lookT T e) e) (maskT T r)
def rdyB (m : Nat) (p : Nat × Oper) : Bool := !hasBit m p.1 && (afters p.2).all fun e => hasBit m e
def pickB (l : List (Nat × Oper)) (m : Nat) : Option (Nat × Oper) :=
 match l.find? fun p => readK p.2.op && rdyB m p with
 | some p => some p
 | none => match l.find? fun p => !allocK p.2.op && rdyB m p with
  | some p => some p
  | none => l.find? fun p => rdyB m p
def schedGo (l : List (Nat × Oper)) : Nat → Nat → List (Nat × Nat) → List Nat → List (Nat × List Nat)
 | 0, _, _, _ => []
 | f + 1, m, T, hs => match pickB l m with
  | none => []
  | some (j, o) =>
   (j, bif readK o.op || allocK o.op then [] else hs.filter fun r => !hasBit (maskT T (afters o)) r) ::
    schedGo l f (addBit m j) ((j, maskT T (afters o)) :: T) (bif heapK o.op then hs ++ [j] else hs)
def numbered : Nat → List Oper → List (Nat × Oper)
 | _, [] => []
 | i, o :: r => (i, o) :: numbered (i + 1) r
def sched (ops : Array Oper) : List (Nat × List Nat) := schedGo (numbered 0 ops.toList) ops.size 0 [] []
def veqN : Nat → Value → Value → Bool
 | _, .bool a, .bool b => a == b
 | _, .int k a, .int k' b => decide (k = k') && decide (a = b)
 | _, .string a, .string b => a == b
 | _, .pointer a, .pointer b => decide (a = b)
 | _, .slice a l c, .slice a' l' c' => decide (a = a') && Nat.beq l l' && Nat.beq c c'
 | _, .map a, .map b => decide (a = b)
 | _, .nilFunc, .nilFunc => true
 | _, .nilIface, .nilIface => true
 | n + 1, .iface t v, .iface t' v' => Nat.beq t t' && veqN n v v'
 | n + 1, .func f a c, .func f' a' c' => decide (f = f') && (Nat.beq a.size a'.size && (List.zipWith (veqN n) a.toList a'.toList).all id) && (Nat.beq c.size c'.size && (List.zipWith (veqN n) c.toList c'.toList).all id)
 | n + 1, .agg a, .agg a' => Nat.beq a.size a'.size && (List.zipWith (veqN n) a.toList a'.toList).all id
 | n + 1, .tuple a, .tuple a' => Nat.beq a.size a'.size && (List.zipWith (veqN n) a.toList a'.toList).all id
 | _, _, _ => false
def same : Option Value → Option Value → Bool
 | some a, some b => veqN 6 a b
 | _, _ => false
def chkR (E : Env) (ops : Array Oper) (fr : Fr) (h h' : Heap) : List Nat → Bool
 | [] => true
 | r :: rs => (match ops[r]? with
  | some o => !wantedV ops fr o || same (readV E fr h o.op) (readV E fr h' o.op)
  | none => false) && chkR E ops fr h h' rs
def slotL : List (Nat × Nat) → Nat → Option Nat
 | [], _ => none
 | (i, b) :: r, j => bif Nat.beq i j then some b else slotL r j
def slotsOf : List (Nat × Oper) → Nat → List (Nat × Nat)
 | [], _ => []
 | (i, o) :: r, n => bif allocK o.op then (i, n) :: slotsOf r (n + 1) else slotsOf r n
def slots (ops : Array Oper) (n : Nat) : List (Nat × Nat) := slotsOf (numbered 0 ops.toList) n
def resv : Nat → Heap → Heap
 | 0, h => h
 | k + 1, h => resv k (h.alloc .dead)
def newB (E : Env) (fr : Fr) : Op → Option (List Value × TypeId × (Nat → Value))
 | .alloc t => match zeroOf E.P t with | some z => some (z.cells.toList, t, ptrTo) | none => none
 | .box t x => match ev fr x with | some v => some (v.cells.toList, t, ptrTo) | none => none
 | .buildSlice t len parts => match E.P.underlying t, evParts fr parts.toList with
  | some (.slice elem), some p => match sz E.P elem, zeroOf E.P elem with
   | some k, some z => bif Nat.ble (len * k) 16777216 && Nat.beq z.cells.size k then
    match fillL (fun i => some (i * k, k)) (repZ z.cells.toList len) p with
    | some c => some (c, elem, fun b => .slice (some ⟨b, 0, none⟩) len len)
    | none => none
    else none
   | _, _ => none
  | _, _ => none
 | _ => none
def rsvV (E : Env) (fr : Fr) (h : Heap) (b : Nat) (op : Op) : Option (Value × Heap) := match newB E fr op with
 | some (cs, T, f) => match h.get b with
  | some .dead => some (f b, h.set b (.cells cs T))
  | _ => none
 | none => none
def opS (E : Env) (call : FuncId → List Value → Heap → Option (Value × Heap)) (sl : List (Nat × Nat)) (i : Nat) (fr : Fr) (h : Heap) (op : Op) : Option (Value × Heap) :=
 bif allocK op then match slotL sl i with | some b => rsvV E fr h b op | none => none
 else opP E call fr h op
def runSched (E : Env) (nt : Nat) (call : FuncId → List Value → Heap → Option (Value × Heap)) (ops : Array Oper) (sl : List (Nat × Nat)) : List (Nat × List Nat) → Fr → Heap → Option (Fr × Heap)
 | [], fr, h => some (fr, h)
 | (i, ck) :: rest, fr, h => match ops[i]? with
  | none => none
  | some o =>
   bif wantedV ops fr o then
    match opS E call sl i fr h o.op with
    | some (v, h') => bif chkR E ops fr h h' ck then
     match fr.put nt o.dst v with | some fr' => runSched E nt call ops sl rest fr' h' | none => none
     else none
    | none => none
   else match fr.put nt o.dst undef with | some fr' => runSched E nt call ops sl rest fr' h | none => none
def runDrawn (E : Env) (nt : Nat) (call : FuncId → List Value → Heap → Option (Value × Heap)) (ops : Array Oper) (fr : Fr) (h : Heap) : Option (Fr × Heap) :=
 runSched E nt call ops (slots ops h.n) (sched ops) fr (resv (slots ops h.n).length h)
def iter (F : Fr → Heap → Option (Ex × Fr × Heap)) : Nat → Fr → Heap → Option (Ex × Fr × Heap)
 | 0, _, _ => none
 | k + 1, fr, h => match F fr h with
  | some (.normal, fr', h') => iter F k fr' h'
  | r => r
def evalC (E : Env) (nt : Nat) (call : FuncId → List Value → Heap → Option (Value × Heap)) (lf : Nat) : Code → Fr → Heap → Option (Ex × Fr × Heap)
 | .skip, fr, h => some (.normal, fr, h)
 | .label _, fr, h => some (.normal, fr, h)
 | .region _ ops draw, fr, h =>
  match (bif draw then (bif quietR E.P ops then runQuiet E nt call ops ops.toList fr h else runDrawn E nt call ops fr h) else runOps E nt call ops ops.toList fr h) with
  | some (fr', h') => some (.normal, fr', h')
  | none => none
 | .seq a b, fr, h => match evalC E nt call lf a fr h with
  | some (.normal, fr', h') => evalC E nt call lf b fr' h'
  | r => r
 | .cond c a b, fr, h => match ev fr c with
  | some (.bool true) => evalC E nt call lf a fr h
  | some (.bool false) => evalC E nt call lf b fr h
  | _ => none
 | .block id body, fr, h => match evalC E nt call lf body fr h with
  | some (.exit id', fr', h') => if id' = id then some (.normal, fr', h') else some (.exit id', fr', h')
  | r => r
 | .loop body, fr, h => iter (fun fr h => evalC E nt call lf body fr h) lf fr h
 | .exit id, fr, h => some (.exit id, fr, h)
 | .scope body, fr, h => evalC E nt call lf body fr h
 | .ret, fr, h => some (.ret, fr, h)
 | _, _, _ => none
def initF : List Value → Nat → Fr → Fr
 | [], _, fr => fr
 | v :: r, i, fr => initF r (i + 1) (fr.set i v)
def resultV (E : Env) (fr : Fr) (h : Heap) : ResultVar → Option Value
 | .tmp t => some (fr.at t)
 | .cell a t => match fr.at a with | .pointer (some a) => loadV E h t a | _ => none
def resultsV (E : Env) (fr : Fr) (h : Heap) : List ResultVar → Option (List Value)
 | [] => some []
 | r :: rs => match resultV E fr h r with
  | some v => match resultsV E fr h rs with | some l => some (v :: l) | none => none
  | none => none
def packV : List Value → Value
 | [v] => v
 | l => .tuple l.toArray
def run (E : Env) : Nat → FuncId → List Value → Heap → Option (Value × Heap)
 | 0, _, _, _ => none
 | n + 1, f, args, h =>
  match E.prim f with
  | some p => p args h
  | none => match E.P.funcs[f]? with
   | none => none
   | some fn => match fn.body with
    | none => none
    | some c => bif Nat.ble args.length fn.ntmps then
     match evalC E fn.ntmps (run E n) n c (initF args 0 .nil) h with
     | some (.exit _, _, _) => none
     | some (_, fr, h') => match resultsV E fr h' fn.results.toList with
      | some l => some (packV l, h')
      | none => none
     | none => none
     else none
end Go.Proofs.YtokfjifeofpkkaaGreat.V
namespace Go.Proofs.YtokfjifeofpkkaaGreat.V
open Go
set_option linter.unusedVariables false
set_option linter.unusedSimpArgs false
structure Img where
 B : Nat
 s : Nat
 N : Nat
 k : Nat
abbrev Inj := Nat → Option Img
inductive AR (β : Inj) : Addr → Addr → Prop
 | new {b o B s N k : Nat} (h : β b = some ⟨B, s, N, k⟩) : AR β ⟨b, o, none⟩ ⟨B, s + o, none⟩
 | base {B o : Nat} : AR β ⟨B, o, some 1⟩ ⟨B, o, none⟩
 | odd {B o s : Nat} : AR β ⟨B, o, some (s + 3)⟩ ⟨B, o, some s⟩
mutual
inductive VR (β : Inj) : Value → Value → Prop
 | bool (b : Bool) : VR β (.bool b) (.bool b)
 | int (k : IntKind) (n : Int) : VR β (.int k n) (.int k n)
 | float (k : FloatKind) (b : Nat) : VR β (.float k b) (.float k b)
 | complex (k : FloatKind) (b c : Nat) : VR β (.complex k b c) (.complex k b c)
 | string (s : ByteArray) : VR β (.string s) (.string s)
 | nilFunc : VR β .nilFunc .nilFunc
 | nilIface : VR β .nilIface .nilIface
 | ptrNil : VR β (.pointer none) (.pointer none)
 | ptr {a a' : Addr} (h : AR β a a') : VR β (.pointer (some a)) (.pointer (some a'))
 | sliceNil (l c : Nat) : VR β (.slice none l c) (.slice none l c)
 | slice {a a' : Addr} (h : AR β a a') (l c : Nat) : VR β (.slice (some a) l c) (.slice (some a') l c)
 | slack {b o B s N k : Nat} (h : β b = some ⟨B, s, N, k⟩) (l : Nat) {c c' : Nat} (hc : c ≤ c') (hn : s + o + c' * k ≤ N) : VR β (.slice (some ⟨b, o, some 0⟩) l c) (.slice (some ⟨B, s + o, none⟩) l c')
 | opq (a' : Addr) (c' : Nat) : VR β (.slice (some ⟨0, 0, some 2⟩) 0 0) (.slice (some a') 0 c')
 | mapNil : VR β (.map none) (.map none)
 | map {r B : Nat} (h : β r = some ⟨B, 0, 0, 0⟩) : VR β (.map (some r)) (.map (some B))
 | chanNil : VR β (.chan none) (.chan none)
 | func (fn : Fn) {f f' c c' : Array Value} (h1 : VRs β f.toList f'.toList) (h2 : VRs β c.toList c'.toList) : VR β (.func fn f c) (.func fn f' c')
 | iface (t : TypeId) {v v' : Value} (h : VR β v v') : VR β (.iface t v) (.iface t v')
 | agg {c c' : Array Value} (h : VRs β c.toList c'.toList) : VR β (.agg c) (.agg c')
 | tuple {c c' : Array Value} (h : VRs β c.toList c'.toList) : VR β (.tuple c) (.tuple c')
inductive VRs (β : Inj) : List Value → List Value → Prop
 | nil : VRs β [] []
 | cons {v v' : Value} {l l' : List Value} (h : VR β v v') (r : VRs β l l') : VRs β (v :: l) (v' :: l')
end
def Inj.le (β β' : Inj) : Prop := ∀ b x, β b = some x → β' b = some x
theorem Inj.le_refl (β : Inj) : β.le β := fun _ _ h => h
theorem Inj.le_trans {β β' β'' : Inj} (h : β.le β') (h' : β'.le β'') : β.le β'' := fun b x e => h' b x (h b x e)
theorem AR.mono {β β' : Inj} (hb : β.le β') {a a' : Addr} (h : AR β a a') : AR β' a a' := by
 cases h with
 | new h => exact .new (hb _ _ h)
 | base => exact .base
 | odd => exact .odd
mutual
theorem VR.mono {β β' : Inj} (hb : β.le β') {v v' : Value} (h : VR β v v') : VR β' v v' :=
 match h with
 | .bool b => .bool b
 | .int k n => .int k n
 | .float k b => .float k b
 | .complex k b c => .complex k b c
 | .string s => .string s
 | .nilFunc => .nilFunc
 | .nilIface => .nilIface
 | .ptrNil => .ptrNil
 | .ptr h => .ptr (h.mono hb)
 | .sliceNil l c => .sliceNil l c
 | .slice h l c => .slice (h.mono hb) l c
 | .slack h l hc hn => .slack (hb _ _ h) l hc hn
 | .opq a c => .opq a c
 | .mapNil => .mapNil
 | .map h => .map (hb _ _ h)
 | .chanNil => .chanNil
 | .func fn h1 h2 => .func fn (h1.mono hb) (h2.mono hb)
 | .iface t h => .iface t (h.mono hb)
 | .agg h => .agg (h.mono hb)
 | .tuple h => .tuple (h.mono hb)
theorem VRs.mono {β β' : Inj} (hb : β.le β') {l l' : List Value} (h : VRs β l l') : VRs β' l l' :=
 match h with
 | .nil => .nil
 | .cons h r => .cons (h.mono hb) (r.mono hb)
end
theorem VRs.len {β : Inj} {l l' : List Value} (h : VRs β l l') : l.length = l'.length := by
 induction l generalizing l' with
 | nil => cases h; rfl
 | cons v l ih => cases h with | cons h r => simp [ih r]
theorem VRs.get {β : Inj} {l l' : List Value} (h : VRs β l l') (i : Nat) {v : Value} (hv : l[i]? = some v) : ∃ v', l'[i]? = some v' ∧ VR β v v' := by
 induction l generalizing l' i with
 | nil => simp at hv
 | cons u l ih =>
  cases h with
  | cons h r =>
   cases i with
   | zero => simp at hv; subst hv; exact ⟨_, by simp, h⟩
   | succ i => simp at hv; obtain ⟨v', h1, h2⟩ := ih r i hv; exact ⟨v', by simpa using h1, h2⟩
theorem VRs.get' {β : Inj} {l l' : List Value} (h : VRs β l l') (i : Nat) (hv : l[i]? = none) : l'[i]? = none := by
 simp at hv ⊢; rw [← h.len]; exact hv
theorem VRs.mk {β : Inj} : ∀ {l l' : List Value}, l.length = l'.length → (∀ (i : Nat) (v : Value), l[i]? = some v → ∃ v', l'[i]? = some v' ∧ VR β v v') → VRs β l l'
 | [], [], _, _ => .nil
 | [], _ :: _, h, _ => by simp at h
 | _ :: _, [], h, _ => by simp at h
 | v :: l, v' :: l', h, hg => by
  refine .cons ?_ (VRs.mk (by simpa using h) (fun i u hu => by simpa using hg (i + 1) u (by simpa using hu)))
  obtain ⟨u, h1, h2⟩ := hg 0 v (by simp)
  simp at h1; subst h1; exact h2
theorem VRs.append {β : Inj} {a a' b b' : List Value} (h : VRs β a a') (k : VRs β b b') : VRs β (a ++ b) (a' ++ b') := by
 induction a generalizing a' with
 | nil => cases h; exact k
 | cons v l ih => cases h with | cons h r => exact .cons h (ih r)
theorem VRs.take {β : Inj} {a a' : List Value} (h : VRs β a a') (n : Nat) : VRs β (a.take n) (a'.take n) := by
 induction a generalizing a' n with
 | nil => cases h; simp; exact .nil
 | cons v l ih => cases h with
  | cons h r => cases n with
   | zero => exact .nil
   | succ n => exact .cons h (ih r n)
theorem VRs.drop {β : Inj} {a a' : List Value} (h : VRs β a a') (n : Nat) : VRs β (a.drop n) (a'.drop n) := by
 induction a generalizing a' n with
 | nil => cases h; simp; exact .nil
 | cons v l ih => cases h with
  | cons h r => cases n with
   | zero => exact .cons h r
   | succ n => exact ih r n
theorem VRs.splice {β : Inj} {a a' b b' : List Value} (h : VRs β a a') (k : VRs β b b') (n : Nat) : VRs β (splice a n b) (splice a' n b') := by
 unfold V.splice; rw [k.len]; exact (h.take n).append (k.append (h.drop _))
mutual
theorem VR.plain {β : Inj} : ∀ (n : Nat) (v : Value), plainN n v = true → VR β v v
 | _, .bool b, _ => .bool b
 | _, .int k n, _ => .int k n
 | _, .float k n, _ => .float k n
 | _, .complex k n m, _ => .complex k n m
 | _, .string s, _ => .string s
 | _, .nilFunc, _ => .nilFunc
 | _, .nilIface, _ => .nilIface
 | _, .pointer none, _ => .ptrNil
 | n, .pointer (some a), h => by cases n <;> simp [plainN] at h
 | n, .slice none l c, h => .sliceNil l c
 | n, .slice (some a) l c, h => by cases n <;> simp [plainN] at h
 | _, .map none, _ => .mapNil
 | n, .map (some a), h => by cases n <;> simp [plainN] at h
 | _, .chan none, _ => .chanNil
 | n, .chan (some a), h => by cases n <;> simp [plainN] at h
 | n, .func (.func i) f c, h => by
  have h : f = #[] ∧ c = #[] := by cases n <;> simpa [plainN] using h
  obtain ⟨rfl, rfl⟩ := h
  exact .func _ .nil .nil
 | n, .func (.method i) f c, h => by cases n <;> simp [plainN] at h
 | n, .func (.methodOf i j) f c, h => by cases n <;> simp [plainN] at h
 | n, .func (.via i j k l) f c, h => by cases n <;> simp [plainN] at h
 | n, .func (.yield i) f c, h => by cases n <;> simp [plainN] at h
 | n + 1, .iface t v, h => .iface t (VR.plain n v (by simpa [plainN] using h))
 | 0, .iface t v, h => by simp [plainN] at h
 | n + 1, .agg cs, h => .agg (VRs.plain n cs.toList (by simpa [plainN] using h))
 | 0, .agg cs, h => by simp [plainN] at h
 | n + 1, .tuple cs, h => .tuple (VRs.plain n cs.toList (by simpa [plainN] using h))
 | 0, .tuple cs, h => by simp [plainN] at h
 termination_by n v => (n, 0)
theorem VRs.plain {β : Inj} : ∀ (n : Nat) (l : List Value), l.all (plainN n) = true → VRs β l l
 | _, [], _ => .nil
 | n, v :: l, h => by
  simp only [List.all_cons, Bool.and_eq_true] at h
  exact .cons (VR.plain n v h.1) (VRs.plain n l h.2)
 termination_by n l => (n, l.length + 1)
end
theorem plain_eq {β : Inj} : ∀ (n : Nat) {v v' : Value}, plainN n v = true → VR β v v' → v' = v := by
 intro n
 have key : ∀ (m : Nat), (∀ {v v' : Value}, plainN m v = true → VR β v v' → v' = v) →
  ∀ (l l' : List Value), l.all (plainN m) = true → VRs β l l' → l' = l := by
  intro m ih l
  induction l with
  | nil => intro l' _ h; cases h; rfl
  | cons u l ihl =>
   intro l' hp h
   cases h with
   | cons h r =>
    simp only [List.all_cons, Bool.and_eq_true] at hp
    rw [ih hp.1 h, ihl _ hp.2 r]
 induction n with
 | zero =>
  intro v v' hp h
  cases h <;> first | rfl | (simp [plainN] at hp; done) | skip
  rename_i fn f f' c c' h1 h2
  cases fn <;> simp [plainN] at hp
  obtain ⟨rfl, rfl⟩ := hp
  have e1 := h1.len; have e2 := h2.len
  simp at e1 e2
  have e1 : f' = #[] := Array.eq_empty_of_size_eq_zero e1.symm
  have e2 : c' = #[] := Array.eq_empty_of_size_eq_zero e2.symm
  rw [e1, e2]
 | succ n ih =>
  intro v v' hp h
  cases h <;> first | rfl | (simp [plainN] at hp; done) | skip
  ·
   rename_i fn f f' c c' h1 h2
   cases fn <;> simp [plainN] at hp
   obtain ⟨rfl, rfl⟩ := hp
   have e1 := h1.len; have e2 := h2.len
   simp at e1 e2
   have e1 : f' = #[] := Array.eq_empty_of_size_eq_zero e1.symm
   have e2 : c' = #[] := Array.eq_empty_of_size_eq_zero e2.symm
   rw [e1, e2]
  ·
   rename_i t u u' h
   rw [ih (by simpa [plainN] using hp) h]
  ·
   rename_i c c' h
   have := key n ih _ _ (by simpa [plainN] using hp) h
   rw [Array.toList_inj.1 this]
  ·
   rename_i c c' h
   have := key n ih _ _ (by simpa [plainN] using hp) h
   rw [Array.toList_inj.1 this]
theorem VR.undef (β : Inj) : VR β undef undef := .tuple .nil
def alive (h : Heap) (b : Nat) : Prop := ∃ o, h.get b = some o ∧ o ≠ .dead
def MRs (β : Inj) : List (Value × Value) → List MapEntry → Prop
 | [], [] => True
 | e :: es, x :: xs => (plainN 1 e.1 = true ∧ x.key = e.1) ∧ VR β e.2 x.val ∧ MRs β es xs
 | _, _ => False
def Rise (clock : Nat) (l : List MapEntry) : Prop := (l.map (·.born)).Pairwise (· < ·) ∧ ∀ x ∈ l, x.born < clock
theorem Rise.nil (clock : Nat) : Rise clock [] := ⟨List.Pairwise.nil, fun x h => by cases h⟩
theorem Rise.push {clock : Nat} {l : List MapEntry} (h : Rise clock l) (k v : Value) : Rise (clock + 1) (l ++ [{ key := k, val := v, born := clock }]) := by
 refine ⟨?_, fun x hx => ?_⟩
 ·
  rw [List.map_append, List.pairwise_append]
  refine ⟨h.1, List.pairwise_singleton _ _, fun a ha b hb => ?_⟩
  obtain ⟨x, hx, rfl⟩ := List.mem_map.mp ha
  have : b = clock := by simpa using hb
  subst this
  exact h.2 x hx
 ·
  rcases List.mem_append.mp hx with q | q
  ·
   exact Nat.lt_succ_of_lt (h.2 x q)
  ·
   have : x = _ := List.mem_singleton.mp q
   subst this; exact Nat.lt_succ_self _
theorem Rise.sub {clock : Nat} {l l' : List MapEntry} (h : Rise clock l) (hs : List.Sublist l' l) : Rise clock l' := ⟨h.1.sublist (hs.map _), fun x hx => h.2 x (hs.subset hx)⟩
theorem Rise.born {clock : Nat} {l l' : List MapEntry} (h : Rise clock l) (e : l'.map (·.born) = l.map (·.born)) : Rise clock l' := by
 refine ⟨by rw [e]; exact h.1, fun x hx => ?_⟩
 have : x.born ∈ l.map (·.born) := by rw [← e]; exact List.mem_map.mpr ⟨x, hx, rfl⟩
 obtain ⟨y, hy, q⟩ := List.mem_map.mp this
 rw [← q]; exact h.2 y hy
structure Sim (P : Program) (Wr : Nat → Prop) (β : Inj) (h : Heap) (w : World) : Prop where
 base : ∀ b o v, h.base b o = some v → ¬ Wr b ∧ ∃ v', w.cell? ⟨b, o, none⟩ = some v' ∧ ∀ β, VR β v v'
 dom : ∀ b x, β b = some x → b < h.n
 tdom : ∀ b o, h.get b = some o → b < h.n
 live : ∀ b c T, h.get b = some (.cells c T) → ∃ (B s : Nat) (C : Array Value) (fr : Nat × Nat), β b = some ⟨B, s, C.size, P.cellsOf T⟩ ∧ w.heap[B]? = some (.cells C T fr) ∧
  (∀ j, j ≤ C.size → (decide (fr.1 ≤ j) && decide (j < fr.2)) = false) ∧ s + c.length ≤ C.size ∧ ∀ i v, c[i]? = some v → ∃ v', C[s + i]? = some v' ∧ VR β v v'
 liveM : ∀ b es clock, h.get b = some (.map es clock) → ∃ (B : Nat) (ents : Array MapEntry), β b = some ⟨B, 0, 0, 0⟩ ∧ w.heap[B]? = some (.map ents clock) ∧ MRs β es ents.toList ∧ Rise clock ents.toList
 liveI : ∀ b r s, h.get b = some (.iter r s) → ∃ B B', β b = some ⟨B, 0, 0, 0⟩ ∧ β r = some ⟨B', 0, 0, 0⟩ ∧ w.heap[B]? = some (.mapIter (some B') 1 (if s then #[0] else #[]) 1)
 inj : ∀ b1 b2 x1 x2, alive h b1 → alive h b2 → β b1 = some x1 → β b2 = some x2 → b1 ≠ b2 → x1.B ≠ x2.B
 wr : ∀ b x, alive h b → h.lim ≤ b → β b = some x → Wr x.B
 fresh : ∀ k, w.heap.size ≤ k → Wr k
 img : ∀ b x, β b = some x → x.B < w.heap.size
structure Ext (w w' : World) : Prop where
 os : w'.os = w.os
 tape : w'.tape = w.tape
 output : w'.output = w.output
 size : w.heap.size ≤ w'.heap.size
 block : ∀ k, k < w.heap.size → w'.heap[k]? = w.heap[k]?
theorem Ext.refl (w : World) : Ext w w := ⟨rfl, rfl, rfl, Nat.le_refl _, fun _ _ => rfl⟩
theorem Ext.trans {a b c : World} (h : Ext a b) (k : Ext b c) : Ext a c :=
 ⟨k.os.trans h.os, k.tape.trans h.tape, k.output.trans h.output, Nat.le_trans h.size k.size, fun i hi => (k.block i (Nat.lt_of_lt_of_le hi h.size)).trans (h.block i hi)⟩
theorem Ext.below {w w' : World} (h : Ext w w') : RowKit.Below w.heap.size w w' := ⟨h.os, h.tape, h.output, h.size, h.block⟩
theorem Ext.of_below {w w' : World} (h : RowKit.Below w.heap.size w w') : Ext w w' := ⟨h.os, h.tape, h.output, h.size, h.block⟩
structure FrameW (Wr : Nat → Prop) (w w' : World) : Prop where
 os : w'.os = w.os
 tape : w'.tape = w.tape
 output : w'.output = w.output
 size : w.heap.size ≤ w'.heap.size
 block : ∀ k, ¬ Wr k → w'.heap[k]? = w.heap[k]?
theorem FrameW.refl (Wr : Nat → Prop) (w : World) : FrameW Wr w w := ⟨rfl, rfl, rfl, Nat.le_refl _, fun _ _ => rfl⟩
theorem FrameW.trans {Wr : Nat → Prop} {a b c : World} (h : FrameW Wr a b) (k : FrameW Wr b c) : FrameW Wr a c :=
 ⟨k.os.trans h.os, k.tape.trans h.tape, k.output.trans h.output, Nat.le_trans h.size k.size, fun i hi => (k.block i hi).trans (h.block i hi)⟩
theorem lt_of_get {w : World} {k : Nat} {o : Obj} (h : w.heap[k]? = some o) : k < w.heap.size := by
 rcases Nat.lt_or_ge k w.heap.size with h' | h'
 ·
  exact h'
 ·
  rw [Array.getElem?_eq_none h'] at h; cases h
theorem cell_lt {w : World} {a : Addr} {v : Value} (h : w.cell? a = some v) : a.block < w.heap.size := by
 unfold World.cell? at h
 split at h
 ·
  rename_i hb; exact lt_of_get hb
 ·
  cases h
theorem Ext.cell {w w' : World} (h : Ext w w') {a : Addr} {v : Value} (hc : w.cell? a = some v) : w'.cell? a = some v := by
 rw [← hc]; unfold World.cell?; rw [h.block _ (cell_lt hc)]
theorem Ext.get {w w' : World} (h : Ext w w') {k : Nat} {o : Obj} (hc : w.heap[k]? = some o) : w'.heap[k]? = some o := by
 rw [h.block _ (lt_of_get hc)]; exact hc
theorem Sim.ext {P : Program} {Wr : Nat → Prop} {β : Inj} {h : Heap} {w w' : World} (S : Sim P Wr β h w) (e : Ext w w') : Sim P Wr β h w' where
 base b o v hb := by obtain ⟨h1, v', h2, h3⟩ := S.base b o v hb; exact ⟨h1, v', e.cell h2, h3⟩
 dom := S.dom
 tdom := S.tdom
 live b c T hb := by
  obtain ⟨B, s, C, fr, h1, h2, h3, h4, h5⟩ := S.live b c T hb
  exact ⟨B, s, C, fr, h1, e.get h2, h3, h4, h5⟩
 liveM b es clock hb := by
  obtain ⟨B, ents, h1, h2, h3⟩ := S.liveM b es clock hb
  exact ⟨B, ents, h1, e.get h2, h3⟩
 liveI b r s hb := by
  obtain ⟨B, B', h1, h2, h3⟩ := S.liveI b r s hb
  exact ⟨B, B', h1, h2, e.get h3⟩
 inj := S.inj
 wr := S.wr
 fresh k hk := S.fresh k (Nat.le_trans e.size hk)
 img b x hb := Nat.lt_of_lt_of_le (S.img b x hb) e.size
theorem Sim.drawn {P : Program} {Wr : Nat → Prop} {β : Inj} {h : Heap} {w : World} (S : Sim P Wr β h w) (n : Nat) : Sim P Wr β h { w with drawn := n } :=
 S.ext ⟨rfl, rfl, rfl, Nat.le_refl _, fun _ _ => rfl⟩
theorem Sim.shut {P : Program} {Wr : Nat → Prop} {β : Inj} {h : Heap} {w : World} (S : Sim P Wr β h w) : Sim P (fun k => w.heap.size ≤ k) β { h with lim := h.n } w where
 base b o v hb := by obtain ⟨h1, v', h2, h3⟩ := S.base b o v hb; exact ⟨by have := cell_lt h2; simp at this; omega, v', h2, h3⟩
 dom := S.dom
 tdom := S.tdom
 live := S.live
 liveM := S.liveM
 liveI := S.liveI
 inj := S.inj
 wr b x ha hl hb := by obtain ⟨o, ho, _⟩ := ha; have := S.tdom b o ho; simp at hl; omega
 fresh k hk := hk
 img := S.img
structure FR (β : Inj) (nt : Nat) (fr : Fr) (a : Act) : Prop where
 size : a.tmps.size = nt
 defers : a.defers = []
 at_ : ∀ t, VR β (fr.at t) (a.tmps.getD t undef)
theorem FR.mono {β β' : Inj} (hb : β.le β') {nt : Nat} {fr : Fr} {a : Act} (h : FR β nt fr a) : FR β' nt fr a := ⟨h.size, h.defers, fun t => (h.at_ t).mono hb⟩
theorem Fr.at_set (fr : Fr) (d t : Nat) (v : Value) : Fr.at (fr.set d v) t = if d = t then v else fr.at t := by
 unfold Fr.at; rw [Trie.get_set]; by_cases e : d = t <;> simp [e]
theorem FR.put {β : Inj} {nt : Nat} {fr fr' : Fr} {a : Act} (h : FR β nt fr a) {d : Option Tmp} {v v' : Value} (hp : fr.put nt d v = some fr') (hv : VR β v v') : FR β nt fr' (a.put d v') := by
 cases d with
 | none => simp [Fr.put] at hp; subst hp; exact h
 | some d =>
  simp only [Fr.put] at hp
  cases hd : Nat.blt d nt with
  | false => rw [hd] at hp; simp at hp
  | true =>
   rw [hd] at hp; simp at hp; subst hp
   have hd : d < nt := by simpa [Nat.blt_eq] using hd
   refine ⟨by simp [Act.put, h.size], h.defers, fun t => ?_⟩
   rw [Fr.at_set]
   by_cases e : d = t
   ·
    subst e
    have : (a.tmps.setIfInBounds d v').getD d Go.undef = v' := by simp [Array.getD, Array.size_setIfInBounds, h.size, hd]
    simp only [Act.put, if_true]; rw [this]; exact hv
   ·
    have : (a.tmps.setIfInBounds d v').getD t Go.undef = a.tmps.getD t Go.undef := by
     simp only [Array.getD_eq_getD_getElem?, Array.getElem?_setIfInBounds, e, if_false]
    simp only [Act.put]; rw [if_neg e, this]; exact h.at_ t
theorem ev_ok {β : Inj} {nt : Nat} {fr : Fr} {a : Act} (h : FR β nt fr a) {x : Operand} {v : Value} (hx : ev fr x = some v) : VR β v (a.eval x) := by
 cases x with
 | tmp t => simp [ev] at hx; subst hx; exact h.at_ t
 | const c =>
  simp only [ev] at hx
  cases hc : plainN 4 c with
  | false => rw [hc] at hx; simp at hx
  | true => rw [hc] at hx; simp at hx; subst hx; exact VR.plain 4 c hc
 | global g => simp [ev] at hx
 | func f => simp [ev] at hx; subst hx; exact .func _ .nil .nil
theorem evs_ok {β : Inj} {nt : Nat} {fr : Fr} {a : Act} (h : FR β nt fr a) : ∀ {l : List Operand} {vs : List Value}, evs fr l = some vs → VRs β vs (l.map a.eval)
 | [], _, hx => by simp [evs] at hx; subst hx; exact .nil
 | x :: r, vs, hx => by
  simp only [evs] at hx
  cases h1 : ev fr x with
  | none => rw [h1] at hx; simp at hx
  | some v =>
   cases h2 : evs fr r with
   | none => rw [h1, h2] at hx; simp at hx
   | some l =>
    rw [h1, h2] at hx; simp at hx; subst hx
    exact .cons (ev_ok h h1) (evs_ok h h2)
end Go.Proofs.YtokfjifeofpkkaaGreat.V
namespace Go.Proofs.YtokfjifeofpkkaaGreat.V
open Go
set_option linter.unusedVariables false
set_option linter.unusedSimpArgs false
def EqOK (E : Env) : Prop := ∀ t ks, E.eqT t = some ks → ∀ (x y : Array Value) (b : Bool) (X Y : Operand), ckAll ks x.toList y.toList = some b → ∀ w,
 (eqGuard .eql t X Y (.agg x) (.agg y)).run E.P w = .ok () w ∧ (eqGuard .neq t X Y (.agg x) (.agg y)).run E.P w = .ok () w ∧ (Op.equal t (.agg x) (.agg y)).run E.P w = .ok b w
section
variable {P : Program} {w : World}
theorem r_underlying {t : TypeId} {d : TypeDesc} (h : P.underlying t = some d) : (underlying t).run P w = .ok d w := by simp [underlying, h]
theorem r_info {t : TypeId} {d : TypeInfo} (h : P.info? t = some d) : (typeInfo t).run P w = .ok d w := by simp [typeInfo, h]
theorem r_size {t : TypeId} {k : Nat} (h : sz P t = some k) : (sizeOf t).run P w = .ok k w := by
 unfold sz at h; split at h <;> simp at h
 rename_i i hi; simp [sizeOf, r_info hi, h]
theorem sz_cells {t : TypeId} {k : Nat} (h : sz P t = some k) : P.cellsOf t = k := by
 unfold sz at h; split at h <;> simp at h
 rename_i i hi; simp [Program.cellsOf, hi, h]
theorem r_zero {t : TypeId} {z : Value} (h : zeroOf P t = some z) : (zeroValue t).run P w = .ok z w ∧ plainN 4 z = true := by
 unfold zeroOf at h
 cases hi : P.info? t with
 | none => rw [hi] at h; cases h
 | some i =>
  rw [hi] at h; simp only at h
  cases hy : i.zero with
  | none => rw [hy] at h; cases h
  | some y =>
   rw [hy] at h; simp only at h
   cases hp : plainN 4 y with
   | false => rw [hp] at h; cases h
   | true => rw [hp] at h; simp at h; subst h; simp [zeroValue, r_info hi, hy, hp]
theorem r_isAgg {t : TypeId} {b : Bool} (h : isAggT P t = some b) : (isAgg t).run P w = .ok b w := by
 unfold isAggT at h; split at h <;> simp at h
 ·
  rename_i hu; subst h; simp [isAgg, r_underlying hu]
 ·
  rename_i hu; subst h; simp [isAgg, r_underlying hu]
 ·
  rename_i d h1 h2 hu; subst h
  simp only [isAgg, Sem.run_bind, r_underlying hu, Result.andThen_ok]
  cases d <;> first | rfl | exact (h1 _ rfl).elim | exact (h2 _ _ rfl).elim
end
theorem Addr.add_none (B o n : Nat) : (Addr.add ⟨B, o, none⟩ n) = ⟨B, o + n, none⟩ := by
 unfold Addr.add; split
 ·
  rename_i h; subst h; rfl
 ·
  rfl
theorem cell_of {w : World} {B o : Nat} {C : Array Value} {T : TypeId} {fr : Nat × Nat} (h : w.heap[B]? = some (.cells C T fr)) : w.cell? ⟨B, o, none⟩ = C[o]? := by
 unfold World.cell?; rw [h]; rfl
theorem cellAt_ok {P : Program} {Wr : Nat → Prop} {β : Inj} {h : Heap} {w : World} (S : Sim P Wr β h w) {a a' : Addr} (ha : AR β a a') {v : Value} (hv : cellAt h a = some v) : ∃ v', w.cell? a' = some v' ∧ VR β v v' := by
 cases ha with
 | @new b o B s N k hb =>
  simp only [cellAt] at hv
  split at hv
  ·
   rename_i c T hg
   obtain ⟨B', s', C, fr, h1, h2, h3, h4, h5⟩ := S.live _ _ _ hg
   rw [hb] at h1; cases h1
   rw [cell_of h2]; exact h5 _ _ hv
  ·
   cases hv
 | base =>
  simp only [cellAt] at hv
  obtain ⟨_, v', h2, h3⟩ := S.base _ _ _ hv
  exact ⟨v', h2, h3 β⟩
 | odd => simp [cellAt] at hv
theorem baseCells_ok {P : Program} {Wr : Nat → Prop} {β : Inj} {h : Heap} {w : World} (S : Sim P Wr β h w) (b : Nat) : ∀ (n o : Nat) (l : List Value), baseCells h b o n = some l →
 ∃ l' : List Value, l'.length = n ∧ VRs β l l' ∧ ∀ (j : Nat) (v : Value), l'[j]? = some v → w.cell? ⟨b, o + j, none⟩ = some v
 | 0, o, l, hl => by simp [baseCells] at hl; subst hl; exact ⟨[], rfl, .nil, by simp⟩
 | n + 1, o, l, hl => by
  simp only [baseCells] at hl
  split at hl
  ·
   rename_i v hv
   split at hl
   ·
    rename_i r hr
    simp at hl; subst hl
    obtain ⟨_, v', h2, h3⟩ := S.base _ _ _ hv
    obtain ⟨l', e1, e2, e3⟩ := baseCells_ok S b n (o + 1) r hr
    refine ⟨v' :: l', by simp [e1], .cons (h3 β) e2, ?_⟩
    intro j u hu
    cases j with
    | zero => simp at hu; subst hu; simpa using h2
    | succ j => simp at hu; have := e3 j u hu; rw [show o + (j + 1) = o + 1 + j by omega]; exact this
   ·
    cases hl
  ·
   cases hl
theorem cellsAt_ok {P : Program} {Wr : Nat → Prop} {β : Inj} {h : Heap} {w : World} (S : Sim P Wr β h w) {a a' : Addr} (ha : AR β a a') {n : Nat} {l : List Value} (hl : cellsAt h a n = some l) :
 ∃ l' : List Value, l'.length = n ∧ VRs β l l' ∧ ∀ (j : Nat) (v : Value), l'[j]? = some v → w.cell? (a'.add j) = some v := by
 cases ha with
 | @new b o B s N k hb =>
  simp only [cellsAt] at hl
  split at hl
  ·
   rename_i c T hg
   obtain ⟨B', s', C, fr, h1, h2, h3, h4, h5⟩ := S.live _ _ _ hg
   rw [hb] at h1; cases h1
   cases hn : Nat.ble (o + n) c.length with
   | false => rw [hn] at hl; simp at hl
   | true =>
    rw [hn] at hl; simp at hl; subst hl
    have hn : o + n ≤ c.length := Nat.le_of_ble_eq_true hn
    refine ⟨((C.toList.drop (s + o)).take n), by simp; omega, ?_, ?_⟩
    ·
     refine VRs.mk (by simp; omega) ?_
     intro i v hv
     simp only [List.getElem?_take, List.getElem?_drop] at hv ⊢
     split at hv
     ·
      rename_i hi
      rw [if_pos hi]
      obtain ⟨v', e1, e2⟩ := h5 _ _ hv
      exact ⟨v', by rw [Array.getElem?_toList, ← e1]; congr 1; omega, e2⟩
     ·
      cases hv
    ·
     intro j v hv
     simp only [List.getElem?_take, List.getElem?_drop] at hv
     split at hv
     ·
      rw [Addr.add_none, cell_of h2, ← hv, Array.getElem?_toList]
     ·
      cases hv
  ·
   cases hl
 | base =>
  simp only [cellsAt] at hl
  obtain ⟨l', h1, h2, h3⟩ := baseCells_ok S _ _ _ _ hl
  exact ⟨l', h1, h2, fun j v hv => by rw [Addr.add_none]; exact h3 j v hv⟩
 | odd => simp [cellsAt] at hl
theorem loadV_ok {E : Env} {Wr : Nat → Prop} {β : Inj} {h : Heap} {w : World} (S : Sim E.P Wr β h w) {a a' : Addr} (ha : AR β a a') {t : TypeId} {v : Value} (hv : loadV E h t a = some v) :
 ∃ v', VR β v v' ∧ ∀ w', Ext w w' → (loadVar t a').run E.P w' = .ok v' w' := by
 unfold loadV at hv
 split at hv
 ·
  rename_i hA
  split at hv
  ·
   rename_i n hn
   split at hv
   ·
    rename_i l hl
    simp at hv; subst hv
    obtain ⟨l', e1, e2, e3⟩ := cellsAt_ok S ha hl
    refine ⟨.agg l'.toArray, .agg (by simpa using e2), fun w' he => ?_⟩
    have := run_loadCells_list (P := E.P) w' a' l' (fun j v hv => he.cell (e3 j v hv))
    rw [e1] at this
    simp [loadVar, r_isAgg hA, r_size hn, this]
   ·
    cases hv
  ·
   cases hv
 ·
  rename_i hA
  obtain ⟨v', e1, e2⟩ := cellAt_ok S ha hv
  refine ⟨v', e2, fun w' he => ?_⟩
  simp [loadVar, r_isAgg hA, he.cell e1]
 ·
  cases hv
theorem partV_ok {E : Env} {β : Inj} {t : TypeId} {cs cs' : Array Value} (hc : VRs β cs.toList cs'.toList) {off : Nat} {v : Value} (hv : partV E t cs.toList off = some v) :
 ∃ v', VR β v v' ∧ ∀ w', (part t cs' off).run E.P w' = .ok v' w' := by
 unfold partV at hv
 split at hv
 ·
  rename_i hA
  split at hv
  ·
   rename_i n hn
   simp at hv; subst hv
   refine ⟨.agg (cs'.extract off (off + n)), .agg ?_, fun w' => by simp [part, r_isAgg hA, r_size hn]⟩
   have e : (cs'.extract off (off + n)).toList = (cs'.toList.drop off).take n := by
    rw [Array.toList_extract]; simp [List.extract_eq_take_drop]
   have e2 : (((cs.toList.drop off).take n).toArray).toList = (cs.toList.drop off).take n := by simp
   rw [e, e2]; exact (hc.drop off).take n
  ·
   cases hv
 ·
  rename_i hA
  obtain ⟨v', h1, h2⟩ := hc.get off hv
  refine ⟨v', h2, fun w' => ?_⟩
  have : cs'[off]? = some v' := by rw [← Array.getElem?_toList]; exact h1
  simp [part, r_isAgg hA, this]
 ·
  cases hv
end Go.Proofs.YtokfjifeofpkkaaGreat.V
namespace Go.Proofs.YtokfjifeofpkkaaGreat.V
open Go
set_option linter.unusedVariables false
set_option linter.unusedSimpArgs false
theorem eq_run {P : Program} {w : World} {t : TypeId} {x y : Value} {r : Bool} (h : ∀ n, (Op.equalIn (n + 1) t x y).run P w = .ok r w) : (Op.equal t x y).run P w = .ok r w := h 9999
theorem intBin_ok {P : Program} {op : BinOp} {k : IntKind} {a b : Int} {v : Value} (h : intBin op k a b = some v) (t : TypeId) (X Y : Operand) (β : Inj) :
 VR β v v ∧ ∀ w, (do eqGuard op t X Y (.int k a) (.int k b); binOp op t (.int k a) (.int k b)).run P w = .ok v w := by
 cases op <;> simp only [intBin] at h <;> try (cases h; done)
 case quo =>
  split at h
  ·
   cases h
  ·
   rename_i hb; cases h; exact ⟨.int _ _, fun w => by simp [eqGuard, binOp, Op.intDiv, hb]⟩
 case rem =>
  split at h
  ·
   cases h
  ·
   rename_i hb; cases h; exact ⟨.int _ _, fun w => by simp [eqGuard, binOp, Op.intDiv, hb]⟩
 all_goals (cases h; refine ⟨by constructor, fun w => ?_⟩)
 all_goals first
  | (simp [eqGuard, binOp, Op.intArith]; done)
  | (simp [eqGuard, binOp, Op.intBits]; done)
  | (simp [eqGuard, binOp, Op.intCmp]; done)
theorem strBin_ok {P : Program} {op : BinOp} {a b : ByteArray} {v : Value} (h : strBin op a b = some v) (t : TypeId) (X Y : Operand) (β : Inj) :
 VR β v v ∧ ∀ w, (do eqGuard op t X Y (.string a) (.string b); binOp op t (.string a) (.string b)).run P w = .ok v w := by
 cases op <;> simp only [strBin] at h <;> try (cases h; done)
 case add =>
  split at h
  ·
   rename_i hb; cases h
   refine ⟨.string _, fun w => ?_⟩
   have : ¬ ((a.size + b.size : Nat) : Int) > IntKind.i64.max := by
    have : IntKind.i64.max = 9223372036854775807 := by decide
    rw [this]; omega
   simp only [eqGuard, binOp, Op.stringOp, Sem.run_bind]
   rw [if_neg this]; rfl
  ·
   cases h
 all_goals (cases h; refine ⟨by constructor, fun w => ?_⟩)
 all_goals simp [eqGuard, binOp, Op.stringOp]
section
variable {P : Program} {w : World} {t : TypeId}
theorem eq_bool (hu : P.underlying t = some .bool) (a b : Bool) : (Op.equal t (.bool a) (.bool b)).run P w = .ok (a == b) w := eq_run fun n => by simp [Op.equalIn, r_underlying hu]
theorem eq_ptr0 {e : TypeId} (hu : P.underlying t = some (.pointer e)) (b : Option Addr) : (Op.equal t (.pointer none) (.pointer b)).run P w = .ok b.isNone w := eq_run fun n => by simp [Op.equalIn, r_underlying hu]
theorem eq_ptr1 {e : TypeId} (hu : P.underlying t = some (.pointer e)) (a : Addr) : (Op.equal t (.pointer (some a)) (.pointer none)).run P w = .ok false w := eq_run fun n => by simp [Op.equalIn, r_underlying hu]
theorem eq_sl0 {e : TypeId} (hu : P.underlying t = some (.slice e)) (b : Option Addr) (l c m d : Nat) : (Op.equal t (.slice none l c) (.slice b m d)).run P w = .ok b.isNone w := eq_run fun n => by simp [Op.equalIn, r_underlying hu]
theorem eq_sl1 {e : TypeId} (hu : P.underlying t = some (.slice e)) (a : Addr) (l c m d : Nat) : (Op.equal t (.slice (some a) l c) (.slice none m d)).run P w = .ok false w := eq_run fun n => by simp [Op.equalIn, r_underlying hu]
theorem eq_map0 {k e : TypeId} (hu : P.underlying t = some (.map k e)) (b : Option Nat) : (Op.equal t (.map none) (.map b)).run P w = .ok b.isNone w := eq_run fun n => by simp [Op.equalIn, r_underlying hu]
theorem eq_map1 {k e : TypeId} (hu : P.underlying t = some (.map k e)) (b : Nat) : (Op.equal t (.map (some b)) (.map none)).run P w = .ok false w := eq_run fun n => by simp [Op.equalIn, r_underlying hu]
theorem eq_fn0 {a b : Array TypeId} {c : Bool} (hu : P.underlying t = some (.func a b c)) : (Op.equal t .nilFunc .nilFunc).run P w = .ok true w := eq_run fun n => by simp [Op.equalIn, r_underlying hu]
theorem eq_fn1 {a b : Array TypeId} {c : Bool} (hu : P.underlying t = some (.func a b c)) (f : Fn) (x y : Array Value) : (Op.equal t .nilFunc (.func f x y)).run P w = .ok false w := eq_run fun n => by simp [Op.equalIn, r_underlying hu]
theorem eq_fn2 {a b : Array TypeId} {c : Bool} (hu : P.underlying t = some (.func a b c)) (f : Fn) (x y : Array Value) : (Op.equal t (.func f x y) .nilFunc).run P w = .ok false w := eq_run fun n => by simp [Op.equalIn, r_underlying hu]
theorem eq_both {x y : Value} {b : Bool} {X Y : Operand} (g1 : (eqGuard .eql t X Y x y).run P w = .ok () w) (g2 : (eqGuard .neq t X Y x y).run P w = .ok () w) (e : (Op.equal t x y).run P w = .ok b w)
 (b1 : binOp .eql t x y = (do pure (.bool (← Op.equal t x y)))) (b2 : binOp .neq t x y = (do pure (.bool (!(← Op.equal t x y))))) :
 (do eqGuard .eql t X Y x y; binOp .eql t x y).run P w = .ok (.bool b) w ∧ (do eqGuard .neq t X Y x y; binOp .neq t x y).run P w = .ok (.bool (!b)) w := by
 constructor
 ·
  rw [b1]; simp only [Sem.run_bind, g1, Result.andThen_ok, e]; rfl
 ·
  rw [b2]; simp only [Sem.run_bind, g2, Result.andThen_ok, e]; rfl
end
theorem ckEq_vr {β : Inj} {k : CK} {x y x' y' : Value} {c : Bool} (hx : VR β x x') (hy : VR β y y') (h : ckEq k x y = some c) : ckEq k x' y' = some c := by
 cases hx <;> cases hy <;> first | exact h | (cases k <;> simp [ckEq] at h)
theorem ckAll_vr {β : Inj} : ∀ (ks : List CK) (l m l' m' : List Value) (b : Bool), VRs β l l' → VRs β m m' → ckAll ks l m = some b → ckAll ks l' m' = some b := by
 intro ks
 induction ks with
 | nil =>
  intro l m l' m' b h1 h2 h
  cases h1 with
  | nil => cases h2 with
   | nil => exact h
   | cons _ _ => simp [ckAll] at h
  | cons _ _ => simp [ckAll] at h
 | cons k ks ih =>
  intro l m l' m' b h1 h2 h
  cases h1 with
  | nil => simp [ckAll] at h
  | cons u1 r1 => cases h2 with
   | nil => simp [ckAll] at h
   | cons u2 r2 =>
    simp only [ckAll] at h ⊢
    split at h
    ·
     rename_i c hc
     split at h
     ·
      rename_i r hr
      rw [ckEq_vr u1 u2 hc, ih _ _ _ _ _ r1 r2 hr]; exact h
     ·
      cases h
    ·
     cases h
theorem eqV_ok {E : Env} (hE : EqOK E) {t : TypeId} {x y x' y' : Value} {b : Bool} {β : Inj} (hx : VR β x x') (hy : VR β y y') (h : eqV E t x y = some b) (X Y : Operand) (w : World) :
 (do eqGuard .eql t X Y x' y'; binOp .eql t x' y').run E.P w = .ok (.bool b) w ∧ (do eqGuard .neq t X Y x' y'; binOp .neq t x' y').run E.P w = .ok (.bool (!b)) w := by
 unfold eqV at h
 split at h
 all_goals try (cases h; done)
 case h_11 =>
  rename_i fs xs ys hu
  split at h
  ·
   rename_i ks hk
   cases hx with | @agg _ xs' hx => ?_
   cases hy with | @agg _ ys' hy => ?_
   have h' := ckAll_vr _ _ _ _ _ _ hx hy h
   obtain ⟨g1, g2, g3⟩ := hE t ks hk xs' ys' b X Y h' w
   exact eq_both g1 g2 g3 rfl rfl
  ·
   cases h
 case h_12 =>
  rename_i e a b0 hu
  split at h
  ·
   rename_i n hn
   obtain ⟨ab, ao, asp⟩ := a
   obtain ⟨bb, bo, bsp⟩ := b0
   cases asp with
   | some _ => cases h
   | none =>
    cases bsp with
    | some _ => cases h
    | none =>
     cases q : Nat.beq ab bb with
     | false => simp [q] at h
     | true =>
      have q := Nat.eq_of_beq_eq_true q
      subst q
      simp at h
      cases hx with | @ptr _ a' hA => ?_
      cases hy with | @ptr _ b' hB => ?_
      cases hA with | @new _ _ B1 s1 N1 k1 q1 => ?_
      cases hB with | @new _ _ B2 s2 N2 k2 q2 => ?_
      rw [q1] at q2
      cases q2
      have he : (Op.equal t (.pointer (some ⟨B1, s1 + ao, none⟩)) (.pointer (some ⟨B1, s1 + bo, none⟩))).run E.P w = .ok b w := eq_run fun n => by
       have hne : ∀ m : Nat, m + 1 ≠ 0 := fun m => Nat.succ_ne_zero m
       simp [Op.equalIn, r_underlying hu, r_size hn, sameAddr, hne]
       rw [← h]
       by_cases c : ao = bo
       ·
        subst c
        rw [show Nat.beq ao ao = true from Nat.beq_refl ao]
        exact beq_self_eq_true _
       ·
        have h2 : Nat.beq ao bo = false := by
         cases q : Nat.beq ao bo with
         | false => rfl
         | true => exact absurd (Nat.eq_of_beq_eq_true q) c
        rw [h2]
        refine beq_eq_false_iff_ne.mpr (fun e => ?_)
        have := congrArg Addr.off e
        dsimp only at this
        omega
      exact eq_both (by simp [eqGuard]) (by simp [eqGuard]) he rfl rfl
  ·
   cases h
 all_goals (
  rename_i hu
  cases h
  cases hx <;> cases hy <;> refine eq_both (by simp [eqGuard]) (by simp [eqGuard]) ?_ rfl rfl <;> first
   | exact eq_bool hu _ _ | exact eq_ptr0 hu _ | exact eq_ptr1 hu _ | exact eq_sl0 hu _ _ _ _ _ | exact eq_sl1 hu _ _ _ _ _ | exact eq_map0 hu _ | exact eq_map1 hu _
   | exact eq_fn0 hu | exact eq_fn1 hu _ _ _ | exact eq_fn2 hu _ _ _)
theorem binV_ok {E : Env} (hE : EqOK E) {op : BinOp} {t : TypeId} {x y x' y' v : Value} {β : Inj} (hx : VR β x x') (hy : VR β y y') (h : binV E op t x y = some v) (X Y : Operand) :
 VR β v v ∧ ∀ w, (do eqGuard op t X Y x' y'; binOp op t x' y').run E.P w = .ok v w := by
 unfold binV at h
 split at h
 ·
  rename_i k a k' b
  cases hx; cases hy
  split at h
  ·
   split at h
   ·
    cases h
   ·
    rename_i hb; cases h; exact ⟨.int _ _, fun w => by simp [eqGuard, binOp, Op.shift, hb]⟩
  ·
   split at h
   ·
    cases h
   ·
    rename_i hb; cases h; exact ⟨.int _ _, fun w => by simp [eqGuard, binOp, Op.shift, hb]⟩
  ·
   split at h
   ·
    rename_i hk; subst hk; exact intBin_ok h t X Y β
   ·
    cases h
 ·
  cases hx; cases hy
  exact strBin_ok h t X Y β
 ·
  split at h
  ·
   split at h
   ·
    rename_i b hb; cases h; exact ⟨.bool _, fun w => (eqV_ok hE hx hy hb X Y w).1⟩
   ·
    cases h
  ·
   split at h
   ·
    rename_i b hb; cases h; exact ⟨.bool _, fun w => (eqV_ok hE hx hy hb X Y w).2⟩
   ·
    cases h
  ·
   cases h
theorem unV_ok {P : Program} {op : UnOp} {x x' v : Value} {β : Inj} (hx : VR β x x') (h : unV op x = some v) : VR β v v ∧ ∀ w, (Op.unary op x').run P w = .ok v w := by
 unfold unV at h
 split at h
 ·
  cases hx; cases h; exact ⟨.int _ _, fun w => rfl⟩
 ·
  cases hx; cases h; exact ⟨.bool _, fun w => rfl⟩
 ·
  cases h
theorem elemAddr_ok {β : Inj} {a a' : Addr} (h : AR β a a') {k : Nat} {b : Addr} (he : elemAddr a k = some b) : AR β b (a'.add k) := by
 cases h with
 | @new b o B s N k' h => simp [elemAddr] at he; subst he; rw [Addr.add_none, Nat.add_assoc]; exact .new h
 | base => simp [elemAddr] at he; subst he; rw [Addr.add_none]; exact .base
 | odd => simp [elemAddr] at he
theorem sliceAt_ok {β : Inj} {a : Addr} {l c : Nat} {v : Value} (h : VR β (.slice (some a) l c) v) {k : Nat} {b : Addr} (he : elemAddr a k = some b) : ∃ a' c', v = .slice (some a') l c' ∧ AR β b (a'.add k) := by
 cases h with
 | slice h l c => exact ⟨_, _, rfl, elemAddr_ok h he⟩
 | @slack b o B s N k' h l c c' hc hn =>
  simp [elemAddr] at he; subst he
  exact ⟨_, _, rfl, by rw [Addr.add_none, Nat.add_assoc]; exact .new h⟩
 | opq a' c' => simp [elemAddr] at he
end Go.Proofs.YtokfjifeofpkkaaGreat.V
namespace Go.Proofs.YtokfjifeofpkkaaGreat.V
open Go
set_option linter.unusedVariables false
set_option linter.unusedSimpArgs false
inductive VRo (β : Inj) : Option Value → Option Value → Prop
 | none : VRo β .none .none
 | some {v v' : Value} (h : VR β v v') : VRo β (.some v) (.some v')
theorem evOpt_ok {β : Inj} {nt : Nat} {fr : Fr} {a : Act} (h : FR β nt fr a) {x : Option Operand} {v : Option Value} (hx : evOpt fr x = some v) : VRo β v (x.map a.eval) := by
 cases x with
 | none => simp [evOpt] at hx; subst hx; exact .none
 | some x =>
  simp only [evOpt] at hx
  split at hx
  ·
   rename_i u hu; simp at hx; subst hx; exact .some (ev_ok h hu)
  ·
   cases hx
theorem bound_ok {P : Program} {β : Inj} {x x' : Option Value} (hx : VRo β x x') {d y i : Nat} (h : boundV x d y = some i) (y' : Nat) (hy : y ≤ y') (c : BoundsCode) (hc : Option Nat) (w : World) :
 (x' = none ∧ x = none ∧ i = d) ∨ ∃ v, x' = some v ∧ x.isSome = true ∧ i ≤ y ∧ (Instr.sliceBound v y' c).run P w = .ok i w := by
 cases hx with
 | none => simp [boundV] at h; exact .inl ⟨rfl, rfl, h.symm⟩
 | @some v v' hv =>
  right
  unfold boundV at h
  split at h
  ·
   rename_i e; cases e
  ·
   rename_i k n e
   cases e
   cases hv
   split at h
   ·
    rename_i hn
    simp at h
    refine ⟨_, rfl, rfl, by omega, ?_⟩
    have : 0 ≤ n ∧ n ≤ (y' : Int) := ⟨hn.1, by omega⟩
    simp [Instr.sliceBound, asIntOf, this, h]
   ·
    cases h
  ·
   cases h
theorem bounds_ok {P : Program} {β : Inj} {lo hi mx lo' hi' mx' : Option Value} (h1 : VRo β lo lo') (h2 : VRo β hi hi') (h3 : VRo β mx mx') {len cap cap' m h l : Nat} (isS : Bool)
 (hm : boundV mx cap cap = some m) (hh : boundV hi len m = some h) (hl : boundV lo 0 h = some l) (hg : (mx.isSome && hi.isNone) = false) (hc : cap ≤ cap') (w : World) :
 (Instr.sliceBounds isS len cap' lo' hi' mx').run P w = .ok (l, h, if mx.isSome then m else cap') w := by
 rcases bound_ok (P := P) h3 hm cap' hc (if isS then .slice3Acap else .slice3Alen) none w with ⟨rfl, rfl, rfl⟩ | ⟨vm, rfl, hms, hmy, em⟩
 ·
  rcases bound_ok (P := P) h2 hh cap' hc (if isS then .sliceAcap else .sliceAlen) none w with ⟨rfl, rfl, rfl⟩ | ⟨vh, rfl, hhs, hhy, eh⟩
  ·
   rcases bound_ok (P := P) h1 hl h (Nat.le_refl _) .sliceB none w with ⟨rfl, rfl, rfl⟩ | ⟨vl, rfl, hls, hly, el⟩
   ·
    simp [Instr.sliceBounds]
   ·
    simp [Instr.sliceBounds, el]
  ·
   rcases bound_ok (P := P) h1 hl h (Nat.le_refl _) .sliceB none w with ⟨rfl, rfl, rfl⟩ | ⟨vl, rfl, hls, hly, el⟩
   ·
    simp [Instr.sliceBounds, eh]
   ·
    simp [Instr.sliceBounds, eh, el]
 ·
  rw [hms] at hg
  rcases bound_ok (P := P) h2 hh m (Nat.le_refl _) .slice3B none w with ⟨rfl, rfl, rfl⟩ | ⟨vh, rfl, hhs, hhy, eh⟩
  ·
   simp at hg
  ·
   rcases bound_ok (P := P) h1 hl h (Nat.le_refl _) .slice3C none w with ⟨rfl, rfl, rfl⟩ | ⟨vl, rfl, hls, hly, el⟩
   ·
    simp [Instr.sliceBounds, em, eh, hms]
   ·
    simp [Instr.sliceBounds, em, eh, el, hms]
theorem boundV_le {x : Option Value} {d y i : Nat} (h : boundV x d y = some i) (hd : d ≤ y) : i ≤ y := by
 unfold boundV at h
 split at h
 ·
  simp at h; omega
 ·
  split at h
  ·
   simp at h; omega
  ·
   cases h
 ·
  cases h
theorem sliceV_ok {E : Env} {Wr : Nat → Prop} {β : Inj} {hp : Heap} {w : World} (S : Sim E.P Wr β hp w) {t : TypeId} {x x' : Value} (hx : VR β x x') {lo hi mx lo' hi' mx' : Option Value} (h1 : VRo β lo lo') (h2 : VRo β hi hi') (h3 : VRo β mx mx')
 {v : Value} (hv : sliceV E hp t x lo hi mx = some v) : ∃ v', VR β v v' ∧ ∀ w', (Instr.sliceAt t x' lo' hi' mx').run E.P w' = .ok v' w' := by
 unfold sliceV at hv
 split at hv
 ·
  rename_i s hu
  cases hx
  split at hv
  ·
   cases hv
  ·
   cases h3
   split at hv
   ·
    rename_i h hh
    split at hv
    ·
     rename_i l hl
     cases hv
     refine ⟨_, .string _, fun w' => ?_⟩
     have := bounds_ok (P := E.P) h1 h2 .none (m := s.size) false (by rfl) hh hl rfl (Nat.le_refl _) w'
     simp [Instr.sliceAt, r_underlying hu, Instr.slice, this]
    ·
     cases hv
   ·
    cases hv
 ·
  rename_i elem a len cap hu
  split at hv
  ·
   cases hv
  ·
   rename_i m hm
   cases hg : (mx.isSome && hi.isNone) with
   | true => rw [hg] at hv; simp at hv
   | false =>
    rw [hg] at hv; simp only [cond_false] at hv
    split at hv
    ·
     cases hv
    ·
     rename_i h hh
     split at hv
     ·
      cases hv
     ·
      rename_i l hl
      split at hv
      ·
       cases hv
      ·
       rename_i k hk
       have hl0 : l ≤ h := boundV_le hl (Nat.zero_le _)
       split at hv
       ·
        cases hv
        cases hx
        refine ⟨_, .sliceNil _ _, fun w' => ?_⟩
        have := bounds_ok (P := E.P) h1 h2 h3 true hm hh hl hg (Nat.le_refl _) w'
        have e : (if mx.isSome then m else cap) = m := by
         cases h3 with
         | none => simp [boundV] at hm; simp [hm]
         | some _ => rfl
        rw [e] at this
        simp [Instr.sliceAt, r_underlying hu, Instr.slice, this, r_size hk]
       ·
        rename_i a
        cases hs : (Nat.ble h m && (mx.isSome || slackOk hp a elem)) with
        | false => rw [hs] at hv; simp at hv
        | true =>
         rw [hs] at hv; simp only [cond_true] at hv
         rw [Bool.and_eq_true] at hs
         obtain ⟨hhm, hs⟩ := hs
         have hhm : h ≤ m := Nat.le_of_ble_eq_true hhm
         split at hv
         ·
          rename_i b hb
          cases hv
          have go : ∀ (a' : Addr) (cap' : Nat), cap ≤ cap' → ∀ w', (Instr.sliceAt t (.slice (some a') len cap') lo' hi' mx').run E.P w' =
           .ok (.slice (some (if (if mx.isSome then m else cap') = l then a' else a'.add (l * k))) (h - l) ((if mx.isSome then m else cap') - l)) w' := by
           intro a' cap' hc w'
           have := bounds_ok (P := E.P) h1 h2 h3 true hm hh hl hg hc w'
           simp only [Instr.sliceAt, Sem.run_bind, r_underlying hu, Result.andThen_ok, Instr.slice, this, r_size hk, Sem.run_pure]
           by_cases q : (if mx.isSome then m else cap') = l
           ·
            rw [if_pos q, if_pos q]
           ·
            rw [if_neg q, if_neg q]; rfl
          cases hx with
          | @slice a a' hA l0 c0 =>
           have e : (if mx.isSome then m else cap) = m := by
            cases h3 with
            | none => simp [boundV] at hm; simp [hm]
            | some _ => rfl
           refine ⟨_, ?_, fun w' => go a' cap (Nat.le_refl _) w'⟩
           rw [e]
           cases hA with
           | @new b0 o B s N k0 h0 =>
            have hb' : sliceAddr ⟨b0, o, none⟩ m l (l * k) = some b := by
             cases hq : mx.isSome <;> rw [hq] at hb <;> exact hb
            simp only [sliceAddr] at hb'
            by_cases q : m = l
            ·
             subst q; simp at hb'; subst hb'; rw [if_pos rfl]; exact .slice (.new h0) _ _
            ·
             rw [Trie.nb q] at hb'; simp at hb'; subst hb'; rw [if_neg q, Addr.add_none, Nat.add_assoc]; exact .slice (.new h0) _ _
           | @base B o =>
            have hb' : sliceAddr ⟨B, o, some 1⟩ m l (l * k) = some b := by
             cases hq : mx.isSome <;> rw [hq] at hb <;> exact hb
            simp only [sliceAddr] at hb'
            by_cases q : m = l
            ·
             subst q; simp at hb'; subst hb'; rw [if_pos rfl]; exact .slice .base _ _
            ·
             rw [Trie.nb q] at hb'; simp at hb'; subst hb'; rw [if_neg q, Addr.add_none]; exact .slice .base _ _
           | @odd B o s =>
            have hb' : sliceAddr ⟨B, o, some (s + 3)⟩ m l (l * k) = some b := by
             cases hq : mx.isSome <;> rw [hq] at hb <;> exact hb
            simp only [sliceAddr] at hb'
            by_cases q : m = l
            ·
             subst q; simp at hb'; subst hb'; rw [if_pos rfl]; exact .slice .odd _ _
            ·
             rw [Trie.nb q] at hb'; simp at hb'
          | @slack b0 o B s N k0 h0 l0 c0 c' hc hn =>
           refine ⟨_, ?_, fun w' => go _ c' hc w'⟩
           cases h3 with
           | none =>
            simp [boundV] at hm; subst hm
            simp only [sliceAddr, Option.isSome_none, cond_false] at hb
            simp only [Option.isSome_none, Bool.false_eq_true, if_false]
            by_cases q : cap = l
            ·
             subst q
             simp at hb; subst hb
             have e1 : h - cap = 0 := by omega
             have e2 : cap - cap = 0 := by omega
             rw [e1, e2]; exact .opq _ _
            ·
             rw [Trie.nb q] at hb; simp at hb; subst hb
             have q' : ¬ c' = l := by omega
             rw [if_neg q', Addr.add_none, Nat.add_assoc]
             refine .slack h0 _ (by omega) ?_
             simp only [Option.isSome_none, Bool.false_or, slackOk] at hs
             split at hs
             ·
              rename_i c T hg'
              obtain ⟨B', s', C, fr, g1, g2, g3, g4, g5⟩ := S.live _ _ _ hg'
              rw [h0] at g1; cases g1
              have : T = elem := Nat.eq_of_beq_eq_true hs
              subst this
              have ek := sz_cells hk
              rw [ek] at hn ⊢
              have e3 : l * k + (c' - l) * k = c' * k := by rw [← Nat.add_mul]; congr 1; omega
              omega
             ·
              cases hs
           | @some _ _ h3 =>
            simp only [Option.isSome_some, cond_true, exactA] at hb
            simp only [Option.isSome_some, if_true]
            simp only [sliceAddr] at hb
            by_cases q : m = l
            ·
             subst q; simp at hb; subst hb; rw [if_pos rfl]; exact .slice (.new h0) _ _
            ·
             rw [Trie.nb q] at hb; simp at hb; subst hb; rw [if_neg q, Addr.add_none, Nat.add_assoc]; exact .slice (.new h0) _ _
          | opq a' c' =>
           have m0 : m = 0 := by have := boundV_le hm (Nat.le_refl _); omega
           have l0 : l = 0 := by omega
           subst m0; subst l0
           have hb' : b = ⟨0, 0, some 2⟩ := by
            cases hq : mx.isSome <;> rw [hq] at hb <;> simp [exactA, sliceAddr] at hb <;> exact hb.symm
           subst hb'
           refine ⟨_, ?_, fun w' => go a' c' (Nat.zero_le _) w'⟩
           have e1 : h - 0 = 0 := by omega
           rw [e1]; exact .opq _ _
         ·
          cases hv
 ·
  cases hv
end Go.Proofs.YtokfjifeofpkkaaGreat.V
namespace Go.Proofs.YtokfjifeofpkkaaGreat.V
open Go
set_option linter.unusedVariables false
set_option linter.unusedSimpArgs false
theorem cells_ok {β : Inj} {v v' : Value} (h : VR β v v') : VRs β v.cells.toList v'.cells.toList := by
 cases h
 case agg h => exact h
 all_goals exact .cons (by first | constructor <;> assumption | constructor) .nil
theorem fieldsOf_eq {P : Program} {t : TypeId} {fs : Array Field} (h : fieldsOf P t = some fs) : P.underlying t = some (.struct fs) := by
 unfold fieldsOf at h; split at h
 ·
  rename_i hu; cases h; exact hu
 ·
  cases h
theorem fieldAddrV_ok {E : Env} {β : Inj} {x x' v : Value} (hx : VR β x x') {s : TypeId} {f : Nat} (h : fieldAddrV E s x f = some v) :
 ∃ v', VR β v v' ∧ ∀ w', (Instr.fieldAt s x' f).run E.P w' = .ok v' w' := by
 unfold fieldAddrV at h
 split at h
 ·
  rename_i fs a hf
  cases hx with | @ptr _ a' hA => ?_
  split at h
  ·
   rename_i fd hfd
   split at h
   ·
    rename_i n hn
    have key : ∀ w', (Instr.fieldAt s (.pointer (some a')) f).run E.P w' = .ok (.pointer (some (a'.add fd.offset))) w' := by
     intro w'
     simp [Instr.fieldAt, r_underlying (fieldsOf_eq hf), hfd, Instr.sureAddr, fieldPlace, r_size hn]
    refine ⟨_, ?_, key⟩
    cases hA with
    | @new b o B s0 N k hb => simp at h; subst h; rw [Addr.add_none, Nat.add_assoc]; exact .ptr (.new hb)
    | base => simp at h; subst h; rw [Addr.add_none]; exact .ptr .base
    | odd => simp at h
   ·
    cases h
  ·
   cases h
 ·
  cases h
theorem fieldV_ok {E : Env} {β : Inj} {x x' v : Value} (hx : VR β x x') {t : TypeId} {f : Nat} (h : fieldV E t x f = some v) :
 ∃ v', VR β v v' ∧ ∀ w', (Instr.field t x' f).run E.P w' = .ok v' w' := by
 unfold fieldV at h
 split at h
 ·
  rename_i fs cs hf
  cases hx with | @agg _ cs' hc => ?_
  split at h
  ·
   rename_i fd hfd
   obtain ⟨v', h1, h2⟩ := partV_ok hc h
   refine ⟨v', h1, fun w' => ?_⟩
   simp [Instr.field, r_underlying (fieldsOf_eq hf), hfd, asAgg, h2]
  ·
   cases h
 ·
  cases h
theorem indexAddrV_ok {E : Env} {β : Inj} {x x' i i' v : Value} (hx : VR β x x') (hi : VR β i i') {t : TypeId} (h : indexAddrV E t x i = some v) :
 ∃ v', VR β v v' ∧ ∀ w', (Instr.indexAt t x' i').run E.P w' = .ok v' w' := by
 unfold indexAddrV at h
 split at h
 ·
  rename_i ik n
  cases hi
  split at h
  ·
   rename_i elem a len cap hu
   split at h
   ·
    rename_i hn
    split at h
    ·
     rename_i k hk
     split at h
     ·
      rename_i b hb
      cases h
      obtain ⟨a', c', rfl, hA⟩ := sliceAt_ok hx hb
      refine ⟨_, .ptr hA, fun w' => ?_⟩
      simp [Instr.indexAt, asIntOf, r_underlying hu, hn, r_size hk]
     ·
      cases h
    ·
     cases h
   ·
    cases h
  ·
   rename_i len elem a hu
   split at h
   ·
    rename_i hn
    split at h
    ·
     rename_i k hk
     cases hx with | @ptr _ a' hA => ?_
     have key : ∀ w', (Instr.indexAt t (.pointer (some a')) (.int ik n)).run E.P w' = .ok (.pointer (some (a'.add (n.toNat * k)))) w' := by
      intro w'; simp [Instr.indexAt, asIntOf, r_underlying hu, hn, r_size hk, Instr.sureAddr]
     refine ⟨_, ?_, key⟩
     cases hA with
     | @new b o B s0 N k hb => simp at h; subst h; rw [Addr.add_none, Nat.add_assoc]; exact .ptr (.new hb)
     | base => simp at h
     | odd => simp at h
    ·
     cases h
   ·
    cases h
  ·
   cases h
 ·
  cases h
theorem indexV_ok {E : Env} {β : Inj} {x x' i i' v : Value} (hx : VR β x x') (hi : VR β i i') {t : TypeId} (h : indexV E t x i = some v) :
 ∃ v', VR β v v' ∧ ∀ w', (Instr.index t x' i').run E.P w' = .ok v' w' := by
 unfold indexV at h
 split at h
 ·
  rename_i ik n
  cases hi
  split at h
  ·
   rename_i s hu
   cases hx
   split at h
   ·
    rename_i hn
    split at h
    ·
     rename_i b hb
     cases h
     exact ⟨_, .int _ _, fun w' => by simp [Instr.index, asIntOf, r_underlying hu, hn, hb]⟩
    ·
     cases h
   ·
    cases h
  ·
   rename_i len elem cs hu
   cases hx with | @agg _ cs' hc => ?_
   split at h
   ·
    rename_i hn
    split at h
    ·
     rename_i k hk
     obtain ⟨v', h1, h2⟩ := partV_ok hc h
     refine ⟨v', h1, fun w' => ?_⟩
     simp [Instr.index, asIntOf, r_underlying hu, hn, r_size hk, h2]
    ·
     cases h
   ·
    cases h
  ·
   cases h
 ·
  cases h
theorem scalarT_eq {P : Program} {t : TypeId} {d : TypeDesc} (h : scalarT P t = some d) : P.underlying t = some d ∧ ((∃ k, d = .int k) ∨ d = .string ∨ d = .bool) := by
 unfold scalarT at h; split at h
 ·
  rename_i hu; cases h; exact ⟨hu, .inl ⟨_, rfl⟩⟩
 ·
  rename_i hu; cases h; exact ⟨hu, .inr (.inl rfl)⟩
 ·
  rename_i hu; cases h; exact ⟨hu, .inr (.inr rfl)⟩
 ·
  cases h
theorem checkKey_ok {P : Program} {t : TypeId} {d : TypeDesc} (h : scalarT P t = some d) (e : Bool) (v : Value) (w : World) : (Instr.checkKey e 10000 t v).run P w = .ok () w := by
 obtain ⟨hu, hd⟩ := scalarT_eq h
 show (Instr.checkKey e (9999 + 1) t v).run P w = .ok () w
 generalize 9999 = n
 rcases hd with ⟨k, rfl⟩ | rfl | rfl <;> simp [Instr.checkKey, r_underlying hu]
def FRel (β : Inj) : Option (Nat × Value) → Option (Nat × Value) → Prop
 | none, none => True
 | some (j, v), some (j', v') => j' = j ∧ VR β v v'
 | _, _ => False
theorem findM_ok {β : Inj} (kd : TypeDesc) (k : Value) : ∀ (es : List (Value × Value)) (ents : List MapEntry) (i : Nat) (r : Option (Nat × Value)), MRs β es ents → findM kd k es i = some r →
 ∃ r', Instr.findNow kd k ents i = some r' ∧ FRel β r r'
 | [], [], i, r, _, h => by simp [findM] at h; subst h; exact ⟨none, by simp [Instr.findNow], trivial⟩
 | [], _ :: _, _, _, hm, _ => by simp [MRs] at hm
 | _ :: _, [], _, _, hm, _ => by simp [MRs] at hm
 | e :: es, x :: ents, i, r, hm, h => by
  obtain ⟨⟨hp, hk⟩, hv, hm'⟩ := hm
  simp only [findM] at h
  simp only [Instr.findNow, hk]
  cases hs : Instr.sameNow kd k e.1 with
  | none => rw [hs] at h; cases h
  | some b =>
   rw [hs] at h
   cases b with
   | true => simp at h; subst h; exact ⟨some (i, x.val), rfl, rfl, hv⟩
   | false => exact findM_ok kd k es ents (i + 1) r hm' h
theorem findKey_ok {P : Program} {β : Inj} {t : TypeId} {kd : TypeDesc} (ht : scalarT P t = some kd) {k : Value} {es : List (Value × Value)} {ents : List MapEntry} {r : Option (Nat × Value)} (hm : MRs β es ents) (h : findM kd k es 0 = some r) :
 ∃ r', (∀ w, (Instr.findKey t k ents).run P w = .ok r' w) ∧ FRel β r r' := by
 obtain ⟨r', h1, h2⟩ := findM_ok kd k es ents 0 r hm h
 exact ⟨r', fun w => by simp [Instr.findKey, r_underlying (scalarT_eq ht).1, h1], h2⟩
theorem plain0_eq {β : Inj} {v v' : Value} (h : plainN 0 v = true) (hv : VR β v v') : v' = v := plain_eq 0 h hv
theorem bif_some {α : Type} {b : Bool} {x : Option α} {y : α} (h : (bif b then x else none) = some y) : b = true ∧ x = some y := by
 cases b with
 | true => exact ⟨rfl, h⟩
 | false => cases h
def lookRest (key elem : TypeId) (ents : Array MapEntry) (k : Value) (ok : Bool) : Sem Value := do
 Instr.checkKey ents.isEmpty 10000 key k
 let (v, ok') ← match ← Instr.findKey key k ents.toList with
  | some (_, v) => pure (v, true)
  | none => pure (← zeroValue elem, false)
 pure (if ok then .tuple #[v, .bool ok'] else v)
theorem look_nil {P : Program} {w : World} {t key elem : TypeId} (hu : P.underlying t = some (.map key elem)) {k : Value} {ok : Bool} : (Instr.lookup t (.map none) k ok).run P w = (lookRest key elem #[] k ok).run P w := by
 simp only [Instr.lookup, lookRest, Sem.run_bind, r_underlying hu, Result.andThen_ok, Sem.run_pure]
 rfl
theorem look_some {P : Program} {w : World} {t key elem : TypeId} (hu : P.underlying t = some (.map key elem)) {B clock : Nat} {ents : Array MapEntry} (hB : w.heap[B]? = some (.map ents clock)) {k : Value} {ok : Bool} : (Instr.lookup t (.map (some B)) k ok).run P w = (lookRest key elem ents k ok).run P w := by
 have : (getObj B).run P w = .ok (.map ents clock) w := by simp [getObj, Sem.run, hB]
 simp only [Instr.lookup, lookRest, Sem.run_bind, r_underlying hu, Result.andThen_ok, Sem.run_pure, this]
 rfl
theorem keyS_eq {P : Program} {t : TypeId} {cs : Array Value} (h : keyS P t cs = true) : ∃ fs, P.underlying t = some (.struct fs) ∧ plainN 1 (.agg cs) = true ∧ ∀ f ∈ fs.toList, ∃ d, scalarT P f.type = some d ∧ f.offset < cs.size := by
 unfold keyS at h
 split at h
 ·
  rename_i fs hu
  rw [Bool.and_eq_true] at h
  refine ⟨fs, hu, h.1, fun f hf => ?_⟩
  have := List.all_eq_true.mp h.2 f hf
  split at this
  ·
   rename_i d hd; exact ⟨d, hd, (by have : Nat.ble (f.offset + 1) cs.size = true := this; exact Nat.le_of_ble_eq_true this)⟩
  ·
   cases this
 ·
  cases h
theorem checkS_ok {P : Program} {t : TypeId} {cs : Array Value} (h : keyS P t cs = true) (e : Bool) (w : World) : (Instr.checkKey e 10000 t (.agg cs)).run P w = .ok () w := by
 obtain ⟨fs, hu, _, hf⟩ := keyS_eq h
 show (Instr.checkKey e (9998 + 1 + 1) t (.agg cs)).run P w = .ok () w
 generalize 9998 = n
 have one : ∀ f ∈ fs.toList, ∃ v, (part f.type cs f.offset).run P w = .ok v w ∧ (Instr.checkKey e (n + 1) f.type v).run P w = .ok () w := by
  intro f hm
  obtain ⟨d, hd, ho⟩ := hf f hm
  obtain ⟨hu', hd'⟩ := scalarT_eq hd
  refine ⟨cs[f.offset], ?_, ?_⟩
  ·
   rcases hd' with ⟨k, rfl⟩ | rfl | rfl <;> simp [part, isAgg, r_underlying hu', Array.getElem?_eq_getElem ho]
  ·
   rcases hd' with ⟨k, rfl⟩ | rfl | rfl <;> simp [Instr.checkKey, r_underlying hu']
 rw [Instr.checkKey]
 simp only [Sem.run_bind, r_underlying hu, Result.andThen_ok]
 rw [← Array.forIn_toList]
 generalize fs.toList = l at one
 clear hf
 induction l with
 | nil => simp
 | cons f l ih =>
  obtain ⟨v, h1, h2⟩ := one f (by simp)
  have ih := ih (fun g hg => one g (by simp [hg]))
  by_cases c : f.name = "_"
  ·
   simpa [c] using ih
  ·
   simpa [c, h1, h2] using ih
theorem findS_ok {E : Env} (hE : EqOK E) {β : Inj} {t : TypeId} {ks : List CK} (hk : E.eqT t = some ks) {xs : Array Value} : ∀ (es : List (Value × Value)) (ents : List MapEntry) (i : Nat) (r : Option (Nat × Value)), MRs β es ents → findS ks xs.toList es i = some r →
 ∃ r', (∀ w, (Instr.findAsking t (.agg xs) ents i).run E.P w = .ok r' w) ∧ FRel β r r'
 | [], [], i, r, _, h => by simp [findS] at h; subst h; exact ⟨none, fun w => by simp [Instr.findAsking], trivial⟩
 | [], _ :: _, _, _, hm, _ => by simp [MRs] at hm
 | _ :: _, [], _, _, hm, _ => by simp [MRs] at hm
 | e :: es, x :: ents, i, r, hm, h => by
  obtain ⟨⟨h1, h2⟩, h3, h4⟩ := hm
  obtain ⟨ek, ev0⟩ := e
  simp only at h1 h2 h3
  cases ek <;> simp only [findS] at h <;> try (cases h; done)
  rename_i ys
  cases q : ckAll ks xs.toList ys.toList with
  | none => rw [q] at h; cases h
  | some b =>
   rw [q] at h
   have he : ∀ w, (Op.equal t (.agg xs) x.key).run E.P w = .ok b w := fun w => by rw [h2]; exact (hE t ks hk xs ys b (.tmp 0) (.tmp 0) q w).2.2
   cases b with
   | true =>
    cases h
    exact ⟨some (i, x.val), fun w => by simp [Instr.findAsking, he], rfl, h3⟩
   | false =>
    obtain ⟨r', g1, g2⟩ := findS_ok hE hk es ents (i + 1) r h4 h
    exact ⟨r', fun w => by simp [Instr.findAsking, he, g1], g2⟩
theorem findKeyS_ok {E : Env} (hE : EqOK E) {β : Inj} {t : TypeId} {ks : List CK} (hk : E.eqT t = some ks) {xs : Array Value} (hs : keyS E.P t xs = true) {es : List (Value × Value)} {ents : List MapEntry} {r : Option (Nat × Value)} (hm : MRs β es ents) (h : findS ks xs.toList es 0 = some r) :
 ∃ r', (∀ w, (Instr.findKey t (.agg xs) ents).run E.P w = .ok r' w) ∧ FRel β r r' := by
 obtain ⟨r', h1, h2⟩ := findS_ok hE hk es ents 0 r hm h
 obtain ⟨fs, hu, _⟩ := keyS_eq hs
 refine ⟨r', fun w => ?_, h2⟩
 rw [← h1 w]
 cases ents with
 | nil => simp [Instr.findKey, r_underlying hu, Instr.findNow, Instr.findAsking]
 | cons e l => simp [Instr.findKey, r_underlying hu, Instr.findNow, Instr.sameNow]
theorem keyFind_ok {E : Env} (hE : EqOK E) {β : Inj} {key : TypeId} {k k' : Value} {F : List (Value × Value) → Option (Option (Nat × Value))} (h : keyFind E key k = some F) (hk : VR β k k') :
 k' = k ∧ (∀ e w, (Instr.checkKey e 10000 key k).run E.P w = .ok () w) ∧ ∀ (es : List (Value × Value)) (ents : List MapEntry) (r : Option (Nat × Value)), MRs β es ents → F es = some r → ∃ r', (∀ w, (Instr.findKey key k ents).run E.P w = .ok r' w) ∧ FRel β r r' := by
 unfold keyFind at h
 split at h
 ·
  rename_i kd hkd0
  obtain ⟨hpl, hkd⟩ := bif_some hkd0
  cases h
  exact ⟨plain0_eq hpl hk, fun e w => checkKey_ok hkd e _ w, fun es ents r hm hf => findKey_ok hkd hm hf⟩
 ·
  split at h
  ·
   rename_i xs
   split at h
   ·
    rename_i ks hq
    obtain ⟨hs, h⟩ := bif_some h
    cases h
    obtain ⟨_, _, hpl, _⟩ := keyS_eq hs
    exact ⟨plain_eq 1 hpl hk, fun e w => checkS_ok hs e w, fun es ents r hm hf => findKeyS_ok hE hq hs hm hf⟩
   ·
    cases h
  ·
   cases h
theorem lookupV_ok {E : Env} (hE : EqOK E) {Wr : Nat → Prop} {β : Inj} {hp : Heap} {w : World} (S : Sim E.P Wr β hp w) {t : TypeId} {x x' k k' v : Value} {ok : Bool} (hx : VR β x x') (hk : VR β k k') (h : lookupV E hp t x k ok = some v) :
 ∃ v', VR β v v' ∧ ∀ w', Ext w w' → (Instr.lookup t x' k' ok).run E.P w' = .ok v' w' := by
 unfold lookupV at h
 split at h
 ·
  rename_i key elem hu
  split at h
  ·
   rename_i kd hkd0
   obtain ⟨this, hck, hkd⟩ := keyFind_ok hE hkd0 hk
   subst this
   split at h
   ·
    rename_i es hes
    obtain ⟨ents, red, hm⟩ : ∃ ents : Array MapEntry, (∀ w', Ext w w' → (Instr.lookup t x' k' ok).run E.P w' = (lookRest key elem ents k' ok).run E.P w') ∧ MRs β es ents.toList := by
     unfold mapOf at hes
     split at hes
     ·
      cases hx; cases hes; exact ⟨#[], fun w' _ => look_nil hu, trivial⟩
     ·
      rename_i r
      cases hx with | @map _ B hB => ?_
      split at hes
      ·
       rename_i es' clock hg
       cases hes
       obtain ⟨B', ents, g1, g2, g3⟩ := S.liveM _ _ _ hg
       rw [hB] at g1; cases g1
       exact ⟨ents, fun w' he => look_some hu (he.get g2), g3.1⟩
      ·
       cases hes
     ·
      cases hes
    split at h
    ·
     rename_i i u hfm
     obtain ⟨r', h1, h2⟩ := hkd _ _ _ hm hfm
     cases r' with
     | none => exact h2.elim
     | some r' =>
      obtain ⟨j', u'⟩ := r'
      obtain ⟨rfl, hu'⟩ := h2
      cases h
      refine ⟨if ok then .tuple #[u', .bool true] else u', ?_, fun w' he => ?_⟩
      ·
       cases ok
       ·
        exact hu'
       ·
        exact .tuple (.cons hu' (.cons (.bool _) .nil))
      ·
       rw [red w' he]; simp [lookRest, hck, h1]
    ·
     rename_i hfm
     obtain ⟨r', h1, h2⟩ := hkd _ _ _ hm hfm
     cases r' with
     | some r' => exact h2.elim
     | none =>
      split at h
      ·
       rename_i z hz
       cases h
       have hzp := (r_zero (w := w) hz).2
       refine ⟨if ok then .tuple #[z, .bool false] else z, ?_, fun w' he => ?_⟩
       ·
        cases ok
        ·
         exact VR.plain 4 z hzp
        ·
         exact .tuple (.cons (VR.plain 4 z hzp) (.cons (.bool _) .nil))
       ·
        rw [red w' he]; simp [lookRest, hck, h1, (r_zero hz).1]
      ·
       cases h
    ·
     cases h
   ·
    cases h
  ·
   cases h
 ·
  cases h
theorem notIface_eq {P : Program} {t : TypeId} (h : notIface P t = true) : ∃ d, P.underlying t = some d ∧ ∀ ms, d ≠ .interface ms := by
 unfold notIface at h; split at h
 ·
  cases h
 ·
  rename_i d hd hu; exact ⟨d, hu, fun ms e => hd ms e⟩
 ·
  cases h
theorem assertV_ok {E : Env} {β : Inj} {x x' v : Value} (hx : VR β x x') {xT t : TypeId} {ok : Bool} (h : assertV E x t ok = some v) :
 ∃ v', VR β v v' ∧ ∀ w', (Instr.typeAssert x' xT t ok).run E.P w' = .ok v' w' := by
 unfold assertV at h
 obtain ⟨hn, h⟩ := bif_some h
 obtain ⟨d, hu, hd⟩ := notIface_eq hn
 split at h
 ·
  rename_i u y
  cases hx with | @iface _ _ y' hy => ?_
  split at h
  ·
   rename_i e; subst e
   cases h
   refine ⟨if ok then .tuple #[y', .bool true] else y', ?_, fun w' => ?_⟩
   ·
    cases ok
    ·
     exact hy
    ·
     exact .tuple (.cons hy (.cons (.bool _) .nil))
   ·
    simp only [Instr.typeAssert, Sem.run_bind, r_underlying hu, Result.andThen_ok]
    cases d <;> first | (simp; done) | exact (hd _ rfl).elim
  ·
   rename_i e
   split at h
   ·
    rename_i hok
    split at h
    ·
     rename_i z hz
     cases h
     refine ⟨_, .tuple (.cons (VR.plain 4 z (r_zero (w := default) hz).2) (.cons (.bool _) .nil)), fun w' => ?_⟩
     simp only [Instr.typeAssert, Sem.run_bind, r_underlying hu, Result.andThen_ok]
     cases d <;> first | (simp [e, hok, (r_zero hz).1]; done) | exact (hd _ rfl).elim
    ·
     cases h
   ·
    cases h
 ·
  cases hx
  split at h
  ·
   rename_i hok
   split at h
   ·
    rename_i z hz
    cases h
    refine ⟨_, .tuple (.cons (VR.plain 4 z (r_zero (w := default) hz).2) (.cons (.bool _) .nil)), fun w' => ?_⟩
    simp only [Instr.typeAssert, Sem.run_bind, r_underlying hu, Result.andThen_ok]
    cases d <;> first | (simp [hok, (r_zero hz).1]; done) | exact (hd _ rfl).elim
   ·
    cases h
  ·
   cases h
 ·
  cases h
end Go.Proofs.YtokfjifeofpkkaaGreat.V
namespace Go.Proofs.YtokfjifeofpkkaaGreat.V
open Go
set_option linter.unusedVariables false
set_option linter.unusedSimpArgs false
inductive PRs (β : Inj) : List (Nat × Value) → List (Nat × Value) → Prop
 | nil : PRs β [] []
 | cons (i : Nat) {v v' : Value} {l l' : List (Nat × Value)} (h : VR β v v') (r : PRs β l l') : PRs β ((i, v) :: l) ((i, v') :: l')
theorem evParts_ok {β : Inj} {nt : Nat} {fr : Fr} {a : Act} (h : FR β nt fr a) : ∀ {l : List (Nat × Operand)} {vs : List (Nat × Value)}, evParts fr l = some vs → PRs β vs (l.map fun x => (x.1, a.eval x.2))
 | [], _, hx => by simp [evParts] at hx; subst hx; exact .nil
 | (i, x) :: r, vs, hx => by
  simp only [evParts] at hx
  cases h1 : ev fr x with
  | none => rw [h1] at hx; simp at hx
  | some v =>
   cases h2 : evParts fr r with
   | none => rw [h1, h2] at hx; simp at hx
   | some l =>
    rw [h1, h2] at hx; simp at hx; subst hx
    exact .cons i (ev_ok h h1) (evParts_ok h h2)
theorem splice_len (c : List Value) (off : Nat) (vs : List Value) (h : off + vs.length ≤ c.length) : (splice c off vs).length = c.length := by
 unfold splice; simp; omega
theorem splice_get (c : List Value) (off : Nat) (vs : List Value) (h : off + vs.length ≤ c.length) (i : Nat) :
 (splice c off vs)[i]? = if off ≤ i ∧ i < off + vs.length then vs[i - off]? else c[i]? := by
 unfold splice
 by_cases h1 : i < off
 ·
  rw [List.getElem?_append_left (by simp; omega), if_neg (by omega), List.getElem?_take, if_pos h1]
 ·
  rw [List.getElem?_append_right (by simp; omega)]
  have e : (c.take off).length = off := by simp; omega
  rw [e]
  by_cases h2 : i < off + vs.length
  ·
   rw [List.getElem?_append_left (by omega), if_pos ⟨by omega, h2⟩]
  ·
   rw [List.getElem?_append_right (by omega), if_neg (by omega), List.getElem?_drop]
   congr 1; omega
theorem foldl_set (off : Nat) : ∀ (l : List Value) (j0 : Nat) (cs : Array Value), off + j0 + l.length ≤ cs.size →
 ((l.zipIdx j0).foldl (fun cs (x : Value × Nat) => cs.setIfInBounds (off + x.2) x.1) cs).toList = splice cs.toList (off + j0) l
 | [], j0, cs, h => by simp [splice]
 | v :: l, j0, cs, h => by
  simp only [List.zipIdx_cons, List.foldl_cons]
  rw [foldl_set off l (j0 + 1) _ (by simp at h ⊢; omega)]
  apply List.ext_getElem?
  intro i
  simp only [List.length_cons] at h
  rw [splice_get _ _ _ (by simp; omega), splice_get _ _ _ (by simp; omega)]
  simp only [Array.toList_setIfInBounds, List.getElem?_set, List.length_cons, Array.length_toList]
  by_cases e : i = off + j0
  ·
   subst e
   rw [if_neg (by omega), if_pos rfl, if_pos (by omega), if_pos (by omega)]; simp
  ·
   by_cases h1 : off + (j0 + 1) ≤ i ∧ i < off + (j0 + 1) + l.length
   ·
    rw [if_pos h1, if_pos (by omega)]
    rw [show i - (off + j0) = (i - (off + (j0 + 1))) + 1 by omega]; simp
   ·
    rw [if_neg h1, if_neg (by omega), if_neg (by omega)]
theorem fill_ok {β : Inj} (place : Nat → Option (Nat × Nat)) : ∀ (parts parts' : List (Nat × Value)) (cells : List Value) (cells' : Array Value) (l : List Value), PRs β parts parts' → VRs β cells cells'.toList → fillL place cells parts = some l →
 ∃ c', Instr.fill place cells' parts' = some c' ∧ VRs β l c'.toList
 | _, _, cells, cells', l, .nil, hc, h => by simp [fillL] at h; subst h; exact ⟨cells', by simp [Instr.fill], hc⟩
 | _, _, cells, cells', l, .cons i (v := v) (v' := v') hv r, hc, h => by
  simp only [fillL] at h
  split at h
  ·
   cases h
  ·
   rename_i off size hp
   obtain ⟨hb, h⟩ := bif_some h
   rw [Bool.and_eq_true] at hb
   have h1 : v.cells.size = size := Nat.eq_of_beq_eq_true hb.1
   have h2 : off + size ≤ cells.length := Nat.le_of_ble_eq_true hb.2
   have hcv := cells_ok hv
   have e1 : v'.cells.size = size := by have := hcv.len; simp at this; omega
   have e2 : cells'.size = cells.length := by have := hc.len; simp at this; omega
   have e3 : (v'.cells.zipIdx.foldl (fun cs (x : Value × Nat) => cs.setIfInBounds (off + x.2) x.1) cells').toList = splice cells'.toList off v'.cells.toList := by
    rw [← Array.foldl_toList, Array.toList_zipIdx]
    have := foldl_set off v'.cells.toList 0 cells' (by simp; omega)
    simpa using this
   obtain ⟨c', g1, g2⟩ := fill_ok place _ _ (splice cells off v.cells.toList) (v'.cells.zipIdx.foldl (fun cs (x : Value × Nat) => cs.setIfInBounds (off + x.2) x.1) cells') l r (by rw [e3]; exact hc.splice hcv off) h
   refine ⟨c', ?_, g2⟩
   simp only [Instr.fill, hp]
   rw [if_neg (by simp; omega)]
   exact g1
theorem places_run {P : Program} {w : World} : ∀ (fs : List Field) (pl : List (Nat × Nat)), placesOf P fs = some pl →
 (fs.mapM fun f => do pure (f.offset, ← sizeOf f.type) : Sem (List (Nat × Nat))).run P w = .ok pl w
 | [], pl, h => by simp [placesOf] at h; subst h; rfl
 | f :: r, pl, h => by
  simp only [placesOf] at h
  split at h
  ·
   rename_i k hk
   split at h
   ·
    rename_i l hl
    simp at h; subst h
    have := places_run (w := w) r l hl
    simp only [List.mapM_cons, Sem.run_bind, r_size hk, Result.andThen_ok, Sem.run_pure, this]
   ·
    cases h
  ·
   cases h
theorem buildV_ok {E : Env} {β : Inj} {t : TypeId} {parts : List (Nat × Value)} {parts' : Array (Nat × Value)} (hp : PRs β parts parts'.toList) {v : Value} (h : buildV E t parts = some v) :
 ∃ v', VR β v v' ∧ ∀ w', (Instr.build t parts').run E.P w' = .ok v' w' := by
 unfold buildV at h
 split at h
 ·
  cases h
 ·
  rename_i z hz
  have hzp := (r_zero (w := default) hz).2
  have hzc := cells_ok (VR.plain (β := β) 4 z hzp)
  split at h
  ·
   rename_i fs hu
   split at h
   ·
    rename_i pl hpl
    split at h
    ·
     rename_i c hc
     cases h
     obtain ⟨c', g1, g2⟩ := fill_ok _ _ _ _ _ _ hp hzc hc
     refine ⟨.agg c', .agg (by simpa using g2), fun w' => ?_⟩
     have hpr := places_run (P := E.P) (w := w') _ _ hpl
     have e : (fun (i : Nat) => pl[i]?) = (fun (i : Nat) => pl.toArray[i]?) := by funext i; simp
     rw [e] at g1
     simp only [Instr.build, Sem.run_bind, (r_zero hz).1, Result.andThen_ok, r_underlying hu, Array.mapM_eq_mapM_toList, Sem.run_map, hpr, g1, Sem.run_pure]
    ·
     cases h
   ·
    cases h
  ·
   rename_i n elem hu
   split at h
   ·
    rename_i k hk
    split at h
    ·
     rename_i c hc
     cases h
     obtain ⟨c', g1, g2⟩ := fill_ok _ _ _ _ _ _ hp hzc hc
     refine ⟨.agg c', .agg (by simpa using g2), fun w' => ?_⟩
     simp only [Instr.build, Sem.run_bind, (r_zero hz).1, Result.andThen_ok, r_underlying hu, r_size hk, g1, Sem.run_pure]
    ·
     cases h
   ·
    cases h
  ·
   cases h
theorem convV_ok {E : Env} {β : Inj} {x x' v : Value} (hx : VR β x x') {src dst : TypeId} (h : convV E src dst x = some v) : VR β v v ∧ ∀ w', (convert src dst x').run E.P w' = .ok v w' := by
 unfold convV at h
 split at h
 ·
  rename_i s k kk n h1 h2
  cases hx; cases h
  exact ⟨.int _ _, fun w' => by simp [convert, r_underlying h1, r_underlying h2, Conv.intToInt]⟩
 ·
  rename_i d s h1 h2
  cases hx; cases h
  exact ⟨.string _, fun w' => by simp [convert, r_underlying h1, r_underlying h2]⟩
 ·
  cases h
theorem intsU_eq : ∀ {l : List Value} {ns : List Int}, intsU l = some ns → l = ns.map (Value.int .u8)
 | [], ns, h => by cases h; rfl
 | x :: l, ns, h => by
  unfold intsU at h
  split at h
  ·
   rename_i q; cases q
  ·
   rename_i n l' q
   cases q
   split at h
   ·
    rename_i b hb
    cases h
    rw [intsU_eq hb]; rfl
   ·
    cases h
  ·
   cases h
theorem ints_same {β : Inj} : ∀ {ns : List Int} {l : List Value}, VRs β (ns.map (Value.int .u8)) l → l = ns.map (Value.int .u8)
 | [], _, h => by cases h; rfl
 | n :: ns, _, h => by
  cases h with | cons h1 h2 => ?_
  cases h1
  rw [ints_same h2]; rfl
theorem convH_ok {E : Env} {Wr : Nat → Prop} {β : Inj} {hp : Heap} {w : World} (S : Sim E.P Wr β hp w) {x x' v : Value} (hx : VR β x x') {src dst : TypeId} (h : convH E hp src dst x = some v) : VR β v v ∧ ∀ w', Ext w w' → (convert src dst x').run E.P w' = .ok v w' := by
 unfold convH at h
 split at h
 ·
  rename_i e a len cap hs hd
  split at h
  ·
   rename_i he
   split at h
   ·
    rename_i l hl
    split at h
    ·
     rename_i ns hns
     cases h
     refine ⟨.string _, fun w' ext => ?_⟩
     have hle := intsU_eq hns
     subst hle
     cases hx with
     | slice hA =>
      obtain ⟨l', e1, e2, e3⟩ := cellsAt_ok S hA hl
      have hl' := ints_same e2
      subst hl'
      rw [run_convert_bytes_string w' src dst e _ _ _ hs he hd]
      refine run_bytesToString w' _ _ _ ns ?_
      have := run_loadCells_list (P := E.P) w' _ _ (fun j v hv => ext.cell (e3 j v hv))
      rw [e1] at this
      exact this
     | slack => simp [cellsAt] at hl
     | opq => simp [cellsAt] at hl
    ·
     cases h
   ·
    cases h
  ·
   cases h
 ·
  cases h
theorem lenV_ok {E : Env} {Wr : Nat → Prop} {β : Inj} {hp : Heap} {w : World} (S : Sim E.P Wr β hp w) {ts : Array TypeId} {t T : TypeId} (ht : ts[0]? = some t) {x x' v : Value} (hx : VR β x x') (h : lenV E hp t x = some v) :
 VR β v v ∧ ∀ w', Ext w w' → (Builtin.len_ ts T #[x']).run E.P w' = .ok v w' := by
 unfold lenV at h
 split at h
 ·
  rename_i s hu
  cases hx; cases h
  exact ⟨.int _ _, fun w' _ => by simp [Builtin.len_, ht, r_underlying hu]⟩
 ·
  rename_i e a n c hu
  cases h
  refine ⟨.int _ _, fun w' _ => ?_⟩
  cases hx <;> simp [Builtin.len_, ht, r_underlying hu]
 ·
  rename_i k e hu
  split at h
  ·
   rename_i es hes
   cases h
   unfold mapOf at hes
   split at hes
   ·
    cases hx; cases hes
    exact ⟨.int _ _, fun w' _ => by simp [Builtin.len_, ht, r_underlying hu]⟩
   ·
    rename_i r
    cases hx with | @map _ B hB => ?_
    split at hes
    ·
     rename_i es' clock hg
     cases hes
     obtain ⟨B', ents, g1, g2, g3⟩ := S.liveM _ _ _ hg
     rw [hB] at g1; cases g1
     refine ⟨.int _ _, fun w' he => ?_⟩
     have hh := he.get g2
     have : (getObj B).run E.P w' = .ok (.map ents clock) w' := by simp [getObj, Sem.run, hh]
     have hl : es.length = ents.size := by
      have : ∀ (es : List (Value × Value)) (l : List MapEntry), MRs β es l → es.length = l.length := by
       intro es
       induction es with
       | nil => intro l h; cases l <;> simp [MRs] at h ⊢
       | cons e es ih => intro l h; cases l with
        | nil => simp [MRs] at h
        | cons x l => simp [ih l h.2.2]
      simpa using this _ _ g3.1
     simp [Builtin.len_, ht, r_underlying hu, this, hl]
    ·
     cases hes
   ·
    cases hes
  ·
   cases h
 ·
  rename_i n e hu
  cases h
  refine ⟨.int _ _, fun w' _ => ?_⟩
  simp [Builtin.len_, ht, r_underlying hu]
 ·
  cases h
theorem capV_ok {E : Env} {β : Inj} {ts : Array TypeId} {t T : TypeId} (ht : ts[0]? = some t) {x x' v : Value} (hx : VR β x x') (h : capV E t x = some v) :
 VR β v v ∧ ∀ w', (Builtin.cap_ ts T #[x']).run E.P w' = .ok v w' := by
 unfold capV at h
 split at h
 ·
  rename_i e l n hu
  cases h
  refine ⟨.int _ _, fun w' => ?_⟩
  cases hx; simp [Builtin.cap_, ht, r_underlying hu]
 ·
  rename_i e a l n hu
  cases hx with
  | @slice a a' hA l0 c0 =>
   cases hA with
   | new hb => simp at h; subst h; exact ⟨.int _ _, fun w' => by simp [Builtin.cap_, ht, r_underlying hu]⟩
   | base => simp at h; subst h; exact ⟨.int _ _, fun w' => by simp [Builtin.cap_, ht, r_underlying hu]⟩
   | odd => simp at h
  | slack _ _ _ _ => simp at h
  | opq _ _ => simp at h
 ·
  cases h
theorem max2_ok {P : Program} {β : Inj} {x x' y y' v : Value} (hx : VR β x x') (hy : VR β y y') (h : max2V x y = some v) : VR β v v ∧ ∀ w, (Builtin.max2 x' y').run P w = .ok v w := by
 unfold max2V at h
 split at h
 ·
  cases hx; cases hy; cases h
  exact ⟨.int _ _, fun w => by simp [Builtin.max2]⟩
 ·
  cases hx; cases hy; cases h
  exact ⟨.string _, fun w => by simp [Builtin.max2, Op.stringOp, asBool]⟩
 ·
  cases h
theorem min2_ok {P : Program} {β : Inj} {x x' y y' v : Value} (hx : VR β x x') (hy : VR β y y') (h : min2V x y = some v) : VR β v v ∧ ∀ w, (Builtin.min2 x' y').run P w = .ok v w := by
 unfold min2V at h
 split at h
 ·
  cases hx; cases hy; cases h
  exact ⟨.int _ _, fun w => by simp [Builtin.min2]⟩
 ·
  cases hx; cases hy; cases h
  exact ⟨.string _, fun w => by simp [Builtin.min2, Op.stringOp, asBool]⟩
 ·
  cases h
theorem fold_ok {P : Program} {β : Inj} {f : Value → Value → Option Value} {g : Value → Value → Sem Value} (hf : ∀ x x' y y' v, VR β x x' → VR β y y' → f x y = some v → VR β v v ∧ ∀ w, (g x' y').run P w = .ok v w) :
 ∀ (l l' : List Value) (x x' v : Value), VRs β l l' → VR β x x' → foldV f x l = some v → ∃ v', VR β v v' ∧ ∀ w, (l'.foldlM g x').run P w = .ok v' w
 | [], _, x, x', v, h1, h2, h => by cases h1; simp [foldV] at h; subst h; exact ⟨x', h2, fun w => rfl⟩
 | y :: l, _, x, x', v, h1, h2, h => by
  cases h1 with | @cons _ y' _ l' hy r => ?_
  simp only [foldV] at h
  split at h
  ·
   rename_i z hz
   obtain ⟨e1, e2⟩ := hf _ _ _ _ _ h2 hy hz
   obtain ⟨v', g1, g2⟩ := fold_ok hf l l' z z v r e1 h
   exact ⟨v', g1, fun w => by simp only [List.foldlM_cons, Sem.run_bind, e2, Result.andThen_ok, g2]⟩
  ·
   cases h
end Go.Proofs.YtokfjifeofpkkaaGreat.V
namespace Go.Proofs.YtokfjifeofpkkaaGreat.V
open Go
set_option linter.unusedVariables false
set_option linter.unusedSimpArgs false
theorem ex_v {P : Program} {s : Sem Value} {v' : Value} {w w' : World} (h : s.run P w = .ok v' w') : (do pure (.value (← s)) : Sem Next).run P w = .ok (.value v') w' := by
 simp only [Sem.run_bind, h, Result.andThen_ok]; rfl
theorem bool_of {β : Inj} {v : Value} {b : Bool} (h : VR β (.bool b) v) : v = .bool b := by cases h; rfl
theorem ev_ok' {β : Inj} {nt : Nat} {fr : Fr} {a : Act} (F : FR β nt fr a) {x : Operand} {v : Value} (hx : ev fr x = some v) : ∃ x', a.eval x = x' ∧ VR β v x' := ⟨_, rfl, ev_ok F hx⟩
theorem list1 {β : Inj} {x : Value} {l : List Value} (h : VRs β [x] l) : ∃ x', l = [x'] ∧ VR β x x' := by
 cases h with | cons h r => cases r; exact ⟨_, rfl, h⟩
theorem list2 {β : Inj} {x y : Value} {l : List Value} (h : VRs β [x, y] l) : ∃ x' y', l = [x', y'] ∧ VR β x x' ∧ VR β y y' := by
 cases h with | cons h r => cases r with | cons h' r' => cases r'; exact ⟨_, _, rfl, h, h'⟩
theorem args_eq {c : Call} {ρ : Operand → Value} {l : List Value} (h : c.args.toList.map ρ = l) : c.args.map ρ = l.toArray := by
 rw [← Array.toList_inj]; simpa using h
theorem read_ok {E : Env} (hE : EqOK E) {Wr : Nat → Prop} {β : Inj} {hp : Heap} {w : World} (S : Sim E.P Wr β hp w) {nt : Nat} {fr : Fr} {a : Act} (F : FR β nt fr a) {o : Oper} {v : Value} (h : readV E fr hp o.op = some v) :
 ∃ v', VR β v v' ∧ ∀ w', Ext w w' → (execOp a.eval o).run E.P w' = .ok (.value v') w' := by
 obtain ⟨dst, op, type, pos, after, guard⟩ := o
 simp only at h
 cases op <;> simp only [readV] at h <;> try (cases h; done)
 case move x => exact ⟨_, ev_ok F h, fun w' _ => rfl⟩
 case assign x => exact ⟨_, ev_ok F h, fun w' _ => rfl⟩
 case pick c x y =>
  split at h
  ·
   rename_i hc
   have := bool_of (ev_ok F hc)
   exact ⟨_, ev_ok F h, fun w' _ => by simp [execOp, this, asBool]⟩
  ·
   rename_i hc
   have := bool_of (ev_ok F hc)
   exact ⟨_, ev_ok F h, fun w' _ => by simp [execOp, this, asBool]⟩
  ·
   cases h
 case load t x =>
  split at h
  ·
   rename_i p hx
   obtain ⟨x', hx', hv⟩ := ev_ok' F hx
   cases hv with | @ptr _ p' hA => ?_
   obtain ⟨v', h1, h2⟩ := loadV_ok S hA h
   refine ⟨v', h1, fun w' he => ?_⟩
   simp only [execOp, hx']
   exact ex_v (by simp [Instr.loadAt, Instr.sureAddr, h2 w' he])
  ·
   cases h
 case nilCheck x =>
  split at h
  all_goals try (cases h; done)
  all_goals (
   rename_i hx
   obtain ⟨x', hx', hv⟩ := ev_ok' F hx
   cases h
   refine ⟨x', hv, fun w' _ => ?_⟩
   cases hv <;> simp [execOp, hx'])
 case binOp op t x y yt =>
  split at h
  ·
   rename_i u u2 hx hy
   obtain ⟨h1, h2⟩ := binV_ok hE (ev_ok F hx) (ev_ok F hy) h x y
   exact ⟨v, h1, fun w' _ => ex_v (h2 w')⟩
  ·
   cases h
 case unOp op t x =>
  split at h
  ·
   rename_i u hx
   obtain ⟨h1, h2⟩ := unV_ok (P := E.P) (ev_ok F hx) h
   exact ⟨v, h1, fun w' _ => ex_v (h2 w')⟩
  ·
   cases h
 case convert src d x =>
  split at h
  ·
   rename_i u hx
   cases hq : convV E src d u with
   | some v0 =>
    rw [hq] at h
    cases h
    obtain ⟨h1, h2⟩ := convV_ok (ev_ok F hx) hq
    exact ⟨_, h1, fun w' _ => ex_v (h2 w')⟩
   | none =>
    rw [hq] at h
    obtain ⟨h1, h2⟩ := convH_ok S (ev_ok F hx) h
    exact ⟨v, h1, fun w' he => ex_v (h2 w' he)⟩
  ·
   cases h
 case makeInterface t x =>
  obtain ⟨hn, h⟩ := bif_some h
  obtain ⟨d, hu, hd⟩ := notIface_eq hn
  split at h
  ·
   rename_i u hx
   cases h
   refine ⟨_, .iface t (ev_ok F hx), fun w' _ => ex_v ?_⟩
   simp only [Instr.makeInterface, Sem.run_bind, r_underlying hu, Result.andThen_ok]
   cases d <;> first | rfl | exact (hd _ rfl).elim
  ·
   cases h
 case makeFunc fn first cap =>
  obtain ⟨hn, h⟩ := bif_some h
  split at h
  ·
   rename_i u1 u2 h1 h2
   cases h
   refine ⟨.func fn (first.map a.eval) (cap.map a.eval), .func fn ?_ ?_, fun w' _ => rfl⟩
   ·
    simpa using evs_ok F h1
   ·
    simpa using evs_ok F h2
  ·
   cases h
 case slice t x lo hi mx =>
  split at h
  ·
   rename_i x1 l1 h1 m1 e1 e2 e3 e4
   obtain ⟨v', g1, g2⟩ := sliceV_ok S (ev_ok F e1) (evOpt_ok F e2) (evOpt_ok F e3) (evOpt_ok F e4) h
   exact ⟨v', g1, fun w' _ => ex_v (g2 w')⟩
  ·
   cases h
 case fieldAddr s x f =>
  split at h
  ·
   rename_i u hx
   obtain ⟨v', h1, h2⟩ := fieldAddrV_ok (ev_ok F hx) h
   exact ⟨v', h1, fun w' _ => ex_v (h2 w')⟩
  ·
   cases h
 case field s x f =>
  split at h
  ·
   rename_i u hx
   obtain ⟨v', h1, h2⟩ := fieldV_ok (ev_ok F hx) h
   exact ⟨v', h1, fun w' _ => ex_v (h2 w')⟩
  ·
   cases h
 case indexAddr t x i =>
  split at h
  ·
   rename_i u u2 hx hy
   obtain ⟨v', h1, h2⟩ := indexAddrV_ok (ev_ok F hx) (ev_ok F hy) h
   exact ⟨v', h1, fun w' _ => ex_v (h2 w')⟩
  ·
   cases h
 case index t x i =>
  split at h
  ·
   rename_i u u2 hx hy
   obtain ⟨v', h1, h2⟩ := indexV_ok (ev_ok F hx) (ev_ok F hy) h
   exact ⟨v', h1, fun w' _ => ex_v (h2 w')⟩
  ·
   cases h
 case lookup t m k ok =>
  split at h
  ·
   rename_i u u2 hx hy
   obtain ⟨v', h1, h2⟩ := lookupV_ok hE S (ev_ok F hx) (ev_ok F hy) h
   exact ⟨v', h1, fun w' he => ex_v (h2 w' he)⟩
  ·
   cases h
 case typeAssert x xt t ok =>
  split at h
  ·
   rename_i u hx
   obtain ⟨v', h1, h2⟩ := assertV_ok (xT := xt) (ev_ok F hx) h
   exact ⟨v', h1, fun w' _ => ex_v (h2 w')⟩
  ·
   cases h
 case extract x i =>
  split at h
  ·
   rename_i vs hx
   obtain ⟨x', hx', hv⟩ := ev_ok' F hx
   cases hv with | @tuple _ vs' hvs => ?_
   obtain ⟨v', h1, h2⟩ := hvs.get i (by simpa using h)
   refine ⟨v', h2, fun w' _ => ?_⟩
   simp only [execOp, hx']
   refine ex_v ?_
   have : vs'[i]? = some v' := by rw [← Array.getElem?_toList]; exact h1
   simp [Instr.extract, this]
  ·
   cases h
 case build t parts =>
  split at h
  ·
   rename_i p hpt
   have hp' := evParts_ok F hpt
   obtain ⟨v', h1, h2⟩ := buildV_ok (parts' := parts.map fun (i, x) => (i, a.eval x)) (by simpa using hp') h
   exact ⟨v', h1, fun w' _ => ex_v (h2 w')⟩
  ·
   cases h
 case call c =>
  split at h
  ·
   rename_i hc
   split at h
   ·
    rename_i x hx
    split at h
    ·
     rename_i t ht
     obtain ⟨x', e1, e2⟩ := list1 (evs_ok F hx)
     obtain ⟨h1, h2⟩ := lenV_ok S (T := type) ht e2 h
     refine ⟨v, h1, fun w' he => ?_⟩
     simp only [execOp, resolve, hc, args_eq e1, Sem.run_bind, Sem.run_pure, Result.andThen_ok, invoke, builtin, h2 w' he]
    ·
     cases h
   ·
    cases h
  ·
   rename_i hc
   split at h
   ·
    rename_i x hx
    split at h
    ·
     rename_i t ht
     obtain ⟨x', e1, e2⟩ := list1 (evs_ok F hx)
     obtain ⟨h1, h2⟩ := capV_ok (T := type) ht e2 h
     refine ⟨v, h1, fun w' he => ?_⟩
     simp only [execOp, resolve, hc, args_eq e1, Sem.run_bind, Sem.run_pure, Result.andThen_ok, invoke, builtin, h2 w']
    ·
     cases h
   ·
    cases h
  ·
   rename_i hc
   split at h
   ·
    rename_i x r hx
    have := evs_ok F hx
    generalize hl : c.args.toList.map a.eval = l at this
    cases this with | @cons _ x' _ r' e1 e2 => ?_
    obtain ⟨v', h1, h2⟩ := fold_ok (P := E.P) (fun _ _ _ _ _ a b c => max2_ok a b c) _ _ _ _ _ e2 e1 h
    refine ⟨v', h1, fun w' he => ?_⟩
    simp only [execOp, resolve, hc, args_eq hl, Sem.run_bind, Sem.run_pure, Result.andThen_ok, invoke, builtin, Builtin.max_, h2 w']
   ·
    cases h
  ·
   rename_i hc
   split at h
   ·
    rename_i x r hx
    have := evs_ok F hx
    generalize hl : c.args.toList.map a.eval = l at this
    cases this with | @cons _ x' _ r' e1 e2 => ?_
    obtain ⟨v', h1, h2⟩ := fold_ok (P := E.P) (fun _ _ _ _ _ a b c => min2_ok a b c) _ _ _ _ _ e2 e1 h
    refine ⟨v', h1, fun w' he => ?_⟩
    simp only [execOp, resolve, hc, args_eq hl, Sem.run_bind, Sem.run_pure, Result.andThen_ok, invoke, builtin, Builtin.min_, h2 w']
   ·
    cases h
  ·
   cases h
end Go.Proofs.YtokfjifeofpkkaaGreat.V
namespace Go.Proofs.YtokfjifeofpkkaaGreat.V
open Go
set_option linter.unusedVariables false
set_option linter.unusedSimpArgs false
def upd (β : Inj) (n : Nat) (x : Img) : Inj := fun b => if b = n then some x else β b
theorem le_upd {β : Inj} {n : Nat} (x : Img) (h : ∀ b y, β b = some y → b < n) : β.le (upd β n x) := by
 intro b y hb
 have := h b y hb
 unfold upd; rw [if_neg (by omega)]; exact hb
structure Up (n : Nat) (β β' : Inj) : Prop where
 le : β.le β'
 keep : ∀ b, b < n → β' b = β b
theorem Up.refl (n : Nat) (β : Inj) : Up n β β := ⟨Inj.le_refl β, fun _ _ => rfl⟩
theorem Up.trans {n m : Nat} {β β1 β2 : Inj} (h : Up n β β1) (hn : n ≤ m) (k : Up m β1 β2) : Up n β β2 :=
 ⟨Inj.le_trans h.le k.le, fun b hb => (k.keep b (Nat.lt_of_lt_of_le hb hn)).trans (h.keep b hb)⟩
theorem up_upd {β : Inj} {n : Nat} (x : Img) (h : ∀ b y, β b = some y → b < n) : Up n β (upd β n x) :=
 ⟨le_upd x h, fun b hb => by unfold upd; rw [if_neg (by omega)]⟩
structure Lm (h h' : Heap) : Prop where
 lim : h'.lim = h.lim
 n : h.n ≤ h'.n
theorem Lm.refl (h : Heap) : Lm h h := ⟨rfl, Nat.le_refl _⟩
theorem Lm.trans {a b c : Heap} (k : Lm b c) (h : Lm a b) : Lm a c := ⟨k.lim.trans h.lim, Nat.le_trans h.n k.n⟩
theorem Lm.of {h h' : Heap} (a : h'.lim = h.lim) (b : h'.n = h.n) : Lm h h' := ⟨a, by rw [b]; exact Nat.le_refl _⟩
theorem Lm.alloc (h : Heap) (o : O) : Lm h (h.alloc o) := ⟨rfl, Nat.le_succ _⟩
theorem get_alloc (h : Heap) (o : O) (b : Nat) : (h.alloc o).get b = if h.n = b then some o else h.get b := by
 unfold Heap.alloc Heap.get; simp only; exact Trie.get_set _ _ _ _
theorem get_set (h : Heap) (n : Nat) (o : O) (b : Nat) : (h.set n o).get b = if n = b then some o else h.get b := by
 unfold Heap.set Heap.get; simp only; exact Trie.get_set _ _ _ _
theorem MRs.mono {β β' : Inj} (hb : β.le β') : ∀ {es : List (Value × Value)} {l : List MapEntry}, MRs β es l → MRs β' es l
 | [], [], _ => trivial
 | [], _ :: _, h => h.elim
 | _ :: _, [], h => h.elim
 | e :: es, x :: l, h => ⟨h.1, h.2.1.mono hb, h.2.2.mono hb⟩
def Unfrozen (n : Nat) (fr : Nat × Nat) : Prop := ∀ j, j ≤ n → (decide (fr.1 ≤ j) && decide (j < fr.2)) = false
theorem Unfrozen.none (n : Nat) : Unfrozen n (0, 0) := by intro j _; simp
def OOK (P : Program) (β : Inj) (x : Img) (w : World) : O → Prop
 | .cells c T => ∃ (C : Array Value) (fr : Nat × Nat), x.N = C.size ∧ x.k = P.cellsOf T ∧ w.heap[x.B]? = some (.cells C T fr) ∧ Unfrozen C.size fr ∧ x.s + c.length ≤ C.size ∧
  ∀ (i : Nat) (v : Value), c[i]? = some v → ∃ v', C[x.s + i]? = some v' ∧ VR β v v'
 | .map es clock => x = ⟨x.B, 0, 0, 0⟩ ∧ ∃ (ents : Array MapEntry), w.heap[x.B]? = some (.map ents clock) ∧ MRs β es ents.toList ∧ Rise clock ents.toList
 | .iter r s => x = ⟨x.B, 0, 0, 0⟩ ∧ ∃ B', β r = some ⟨B', 0, 0, 0⟩ ∧ w.heap[x.B]? = some (.mapIter (some B') 1 (if s then #[0] else #[]) 1)
 | .dead => True
theorem OOK.mono {P : Program} {β β' : Inj} (hb : β.le β') {x : Img} {w : World} : ∀ {o : O}, OOK P β x w o → OOK P β' x w o
 | .cells c T, ⟨C, fr, h1, h2, h3, h4, h5, h6⟩ => ⟨C, fr, h1, h2, h3, h4, h5, fun i v hv => by obtain ⟨v', e1, e2⟩ := h6 i v hv; exact ⟨v', e1, e2.mono hb⟩⟩
 | .map es _, ⟨h1, ents, h2, h3⟩ => ⟨h1, ents, h2, h3.1.mono hb, h3.2⟩
 | .iter r s, ⟨h1, B', h2, h3⟩ => ⟨h1, B', hb _ _ h2, h3⟩
 | .dead, _ => trivial
theorem OOK.world {P : Program} {β : Inj} {x : Img} {w w' : World} (he : w'.heap[x.B]? = w.heap[x.B]?) : ∀ {o : O}, OOK P β x w o → OOK P β x w' o
 | .cells c T, ⟨C, fr, h1, h2, h3, h4, h5, h6⟩ => ⟨C, fr, h1, h2, by rw [he]; exact h3, h4, h5, h6⟩
 | .map es _, ⟨h1, ents, h2, h3⟩ => ⟨h1, ents, by rw [he]; exact h2, h3⟩
 | .iter r s, ⟨h1, B', h2, h3⟩ => ⟨h1, B', h2, by rw [he]; exact h3⟩
 | .dead, _ => trivial
theorem Sim.get {P : Program} {Wr : Nat → Prop} {β : Inj} {h : Heap} {w : World} (S : Sim P Wr β h w) {b : Nat} {o : O} (hb : h.get b = some o) (hd : o ≠ .dead) : ∃ x, β b = some x ∧ OOK P β x w o := by
 cases o with
 | cells c T =>
  obtain ⟨B, s, C, fr, h1, h2, h3, h4, h5⟩ := S.live b c T hb
  exact ⟨_, h1, C, fr, rfl, rfl, h2, h3, h4, h5⟩
 | map es clock =>
  obtain ⟨B, ents, h1, h2, h3⟩ := S.liveM b es clock hb
  exact ⟨_, h1, rfl, ents, h2, h3⟩
 | iter r s =>
  obtain ⟨B, B', h1, h2, h3⟩ := S.liveI b r s hb
  exact ⟨_, h1, rfl, B', h2, h3⟩
 | dead => exact (hd rfl).elim
theorem Sim.mk' {P : Program} {Wr : Nat → Prop} {β : Inj} {h : Heap} {w : World}
 (base : ∀ b o v, h.base b o = some v → ¬ Wr b ∧ ∃ v', w.cell? ⟨b, o, none⟩ = some v' ∧ ∀ β, VR β v v')
 (dom : ∀ b x, β b = some x → b < h.n) (tdom : ∀ b o, h.get b = some o → b < h.n)
 (get : ∀ b o, h.get b = some o → o ≠ .dead → ∃ x, β b = some x ∧ OOK P β x w o)
 (inj : ∀ b1 b2 x1 x2, alive h b1 → alive h b2 → β b1 = some x1 → β b2 = some x2 → b1 ≠ b2 → x1.B ≠ x2.B)
 (wr : ∀ b x, alive h b → h.lim ≤ b → β b = some x → Wr x.B) (fresh : ∀ k, w.heap.size ≤ k → Wr k) (img : ∀ b x, β b = some x → x.B < w.heap.size) : Sim P Wr β h w where
 base := base
 dom := dom
 tdom := tdom
 live b c T hb := by
  obtain ⟨⟨B, s, N, k⟩, h1, C, fr, e1, e2, h2, h3, h4, h5⟩ := get b _ hb (by simp)
  simp only at e1 e2; subst e1; subst e2
  exact ⟨B, s, C, fr, h1, h2, h3, h4, h5⟩
 liveM b es clock hb := by
  obtain ⟨x, h1, e, ents, h2, h3⟩ := get b _ hb (by simp)
  rw [e] at h1
  exact ⟨x.B, ents, h1, h2, h3⟩
 liveI b r s hb := by
  obtain ⟨x, h1, e, B', h2, h3⟩ := get b _ hb (by simp)
  rw [e] at h1
  exact ⟨x.B, B', h1, h2, h3⟩
 inj := inj
 wr := wr
 fresh := fresh
 img := img
theorem alive_set {h : Heap} {b : Nat} {o : O} {b' : Nat} (ha : alive (h.set b o) b') : (b' = b ∧ o ≠ .dead) ∨ (b' ≠ b ∧ alive h b') := by
 obtain ⟨o', h1, h2⟩ := ha
 rw [get_set] at h1
 by_cases e : b = b'
 ·
  rw [if_pos e] at h1; cases h1; exact .inl ⟨e.symm, h2⟩
 ·
  rw [if_neg e] at h1; exact .inr ⟨fun h => e h.symm, o', h1, h2⟩
theorem alive_alloc {h : Heap} {o : O} {b' : Nat} (ha : alive (h.alloc o) b') : (b' = h.n ∧ o ≠ .dead) ∨ (b' ≠ h.n ∧ alive h b') := by
 obtain ⟨o', h1, h2⟩ := ha
 rw [get_alloc] at h1
 by_cases e : h.n = b'
 ·
  rw [if_pos e] at h1; cases h1; exact .inl ⟨e.symm, h2⟩
 ·
  rw [if_neg e] at h1; exact .inr ⟨fun h => e h.symm, o', h1, h2⟩
theorem Sim.setO {P : Program} {Wr : Nat → Prop} {β : Inj} {h : Heap} {w : World} (S : Sim P Wr β h w) {b : Nat} {o : O} {x : Img} (hx : β b = some x)
 (hfree : ∀ b' x', alive h b' → b' ≠ b → β b' = some x' → x'.B ≠ x.B) (hwr : o ≠ .dead → h.lim ≤ b → Wr x.B) (ho : OOK P β x w o) : Sim P Wr β (h.set b o) w := by
 refine Sim.mk' S.base S.dom ?_ ?_ ?_ ?_ S.fresh S.img
 ·
  intro b' o' hb
  rw [get_set] at hb
  by_cases e : b = b'
  ·
   subst e; exact S.dom b x hx
  ·
   rw [if_neg e] at hb; exact S.tdom b' o' hb
 ·
  intro b' o' hb hd
  rw [get_set] at hb
  by_cases e : b = b'
  ·
   subst e; rw [if_pos rfl] at hb; cases hb; exact ⟨x, hx, ho⟩
  ·
   rw [if_neg e] at hb; exact S.get hb hd
 ·
  intro b1 b2 x1 x2 a1 a2 h1 h2 hne
  rcases alive_set a1 with ⟨rfl, _⟩ | ⟨n1, a0⟩
  ·
   rcases alive_set a2 with ⟨rfl, _⟩ | ⟨n2, a2⟩
   ·
    exact (hne rfl).elim
   ·
    rw [hx] at h1; cases h1; exact fun e => hfree b2 x2 a2 n2 h2 e.symm
  ·
   rcases alive_set a2 with ⟨e2, _⟩ | ⟨n2, a2⟩
   ·
    subst e2; rw [hx] at h2; cases h2; exact hfree b1 x1 a0 n1 h1
   ·
    exact S.inj b1 b2 x1 x2 a0 a2 h1 h2 hne
 ·
  intro b' x' ha hl hb
  rcases alive_set ha with ⟨rfl, hd⟩ | ⟨n1, a1⟩
  ·
   rw [hx] at hb; cases hb; exact hwr hd hl
  ·
   exact S.wr b' x' a1 hl hb
theorem Sim.kill {P : Program} {Wr : Nat → Prop} {β : Inj} {h : Heap} {w : World} (S : Sim P Wr β h w) {b : Nat} (ha : alive h b) : Sim P Wr β (h.set b .dead) w := by
 obtain ⟨o, h1, h2⟩ := ha
 obtain ⟨x, hx, _⟩ := S.get h1 h2
 exact S.setO hx (fun b' x' a' hne hb => S.inj b' b x' x a' ⟨o, h1, h2⟩ hb hx hne) (fun h => (h rfl).elim) trivial
theorem Sim.scribble {P : Program} {Wr : Nat → Prop} {β : Inj} {h : Heap} {w w' : World} (S : Sim P Wr β h w) {B : Nat} (hfree : ∀ b' x', alive h b' → β b' = some x' → x'.B ≠ B) (hwr : Wr B)
 (hs : w'.heap.size = w.heap.size) (he : ∀ k, k ≠ B → w'.heap[k]? = w.heap[k]?) : Sim P Wr β h w' := by
 refine Sim.mk' ?_ S.dom S.tdom ?_ S.inj S.wr (by rw [hs]; exact S.fresh) (by rw [hs]; exact S.img)
 ·
  intro b o v hb
  obtain ⟨h1, v', h2, h3⟩ := S.base b o v hb
  refine ⟨h1, v', ?_, h3⟩
  have : b ≠ B := fun e => h1 (e ▸ hwr)
  rw [← h2]; unfold World.cell?; rw [he b this]
 ·
  intro b o hb hd
  obtain ⟨x, hx, ho⟩ := S.get hb hd
  exact ⟨x, hx, ho.world (he _ (hfree b x ⟨o, hb, hd⟩ hx))⟩
theorem Sim.addO {P : Program} {Wr : Nat → Prop} {β : Inj} {h : Heap} {w : World} (S : Sim P Wr β h w) {o : O} {x : Img}
 (hfree : ∀ b' x', alive h b' → β b' = some x' → x'.B ≠ x.B) (hwr : Wr x.B) (hi : x.B < w.heap.size) (ho : OOK P (upd β h.n x) x w o) : Sim P Wr (upd β h.n x) (h.alloc o) w ∧ Up h.n β (upd β h.n x) := by
 have hle := le_upd x S.dom
 have old : ∀ b y, b ≠ h.n → upd β h.n x b = some y → β b = some y := fun b y hb e => by unfold upd at e; rwa [if_neg hb] at e
 have new : ∀ y, upd β h.n x h.n = some y → y = x := fun y e => by unfold upd at e; rw [if_pos rfl] at e; cases e; rfl
 refine ⟨Sim.mk' S.base ?_ ?_ ?_ ?_ ?_ S.fresh ?_, up_upd x S.dom⟩
 ·
  intro b y hb
  show b < h.n + 1
  by_cases e : b = h.n
  ·
   omega
  ·
   have := S.dom b y (old b y e hb); omega
 ·
  intro b o' hb
  show b < h.n + 1
  rw [get_alloc] at hb
  by_cases e : h.n = b
  ·
   omega
  ·
   rw [if_neg e] at hb; have := S.tdom b o' hb; omega
 ·
  intro b o' hb hd
  rw [get_alloc] at hb
  by_cases e : h.n = b
  ·
   subst e; rw [if_pos rfl] at hb; cases hb; exact ⟨x, by simp [upd], ho⟩
  ·
   rw [if_neg e] at hb
   obtain ⟨y, hy, hyo⟩ := S.get hb hd
   exact ⟨y, hle b y hy, hyo.mono hle⟩
 ·
  intro b1 b2 x1 x2 a1 a2 h1 h2 hne
  rcases alive_alloc a1 with ⟨rfl, _⟩ | ⟨n1, a1⟩
  ·
   rcases alive_alloc a2 with ⟨rfl, _⟩ | ⟨n2, a2⟩
   ·
    exact (hne rfl).elim
   ·
    rw [new _ h1]; exact fun e => hfree b2 x2 a2 (old _ _ n2 h2) e.symm
  ·
   rcases alive_alloc a2 with ⟨rfl, _⟩ | ⟨n2, a2⟩
   ·
    rw [new _ h2]; exact hfree b1 x1 a1 (old _ _ n1 h1)
   ·
    exact S.inj b1 b2 x1 x2 a1 a2 (old _ _ n1 h1) (old _ _ n2 h2) hne
 ·
  intro b y ha hl hb
  rcases alive_alloc ha with ⟨rfl, hd⟩ | ⟨n1, a1⟩
  ·
   rw [new _ hb]; exact hwr
  ·
   exact S.wr b y a1 hl (old _ _ n1 hb)
 ·
  intro b y hb
  by_cases e : b = h.n
  ·
   subst e; rw [new _ hb]; exact hi
  ·
   exact S.img b y (old b y e hb)
theorem Ext.push {w w' : World} {o : Obj} (hw : w'.heap = w.heap.push o) (h1 : w'.os = w.os) (h2 : w'.tape = w.tape) (h3 : w'.output = w.output) : Ext w w' :=
 ⟨h1, h2, h3, by rw [hw]; simp, fun k hk => by rw [hw, Array.getElem?_push, if_neg (by omega)]⟩
theorem Ext.frame {P : Program} {Wr : Nat → Prop} {β : Inj} {h : Heap} {w w' : World} (S : Sim P Wr β h w) (e : Ext w w') : FrameW Wr w w' :=
 ⟨e.os, e.tape, e.output, e.size, fun k hk => e.block k (Nat.lt_of_not_le fun h => hk (S.fresh k h))⟩
theorem Sim.alloc {P : Program} {Wr : Nat → Prop} {β : Inj} {h : Heap} {w : World} (S : Sim P Wr β h w) {c : List Value} {C : Array Value} {T : TypeId} (hle : c.length ≤ C.size)
 (hc : ∀ (i : Nat) (v : Value), c[i]? = some v → ∃ v', C[i]? = some v' ∧ VR β v v') {w' : World} (hw : w'.heap = w.heap.push (.cells C T)) (h1 : w'.os = w.os) (h2 : w'.tape = w.tape) (h3 : w'.output = w.output) :
 ∃ β', Up h.n β β' ∧ β' h.n = some ⟨w.heap.size, 0, C.size, P.cellsOf T⟩ ∧ Sim P Wr β' (h.alloc (.cells c T)) w' ∧ FrameW Wr w w' := by
 have e := Ext.push hw h1 h2 h3
 have hg : w'.heap[w.heap.size]? = some (.cells C T (0, 0)) := by rw [hw]; simp
 have hle' := le_upd (⟨w.heap.size, 0, C.size, P.cellsOf T⟩ : Img) S.dom
 obtain ⟨g1, g2⟩ := (S.ext e).addO (o := .cells c T) (x := ⟨w.heap.size, 0, C.size, P.cellsOf T⟩)
  (fun b' x' _ hb => by have := S.img b' x' hb; simp; omega) (S.fresh _ (Nat.le_refl _)) (by rw [hw]; simp)
  ⟨C, (0, 0), rfl, rfl, hg, Unfrozen.none _, by simpa using hle, fun i v hv => by obtain ⟨v', a1, a2⟩ := hc i v hv; exact ⟨v', by simpa using a1, a2.mono hle'⟩⟩
 exact ⟨_, g2, by simp [upd], g1, Ext.frame S e⟩
theorem Sim.allocM {P : Program} {Wr : Nat → Prop} {β : Inj} {h : Heap} {w : World} (S : Sim P Wr β h w) {w' : World} (hw : w'.heap = w.heap.push (.map #[] 0)) (h1 : w'.os = w.os) (h2 : w'.tape = w.tape) (h3 : w'.output = w.output) :
 ∃ β', Up h.n β β' ∧ β' h.n = some ⟨w.heap.size, 0, 0, 0⟩ ∧ Sim P Wr β' (h.alloc (.map [] 0)) w' ∧ FrameW Wr w w' := by
 have e := Ext.push hw h1 h2 h3
 have hg : w'.heap[w.heap.size]? = some (.map #[] 0) := by rw [hw]; simp
 obtain ⟨g1, g2⟩ := (S.ext e).addO (o := .map [] 0) (x := ⟨w.heap.size, 0, 0, 0⟩)
  (fun b' x' _ hb => by have := S.img b' x' hb; simp; omega) (S.fresh _ (Nat.le_refl _)) (by rw [hw]; simp) ⟨rfl, #[], hg, ⟨trivial, Rise.nil _⟩⟩
 exact ⟨_, g2, by simp [upd], g1, Ext.frame S e⟩
theorem Sim.write {P : Program} {Wr : Nat → Prop} {β : Inj} {h : Heap} {w w' : World} (S : Sim P Wr β h w) {b : Nat} (ha : alive h b) (hl : h.lim ≤ b) {x : Img} (hx : β b = some x) {o : O}
 (hs : w'.heap.size = w.heap.size) (he : ∀ k, k ≠ x.B → w'.heap[k]? = w.heap[k]?) (h1 : w'.os = w.os) (h2 : w'.tape = w.tape) (h3 : w'.output = w.output) (ho : OOK P β x w' o) :
 Sim P Wr β (h.set b o) w' ∧ FrameW Wr w w' := by
 have hW := S.wr b x ha hl hx
 have S1 := S.kill ha
 have free : ∀ b' x', alive (h.set b .dead) b' → β b' = some x' → x'.B ≠ x.B := by
  intro b' x' a' hb'
  rcases alive_set a' with ⟨_, hd⟩ | ⟨n1, a1⟩
  ·
   exact (hd rfl).elim
  ·
   exact S.inj b' b x' x a1 ha hb' hx n1
 have S2 := S1.scribble free hW hs he
 have S3 := S2.setO (b := b) (o := o) hx (fun b' x' a' _ hb' => free b' x' a' hb') (fun _ _ => hW) ho
 refine ⟨?_, ⟨h1, h2, h3, by omega, fun k hk => he k (fun e => hk (e ▸ hW))⟩⟩
 have eg : ∀ b', ((h.set b .dead).set b o).get b' = (h.set b o).get b' := by intro b'; simp only [get_set]; split <;> rfl
 refine Sim.mk' S3.base S3.dom (fun b' o' hb => S3.tdom b' o' (by rw [eg]; exact hb)) (fun b' o' hb hd => S3.get (by rw [eg]; exact hb) hd) ?_ ?_ S3.fresh S3.img
 ·
  intro b1 b2 x1 x2 a1 a2
  exact S3.inj b1 b2 x1 x2 (by obtain ⟨o', q1, q2⟩ := a1; exact ⟨o', by rw [eg]; exact q1, q2⟩) (by obtain ⟨o', q1, q2⟩ := a2; exact ⟨o', by rw [eg]; exact q1, q2⟩)
 ·
  intro b' x' a' hl' hb'
  exact S3.wr b' x' (by obtain ⟨o', q1, q2⟩ := a'; exact ⟨o', by rw [eg]; exact q1, q2⟩) hl' hb'
theorem cellOk_one {β : Inj} {v v' : Value} (h : VR β v v') (hc : cellOk v = true) : v'.oneCell' = true := by
 cases h <;> first | rfl | (simp [cellOk] at hc)
theorem setCell_eq {w : World} {B o : Nat} {C : Array Value} {T : TypeId} {fr : Nat × Nat} (hg : w.heap[B]? = some (.cells C T fr)) (v : Value) :
 w.setCell ⟨B, o, none⟩ v = { w with heap := w.heap.setIfInBounds B (.cells (C.setIfInBounds o v) T fr) } := by
 unfold World.setCell
 congr 1
 apply Array.ext_getElem?
 intro i
 rw [Array.getElem?_modify, Array.getElem?_setIfInBounds]
 simp only
 by_cases e : B = i
 ·
  subst e; rw [if_pos rfl, if_pos rfl, hg]; simp [lt_of_get hg]
 ·
  rw [if_neg e, if_neg e]
theorem store_run {P : Program} {B o : Nat} {T : TypeId} {fr : Nat × Nat} : ∀ (vs : List Value) (i : Nat) (C : Array Value) (w : World), w.heap[B]? = some (.cells C T fr) → Unfrozen C.size fr → o + i + vs.length ≤ C.size → (∀ v ∈ vs, v.oneCell' = true) →
 ∃ C' : Array Value, (Go.storeCells ⟨B, o, none⟩ vs i).run P w = .ok () { w with heap := w.heap.setIfInBounds B (.cells C' T fr) } ∧ C'.toList = splice C.toList (o + i) vs
 | [], i, C, w, hg, hf, hs, h1 => by
  refine ⟨C, ?_, by simp [splice]⟩
  simp only [Go.storeCells, Sem.run_pure]
  congr 1
  have : w.heap.setIfInBounds B (.cells C T fr) = w.heap := by
   apply Array.ext_getElem?; intro j
   rw [Array.getElem?_setIfInBounds]
   split
   ·
    rename_i e; subst e; rw [hg]; simp [lt_of_get hg]
   ·
    rfl
  rw [this]
 | v :: vs, i, C, w, hg, hf, hs, h1 => by
  simp only [List.length_cons] at hs
  have hlt : o + i < C.size := by omega
  have e1 : w.cell? ⟨B, o + i, none⟩ = some C[o + i] := by rw [cell_of hg]; simp [hlt]
  have e2 : w.frozen? ⟨B, o + i, none⟩ = false := by unfold World.frozen?; rw [hg]; exact hf _ (Nat.le_of_lt hlt)
  have g1 : (Go.store (Addr.add ⟨B, o, none⟩ i) v).run P w = .ok () (w.setCell ⟨B, o + i, none⟩ v) := by
   rw [Addr.add_none, run_store _ _ _ _ _ (h1 v (by simp)), e1]; simp [e2]
  rw [setCell_eq hg] at g1
  have hg' : ({ w with heap := w.heap.setIfInBounds B (.cells (C.setIfInBounds (o + i) v) T fr) } : World).heap[B]? = some (.cells (C.setIfInBounds (o + i) v) T fr) := by
   simp [lt_of_get hg]
  obtain ⟨C', r1, r2⟩ := store_run (P := P) (o := o) vs (i + 1) (C.setIfInBounds (o + i) v) _ hg' (by simpa using hf) (by simp; omega) (fun u hu => h1 u (by simp [hu]))
  refine ⟨C', ?_, ?_⟩
  ·
   simp only [Go.storeCells, Sem.run_bind, g1, Result.andThen_ok, r1]
   first | rfl | (congr 2; done) | (congr 2; simp)
  ·
   rw [r2]
   apply List.ext_getElem?
   intro j
   rw [splice_get _ _ _ (by simp; omega), splice_get _ _ _ (by simp; omega)]
   simp only [Array.toList_setIfInBounds, List.getElem?_set, List.length_cons, Array.length_toList]
   by_cases e : j = o + i
   ·
    subst e
    rw [if_neg (by omega), if_pos rfl, if_pos hlt, if_pos (by omega)]; simp
   ·
    by_cases q : o + (i + 1) ≤ j ∧ j < o + (i + 1) + vs.length
    ·
     rw [if_pos q, if_pos (by omega), show j - (o + i) = (j - (o + (i + 1))) + 1 by omega]; simp
    ·
     rw [if_neg q, if_neg (by omega), if_neg (by omega)]
theorem storeCells_ok {P : Program} {Wr : Nat → Prop} {β : Inj} {h h' : Heap} {w : World} (S : Sim P Wr β h w) {a a' : Addr} (hA : AR β a a') {vs vs' : List Value} (hv : VRs β vs vs') (hs : storeCells h a vs = some h') :
 ∃ w', (Go.storeCells a' vs').run P w = .ok () w' ∧ Sim P Wr β h' w' ∧ FrameW Wr w w' ∧ h'.lim = h.lim ∧ h'.n = h.n := by
 cases hA with
 | @new b o B s N k hb =>
  simp only [storeCells] at hs
  split at hs
  ·
   rename_i c T hg
   obtain ⟨hq, hs⟩ := bif_some hs
   simp at hs; subst hs
   rw [Bool.and_eq_true, Bool.and_eq_true] at hq
   obtain ⟨⟨hlim, hoff⟩, hone⟩ := hq
   have hlim : h.lim ≤ b := Nat.le_of_ble_eq_true hlim
   have hoff : o + vs.length ≤ c.length := Nat.le_of_ble_eq_true hoff
   obtain ⟨B', s', C, fr, g1, g2, g3, g4, g5⟩ := S.live _ _ _ hg
   rw [hb] at g1; cases g1
   have hone' : ∀ v ∈ vs', v.oneCell' = true := by
    intro v hm
    obtain ⟨i, hi⟩ := List.mem_iff_getElem?.1 hm
    rcases hu : vs[i]? with _ | u
    ·
     rw [hv.get' i hu] at hi; cases hi
    ·
     obtain ⟨v', q1, q2⟩ := hv.get i hu
     rw [hi] at q1; cases q1
     exact cellOk_one q2 (List.all_eq_true.1 hone u (List.mem_iff_getElem?.2 ⟨i, hu⟩))
   have el := hv.len
   obtain ⟨C', r1, r2⟩ := store_run (P := P) (o := s + o) vs' 0 C w g2 g3 (by omega) hone'
   have esz : C'.size = C.size := by
    have := congrArg List.length r2
    rw [splice_len _ _ _ (by simp; omega)] at this; simpa using this
   refine ⟨_, r1, ?_⟩
   have alv : alive h b := ⟨_, hg, by simp⟩
   have hcont : ∀ (i : Nat) (v : Value), (splice c o vs)[i]? = some v → ∃ v', C'[s + i]? = some v' ∧ VR β v v' := by
    intro i v hi
    rw [splice_get _ _ _ hoff] at hi
    rw [← Array.getElem?_toList, r2, splice_get _ _ _ (by simp; omega)]
    by_cases q : o ≤ i ∧ i < o + vs.length
    ·
     rw [if_pos q] at hi
     rw [if_pos (by omega)]
     obtain ⟨v', u1, u2⟩ := hv.get _ hi
     refine ⟨v', ?_, u2⟩
     rw [← u1]; congr 1; omega
    ·
     rw [if_neg q] at hi
     rw [if_neg (by omega)]
     obtain ⟨v', u1, u2⟩ := g5 i v hi
     exact ⟨v', by rw [Array.getElem?_toList]; exact u1, u2⟩
   have hO : OOK P β ⟨B, s, C.size, P.cellsOf T⟩ { w with heap := w.heap.setIfInBounds B (.cells C' T fr) } (.cells (splice c o vs) T) :=
    ⟨C', fr, esz.symm, rfl, by simp [lt_of_get g2], by rw [esz]; exact g3, by rw [splice_len _ _ _ hoff, esz]; exact g4, hcont⟩
   obtain ⟨q1, q2⟩ := S.write (w' := { w with heap := w.heap.setIfInBounds B (.cells C' T fr) }) alv hlim hb (o := .cells (splice c o vs) T) (by simp) (fun k hk => by simp only; rw [Array.getElem?_setIfInBounds, if_neg (fun e => hk e.symm)]) rfl rfl rfl hO
   exact ⟨q1, q2, rfl, rfl⟩
  ·
   cases hs
 | base => simp [storeCells] at hs
 | odd => simp [storeCells] at hs
end Go.Proofs.YtokfjifeofpkkaaGreat.V
