/- Maps of a call's own, by types.
   No condition: these are laws of the clean machine. -/
import Derived.Test.YtadfhabapgipbaaV27
namespace Go.Proofs.Ytadfhabapgipbaa.V
open Go
set_option linter.unusedVariables false
set_option linter.unusedSimpArgs false

/-! ### Whole numbers, bit by bit -/
def shrI (k : IntKind) (a b : Int) : Int := a.fdiv (2 ^ (min b.toNat k.bits))
def shlI (k : IntKind) (a b : Int) : Int := k.wrap (a * 2 ^ (min b.toNat k.bits))
def andI (k : IntKind) (a b : Int) : Int := k.wrap (BitVec.ofInt k.bits a &&& BitVec.ofInt k.bits b).toNat
def orI (k : IntKind) (a b : Int) : Int := k.wrap (BitVec.ofInt k.bits a ||| BitVec.ofInt k.bits b).toNat

/-! ### Maps -/
def mfind {K V : Type} [DecidableEq K] : List (K × V) → K → Nat → Option (Nat × V)
  | [], _, _ => none
  | e :: r, k, i => if k = e.1 then some (i, e.2) else mfind r k (i + 1)
def mget {K V : Type} [DecidableEq K] (es : List (K × V)) (k : K) : Option V := (mfind es k 0).map Prod.snd
def mset {K V : Type} [DecidableEq K] (es : List (K × V)) (k : K) (v : V) : List (K × V) := match mfind es k 0 with
  | some p => es.set p.1 (k, v)
  | none => es ++ [(k, v)]
def encM {K V : Type} (ke : K → Value) (ve : V → Value) (es : List (K × V)) : List (Value × Value) := es.map fun e => (ke e.1, ve e.2)

theorem findM_enc {K V : Type} [DecidableEq K] {kd : TypeDesc} {ke : K → Value} {ve : V → Value} (hs : ∀ a b, Instr.sameNow kd (ke a) (ke b) = some (decide (a = b))) (k : K) :
    ∀ (es : List (K × V)) (i : Nat), findM kd (ke k) (encM ke ve es) i = some ((mfind es k i).map fun p => (p.1, ve p.2)) := by
  intro es
  induction es with
  | nil => intro i; rfl
  | cons e r ih =>
    intro i
    show findM kd (ke k) ((ke e.1, ve e.2) :: encM ke ve r) i = _
    unfold findM
    dsimp only
    rw [hs]
    by_cases q : k = e.1
    · rw [decide_eq_true q]
      unfold mfind
      rw [if_pos q]; rfl
    · rw [decide_eq_false q]
      dsimp only
      rw [ih]
      conv => rhs; unfold mfind
      rw [if_neg q]
def kS (x : ByteArray) : Value := .string x
def kI (x : Int) : Value := .int .i64 x
def vB (x : Bool) : Value := .bool x
theorem bytes_beq' {x y : ByteArray} : (x == y) = decide (x = y) := by
  apply Bool.eq_iff_iff.mpr
  rw [decide_eq_true_iff]
  constructor
  · intro h
    have : x.data == y.data := h
    have e := eq_of_beq this
    cases x; cases y; simp at e; subst e; rfl
  · intro h; subst h
    show (x.data == x.data) = true
    exact beq_self_eq_true _
theorem sameS (a b : ByteArray) : Instr.sameNow .string (kS a) (kS b) = some (decide (a = b)) := by
  show some (a == b) = _
  rw [bytes_beq']
theorem sameI (a b : Int) : Instr.sameNow (.int .i64) (kI a) (kI b) = some (decide (a = b)) := by
  show (if IntKind.i64 = IntKind.i64 then some (a == b) else none) = _
  rw [if_pos rfl]; congr 1

section
variable {X : Cx} {st : List It} {l : L} {own : List Blk} {h0 : Heap}
variable {r : Array Oper} {q : Bool} {os : List Oper} {d : Nat} {ty : TypeId} {pos : String} {aft : Array Edge}

theorem g_mkmap {t : TypeId} {K V : Type} {ke : K → Value} {ve : V → Value} (hn : Nat.blt d X.nt = true)
    (k : ∀ b, Goes X (.ops r false os :: st) ((d, true, .map (some b)) :: l) (⟨b, .map (encM ke ve [])⟩ :: own) h0) :
    Goes X (.ops r false (⟨some d, .makeMap t none, ty, pos, aft, none⟩ :: os) :: st) l own h0 := by
  intro fr h hf ag hs
  have ho : opV X.E (run X.E 0) fr h (.makeMap t none) = some (.map (some h.n), h.alloc (.map [])) := by
    simp only [opV, readV, writeV, mkMapV]
  refine step_op rfl ho (put_some hn _ _) ?_
  exact k h.n _ _ _ (ag.set d true _) (hs.alloc (.map []))

/-- What a key has, in a map of this call's own. -/
theorem r_lookown (i : Nat) {E : Env} {g : Bool} {K V : Type} [DecidableEq K] {kd : TypeDesc} {ke : K → Value} {ve : V → Value} {t key elem : TypeId} {m k : Operand} {ok : Bool} {b : Nat} {es : List (K × V)} {kv : K} {z : V}
    (hx : OP l g m (.map (some b))) (hy : OP l g k (ke kv)) (hi : own[i]? = some ⟨b, .map (encM ke ve es)⟩) (hu : E.P.underlying t = some (.map key elem)) (hp : plainN 0 (ke kv) = true) (hk : scalarT E.P key = some kd)
    (hs : ∀ a b, Instr.sameNow kd (ke a) (ke b) = some (decide (a = b))) (hz : zeroOf E.P elem = some (ve z)) :
    RV E l own h0 g (.lookup t m k ok) (if ok then .tuple #[ve ((mget es kv).getD z), .bool (mget es kv).isSome] else ve ((mget es kv).getD z)) := by
  intro fr h hf ag hs' q
  have hb := (hs'.at_ hi).1
  unfold readV; dsimp only
  rw [hx fr ag q, hy fr ag q]; dsimp only
  unfold lookupV
  simp only [hu, hp, cond_true, hk, mapOf, hb, findM_enc hs, mget]
  cases e : mfind es kv 0 with
  | none => simp only [Option.map_none, Option.getD_none, Option.isSome_none, hz]
  | some p => simp only [Option.map_some, Option.getD_some, Option.isSome_some]

theorem encM_set {K V : Type} {ke : K → Value} {ve : V → Value} (es : List (K × V)) (i : Nat) (k : K) (v : V) : (encM ke ve es).set i (ke k, ve v) = encM ke ve (es.set i (k, v)) := by
  unfold encM; rw [List.map_set]
theorem g_mset (i : Nat) {K V : Type} [DecidableEq K] {kd : TypeDesc} {ke : K → Value} {ve : V → Value} {t key elem : TypeId} {m k x : Operand} {b : Nat} {es : List (K × V)} {kv : K} {v : V} {own' : List Blk}
    (hx : OP l true m (.map (some b))) (hy : OP l true k (ke kv)) (hv : OP l true x (ve v)) (hi : own[i]? = some ⟨b, .map (encM ke ve es)⟩) (hu : X.E.P.underlying t = some (.map key elem)) (hp : plainN 0 (ke kv) = true) (hk : scalarT X.E.P key = some kd)
    (hs : ∀ a b, Instr.sameNow kd (ke a) (ke b) = some (decide (a = b))) (ho' : own.set i ⟨b, .map (encM ke ve (mset es kv v))⟩ = own') (kk : Goes X (.ops r false os :: st) l own' h0) :
    Goes X (.ops r false (⟨none, .mapUpdate t m k x, ty, pos, aft, none⟩ :: os) :: st) l own h0 := by
  intro fr h hf ag hs'
  obtain ⟨hb, hlim⟩ := hs'.at_ hi
  have hlim' : Nat.ble h.lim b = true := Nat.ble_eq_true_of_le hlim
  have ho : opV X.E (run X.E 0) fr h (.mapUpdate t m k x) = some (undef, h.set b (.map (encM ke ve (mset es kv v)))) := by
    simp only [opV, readV, writeV, hx fr ag rfl, hy fr ag rfl, hv fr ag rfl, updateV, hu, hp, cond_true, hk, hb, hlim', findM_enc hs, mset]
    cases e : mfind es kv 0 with
    | none => simp only [Option.map_none]; congr 3; unfold encM; rw [List.map_append]; rfl
    | some p => simp only [Option.map_some, encM_set]
  refine step_op rfl ho (show Fr.put X.nt fr none undef = some fr from rfl) ?_
  subst ho'
  exact kk _ _ _ ag (hs'.store hi _)
end
end Go.Proofs.Ytadfhabapgipbaa.V
