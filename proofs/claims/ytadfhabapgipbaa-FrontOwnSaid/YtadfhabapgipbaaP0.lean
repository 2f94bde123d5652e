/- Kinds of values.
   No condition: these are laws of the clean machine and of this program. -/
import Derived.Test.YtadfhabapgipbaaMq
import Derived.Test.YtadfhabapgipbaaVu
namespace Go.Proofs.Ytadfhabapgipbaa.V
open Go
set_option linter.unusedVariables false
set_option linter.unusedSimpArgs false
set_option maxRecDepth 100000
structure TRange where
  From : ByteArray
  To : ByteArray
  deriving DecidableEq, Inhabited
structure TReq where
  Kind : Int
  R : TRange
  Rev : Int
  Cmps : (List Cmp)
  Then : (List OpX)
  Else : (List OpX)
  deriving Inhabited
structure THead where
  Seq : Int
  Rev : Int
  Hor : Int
  deriving DecidableEq, Inhabited
structure Tfront_Plan where
  Ok : Bool
  Rows : (List Evt)
  Err : Int
  Hor : Int
  deriving Inhabited
structure Timpostref13_Plan where
  Ok : Bool
  Rows : (List Evt)
  Err : Int
  Hor : Int
  deriving Inhabited
def eq_Evt (x y : Evt) : Bool := (x.rev == y.rev) && ((x.key == y.key) && ((x.val == y.val) && ((x.del == y.del) && (true))))
def eq_OpX (x y : OpX) : Bool := (x.key == y.key) && ((x.val == y.val) && ((x.del == y.del) && (true)))
def c_KV (x : KV) : List Value := [.string x.key, .string x.val, .int .i64 x.rev]
def R_KV : Rep KV := Rep.flat 3 52 c_KV (fun _ => ⟨rfl, rfl⟩)
def c_Cmp (x : Cmp) : List Value := [.int .i64 x.kind, .string x.key, .string x.val, .int .i64 x.rev]
def R_Cmp : Rep Cmp := Rep.flat 4 65 c_Cmp (fun _ => ⟨rfl, rfl⟩)
def c_OpX (x : OpX) : List Value := [.string x.key, .string x.val, .bool x.del]
def R_OpX : Rep OpX := Rep.flat 3 69 c_OpX (fun _ => ⟨rfl, rfl⟩)
def c_Evt (x : Evt) : List Value := [.int .i64 x.rev, .string x.key, .string x.val, .bool x.del]
def R_Evt : Rep Evt := Rep.flat 4 41 c_Evt (fun _ => ⟨rfl, rfl⟩)
def R_TReq : Rep TReq where
  k := 7
  T := 27
  C := fun h cs x => ∃ a0 c0 a1 c1 a2 c2, cs = [.int .i64 x.Kind, .string x.R.From, .string x.R.To, .int .i64 x.Rev, .slice a0 x.Cmps.length c0, .slice a1 x.Then.length c1, .slice a2 x.Else.length c2] ∧ RL R_Cmp h a0 c0 x.Cmps ∧ RL R_OpX h a1 c1 x.Then ∧ RL R_OpX h a2 c2 x.Else
  mono := by
    rintro h h' cs x e ⟨a0, c0, a1, c1, a2, c2, h0, h1, h2, h3⟩
    exact ⟨a0, c0, a1, c1, a2, c2, h0, h1.ext e, h2.ext e, h3.ext e⟩
  len := by
    rintro h cs x ⟨a0, c0, a1, c1, a2, c2, h0, _⟩
    rw [h0]; rfl
  ok := by
    rintro h cs x ⟨a0, c0, a1, c1, a2, c2, h0, _⟩
    rw [h0]; rfl
def c_TRange (x : TRange) : List Value := [.string x.From, .string x.To]
def R_TRange : Rep TRange := Rep.flat 2 23 c_TRange (fun _ => ⟨rfl, rfl⟩)
def c_THead (x : THead) : List Value := [.int .i64 x.Seq, .int .i64 x.Rev, .int .i64 x.Hor]
def R_THead : Rep THead := Rep.flat 3 30 c_THead (fun _ => ⟨rfl, rfl⟩)
def W_KV (x : KV) : Prop := (fun x => x.size ≤ maxLen) x.key ∧ (fun x => x.size ≤ maxLen) x.val ∧ (okI .i64) x.rev
def W_TRange (x : TRange) : Prop := (fun x => x.size ≤ maxLen) x.From ∧ (fun x => x.size ≤ maxLen) x.To
def W_Cmp (x : Cmp) : Prop := (okI .i64) x.kind ∧ (fun x => x.size ≤ maxLen) x.key ∧ (fun x => x.size ≤ maxLen) x.val ∧ (okI .i64) x.rev
def W_OpX (x : OpX) : Prop := (fun x => x.size ≤ maxLen) x.key ∧ (fun x => x.size ≤ maxLen) x.val ∧ (fun _ => True) x.del
def W_TReq (x : TReq) : Prop := (okI .i64) x.Kind ∧ W_TRange x.R ∧ (okI .i64) x.Rev ∧ (fun l => (∀ a ∈ l, W_Cmp a) ∧ l.length ≤ maxLen) x.Cmps ∧ (fun l => (∀ a ∈ l, W_OpX a) ∧ l.length ≤ maxLen) x.Then ∧ (fun l => (∀ a ∈ l, W_OpX a) ∧ l.length ≤ maxLen) x.Else
def W_THead (x : THead) : Prop := (okI .i64) x.Seq ∧ (okI .i64) x.Rev ∧ (okI .i64) x.Hor
end Go.Proofs.Ytadfhabapgipbaa.V
