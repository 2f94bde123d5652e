/- Kinds of values.
   No condition: these are laws of the clean machine and of this program. -/
import Derived.Test.YtpfdandpmpmbiaaVn
import Derived.Test.YtpfdandpmpmbiaaVp
namespace Go.Proofs.Ytpfdandpmpmbiaa.V
open Go
set_option linter.unusedVariables false
set_option linter.unusedSimpArgs false
set_option maxRecDepth 100000
structure TEvent where
  Rev : Int
  Key : ByteArray
  Val : ByteArray
  Del : Bool
  deriving DecidableEq, Inhabited
structure TKV where
  Key : ByteArray
  Val : ByteArray
  Rev : Int
  deriving DecidableEq, Inhabited
structure Timpostref06_Hist where
  Rows : (List (List TEvent))
  Hor : Int
  deriving Inhabited
structure TOp where
  Key : ByteArray
  Val : ByteArray
  Del : Bool
  deriving DecidableEq, Inhabited
structure TRange where
  From : ByteArray
  To : ByteArray
  deriving DecidableEq, Inhabited
structure TCmp where
  Kind : Int
  Key : ByteArray
  Val : ByteArray
  Rev : Int
  deriving DecidableEq, Inhabited
structure TReq where
  Kind : Int
  R : TRange
  Rev : Int
  Cmps : (List TCmp)
  Then : (List TOp)
  Else : (List TOp)
  deriving Inhabited
structure Timpostlaw06_Deed where
  Kind : Int
  Ops : (List TOp)
  Rev : Int
  deriving Inhabited
structure Thist_bounds where
  rev : Int
  hor : Int
  deriving DecidableEq, Inhabited
structure Ohist_Hist where
  bounds_rev : Int
  bounds_hor : Int
  keys : (List (ByteArray × (List TEvent)))
  rows : (List (List TEvent))
  deriving Inhabited
structure Omodel_Model where
  seq : Int
  deriving Inhabited
structure THead where
  Seq : Int
  Rev : Int
  Hor : Int
  deriving DecidableEq, Inhabited
structure TResp where
  H : THead
  Err : Int
  Ok : Bool
  L : (List TKV)
  deriving Inhabited
structure Tfront_Plan where
  Ok : Bool
  Rows : (List TEvent)
  Err : Int
  Hor : Int
  deriving Inhabited
structure A3_Int where
  x0 : Int
  x1 : Int
  x2 : Int
  deriving DecidableEq, Inhabited
def eq_TRange (x y : TRange) : Bool := (x.From == y.From) && ((x.To == y.To) && (true))
def eq_TKV (x y : TKV) : Bool := (x.Key == y.Key) && ((x.Val == y.Val) && ((x.Rev == y.Rev) && (true)))
def eq_THead (x y : THead) : Bool := (x.Seq == y.Seq) && ((x.Rev == y.Rev) && ((x.Hor == y.Hor) && (true)))
def eq_TEvent (x y : TEvent) : Bool := (x.Rev == y.Rev) && ((x.Key == y.Key) && ((x.Val == y.Val) && ((x.Del == y.Del) && (true))))
def c_TEvent (x : TEvent) : List Value := [.int .i64 x.Rev, .string x.Key, .string x.Val, .bool x.Del]
def R_TEvent : Rep TEvent := Rep.flat 4 108 c_TEvent (fun _ => ⟨rfl, rfl⟩)
def c_TKV (x : TKV) : List Value := [.string x.Key, .string x.Val, .int .i64 x.Rev]
def R_TKV : Rep TKV := Rep.flat 3 47 c_TKV (fun _ => ⟨rfl, rfl⟩)
def c_TOp (x : TOp) : List Value := [.string x.Key, .string x.Val, .bool x.Del]
def R_TOp : Rep TOp := Rep.flat 3 45 c_TOp (fun _ => ⟨rfl, rfl⟩)
def c_TCmp (x : TCmp) : List Value := [.int .i64 x.Kind, .string x.Key, .string x.Val, .int .i64 x.Rev]
def R_TCmp : Rep TCmp := Rep.flat 4 133 c_TCmp (fun _ => ⟨rfl, rfl⟩)
def R_Timpostlaw06_Deed : Rep Timpostlaw06_Deed where
  k := 3
  T := 41
  C := fun h cs x => ∃ a0 c0, cs = [.int .i64 x.Kind, .slice a0 x.Ops.length c0, .int .i64 x.Rev] ∧ RL R_TOp h a0 c0 x.Ops
  mono := by
    rintro h h' cs x e ⟨a0, c0, h0, h1⟩
    exact ⟨a0, c0, h0, h1.ext e⟩
  len := by
    rintro h cs x ⟨a0, c0, h0, _⟩
    rw [h0]; rfl
  ok := by
    rintro h cs x ⟨a0, c0, h0, _⟩
    rw [h0]; rfl
def R_TReq : Rep TReq where
  k := 7
  T := 61
  C := fun h cs x => ∃ a0 c0 a1 c1 a2 c2, cs = [.int .i64 x.Kind, .string x.R.From, .string x.R.To, .int .i64 x.Rev, .slice a0 x.Cmps.length c0, .slice a1 x.Then.length c1, .slice a2 x.Else.length c2] ∧ RL R_TCmp h a0 c0 x.Cmps ∧ RL R_TOp h a1 c1 x.Then ∧ RL R_TOp h a2 c2 x.Else
  mono := by
    rintro h h' cs x e ⟨a0, c0, a1, c1, a2, c2, h0, h1, h2, h3⟩
    exact ⟨a0, c0, a1, c1, a2, c2, h0, h1.ext e, h2.ext e, h3.ext e⟩
  len := by
    rintro h cs x ⟨a0, c0, a1, c1, a2, c2, h0, _⟩
    rw [h0]; rfl
  ok := by
    rintro h cs x ⟨a0, c0, a1, c1, a2, c2, h0, _⟩
    rw [h0]; rfl
def c_TRange (x : TRange) : List Value := [.string x.From, .string x.To]
def R_TRange : Rep TRange := Rep.flat 2 33 c_TRange (fun _ => ⟨rfl, rfl⟩)
def c_A3_Int (x : A3_Int) : List Value := [.int .u8 x.x0, .int .u8 x.x1, .int .u8 x.x2]
def R_A3_Int : Rep A3_Int := Rep.flat 3 79 c_A3_Int (fun _ => ⟨rfl, rfl⟩)
def W_TOp (x : TOp) : Prop := (fun x => x.size ≤ maxLen) x.Key ∧ (fun x => x.size ≤ maxLen) x.Val ∧ (fun _ => True) x.Del
def W_Timpostlaw06_Deed (x : Timpostlaw06_Deed) : Prop := (okI .i64) x.Kind ∧ (fun l => (∀ a ∈ l, W_TOp a) ∧ l.length ≤ maxLen) x.Ops ∧ (okI .i64) x.Rev
def W_TRange (x : TRange) : Prop := (fun x => x.size ≤ maxLen) x.From ∧ (fun x => x.size ≤ maxLen) x.To
def W_TCmp (x : TCmp) : Prop := (okI .i64) x.Kind ∧ (fun x => x.size ≤ maxLen) x.Key ∧ (fun x => x.size ≤ maxLen) x.Val ∧ (okI .i64) x.Rev
def W_TReq (x : TReq) : Prop := (okI .i64) x.Kind ∧ W_TRange x.R ∧ (okI .i64) x.Rev ∧ (fun l => (∀ a ∈ l, W_TCmp a) ∧ l.length ≤ maxLen) x.Cmps ∧ (fun l => (∀ a ∈ l, W_TOp a) ∧ l.length ≤ maxLen) x.Then ∧ (fun l => (∀ a ∈ l, W_TOp a) ∧ l.length ≤ maxLen) x.Else
def W_A3_Int (x : A3_Int) : Prop := (okI .u8) x.x0 ∧ (okI .u8) x.x1 ∧ (okI .u8) x.x2
def atT : List TEvent → Int → Option TEvent
  | [], _ => none
  | e :: l, rev => match atT l rev with
    | some x => some x
    | none => if e.Rev ≤ rev then some e else none
def hatL (m : List (ByteArray × List TEvent)) (k : ByteArray) (rev : Int) : Option (TEvent × Bool) :=
  if Nat.ble ((mget m k).getD []).length 1000000 = true then some ((atT ((mget m k).getD []) rev).getD ⟨0, ByteArray.empty, ByteArray.empty, false⟩, match atT ((mget m k).getD []) rev with | some x => !x.Del | none => false) else none
def keysB (ks : List ByteArray) : Option (List ByteArray) :=
  if (nodupB (ks.map (·.toList)) && Nat.ble (ks.map (·.toList)).length 1000000 && (ks.map (·.toList)).all (fun k => Nat.ble k.length maxLen)) = true then some ((sortU (ks.map (·.toList))).map toB) else none
end Go.Proofs.Ytpfdandpmpmbiaa.V
