/- Kinds of values.
   No condition: these are laws of the clean machine and of this program. -/
import Derived.Test.YtfgoccdjbgecfaaVn
import Derived.Test.YtfgoccdjbgecfaaVp
import Derived.Test.YtfgoccdjbgecfaaE5
namespace Go.Proofs.Ytfgoccdjbgecfaa.V
open Go
set_option linter.unusedVariables false
set_option linter.unusedSimpArgs false
set_option maxRecDepth 100000
structure TRange where
  From : ByteArray
  To : ByteArray
  deriving DecidableEq, Inhabited
structure Timpostref10_Cursor where
  R : TRange
  Next : Int
  Once : Bool
  Dead : Bool
  deriving DecidableEq, Inhabited
structure THead where
  Seq : Int
  Rev : Int
  Hor : Int
  deriving DecidableEq, Inhabited
structure TEvent where
  Rev : Int
  Key : ByteArray
  Val : ByteArray
  Del : Bool
  deriving DecidableEq, Inhabited
structure Tcursor_Cursor where
  R : TRange
  Next : Int
  Once : Bool
  Dead : Bool
  deriving DecidableEq, Inhabited
structure Tcursor_Notice where
  Err : Int
  Hor : Int
  Upto : Int
  Rows : (List (List TEvent))
  deriving Inhabited
structure Timpostref10_Notice where
  Err : Int
  Hor : Int
  Upto : Int
  Rows : (List (List TEvent))
  deriving Inhabited
structure TOp where
  Key : ByteArray
  Val : ByteArray
  Del : Bool
  deriving DecidableEq, Inhabited
structure Timpostlaw10_Deed where
  Kind : Int
  Ops : (List TOp)
  Rev : Int
  deriving Inhabited
structure A2_ListTimpostlaw10_Deed where
  x0 : (List Timpostlaw10_Deed)
  x1 : (List Timpostlaw10_Deed)
  deriving Inhabited
structure Thist_bounds where
  rev : Int
  hor : Int
  deriving DecidableEq, Inhabited
structure Ohist_Hist where
  bounds_rev : Int
  bounds_hor : Int
  keys : (List (ByteArray × (List TEvent)))
  rows : (List (List TEvent))
  deriving Inhabited
structure TKV where
  Key : ByteArray
  Val : ByteArray
  Rev : Int
  deriving DecidableEq, Inhabited
structure Ttoken_Token where
  R : TRange
  Next : Int
  Once : Bool
  deriving DecidableEq, Inhabited
def eq_TEvent (x y : TEvent) : Bool := (x.Rev == y.Rev) && ((x.Key == y.Key) && ((x.Val == y.Val) && ((x.Del == y.Del) && (true))))
def eq_TKV (x y : TKV) : Bool := (x.Key == y.Key) && ((x.Val == y.Val) && ((x.Rev == y.Rev) && (true)))
def c_TEvent (x : TEvent) : List Value := [.int .i64 x.Rev, .string x.Key, .string x.Val, .bool x.Del]
def R_TEvent : Rep TEvent := Rep.flat 4 77 c_TEvent (fun _ => ⟨rfl, rfl⟩)
def vE_TEvent (x : TEvent) : Value := .agg #[.int .i64 x.Rev, .string x.Key, .string x.Val, .bool x.Del]
def c_TOp (x : TOp) : List Value := [.string x.Key, .string x.Val, .bool x.Del]
def R_TOp : Rep TOp := Rep.flat 3 92 c_TOp (fun _ => ⟨rfl, rfl⟩)
def R_Timpostlaw10_Deed : Rep Timpostlaw10_Deed where
  k := 3
  T := 56
  C := fun h cs x => ∃ a0 c0, cs = [.int .i64 x.Kind, .slice a0 x.Ops.length c0, .int .i64 x.Rev] ∧ RL R_TOp h a0 c0 x.Ops
  mono := by
    rintro h h' cs x e ⟨a0, c0, h0, h1⟩
    exact ⟨a0, c0, h0, h1.ext e⟩
  len := by
    rintro h cs x ⟨a0, c0, h0, _⟩
    rw [h0]; rfl
  ok := by
    rintro h cs x ⟨a0, c0, h0, _⟩
    rw [h0]; rfl
def c_TKV (x : TKV) : List Value := [.string x.Key, .string x.Val, .int .i64 x.Rev]
def R_TKV : Rep TKV := Rep.flat 3 100 c_TKV (fun _ => ⟨rfl, rfl⟩)
def c_Timpostref10_Cursor (x : Timpostref10_Cursor) : List Value := [.string x.R.From, .string x.R.To, .int .i64 x.Next, .bool x.Once, .bool x.Dead]
def R_Timpostref10_Cursor : Rep Timpostref10_Cursor := Rep.flat 5 25 c_Timpostref10_Cursor (fun _ => ⟨rfl, rfl⟩)
def c_TRange (x : TRange) : List Value := [.string x.From, .string x.To]
def R_TRange : Rep TRange := Rep.flat 2 23 c_TRange (fun _ => ⟨rfl, rfl⟩)
def R_A2_ListTimpostlaw10_Deed : Rep A2_ListTimpostlaw10_Deed where
  k := 2
  T := 49
  C := fun h cs x => ∃ a0 c0 a1 c1, cs = [.slice a0 x.x0.length c0, .slice a1 x.x1.length c1] ∧ RL R_Timpostlaw10_Deed h a0 c0 x.x0 ∧ RL R_Timpostlaw10_Deed h a1 c1 x.x1
  mono := by
    rintro h h' cs x e ⟨a0, c0, a1, c1, h0, h1, h2⟩
    exact ⟨a0, c0, a1, c1, h0, h1.ext e, h2.ext e⟩
  len := by
    rintro h cs x ⟨a0, c0, a1, c1, h0, _⟩
    rw [h0]; rfl
  ok := by
    rintro h cs x ⟨a0, c0, a1, c1, h0, _⟩
    rw [h0]; rfl
def W_TRange (x : TRange) : Prop := (fun x => x.size ≤ maxLen) x.From ∧ (fun x => x.size ≤ maxLen) x.To
def W_Timpostref10_Cursor (x : Timpostref10_Cursor) : Prop := W_TRange x.R ∧ (okI .i64) x.Next ∧ (fun _ => True) x.Once ∧ (fun _ => True) x.Dead
def W_TOp (x : TOp) : Prop := (fun x => x.size ≤ maxLen) x.Key ∧ (fun x => x.size ≤ maxLen) x.Val ∧ (fun _ => True) x.Del
def W_Timpostlaw10_Deed (x : Timpostlaw10_Deed) : Prop := (okI .i64) x.Kind ∧ (fun l => (∀ a ∈ l, W_TOp a) ∧ l.length ≤ maxLen) x.Ops ∧ (okI .i64) x.Rev
def W_A2_ListTimpostlaw10_Deed (x : A2_ListTimpostlaw10_Deed) : Prop := (fun l => (∀ a ∈ l, W_Timpostlaw10_Deed a) ∧ l.length ≤ maxLen) x.x0 ∧ (fun l => (∀ a ∈ l, W_Timpostlaw10_Deed a) ∧ l.length ≤ maxLen) x.x1
def atT : List TEvent → Int → Option TEvent
  | [], _ => none
  | e :: l, rev => match atT l rev with
    | some x => some x
    | none => if e.Rev ≤ rev then some e else none
def hatL (m : List (ByteArray × List TEvent)) (k : ByteArray) (rev : Int) : Option (TEvent × Bool) :=
  if Nat.ble ((mget m k).getD []).length 1000000 = true then some ((atT ((mget m k).getD []) rev).getD ⟨0, ByteArray.empty, ByteArray.empty, false⟩, match atT ((mget m k).getD []) rev with | some x => !x.Del | none => false) else none
def keysB (ks : List ByteArray) : Option (List ByteArray) :=
  if (nodupB (ks.map (·.toList)) && Nat.ble (ks.map (·.toList)).length 1000000 && (ks.map (·.toList)).all (fun k => Nat.ble k.length maxLen)) = true then some ((sortU (ks.map (·.toList))).map toB) else none
def evV (x : TEvent) : EvV := ⟨x.Rev, x.Key.toList, x.Val, x.Del⟩
def evB (e : EvV) : TEvent := ⟨e.a, toB e.k, e.x, e.d⟩
def lastL (m : List (ByteArray × TEvent)) : Option (List TEvent) := if (m.all (fun e => (e.1.toList == e.2.Key.toList) && Nat.ble e.2.Key.toList.length maxLen) && nodupB (m.map (fun e => (evV e.2).k)) && Nat.ble m.length 1000000) = true then some ((sortK (m.map (fun e => evV e.2))).map evB) else none
end Go.Proofs.Ytfgoccdjbgecfaa.V
