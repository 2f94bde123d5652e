/- Kinds of values.
   No condition: these are laws of the clean machine and of this program. -/
import Derived.Test.YtcjcbcmapjcfnaaVc
import Derived.Test.YtcjcbcmapjcfnaaE5
namespace Go.Proofs.Ytcjcbcmapjcfnaa.V
open Go
set_option linter.unusedVariables false
set_option linter.unusedSimpArgs false
set_option maxRecDepth 100000
structure TEvent where
  Rev : Int
  Key : ByteArray
  Val : ByteArray
  Del : Bool
  deriving DecidableEq, Inhabited
structure TKV where
  Key : ByteArray
  Val : ByteArray
  Rev : Int
  deriving DecidableEq, Inhabited
structure TRange where
  From : ByteArray
  To : ByteArray
  deriving DecidableEq, Inhabited
def eq_TEvent (x y : TEvent) : Bool := (x.Rev == y.Rev) && ((x.Key == y.Key) && ((x.Val == y.Val) && ((x.Del == y.Del) && (true))))
def eq_TKV (x y : TKV) : Bool := (x.Key == y.Key) && ((x.Val == y.Val) && ((x.Rev == y.Rev) && (true)))
def c_TEvent (x : TEvent) : List Value := [.int .i64 x.Rev, .string x.Key, .string x.Val, .bool x.Del]
def R_TEvent : Rep TEvent := Rep.flat 4 40 c_TEvent (fun _ => ⟨rfl, rfl⟩)
def c_TKV (x : TKV) : List Value := [.string x.Key, .string x.Val, .int .i64 x.Rev]
def R_TKV : Rep TKV := Rep.flat 3 44 c_TKV (fun _ => ⟨rfl, rfl⟩)
def vE_TEvent (x : TEvent) : Value := .agg #[.int .i64 x.Rev, .string x.Key, .string x.Val, .bool x.Del]
def c_TRange (x : TRange) : List Value := [.string x.From, .string x.To]
def R_TRange : Rep TRange := Rep.flat 2 24 c_TRange (fun _ => ⟨rfl, rfl⟩)
def W_TEvent (x : TEvent) : Prop := (okI .i64) x.Rev ∧ (fun x => x.size ≤ maxLen) x.Key ∧ (fun x => x.size ≤ maxLen) x.Val ∧ (fun _ => True) x.Del
def W_TRange (x : TRange) : Prop := (fun x => x.size ≤ maxLen) x.From ∧ (fun x => x.size ≤ maxLen) x.To
def W_TKV (x : TKV) : Prop := (fun x => x.size ≤ maxLen) x.Key ∧ (fun x => x.size ≤ maxLen) x.Val ∧ (okI .i64) x.Rev
def evV (x : TEvent) : EvV := ⟨x.Rev, x.Key.toList, x.Val, x.Del⟩
def evB (e : EvV) : TEvent := ⟨e.a, toB e.k, e.x, e.d⟩
def lastL (m : List (ByteArray × TEvent)) : Option (List TEvent) := if (m.all (fun e => (e.1.toList == e.2.Key.toList) && Nat.ble e.2.Key.toList.length maxLen) && nodupB (m.map (fun e => (evV e.2).k)) && Nat.ble m.length 1000000) = true then some ((sortK (m.map (fun e => evV e.2))).map evB) else none
end Go.Proofs.Ytcjcbcmapjcfnaa.V
