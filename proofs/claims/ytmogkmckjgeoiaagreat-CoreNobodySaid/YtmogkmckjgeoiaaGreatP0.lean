/- Kinds of values.
   No condition: these are laws of the clean machine and of this program. -/
import Derived.Test.YtmogkmckjgeoiaaGreatVq
namespace Go.Proofs.YtmogkmckjgeoiaaGreat.V
open Go
set_option linter.unusedVariables false
set_option linter.unusedSimpArgs false
set_option maxRecDepth 100000
structure TRange where
 From : ByteArray
 To : ByteArray
 deriving DecidableEq, Inhabited
structure TCmp where
 Kind : Int
 Key : ByteArray
 Val : ByteArray
 Rev : Int
 deriving DecidableEq, Inhabited
structure TOp where
 Key : ByteArray
 Val : ByteArray
 Del : Bool
 deriving DecidableEq, Inhabited
structure TReq where
 Kind : Int
 R : TRange
 Rev : Int
 Cmps : (List TCmp)
 Then : (List TOp)
 Else : (List TOp)
 deriving Inhabited
structure Timpostref10_Cursor where
 R : TRange
 Next : Int
 Once : Bool
 Dead : Bool
 deriving DecidableEq, Inhabited
def eq_TRange (x y : TRange) : Bool := (x.From == y.From) && ((x.To == y.To) && (true))
def c_TCmp (x : TCmp) : List Value := [.int .i64 x.Kind, .string x.Key, .string x.Val, .int .i64 x.Rev]
def R_TCmp : Rep TCmp := Rep.flat 4 86 c_TCmp (fun _ => ⟨rfl, rfl⟩)
def c_TOp (x : TOp) : List Value := [.string x.Key, .string x.Val, .bool x.Del]
def R_TOp : Rep TOp := Rep.flat 3 84 c_TOp (fun _ => ⟨rfl, rfl⟩)
def R_TReq : Rep TReq where
 k := 7
 T := 27
 C := fun h cs x => ∃ a0 c0 a1 c1 a2 c2, cs = [.int .i64 x.Kind, .string x.R.From, .string x.R.To, .int .i64 x.Rev, .slice a0 x.Cmps.length c0, .slice a1 x.Then.length c1, .slice a2 x.Else.length c2] ∧ RL R_TCmp h a0 c0 x.Cmps ∧ RL R_TOp h a1 c1 x.Then ∧ RL R_TOp h a2 c2 x.Else
 mono := by
  rintro h h' cs x e ⟨a0, c0, a1, c1, a2, c2, h0, h1, h2, h3⟩
  exact ⟨a0, c0, a1, c1, a2, c2, h0, h1.ext e, h2.ext e, h3.ext e⟩
 len := by
  rintro h cs x ⟨a0, c0, a1, c1, a2, c2, h0, _⟩
  rw [h0]; rfl
 ok := by
  rintro h cs x ⟨a0, c0, a1, c1, a2, c2, h0, _⟩
  rw [h0]; rfl
def c_TRange (x : TRange) : List Value := [.string x.From, .string x.To]
def R_TRange : Rep TRange := Rep.flat 2 23 c_TRange (fun _ => ⟨rfl, rfl⟩)
def c_Timpostref10_Cursor (x : Timpostref10_Cursor) : List Value := [.string x.R.From, .string x.R.To, .int .i64 x.Next, .bool x.Once, .bool x.Dead]
def R_Timpostref10_Cursor : Rep Timpostref10_Cursor := Rep.flat 5 29 c_Timpostref10_Cursor (fun _ => ⟨rfl, rfl⟩)
def W_TRange (x : TRange) : Prop := (fun x => x.size ≤ maxLen) x.From ∧ (fun x => x.size ≤ maxLen) x.To
def W_TCmp (x : TCmp) : Prop := (okI .i64) x.Kind ∧ (fun x => x.size ≤ maxLen) x.Key ∧ (fun x => x.size ≤ maxLen) x.Val ∧ (okI .i64) x.Rev
def W_TOp (x : TOp) : Prop := (fun x => x.size ≤ maxLen) x.Key ∧ (fun x => x.size ≤ maxLen) x.Val ∧ (fun _ => True) x.Del
def W_TReq (x : TReq) : Prop := (okI .i64) x.Kind ∧ W_TRange x.R ∧ (okI .i64) x.Rev ∧ (fun l => (∀ a ∈ l, W_TCmp a) ∧ l.length ≤ maxLen) x.Cmps ∧ (fun l => (∀ a ∈ l, W_TOp a) ∧ l.length ≤ maxLen) x.Then ∧ (fun l => (∀ a ∈ l, W_TOp a) ∧ l.length ≤ maxLen) x.Else
def W_Timpostref10_Cursor (x : Timpostref10_Cursor) : Prop := W_TRange x.R ∧ (okI .i64) x.Next ∧ (fun _ => True) x.Once ∧ (fun _ => True) x.Dead
end Go.Proofs.YtmogkmckjgeoiaaGreat.V
