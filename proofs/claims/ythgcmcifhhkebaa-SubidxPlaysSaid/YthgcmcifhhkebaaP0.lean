/- Kinds of values.
   No condition: these are laws of the clean machine and of this program. -/
import Derived.Test.YthgcmcifhhkebaaVk
namespace Go.Proofs.Ythgcmcifhhkebaa.V
open Go
set_option linter.unusedVariables false
set_option linter.unusedSimpArgs false
set_option maxRecDepth 100000
structure TRange where
  From : ByteArray
  To : ByteArray
  deriving DecidableEq, Inhabited
structure Timpostref11_Sub where
  Id : Int
  Rev : Int
  R : TRange
  deriving DecidableEq, Inhabited
structure Timpostlaw11_Deed where
  Kind : Int
  S : Timpostref11_Sub
  deriving DecidableEq, Inhabited
structure Tsubidx_Sub where
  Id : Int
  Rev : Int
  R : TRange
  deriving DecidableEq, Inhabited
structure Tsubidx_node where
  Sub : Tsubidx_Sub
  top : ByteArray
  all : Bool
  deriving DecidableEq, Inhabited
structure Tsubidx_Index where
  l : (List Tsubidx_node)
  deriving Inhabited
structure Osubidx_Index where
  l : (List Tsubidx_node)
  deriving Inhabited
def eq_TRange (x y : TRange) : Bool := (x.From == y.From) && ((x.To == y.To) && (true))
def eq_Tsubidx_Sub (x y : Tsubidx_Sub) : Bool := (x.Id == y.Id) && ((x.Rev == y.Rev) && ((x.R.From == y.R.From) && ((x.R.To == y.R.To) && (true))))
def c_Timpostref11_Sub (x : Timpostref11_Sub) : List Value := [.int .i64 x.Id, .int .i64 x.Rev, .string x.R.From, .string x.R.To]
def R_Timpostref11_Sub : Rep Timpostref11_Sub := Rep.flat 4 27 c_Timpostref11_Sub (fun _ => ⟨rfl, rfl⟩)
def c_Timpostlaw11_Deed (x : Timpostlaw11_Deed) : List Value := [.int .i64 x.Kind, .int .i64 x.S.Id, .int .i64 x.S.Rev, .string x.S.R.From, .string x.S.R.To]
def R_Timpostlaw11_Deed : Rep Timpostlaw11_Deed := Rep.flat 5 45 c_Timpostlaw11_Deed (fun _ => ⟨rfl, rfl⟩)
def c_Tsubidx_node (x : Tsubidx_node) : List Value := [.int .i64 x.Sub.Id, .int .i64 x.Sub.Rev, .string x.Sub.R.From, .string x.Sub.R.To, .string x.top, .bool x.all]
def R_Tsubidx_node : Rep Tsubidx_node := Rep.flat 6 58 c_Tsubidx_node (fun _ => ⟨rfl, rfl⟩)
def c_Tsubidx_Sub (x : Tsubidx_Sub) : List Value := [.int .i64 x.Id, .int .i64 x.Rev, .string x.R.From, .string x.R.To]
def R_Tsubidx_Sub : Rep Tsubidx_Sub := Rep.flat 4 32 c_Tsubidx_Sub (fun _ => ⟨rfl, rfl⟩)
def c_TRange (x : TRange) : List Value := [.string x.From, .string x.To]
def R_TRange : Rep TRange := Rep.flat 2 25 c_TRange (fun _ => ⟨rfl, rfl⟩)
def W_TRange (x : TRange) : Prop := (fun x => x.size ≤ maxLen) x.From ∧ (fun x => x.size ≤ maxLen) x.To
def W_Timpostref11_Sub (x : Timpostref11_Sub) : Prop := (okI .i64) x.Id ∧ (okI .i64) x.Rev ∧ W_TRange x.R
def W_Timpostlaw11_Deed (x : Timpostlaw11_Deed) : Prop := (okI .i64) x.Kind ∧ W_Timpostref11_Sub x.S
end Go.Proofs.Ythgcmcifhhkebaa.V
