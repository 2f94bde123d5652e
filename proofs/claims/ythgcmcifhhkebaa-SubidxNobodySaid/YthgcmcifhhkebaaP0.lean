/- Kinds of values.
   No condition: these are laws of the clean machine and of this program. -/
import Derived.Test.YthgcmcifhhkebaaV31
namespace Go.Proofs.Ythgcmcifhhkebaa.V
open Go
set_option linter.unusedVariables false
set_option linter.unusedSimpArgs false
set_option maxRecDepth 100000
structure TRange where
  From : ByteArray
  To : ByteArray
  deriving DecidableEq, Inhabited
structure Timpostref11_Sub where
  Id : Int
  Rev : Int
  R : TRange
  deriving DecidableEq, Inhabited

def c_Timpostref11_Sub (x : Timpostref11_Sub) : List Value := [.int .i64 x.Id, .int .i64 x.Rev, .string x.R.From, .string x.R.To]
def R_Timpostref11_Sub : Rep Timpostref11_Sub := Rep.flat 4 27 c_Timpostref11_Sub (fun _ => ⟨rfl, rfl⟩)
def c_TRange (x : TRange) : List Value := [.string x.From, .string x.To]
def R_TRange : Rep TRange := Rep.flat 2 25 c_TRange (fun _ => ⟨rfl, rfl⟩)
def W_TRange (x : TRange) : Prop := (fun x => x.size ≤ maxLen) x.From ∧ (fun x => x.size ≤ maxLen) x.To
def W_Timpostref11_Sub (x : Timpostref11_Sub) : Prop := (okI .i64) x.Id ∧ (okI .i64) x.Rev ∧ W_TRange x.R
end Go.Proofs.Ythgcmcifhhkebaa.V
