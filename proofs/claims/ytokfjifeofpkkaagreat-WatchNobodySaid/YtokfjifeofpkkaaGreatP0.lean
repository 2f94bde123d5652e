/- Kinds of values.
   No condition: these are laws of the clean machine and of this program. -/
import Derived.Test.YtokfjifeofpkkaaGreatVq
import Derived.Test.YtokfjifeofpkkaaGreatVo
import Derived.Test.YtokfjifeofpkkaaGreatVw
import Derived.Test.YtokfjifeofpkkaaGreatTp
namespace Go.Proofs.YtokfjifeofpkkaaGreat.V
open Go
set_option linter.unusedVariables false
set_option linter.unusedSimpArgs false
set_option maxRecDepth 100000
structure TRange where
 From : ByteArray
 To : ByteArray
 deriving DecidableEq, Inhabited
structure Ttoken_Token where
 R : TRange
 Next : Int
 Once : Bool
 deriving DecidableEq, Inhabited
def eq_TRange (x y : TRange) : Bool := (x.From == y.From) && ((x.To == y.To) && (true))
def c_TRange (x : TRange) : List Value := [.string x.From, .string x.To]
def R_TRange : Rep TRange := Rep.flat 2 23 c_TRange (fun _ => ⟨rfl, rfl⟩)
def S_TRange (x : TRange) : Prop := x.From.size ≤ reachBytes ∧ x.To.size ≤ reachBytes
end Go.Proofs.YtokfjifeofpkkaaGreat.V
