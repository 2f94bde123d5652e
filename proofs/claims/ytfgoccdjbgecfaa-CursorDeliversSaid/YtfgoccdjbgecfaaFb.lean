/- Plain functions, as the program has them: a law.
   No condition: these are laws of the clean machine and of this program. -/
import Derived.Test.YtfgoccdjbgecfaaPF
namespace Go.Proofs.Ytfgoccdjbgecfaa.V
open Go
set_option linter.unusedVariables false
set_option linter.unusedSimpArgs false
set_option maxRecDepth 100000
def F_law10_CursorDelivers_L1 : (List (List TEvent)) → Nat → Option (Lp (Unit) (Bool))
  | [], _ => some (.go ())
  | z20 :: r20, i20 => if (decide ((z20.length : Int) > 30)) = true then (some (.out true)) else (F_law10_CursorDelivers_L1 r20 (i20 + 1))
def F_law10_CursorDelivers (n : Nat) (p0 : Timpostref10_Cursor) (p1 : THead) (p2 : (List (List TEvent))) : Option (Bool) :=
  if (bif (bif (bif (bif (decide ((p2.length : Int) > 30)) then true else (decide (p0.Next > 1099511627776))) then true else (decide (p0.Next < (-1099511627776)))) then true else (decide (p1.Rev > 1099511627776))) then true else (decide (p1.Rev < (-1099511627776)))) = true then (some true) else ((F_law10_CursorDelivers_L1 p2 0 : Option (Lp (Unit) (Bool))).bind fun s5 => lpK s5 fun u5 => (F_law10_made p0).bind fun x7 => (F_cursor_Deliver n x7 p1 p2).bind fun x8 => (F_ref10_Deliver n p0 p1 p2).bind fun x9 => (F_law10_real x8.1).bind fun x12 => if (eq_Timpostref10_Cursor x12 x9.1) = true then ((F_law10_told x8.2).bind fun x14 => (F_ref10_Same x14 x9.2).bind fun x15 => if x15 = true then ((F_law10_made p0).bind fun x17 => (F_cursor_Window x17 p1 (p2.length : Int)).bind fun x18 => (F_ref10_Window p0 p1 (p2.length : Int)).bind fun x19 => some (x18 == x19)) else (some false)) else (some false))
end Go.Proofs.Ytfgoccdjbgecfaa.V
