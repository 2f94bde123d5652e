/- Plain functions, as the program has them.
   No condition: these are laws of the clean machine and of this program. -/
import Derived.Test.YtokfjifeofpkkaaGreatP0
namespace Go.Proofs.YtokfjifeofpkkaaGreat.V
open Go
set_option linter.unusedVariables false
set_option linter.unusedSimpArgs false
set_option maxRecDepth 100000
def F_token_Put (p0 : Ttoken_Token) : Option ByteArray := if p0.R.From.size ≤ 1000000000 ∧ p0.R.To.size ≤ 1000000000 then some (putB p0.R.From p0.R.To p0.Next p0.Once) else none
def F_key_Empty (p0 : TRange) : Option (Bool) :=
 some (bif (!eqB p0.To ByteArray.empty) then (eq_TRange p0 (⟨(maxS p0.From p0.To), p0.To⟩ : TRange)) else false)
def F_internal_stringslite_HasSuffix (p0 : ByteArray) (p1 : ByteArray) : Option (Bool) :=
 (if (decide ((p0.size : Int) ≥ (p1.size : Int))) = true then ((subS p0 (IntKind.i64.wrap ((p0.size : Int) - (p1.size : Int))) (p0.size : Int)).bind fun x5 => some (eqB x5 p1)) else (some false) : Option (Bool)).bind fun s4 => some s4
def F_internal_stringslite_TrimSuffix (p0 : ByteArray) (p1 : ByteArray) : Option (ByteArray) :=
 (F_internal_stringslite_HasSuffix p0 p1).bind fun x3 => if x3 = true then ((subS p0 0 (IntKind.i64.wrap ((p0.size : Int) - (p1.size : Int)))).bind fun x5 => some x5) else (some p0)
def F_strings_TrimSuffix (p0 : ByteArray) (p1 : ByteArray) : Option (ByteArray) :=
 (F_internal_stringslite_TrimSuffix p0 p1).bind fun x3 => some x3
def F_key_MayRange (p0 : TRange) : Option (Bool) :=
 (F_key_Empty p0).bind fun x3 => (if (bif (!x3) then (decide ((p0.From.size : Int) ≤ 8)) else false) = true then ((F_strings_TrimSuffix p0.To (⟨#[0]⟩ : ByteArray)).bind fun x6 => some (decide ((x6.size : Int) ≤ 8))) else (some false) : Option (Bool)).bind fun s5 => some s5
def F_token_May (p0 : Ttoken_Token) : Option (Bool) :=
 (F_key_MayRange p0.R).bind fun x3 => some (bif (bif x3 then (decide (p0.Next ≥ 1)) else false) then (decide (p0.Next ≤ 1001)) else false)
def F_token_Take (p0 : ByteArray) : Option (Ttoken_Token × Int) :=
 (if (decide ((p0.size : Int) < 5)) = true then (some true) else ((idxS p0 3).bind fun x18 => some (decide ((IntKind.i64.wrap ((p0.size : Int) - 5)) < (IntKind.i64.wrap x18)))) : Option (Bool)).bind fun s4 => if s4 = true then (some ((⟨(⟨ByteArray.empty, ByteArray.empty⟩ : TRange), 0, false⟩ : Ttoken_Token), 2)) else ((idxS p0 3).bind fun x6 => (subS p0 4 (IntKind.i64.wrap (4 + (IntKind.i64.wrap x6)))).bind fun x8 => (subS p0 (IntKind.i64.wrap (5 + (IntKind.i64.wrap x6))) (p0.size : Int)).bind fun x9 => (idxS p0 1).bind fun x10 => (idxS p0 2).bind fun x11 => (idxS p0 0).bind fun x12 => (F_token_May (⟨(⟨x8, x9⟩ : TRange), (orI .i64 (shlI .i64 (IntKind.i64.wrap x10) 8) (IntKind.i64.wrap x11)), (x12 == 111)⟩ : Ttoken_Token)).bind fun x13 => (if (!x13) = true then (some true) else ((F_token_Put (⟨(⟨x8, x9⟩ : TRange), (orI .i64 (shlI .i64 (IntKind.i64.wrap x10) 8) (IntKind.i64.wrap x11)), (x12 == 111)⟩ : Ttoken_Token)).bind fun x17 => some (!eqB x17 p0)) : Option (Bool)).bind fun s15 => if s15 = true then (some ((⟨(⟨ByteArray.empty, ByteArray.empty⟩ : TRange), 0, false⟩ : Ttoken_Token), 2)) else (some ((⟨(⟨x8, x9⟩ : TRange), (orI .i64 (shlI .i64 (IntKind.i64.wrap x10) 8) (IntKind.i64.wrap x11)), (x12 == 111)⟩ : Ttoken_Token), 0)))
end Go.Proofs.YtokfjifeofpkkaaGreat.V
