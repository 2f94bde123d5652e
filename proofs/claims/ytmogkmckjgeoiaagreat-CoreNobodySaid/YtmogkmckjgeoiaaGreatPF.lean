/- Plain functions, as the program has them.
   No condition: these are laws of the clean machine and of this program. -/
import Derived.Test.YtmogkmckjgeoiaaGreatP0
namespace Go.Proofs.YtmogkmckjgeoiaaGreat.V
open Go
set_option linter.unusedVariables false
set_option linter.unusedSimpArgs false
set_option maxRecDepth 100000
def F_key_May (p0 : ByteArray) : Option (Bool) :=
 some (bif (!eqB p0 ByteArray.empty) then (decide ((p0.size : Int) ≤ 8)) else false)
def F_txn_compares_1 (p0 : TCmp) : Option (Bool) :=
 (F_key_May p0.Key).bind fun x3 => some (bif (bif (bif (!x3) then true else (bif (p0.Kind != 1) then (p0.Kind != 2) else false)) then true else (decide ((p0.Val.size : Int) > 8))) then true else (decide (p0.Rev < 0)))
def F_slices_IndexFunc_txn_compares_1_L1 : (List TCmp) → Nat → Option (Lp (Unit) (Int))
 | [], _ => some (.go ())
 | z4 :: r4, i4 => (F_txn_compares_1 z4).bind fun x8 => if x8 = true then (some (.out (i4 : Int))) else (F_slices_IndexFunc_txn_compares_1_L1 r4 (i4 + 1))
def F_slices_IndexFunc_txn_compares_1 (p0 : (List TCmp)) : Option (Int) :=
 (F_slices_IndexFunc_txn_compares_1_L1 p0 0 : Option (Lp (Unit) (Int))).bind fun s3 => lpK s3 fun u3 => some (-1)
def F_slices_ContainsFunc_txn_compares_1 (p0 : (List TCmp)) : Option (Bool) :=
 (F_slices_IndexFunc_txn_compares_1 p0).bind fun x3 => some (decide (x3 ≥ 0))
def F_txn_compares (p0 : (List TCmp)) : Option (Bool) :=
 (if (decide ((p0.length : Int) ≤ 4)) = true then ((F_slices_ContainsFunc_txn_compares_1 p0).bind fun x4 => some (!x4)) else (some false) : Option (Bool)).bind fun s3 => some s3
def F_txn_ops_L1 : (List TOp) → Nat → (List (ByteArray × Bool)) → Option (Lp ((List (ByteArray × Bool))) (Bool))
 | [], _, y4_0 => some (.go y4_0)
 | z4 :: r4, i4, y4_0 => (F_key_May z4.Key).bind fun x9 => (if (bif (bif (!x9) then true else (decide ((z4.Val.size : Int) > 8))) then true else (bif z4.Del then (!eqB z4.Val ByteArray.empty) else false)) = true then (some (true, true)) else (some (false, ((mget y4_0 z4.Key).getD false))) : Option (Bool × Bool)).bind fun s11 => if s11.2 = true then (some (.out false)) else (F_txn_ops_L1 r4 (i4 + 1) (mset y4_0 z4.Key true))
def F_txn_ops (p0 : (List TOp)) : Option (Bool) :=
 (F_txn_ops_L1 p0 0 ([] : (List (ByteArray × Bool))) : Option (Lp ((List (ByteArray × Bool))) (Bool))).bind fun s3 => lpK s3 fun u3 => some (decide ((p0.length : Int) ≤ 4))
def F_key_Empty (p0 : TRange) : Option (Bool) :=
 some (bif (!eqB p0.To ByteArray.empty) then (eq_TRange p0 (⟨(maxS p0.From p0.To), p0.To⟩ : TRange)) else false)
def F_internal_stringslite_HasSuffix (p0 : ByteArray) (p1 : ByteArray) : Option (Bool) :=
 (if (decide ((p0.size : Int) ≥ (p1.size : Int))) = true then ((subS p0 (IntKind.i64.wrap ((p0.size : Int) - (p1.size : Int))) (p0.size : Int)).bind fun x5 => some (eqB x5 p1)) else (some false) : Option (Bool)).bind fun s4 => some s4
def F_internal_stringslite_TrimSuffix (p0 : ByteArray) (p1 : ByteArray) : Option (ByteArray) :=
 (F_internal_stringslite_HasSuffix p0 p1).bind fun x3 => if x3 = true then ((subS p0 0 (IntKind.i64.wrap ((p0.size : Int) - (p1.size : Int)))).bind fun x5 => some x5) else (some p0)
def F_strings_TrimSuffix (p0 : ByteArray) (p1 : ByteArray) : Option (ByteArray) :=
 (F_internal_stringslite_TrimSuffix p0 p1).bind fun x3 => some x3
def F_key_MayRange (p0 : TRange) : Option (Bool) :=
 (F_key_Empty p0).bind fun x3 => (if (bif (!x3) then (decide ((p0.From.size : Int) ≤ 8)) else false) = true then ((F_strings_TrimSuffix p0.To (⟨#[0]⟩ : ByteArray)).bind fun x6 => some (decide ((x6.size : Int) ≤ 8))) else (some false) : Option (Bool)).bind fun s5 => some s5
def F_txn_May (p0 : TReq) : Option (Int) :=
 (if (p0.Kind == 1) = true then ((F_txn_compares p0.Cmps).bind fun x6 => (if x6 = true then ((F_txn_ops p0.Then).bind fun x12 => some x12) else (some false) : Option (Bool)).bind fun s8 => (if s8 = true then ((F_txn_ops p0.Else).bind fun x11 => some x11) else (some false) : Option (Bool)).bind fun s10 => some s10) else ((if (p0.Kind == 2) = true then ((F_key_MayRange p0.R).bind fun x15 => some (bif x15 then (decide (p0.Rev ≥ 0)) else false)) else ((if (p0.Kind == 3) = true then (some (decide (p0.Rev ≥ 0))) else (some false) : Option (Bool)).bind fun s17 => some s17) : Option (Bool)).bind fun s14 => some s14) : Option (Bool)).bind fun s4 => if (!s4) = true then (some 1) else (some 0)
end Go.Proofs.YtmogkmckjgeoiaaGreat.V
