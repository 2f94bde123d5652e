/- Plain functions, as the program has them.
   No condition: these are laws of the clean machine and of this program. -/
import Derived.Test.YtadfhabapgipbaaP0
namespace Go.Proofs.Ytadfhabapgipbaa.V
open Go
set_option linter.unusedVariables false
set_option linter.unusedSimpArgs false
set_option maxRecDepth 100000
def F_cmp_isNaN (p0 : ByteArray) : Option (Bool) :=
  some (!eqB p0 p0)
def F_cmp_Compare (p0 : ByteArray) (p1 : ByteArray) : Option (Int) :=
  (F_cmp_isNaN p0).bind fun x1 => (F_cmp_isNaN p1).bind fun x2 => if x1 = true then (if x2 = true then (some 0) else (some (-1))) else (if x2 = true then (some 1) else (if (lessB p0 p1) = true then (some (-1)) else (if (!leB p0 p1) = true then (some 1) else (some 0))))
def F_txn_find_1 (p0 : KV) (p1 : ByteArray) : Option (Int) :=
  (F_cmp_Compare p0.key p1).bind fun x2 => some x2
def F_slices_BinarySearchFunc_txn_find_1_L1 (p0 : (List KV)) (p1 : ByteArray) : Nat → Int → Int → Option (Int)
  | 0, _, _ => none
  | m6 + 1, y6_0, y6_1 => if (decide (y6_0 < y6_1)) = true then ((getI p0 (IntKind.i64.wrap (shrI .u64 (IntKind.u64.wrap (IntKind.i64.wrap (y6_0 + y6_1))) 1))).bind fun x8 => (F_txn_find_1 x8 p1).bind fun x9 => if (decide (x9 < 0)) = true then (F_slices_BinarySearchFunc_txn_find_1_L1 p0 p1 m6 (IntKind.i64.wrap ((IntKind.i64.wrap (shrI .u64 (IntKind.u64.wrap (IntKind.i64.wrap (y6_0 + y6_1))) 1)) + 1)) y6_1) else (F_slices_BinarySearchFunc_txn_find_1_L1 p0 p1 m6 y6_0 (IntKind.i64.wrap (shrI .u64 (IntKind.u64.wrap (IntKind.i64.wrap (y6_0 + y6_1))) 1)))) else (some y6_0)
def F_slices_BinarySearchFunc_txn_find_1 (n : Nat) (p0 : (List KV)) (p1 : ByteArray) : Option (Int × Bool) :=
  (F_slices_BinarySearchFunc_txn_find_1_L1 p0 p1 n 0 (p0.length : Int) : Option (Int)).bind fun s1 => (if (decide (s1 < (p0.length : Int))) = true then ((getI p0 s1).bind fun x4 => (F_txn_find_1 x4 p1).bind fun x5 => some (x5 == 0)) else (some false) : Option (Bool)).bind fun s3 => some (s1, s3)
def F_txn_find (n : Nat) (p0 : (List KV)) (p1 : ByteArray) : Option (KV × Bool) :=
  (F_slices_BinarySearchFunc_txn_find_1 n p0 p1).bind fun x2 => if (!x2.2) = true then (some ((⟨ByteArray.empty, ByteArray.empty, 0⟩ : KV), false)) else ((getI p0 x2.1).bind fun x4 => some (x4, true))
def F_txn_Holds_1 (n : Nat) (p0 : Cmp) (p1 : (List KV)) : Option (Bool) :=
  (F_txn_find n p1 p0.key).bind fun x2 => if (p0.kind == 1) = true then (some (bif (!x2.2) then true else (!eqB x2.1.val p0.val))) else (if (bif (p0.kind == 2) then (p0.rev == 0) else false) = true then (some x2.2) else (if (p0.kind == 2) = true then (some (bif (!x2.2) then true else (x2.1.rev != p0.rev))) else (some true)))
def F_slices_IndexFunc_txn_Holds_1_L1 (n : Nat) (p1c0 : (List KV)) : (List Cmp) → Nat → Option (Lp (Unit) (Int))
  | [], _ => some (.go ())
  | z2 :: r2, i2 => (F_txn_Holds_1 n z2 p1c0).bind fun x6 => if x6 = true then (some (.out (i2 : Int))) else (F_slices_IndexFunc_txn_Holds_1_L1 n p1c0 r2 (i2 + 1))
def F_slices_IndexFunc_txn_Holds_1 (n : Nat) (p0 : (List Cmp)) (p1c0 : (List KV)) : Option (Int) :=
  (F_slices_IndexFunc_txn_Holds_1_L1 n p1c0 p0 0 : Option (Lp (Unit) (Int))).bind fun s1 => lpK s1 fun u1 => some (-1)
def F_slices_ContainsFunc_txn_Holds_1 (n : Nat) (p0 : (List Cmp)) (p1c0 : (List KV)) : Option (Bool) :=
  (F_slices_IndexFunc_txn_Holds_1 n p0 p1c0).bind fun x1 => some (decide (x1 ≥ 0))
def F_txn_Holds (n : Nat) (p0 : (List KV)) (p1 : (List Cmp)) : Option (Bool) :=
  (F_slices_ContainsFunc_txn_Holds_1 n p1 p0).bind fun x2 => some (!x2)
def F_txn_Plan_L1 (n : Nat) (p0 : (List KV)) : (List OpX) → Nat → (List OpX) → Option ((List OpX))
  | [], _, y7_0 => some y7_0
  | z7 :: r7, i7, y7_0 => (F_txn_find n p0 z7.key).bind fun x12 => if (bif x12.2 then true else (!z7.del)) = true then ((appL 40 y7_0 ([z7] : List OpX)).bind fun x16 => F_txn_Plan_L1 n p0 r7 (i7 + 1) (y7_0 ++ ([z7] : List OpX))) else (F_txn_Plan_L1 n p0 r7 (i7 + 1) y7_0)
def F_txn_Plan (n : Nat) (p0 : (List KV)) (p1 : TReq) : Option (Bool × (List OpX)) :=
  (F_txn_Holds n p0 p1.Cmps).bind fun x2 => (if x2 = true then (some p1.Then) else (some p1.Else) : Option ((List OpX))).bind fun s4 => (F_txn_Plan_L1 n p0 s4 0 ([] : List OpX) : Option ((List OpX))).bind fun s5 => some (x2, s5)
def F_key_May (p0 : ByteArray) : Option (Bool) :=
  some (bif (!eqB p0 ByteArray.empty) then (decide ((p0.size : Int) ≤ 8)) else false)
def F_txn_compares_1 (p0 : Cmp) : Option (Bool) :=
  (F_key_May p0.key).bind fun x2 => some (bif (bif (bif (!x2) then true else (bif (p0.kind != 1) then (p0.kind != 2) else false)) then true else (decide ((p0.val.size : Int) > 8))) then true else (decide (p0.rev < 0)))
def F_slices_IndexFunc_txn_compares_1_L1 : (List Cmp) → Nat → Option (Lp (Unit) (Int))
  | [], _ => some (.go ())
  | z2 :: r2, i2 => (F_txn_compares_1 z2).bind fun x6 => if x6 = true then (some (.out (i2 : Int))) else (F_slices_IndexFunc_txn_compares_1_L1 r2 (i2 + 1))
def F_slices_IndexFunc_txn_compares_1 (p0 : (List Cmp)) : Option (Int) :=
  (F_slices_IndexFunc_txn_compares_1_L1 p0 0 : Option (Lp (Unit) (Int))).bind fun s1 => lpK s1 fun u1 => some (-1)
def F_slices_ContainsFunc_txn_compares_1 (p0 : (List Cmp)) : Option (Bool) :=
  (F_slices_IndexFunc_txn_compares_1 p0).bind fun x1 => some (decide (x1 ≥ 0))
def F_txn_compares (p0 : (List Cmp)) : Option (Bool) :=
  (if (decide ((p0.length : Int) ≤ 4)) = true then ((F_slices_ContainsFunc_txn_compares_1 p0).bind fun x3 => some (!x3)) else (some false) : Option (Bool)).bind fun s2 => some s2
def F_txn_ops_L1 : (List OpX) → Nat → (List (ByteArray × Bool)) → Option (Lp ((List (ByteArray × Bool))) (Bool))
  | [], _, y3_0 => some (.go y3_0)
  | z3 :: r3, i3, y3_0 => (F_key_May z3.key).bind fun x8 => (if (bif (bif (!x8) then true else (decide ((z3.val.size : Int) > 8))) then true else (bif z3.del then (!eqB z3.val ByteArray.empty) else false)) = true then (some (true, true)) else (some (false, ((mget y3_0 z3.key).getD false))) : Option (Bool × Bool)).bind fun s10 => if s10.2 = true then (some (.out false)) else (F_txn_ops_L1 r3 (i3 + 1) (mset y3_0 z3.key true))
def F_txn_ops (p0 : (List OpX)) : Option (Bool) :=
  (F_txn_ops_L1 p0 0 ([] : (List (ByteArray × Bool))) : Option (Lp ((List (ByteArray × Bool))) (Bool))).bind fun s2 => lpK s2 fun u2 => some (decide ((p0.length : Int) ≤ 4))
def F_key_Empty (p0 : TRange) : Option (Bool) :=
  some (bif (!eqB p0.To ByteArray.empty) then (eq_TRange p0 (⟨(maxS p0.From p0.To), p0.To⟩ : TRange)) else false)
def F_internal_stringslite_HasSuffix (p0 : ByteArray) (p1 : ByteArray) : Option (Bool) :=
  (if (decide ((p0.size : Int) ≥ (p1.size : Int))) = true then ((subS p0 (IntKind.i64.wrap ((p0.size : Int) - (p1.size : Int))) (p0.size : Int)).bind fun x3 => some (eqB x3 p1)) else (some false) : Option (Bool)).bind fun s2 => some s2
def F_internal_stringslite_TrimSuffix (p0 : ByteArray) (p1 : ByteArray) : Option (ByteArray) :=
  (F_internal_stringslite_HasSuffix p0 p1).bind fun x1 => if x1 = true then ((subS p0 0 (IntKind.i64.wrap ((p0.size : Int) - (p1.size : Int)))).bind fun x3 => some x3) else (some p0)
def F_strings_TrimSuffix (p0 : ByteArray) (p1 : ByteArray) : Option (ByteArray) :=
  (F_internal_stringslite_TrimSuffix p0 p1).bind fun x1 => some x1
def F_key_MayRange (p0 : TRange) : Option (Bool) :=
  (F_key_Empty p0).bind fun x2 => (if (bif (!x2) then (decide ((p0.From.size : Int) ≤ 8)) else false) = true then ((F_strings_TrimSuffix p0.To (⟨#[0]⟩ : ByteArray)).bind fun x5 => some (decide ((x5.size : Int) ≤ 8))) else (some false) : Option (Bool)).bind fun s4 => some s4
def F_txn_May (p0 : TReq) : Option (Int) :=
  (if (p0.Kind == 1) = true then ((F_txn_compares p0.Cmps).bind fun x5 => (if x5 = true then ((F_txn_ops p0.Then).bind fun x11 => some x11) else (some false) : Option (Bool)).bind fun s7 => (if s7 = true then ((F_txn_ops p0.Else).bind fun x10 => some x10) else (some false) : Option (Bool)).bind fun s9 => some s9) else ((if (p0.Kind == 2) = true then ((F_key_MayRange p0.R).bind fun x14 => some (bif x14 then (decide (p0.Rev ≥ 0)) else false)) else ((if (p0.Kind == 3) = true then (some (decide (p0.Rev ≥ 0))) else (some false) : Option (Bool)).bind fun s16 => some s16) : Option (Bool)).bind fun s13 => some s13) : Option (Bool)).bind fun s3 => if (!s3) = true then (some 1) else (some 0)
def F_ref06_Get_L1 (p1 : ByteArray) : (List KV) → Nat → Option (Lp (Unit) (KV × Bool))
  | [], _ => some (.go ())
  | z3 :: r3, i3 => if (eqB z3.key p1) = true then (some (.out (z3, true))) else (F_ref06_Get_L1 p1 r3 (i3 + 1))
def F_ref06_Get (p0 : (List KV)) (p1 : ByteArray) : Option (KV × Bool) :=
  (F_ref06_Get_L1 p1 p0 0 : Option (Lp (Unit) (KV × Bool))).bind fun s2 => lpK s2 fun u2 => some ((⟨ByteArray.empty, ByteArray.empty, 0⟩ : KV), false)
def F_ref07_Ops_L1 (p1 : (List OpX)) : (List OpX) → Nat → Option (Lp (Unit) (Bool))
  | [], _ => some (.go ())
  | z3 :: r3, i3 => (getI p1 (i3 : Int)).bind fun x7 => if (!(eq_OpX z3 x7)) = true then (some (.out false)) else (F_ref07_Ops_L1 p1 r3 (i3 + 1))
def F_ref07_Ops (p0 : (List OpX)) (p1 : (List OpX)) : Option (Bool) :=
  if ((p0.length : Int) != (p1.length : Int)) = true then (some false) else ((F_ref07_Ops_L1 p1 p0 0 : Option (Lp (Unit) (Bool))).bind fun s2 => lpK s2 fun u2 => some true)
def F_ref05_Map_L1 (p0 : (List KV)) : (List KV) → Nat → Option (Lp (Unit) (Bool))
  | [], _ => some (.go ())
  | z2 :: r2, i2 => (getI p0 (IntKind.i64.wrap ((i2 : Int) - 1))).bind fun x5 => if (!lessB x5.key z2.key) = true then (some (.out false)) else (F_ref05_Map_L1 p0 r2 (i2 + 1))
def F_ref05_Map (p0 : (List KV)) : Option (Bool) :=
  (F_ref05_Map_L1 p0 (List.drop 1 p0) 1 : Option (Lp (Unit) (Bool))).bind fun s1 => lpK s1 fun u1 => some true
def F_txn_Put (p0 : ByteArray) (p1 : ByteArray) : Option (TReq) :=
  some (⟨1, (⟨ByteArray.empty, ByteArray.empty⟩ : TRange), 0, ([] : List Cmp), ([(⟨p0, p1, false⟩ : OpX)] : List OpX), ([] : List OpX)⟩ : TReq)
def F_txn_Del (p0 : ByteArray) : Option (TReq) :=
  some (⟨1, (⟨ByteArray.empty, ByteArray.empty⟩ : TRange), 0, ([] : List Cmp), ([(⟨p0, ByteArray.empty, true⟩ : OpX)] : List OpX), ([] : List OpX)⟩ : TReq)
def F_txn_Swap (p0 : ByteArray) (p1 : ByteArray) (p2 : ByteArray) : Option (TReq) :=
  (F_txn_Put p0 p2).bind fun x2 => some (⟨x2.Kind, x2.R, x2.Rev, ([(⟨1, p0, p1, 0⟩ : Cmp)] : List Cmp), x2.Then, x2.Else⟩ : TReq)
def F_law07_TxnShort (n : Nat) (p0 : (List KV)) (p1 : ByteArray) (p2 : A2_ByteArray) : Option (Bool) :=
  (if (decide ((p0.length : Int) > 60)) = true then (some true) else ((F_ref05_Map p0).bind fun x39 => some (!x39)) : Option (Bool)).bind fun s4 => if (bif (bif (bif (bif s4 then true else (decide ((p1.size : Int) < 1))) then true else (decide ((p1.size : Int) > 8))) then true else (decide ((p2.x0.size : Int) > 8))) then true else (decide ((p2.x1.size : Int) > 8))) = true then (some true) else ((F_ref06_Get p0 p1).bind fun x6 => (F_txn_Put p1 p2.x0).bind fun x8 => (F_txn_Plan n p0 x8).bind fun x9 => (F_txn_Del p1).bind fun x10 => (F_txn_Plan n p0 x10).bind fun x11 => (F_txn_Swap p1 p2.x0 p2.x1).bind fun x12 => (F_txn_Plan n p0 x12).bind fun x13 => (F_txn_Put p1 p2.x0).bind fun x14 => (F_txn_May x14).bind fun x15 => (if (x15 == 0) = true then ((F_txn_Del p1).bind fun x37 => (F_txn_May x37).bind fun x38 => some (x38 == 0)) else (some false) : Option (Bool)).bind fun s17 => (if s17 = true then ((F_txn_Swap p1 p2.x0 p2.x1).bind fun x35 => (F_txn_May x35).bind fun x36 => some (x36 == 0)) else (some false) : Option (Bool)).bind fun s19 => (if x9.1 = true then ((F_ref07_Ops x9.2 ([(⟨p1, p2.x0, false⟩ : OpX)] : List OpX)).bind fun x33 => some x33) else (some false) : Option (Bool)).bind fun s21 => (if (bif x11.1 then (((x11.2.length : Int) == 1) == x6.2) else false) = true then ((if (!x6.2) = true then (some true) else ((getI x11.2 0).bind fun x31 => some (eq_OpX x31 (⟨p1, ByteArray.empty, true⟩ : OpX))) : Option (Bool)).bind fun s30 => some s30) else (some false) : Option (Bool)).bind fun s23 => (if (bif (x13.1 == (bif x6.2 then (eqB x6.1.val p2.x0) else false)) then (((x13.2.length : Int) == 1) == x13.1) else false) = true then ((if (!x13.1) = true then (some true) else ((getI x13.2 0).bind fun x28 => some (eq_OpX x28 (⟨p1, p2.x1, false⟩ : OpX))) : Option (Bool)).bind fun s27 => some s27) else (some false) : Option (Bool)).bind fun s25 => some (bif (bif (bif s19 then s21 else false) then s23 else false) then s25 else false))
def F_law07_TxnRefused (p0 : TReq) (p1 : Int) : Option (Bool) :=
  (F_txn_May p0).bind fun x3 => if (bif (x3 != 0) then true else (p0.Kind != 1)) = true then (some true) else ((appL 40 ([] : List OpX) p0.Then).bind fun x8 => (appL 40 (([] : List OpX) ++ p0.Then) ([(⟨(⟨#[49, 50, 51, 52, 53, 54, 55, 56, 57]⟩ : ByteArray), ByteArray.empty, false⟩ : OpX)] : List OpX)).bind fun x10 => (appL 40 ([] : List OpX) p0.Then).bind fun x13 => (appL 40 (([] : List OpX) ++ p0.Then) ([(⟨(⟨#[97]⟩ : ByteArray), (⟨#[49, 50, 51, 52, 53, 54, 55, 56, 57]⟩ : ByteArray), false⟩ : OpX)] : List OpX)).bind fun x15 => (appL 40 ([] : List OpX) p0.Else).bind fun x18 => (appL 40 (([] : List OpX) ++ p0.Else) ([(⟨(⟨#[97]⟩ : ByteArray), ByteArray.empty, false⟩ : OpX), (⟨(⟨#[97]⟩ : ByteArray), ByteArray.empty, true⟩ : OpX)] : List OpX)).bind fun x20 => (appL 48 ([] : List Cmp) p0.Cmps).bind fun x24 => (appL 48 (([] : List Cmp) ++ p0.Cmps) ([(⟨3, (⟨#[97]⟩ : ByteArray), ByteArray.empty, 0⟩ : Cmp)] : List Cmp)).bind fun x26 => (F_txn_May (⟨(IntKind.i64.wrap (4 + (IntKind.i64.wrap p1))), p0.R, p0.Rev, p0.Cmps, p0.Then, p0.Else⟩ : TReq)).bind fun x29 => (if (x29 == 1) = true then ((F_txn_May (⟨p0.Kind, p0.R, p0.Rev, p0.Cmps, ((([] : List OpX) ++ p0.Then) ++ ([(⟨(⟨#[49, 50, 51, 52, 53, 54, 55, 56, 57]⟩ : ByteArray), ByteArray.empty, false⟩ : OpX)] : List OpX)), p0.Else⟩ : TReq)).bind fun x49 => some (x49 == 1)) else (some false) : Option (Bool)).bind fun s32 => (if s32 = true then ((F_txn_May (⟨p0.Kind, p0.R, p0.Rev, p0.Cmps, ((([] : List OpX) ++ p0.Then) ++ ([(⟨(⟨#[97]⟩ : ByteArray), (⟨#[49, 50, 51, 52, 53, 54, 55, 56, 57]⟩ : ByteArray), false⟩ : OpX)] : List OpX)), p0.Else⟩ : TReq)).bind fun x48 => some (x48 == 1)) else (some false) : Option (Bool)).bind fun s35 => (if s35 = true then ((F_txn_May (⟨p0.Kind, p0.R, p0.Rev, p0.Cmps, p0.Then, ((([] : List OpX) ++ p0.Else) ++ ([(⟨(⟨#[97]⟩ : ByteArray), ByteArray.empty, false⟩ : OpX), (⟨(⟨#[97]⟩ : ByteArray), ByteArray.empty, true⟩ : OpX)] : List OpX))⟩ : TReq)).bind fun x47 => some (x47 == 1)) else (some false) : Option (Bool)).bind fun s38 => (if s38 = true then ((F_txn_May (⟨p0.Kind, p0.R, p0.Rev, ((([] : List Cmp) ++ p0.Cmps) ++ ([(⟨3, (⟨#[97]⟩ : ByteArray), ByteArray.empty, 0⟩ : Cmp)] : List Cmp)), p0.Then, p0.Else⟩ : TReq)).bind fun x46 => some (x46 == 1)) else (some false) : Option (Bool)).bind fun s41 => (if s41 = true then ((F_txn_May (⟨p0.Kind, p0.R, p0.Rev, ([(⟨0, ByteArray.empty, ByteArray.empty, 0⟩ : Cmp), (⟨0, ByteArray.empty, ByteArray.empty, 0⟩ : Cmp), (⟨0, ByteArray.empty, ByteArray.empty, 0⟩ : Cmp), (⟨0, ByteArray.empty, ByteArray.empty, 0⟩ : Cmp), (⟨0, ByteArray.empty, ByteArray.empty, 0⟩ : Cmp)] : List Cmp), p0.Then, p0.Else⟩ : TReq)).bind fun x45 => some (x45 == 1)) else (some false) : Option (Bool)).bind fun s44 => some s44)
end Go.Proofs.Ytadfhabapgipbaa.V
