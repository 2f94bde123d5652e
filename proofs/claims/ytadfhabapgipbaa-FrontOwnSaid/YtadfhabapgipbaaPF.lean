/- Plain functions, as the program has them.
   No condition: these are laws of the clean machine and of this program. -/
import Derived.Test.YtadfhabapgipbaaP0
namespace Go.Proofs.Ytadfhabapgipbaa.V
open Go
set_option linter.unusedVariables false
set_option linter.unusedSimpArgs false
set_option maxRecDepth 100000
def F_cmp_isNaN (p0 : ByteArray) : Option (Bool) :=
  some (!eqB p0 p0)
def F_cmp_Compare (p0 : ByteArray) (p1 : ByteArray) : Option (Int) :=
  (F_cmp_isNaN p0).bind fun x1 => (F_cmp_isNaN p1).bind fun x2 => if x1 = true then (if x2 = true then (some 0) else (some (-1))) else (if x2 = true then (some 1) else (if (lessB p0 p1) = true then (some (-1)) else (if (!leB p0 p1) = true then (some 1) else (some 0))))
def F_txn_find_1 (p0 : KV) (p1 : ByteArray) : Option (Int) :=
  (F_cmp_Compare p0.key p1).bind fun x2 => some x2
def F_slices_BinarySearchFunc_txn_find_1_L1 (p0 : (List KV)) (p1 : ByteArray) : Nat → Int → Int → Option (Int)
  | 0, _, _ => none
  | m6 + 1, y6_0, y6_1 => if (decide (y6_0 < y6_1)) = true then ((getI p0 (IntKind.i64.wrap (shrI .u64 (IntKind.u64.wrap (IntKind.i64.wrap (y6_0 + y6_1))) 1))).bind fun x8 => (F_txn_find_1 x8 p1).bind fun x9 => if (decide (x9 < 0)) = true then (F_slices_BinarySearchFunc_txn_find_1_L1 p0 p1 m6 (IntKind.i64.wrap ((IntKind.i64.wrap (shrI .u64 (IntKind.u64.wrap (IntKind.i64.wrap (y6_0 + y6_1))) 1)) + 1)) y6_1) else (F_slices_BinarySearchFunc_txn_find_1_L1 p0 p1 m6 y6_0 (IntKind.i64.wrap (shrI .u64 (IntKind.u64.wrap (IntKind.i64.wrap (y6_0 + y6_1))) 1)))) else (some y6_0)
def F_slices_BinarySearchFunc_txn_find_1 (n : Nat) (p0 : (List KV)) (p1 : ByteArray) : Option (Int × Bool) :=
  (F_slices_BinarySearchFunc_txn_find_1_L1 p0 p1 n 0 (p0.length : Int) : Option (Int)).bind fun s1 => (if (decide (s1 < (p0.length : Int))) = true then ((getI p0 s1).bind fun x4 => (F_txn_find_1 x4 p1).bind fun x5 => some (x5 == 0)) else (some false) : Option (Bool)).bind fun s3 => some (s1, s3)
def F_txn_find (n : Nat) (p0 : (List KV)) (p1 : ByteArray) : Option (KV × Bool) :=
  (F_slices_BinarySearchFunc_txn_find_1 n p0 p1).bind fun x2 => if (!x2.2) = true then (some ((⟨ByteArray.empty, ByteArray.empty, 0⟩ : KV), false)) else ((getI p0 x2.1).bind fun x4 => some (x4, true))
def F_txn_Holds_1 (n : Nat) (p0 : Cmp) (p1 : (List KV)) : Option (Bool) :=
  (F_txn_find n p1 p0.key).bind fun x2 => if (p0.kind == 1) = true then (some (bif (!x2.2) then true else (!eqB x2.1.val p0.val))) else (if (bif (p0.kind == 2) then (p0.rev == 0) else false) = true then (some x2.2) else (if (p0.kind == 2) = true then (some (bif (!x2.2) then true else (x2.1.rev != p0.rev))) else (some true)))
def F_slices_IndexFunc_txn_Holds_1_L1 (n : Nat) (p1c0 : (List KV)) : (List Cmp) → Nat → Option (Lp (Unit) (Int))
  | [], _ => some (.go ())
  | z2 :: r2, i2 => (F_txn_Holds_1 n z2 p1c0).bind fun x6 => if x6 = true then (some (.out (i2 : Int))) else (F_slices_IndexFunc_txn_Holds_1_L1 n p1c0 r2 (i2 + 1))
def F_slices_IndexFunc_txn_Holds_1 (n : Nat) (p0 : (List Cmp)) (p1c0 : (List KV)) : Option (Int) :=
  (F_slices_IndexFunc_txn_Holds_1_L1 n p1c0 p0 0 : Option (Lp (Unit) (Int))).bind fun s1 => lpK s1 fun u1 => some (-1)
def F_slices_ContainsFunc_txn_Holds_1 (n : Nat) (p0 : (List Cmp)) (p1c0 : (List KV)) : Option (Bool) :=
  (F_slices_IndexFunc_txn_Holds_1 n p0 p1c0).bind fun x1 => some (decide (x1 ≥ 0))
def F_txn_Holds (n : Nat) (p0 : (List KV)) (p1 : (List Cmp)) : Option (Bool) :=
  (F_slices_ContainsFunc_txn_Holds_1 n p1 p0).bind fun x2 => some (!x2)
def F_txn_Plan_L1 (n : Nat) (p0 : (List KV)) : (List OpX) → Nat → (List OpX) → Option ((List OpX))
  | [], _, y7_0 => some y7_0
  | z7 :: r7, i7, y7_0 => (F_txn_find n p0 z7.key).bind fun x12 => if (bif x12.2 then true else (!z7.del)) = true then ((appL 40 y7_0 ([z7] : List OpX)).bind fun x16 => F_txn_Plan_L1 n p0 r7 (i7 + 1) (y7_0 ++ ([z7] : List OpX))) else (F_txn_Plan_L1 n p0 r7 (i7 + 1) y7_0)
def F_txn_Plan (n : Nat) (p0 : (List KV)) (p1 : TReq) : Option (Bool × (List OpX)) :=
  (F_txn_Holds n p0 p1.Cmps).bind fun x2 => (if x2 = true then (some p1.Then) else (some p1.Else) : Option ((List OpX))).bind fun s4 => (F_txn_Plan_L1 n p0 s4 0 ([] : List OpX) : Option ((List OpX))).bind fun s5 => some (x2, s5)
def F_ref06_Get_L1 (p1 : ByteArray) : (List KV) → Nat → Option (Lp (Unit) (KV × Bool))
  | [], _ => some (.go ())
  | z3 :: r3, i3 => if (eqB z3.key p1) = true then (some (.out (z3, true))) else (F_ref06_Get_L1 p1 r3 (i3 + 1))
def F_ref06_Get (p0 : (List KV)) (p1 : ByteArray) : Option (KV × Bool) :=
  (F_ref06_Get_L1 p1 p0 0 : Option (Lp (Unit) (KV × Bool))).bind fun s2 => lpK s2 fun u2 => some ((⟨ByteArray.empty, ByteArray.empty, 0⟩ : KV), false)
def F_ref07_Ops_L1 (p1 : (List OpX)) : (List OpX) → Nat → Option (Lp (Unit) (Bool))
  | [], _ => some (.go ())
  | z3 :: r3, i3 => (getI p1 (i3 : Int)).bind fun x7 => if (!(eq_OpX z3 x7)) = true then (some (.out false)) else (F_ref07_Ops_L1 p1 r3 (i3 + 1))
def F_ref07_Ops (p0 : (List OpX)) (p1 : (List OpX)) : Option (Bool) :=
  if ((p0.length : Int) != (p1.length : Int)) = true then (some false) else ((F_ref07_Ops_L1 p1 p0 0 : Option (Lp (Unit) (Bool))).bind fun s2 => lpK s2 fun u2 => some true)
def F_ref05_Map_L1 (p0 : (List KV)) : (List KV) → Nat → Option (Lp (Unit) (Bool))
  | [], _ => some (.go ())
  | z2 :: r2, i2 => (getI p0 (IntKind.i64.wrap ((i2 : Int) - 1))).bind fun x5 => if (!lessB x5.key z2.key) = true then (some (.out false)) else (F_ref05_Map_L1 p0 r2 (i2 + 1))
def F_ref05_Map (p0 : (List KV)) : Option (Bool) :=
  (F_ref05_Map_L1 p0 (List.drop 1 p0) 1 : Option (Lp (Unit) (Bool))).bind fun s1 => lpK s1 fun u1 => some true
def F_slices_Concat_L1 : (List (List OpX)) → Nat → (List OpX) → Option ((List OpX))
  | [], _, y5_0 => some y5_0
  | z5 :: r5, i5, y5_0 => (appL 40 y5_0 z5).bind fun x9 => F_slices_Concat_L1 r5 (i5 + 1) (y5_0 ++ z5)
def F_slices_Concat_L2 : (List (List OpX)) → Nat → Int → Option (Int)
  | [], _, y10_0 => some y10_0
  | z10 :: r10, i10, y10_0 => if (decide ((IntKind.i64.wrap (y10_0 + (z10.length : Int))) < 0)) = true then none else (F_slices_Concat_L2 r10 (i10 + 1) (IntKind.i64.wrap (y10_0 + (z10.length : Int))))
def F_slices_Concat (p0 : (List (List OpX))) : Option ((List OpX)) :=
  (F_slices_Concat_L2 p0 0 0 : Option (Int)).bind fun s1 => (growN 40 s1).bind fun x2 => (F_slices_Concat_L1 p0 0 ([] : List OpX) : Option ((List OpX))).bind fun s3 => some s3
def F_txn_once (p0 : (List ByteArray)) : Option ((List ByteArray)) :=
  (sortB p0).bind fun x1 => (compB x1).bind fun x2 => some x2
def F_txn_Keys_L1 : (List OpX) → Nat → (List ByteArray) → Option ((List ByteArray))
  | [], _, y8_0 => some y8_0
  | z8 :: r8, i8, y8_0 => (appL 16 y8_0 ([z8.key] : List ByteArray)).bind fun x14 => F_txn_Keys_L1 r8 (i8 + 1) (y8_0 ++ ([z8.key] : List ByteArray))
def F_txn_Keys_L2 : (List Cmp) → Nat → (List ByteArray) → Option ((List ByteArray))
  | [], _, y15_0 => some y15_0
  | z15 :: r15, i15, y15_0 => (appL 16 y15_0 ([z15.key] : List ByteArray)).bind fun x21 => F_txn_Keys_L2 r15 (i15 + 1) (y15_0 ++ ([z15.key] : List ByteArray))
def F_txn_Keys (p0 : TReq) : Option ((List ByteArray)) :=
  (F_txn_Keys_L2 p0.Cmps 0 ([] : List ByteArray) : Option ((List ByteArray))).bind fun s2 => (F_slices_Concat ([p0.Then, p0.Else] : List (List OpX))).bind fun x4 => (F_txn_Keys_L1 x4 0 s2 : Option ((List ByteArray))).bind fun s6 => (F_txn_once s6).bind fun x7 => some x7
def F_law07_few (p0 : TReq) : Option (Bool) :=
  some (bif (bif (decide ((p0.Cmps.length : Int) ≤ 20)) then (decide ((p0.Then.length : Int) ≤ 20)) else false) then (decide ((p0.Else.length : Int) ≤ 20)) else false)
def F_law07_TxnOwn_L1 (p0 : (List KV)) (x7 : (List ByteArray)) : (List ByteArray) → Nat → (List KV) → Option (Lp ((List KV)) (Bool))
  | [], _, y15_0 => some (.go y15_0)
  | z15 :: r15, i15, y15_0 => (F_ref06_Get p0 z15).bind fun x19 => (if (decide ((i15 : Int) > 0)) = true then ((getI x7 (IntKind.i64.wrap ((i15 : Int) - 1))).bind fun x28 => some (true, (!lessB x28 z15))) else (some (false, false)) : Option (Bool × Bool)).bind fun s22 => if s22.2 = true then (some (.out false)) else ((if x19.2 = true then ((appL 40 y15_0 ([x19.1] : List KV)).bind fun x27 => some (y15_0 ++ ([x19.1] : List KV))) else (some y15_0) : Option ((List KV))).bind fun s25 => F_law07_TxnOwn_L1 p0 x7 r15 (i15 + 1) s25)
def F_law07_TxnOwn (n : Nat) (p0 : (List KV)) (p1 : TReq) : Option (Bool) :=
  (F_law07_few p1).bind fun x3 => (if (bif (!x3) then true else (decide ((p0.length : Int) > 60))) = true then (some true) else ((F_ref05_Map p0).bind fun x30 => some (!x30)) : Option (Bool)).bind fun s5 => if s5 = true then (some true) else ((F_txn_Keys p1).bind fun x7 => (F_law07_TxnOwn_L1 p0 x7 x7 0 ([] : List KV) : Option (Lp ((List KV)) (Bool))).bind fun s8 => lpK s8 fun u8 => (F_txn_Plan n p0 p1).bind fun x9 => (F_txn_Plan n u8 p1).bind fun x10 => (if (x9.1 == x10.1) = true then ((F_ref07_Ops x9.2 x10.2).bind fun x14 => some x14) else (some false) : Option (Bool)).bind fun s13 => some s13)
def F_law13_few (p0 : TReq) : Option (Bool) :=
  some (bif (bif (decide ((p0.Cmps.length : Int) ≤ 20)) then (decide ((p0.Then.length : Int) ≤ 20)) else false) then (decide ((p0.Else.length : Int) ≤ 20)) else false)
def F_front_rows_L1 (p0 : Int) : (List OpX) → Nat → (List Evt) → Option ((List Evt))
  | [], _, y3_0 => some y3_0
  | z3 :: r3, i3, y3_0 => (if z3.del = true then (some ByteArray.empty) else (some z3.val) : Option (ByteArray)).bind fun s10 => (appL 48 y3_0 ([(⟨p0, z3.key, s10, z3.del⟩ : Evt)] : List Evt)).bind fun x12 => F_front_rows_L1 p0 r3 (i3 + 1) (y3_0 ++ ([(⟨p0, z3.key, s10, z3.del⟩ : Evt)] : List Evt))
def F_front_rows (p0 : Int) (p1 : (List OpX)) : Option ((List Evt)) :=
  (F_front_rows_L1 p0 p1 0 ([] : List Evt) : Option ((List Evt))).bind fun s1 => some s1
def F_front_Decide (n : Nat) (p0 : TReq) (p1 : (List KV)) (p2 : THead) : Option (Tfront_Plan) :=
  if (p0.Kind == 3) = true then (if (decide (p0.Rev > p2.Rev)) = true then (some (⟨false, ([] : List Evt), 6, 0⟩ : Tfront_Plan)) else (some (⟨false, ([] : List Evt), 0, p0.Rev⟩ : Tfront_Plan))) else (if (p0.Kind == 1) = true then ((F_txn_Plan n p1 p0).bind fun x7 => (if ((x7.2.length : Int) == 0) = true then (some (.go ())) else (if (decide (p2.Rev ≥ 1000)) = true then (some (.out (⟨false, ([] : List Evt), 9, 0⟩ : Tfront_Plan))) else (if (decide ((IntKind.i64.wrap ((IntKind.i64.wrap (p2.Rev + 1)) - p2.Hor)) > 16)) = true then (some (.out (⟨false, ([] : List Evt), 3, 0⟩ : Tfront_Plan))) else (some (.go ())))) : Option (Lp (Unit) (Tfront_Plan))).bind fun s9 => lpK s9 fun u9 => (F_front_rows (IntKind.i64.wrap (p2.Rev + 1)) x7.2).bind fun x10 => some (⟨x7.1, x10, 0, 0⟩ : Tfront_Plan)) else (some (⟨false, ([] : List Evt), 0, 0⟩ : Tfront_Plan)))
def F_law13_told (p0 : Tfront_Plan) : Option (Timpostref13_Plan) :=
  some (⟨p0.Ok, p0.Rows, p0.Err, p0.Hor⟩ : Timpostref13_Plan)
def F_ref05_Events_L1 (p1 : (List Evt)) : (List Evt) → Nat → Option (Lp (Unit) (Bool))
  | [], _ => some (.go ())
  | z3 :: r3, i3 => (getI p1 (i3 : Int)).bind fun x7 => if (!(eq_Evt z3 x7)) = true then (some (.out false)) else (F_ref05_Events_L1 p1 r3 (i3 + 1))
def F_ref05_Events (p0 : (List Evt)) (p1 : (List Evt)) : Option (Bool) :=
  if ((p0.length : Int) != (p1.length : Int)) = true then (some false) else ((F_ref05_Events_L1 p1 p0 0 : Option (Lp (Unit) (Bool))).bind fun s2 => lpK s2 fun u2 => some true)
def F_law13_plans (p0 : Timpostref13_Plan) (p1 : Timpostref13_Plan) : Option (Bool) :=
  (if (bif (bif (p0.Ok == p1.Ok) then (p0.Err == p1.Err) else false) then (p0.Hor == p1.Hor) else false) = true then ((F_ref05_Events p0.Rows p1.Rows).bind fun x5 => some x5) else (some false) : Option (Bool)).bind fun s4 => some s4
def F_law13_FrontOwn_L2 (z16 : KV) : (List ByteArray) → Nat → Bool → Option (Bool × Int × Int)
  | [], i25, y25_0 => some (y25_0, (i25 : Int), (i25 : Int))
  | z25 :: r25, i25, y25_0 => (if y25_0 = true then (some (true, true)) else (some (false, (eqB z25 z16.key))) : Option (Bool × Bool)).bind fun s29 => F_law13_FrontOwn_L2 z16 r25 (i25 + 1) s29.2
def F_law13_FrontOwn_L1 (x8 : (List ByteArray)) : (List KV) → Nat → (List KV) → Option ((List KV))
  | [], _, y16_0 => some y16_0
  | z16 :: r16, i16, y16_0 => (F_law13_FrontOwn_L2 z16 x8 0 false : Option (Bool × Int × Int)).bind fun s19 => (if s19.1 = true then ((appL 40 y16_0 ([z16] : List KV)).bind fun x24 => some (y16_0 ++ ([z16] : List KV))) else (some y16_0) : Option ((List KV))).bind fun s21 => F_law13_FrontOwn_L1 x8 r16 (i16 + 1) s21
def F_law13_FrontOwn (n : Nat) (p0 : TReq) (p1 : (List KV)) (p2 : THead) : Option (Bool) :=
  (F_law13_few p0).bind fun x4 => (if (bif (!x4) then true else (decide ((p1.length : Int) > 60))) = true then (some true) else ((F_ref05_Map p1).bind fun x32 => some (!x32)) : Option (Bool)).bind fun s6 => if (bif (bif (bif s6 then true else (decide (p2.Rev > 1099511627776))) then true else (decide (p2.Hor > 1099511627776))) then true else (decide (p2.Hor < (-1099511627776)))) = true then (some true) else ((F_txn_Keys p0).bind fun x8 => (F_law13_FrontOwn_L1 x8 p1 0 ([] : List KV) : Option ((List KV))).bind fun s9 => (F_front_Decide n p0 p1 p2).bind fun x10 => (F_law13_told x10).bind fun x11 => (F_front_Decide n p0 s9 p2).bind fun x12 => (F_law13_told x12).bind fun x14 => (F_law13_plans x11 x14).bind fun x15 => some x15)
end Go.Proofs.Ytadfhabapgipbaa.V
