/- Plain functions, as the program has them.
   No condition: these are laws of the clean machine and of this program. -/
import Derived.Test.YtpfdandpmpmbiaaP0
namespace Go.Proofs.Ytpfdandpmpmbiaa.V
open Go
set_option linter.unusedVariables false
set_option linter.unusedSimpArgs false
set_option maxRecDepth 100000
def F_ref05_Events_L1 (p1 : (List TEvent)) : (List TEvent) → Nat → Option (Lp (Unit) (Bool))
  | [], _ => some (.go ())
  | z3 :: r3, i3 => (getI p1 (i3 : Int)).bind fun x7 => if (!(eq_TEvent z3 x7)) = true then (some (.out false)) else (F_ref05_Events_L1 p1 r3 (i3 + 1))
def F_ref05_Events (p0 : (List TEvent)) (p1 : (List TEvent)) : Option (Bool) :=
  if ((p0.length : Int) != (p1.length : Int)) = true then (some false) else ((F_ref05_Events_L1 p1 p0 0 : Option (Lp (Unit) (Bool))).bind fun s2 => lpK s2 fun u2 => some true)
def F_ref05_KVs_L1 (p1 : (List TKV)) : (List TKV) → Nat → Option (Lp (Unit) (Bool))
  | [], _ => some (.go ())
  | z3 :: r3, i3 => (getI p1 (i3 : Int)).bind fun x7 => if (!(eq_TKV z3 x7)) = true then (some (.out false)) else (F_ref05_KVs_L1 p1 r3 (i3 + 1))
def F_ref05_KVs (p0 : (List TKV)) (p1 : (List TKV)) : Option (Bool) :=
  if ((p0.length : Int) != (p1.length : Int)) = true then (some false) else ((F_ref05_KVs_L1 p1 p0 0 : Option (Lp (Unit) (Bool))).bind fun s2 => lpK s2 fun u2 => some true)
def F_ref06_Get_L1 (p1 : ByteArray) : (List TKV) → Nat → Option (Lp (Unit) (TKV × Bool))
  | [], _ => some (.go ())
  | z3 :: r3, i3 => if (eqB z3.Key p1) = true then (some (.out (z3, true))) else (F_ref06_Get_L1 p1 r3 (i3 + 1))
def F_ref06_Get (p0 : (List TKV)) (p1 : ByteArray) : Option (TKV × Bool) :=
  (F_ref06_Get_L1 p1 p0 0 : Option (Lp (Unit) (TKV × Bool))).bind fun s2 => lpK s2 fun u2 => some ((⟨ByteArray.empty, ByteArray.empty, 0⟩ : TKV), false)
def F_ref08_Same (p0 : TResp) (p1 : TResp) : Option (Bool) :=
  (if (bif (bif (eq_THead p0.H p1.H) then (p0.Err == p1.Err) else false) then (p0.Ok == p1.Ok) else false) = true then ((F_ref05_KVs p0.L p1.L).bind fun x5 => some x5) else (some false) : Option (Bool)).bind fun s4 => some s4
def F_ref05_One_L1 (p0 : (List TKV)) (p1 : TEvent) : Nat → (List TKV) → Int → Option ((List TKV))
  | 0, _, _ => none
  | m7 + 1, y7_0, y7_1 => if (decide (y7_1 < (p0.length : Int))) = true then ((getI p0 y7_1).bind fun x9 => (if (!eqB x9.Key p1.Key) = true then ((getI p0 y7_1).bind fun x12 => (appL 40 y7_0 ([x12] : List TKV)).bind fun x14 => some (y7_0 ++ ([x12] : List TKV))) else (some y7_0) : Option ((List TKV))).bind fun s11 => F_ref05_One_L1 p0 p1 m7 s11 (IntKind.i64.wrap (y7_1 + 1))) else (some y7_0)
def F_ref05_One_L2 (p1 : TEvent) : (List TKV) → Nat → (List TKV) → Option ((List TKV) × Int)
  | [], i17, y17_0 => some (y17_0, (i17 : Int))
  | z17 :: r17, i17, y17_0 => if (lessB z17.Key p1.Key) = true then ((appL 40 y17_0 ([z17] : List TKV)).bind fun x23 => F_ref05_One_L2 p1 r17 (i17 + 1) (y17_0 ++ ([z17] : List TKV))) else (some (y17_0, (i17 : Int)))
def F_ref05_One (n : Nat) (p0 : (List TKV)) (p1 : TEvent) : Option ((List TKV)) :=
  (F_ref05_One_L2 p1 p0 0 ([] : List TKV) : Option ((List TKV) × Int)).bind fun s2 => (if (!p1.Del) = true then ((appL 40 s2.1 ([(⟨p1.Key, p1.Val, p1.Rev⟩ : TKV)] : List TKV)).bind fun x16 => some (s2.1 ++ ([(⟨p1.Key, p1.Val, p1.Rev⟩ : TKV)] : List TKV))) else (some s2.1) : Option ((List TKV))).bind fun s4 => (F_ref05_One_L1 p0 p1 n s4 s2.2 : Option ((List TKV))).bind fun s5 => some s5
def F_ref05_Fold_L1 (n : Nat) : (List TEvent) → Nat → (List TKV) → Option ((List TKV))
  | [], _, y2_0 => some y2_0
  | z2 :: r2, i2, y2_0 => (F_ref05_One n y2_0 z2).bind fun x6 => F_ref05_Fold_L1 n r2 (i2 + 1) x6
def F_ref05_Fold (n : Nat) (p0 : (List TKV)) (p1 : (List TEvent)) : Option ((List TKV)) :=
  (F_ref05_Fold_L1 n p1 0 p0 : Option ((List TKV))).bind fun s1 => some s1
def F_ref06_Map_L1 (n : Nat) (p1 : Int) : (List (List TEvent)) → Nat → (List TKV) → Option ((List TKV))
  | [], _, y3_0 => some y3_0
  | z3 :: r3, i3, y3_0 => if (bif (decide ((i3 : Int) < p1)) then true else false) = true then ((F_ref05_Fold n y3_0 z3).bind fun x7 => F_ref06_Map_L1 n p1 r3 (i3 + 1) x7) else (some y3_0)
def F_ref06_Map (n : Nat) (p0 : Timpostref06_Hist) (p1 : Int) : Option ((List TKV)) :=
  (F_ref06_Map_L1 n p1 p0.Rows 0 ([] : List TKV) : Option ((List TKV))).bind fun s2 => some s2
def F_ref06_Count_L2 (p1 : (List TOp)) (z3 : TOp) : Nat → Bool → Int → Option (Bool × Int × Int × Bool)
  | 0, _, _ => none
  | m20 + 1, y20_0, y20_1 => if (decide (y20_1 < (p1.length : Int))) = true then ((if y20_0 = true then ((getI p1 y20_1).bind fun x24 => some (true, (!eqB x24.Key z3.Key))) else (some (false, false)) : Option (Bool × Bool)).bind fun s23 => F_ref06_Count_L2 p1 z3 m20 s23.2 (IntKind.i64.wrap (y20_1 + 1))) else (some (y20_0, y20_1, y20_1, (decide (y20_1 < (p1.length : Int)))))
def F_ref06_Count_L1 (n : Nat) (p0 : (List TKV)) (p1 : (List TOp)) : (List TOp) → Nat → (List TOp) → Option ((List TOp))
  | [], _, y3_0 => some y3_0
  | z3 :: r3, i3, y3_0 => (F_ref06_Count_L2 p1 z3 n true (IntKind.i64.wrap ((i3 : Int) + 1)) : Option (Bool × Int × Int × Bool)).bind fun s6 => (F_ref06_Get p0 z3.Key).bind fun x8 => (if s6.1 = true then ((if x8.2 = true then (some (true, true)) else (some (false, (!z3.Del))) : Option (Bool × Bool)).bind fun s18 => some (true, s18.2)) else (some (false, false)) : Option (Bool × Bool)).bind fun s11 => (if s11.2 = true then ((appL 40 y3_0 ([z3] : List TOp)).bind fun x16 => some (y3_0 ++ ([z3] : List TOp))) else (some y3_0) : Option ((List TOp))).bind fun s13 => F_ref06_Count_L1 n p0 p1 r3 (i3 + 1) s13
def F_ref06_Count (n : Nat) (p0 : (List TKV)) (p1 : (List TOp)) : Option ((List TOp)) :=
  (F_ref06_Count_L1 n p0 p1 p1 0 ([] : List TOp) : Option ((List TOp))).bind fun s1 => some s1
def F_ref06_Apply_L1 (p0 : Timpostref06_Hist) : (List TOp) → Nat → (List TEvent) → Option ((List TEvent))
  | [], _, y13_0 => some y13_0
  | z13 :: r13, i13, y13_0 => (if (!z13.Del) = true then (some z13.Val) else (some ByteArray.empty) : Option (ByteArray)).bind fun s20 => (appL 48 y13_0 ([(⟨(IntKind.i64.wrap ((p0.Rows.length : Int) + 1)), z13.Key, s20, z13.Del⟩ : TEvent)] : List TEvent)).bind fun x22 => F_ref06_Apply_L1 p0 r13 (i13 + 1) (y13_0 ++ ([(⟨(IntKind.i64.wrap ((p0.Rows.length : Int) + 1)), z13.Key, s20, z13.Del⟩ : TEvent)] : List TEvent))
def F_ref06_Apply (n : Nat) (p0 : Timpostref06_Hist) (p1 : (List TOp)) : Option (Timpostref06_Hist × (List TEvent)) :=
  (F_ref06_Map n p0 (p0.Rows.length : Int)).bind fun x3 => (F_ref06_Count n x3 p1).bind fun x4 => if ((x4.length : Int) == 0) = true then (some (p0, ([] : List TEvent))) else ((F_ref06_Apply_L1 p0 x4 0 ([] : List TEvent) : Option ((List TEvent))).bind fun s6 => (appL 24 ([] : List (List TEvent)) p0.Rows).bind fun x8 => (appL 24 (([] : List (List TEvent)) ++ p0.Rows) ([s6] : List (List TEvent))).bind fun x10 => some ((⟨((([] : List (List TEvent)) ++ p0.Rows) ++ ([s6] : List (List TEvent))), p0.Hor⟩ : Timpostref06_Hist), s6))
def F_ref06_Compact (p0 : Timpostref06_Hist) (p1 : Int) : Option (Timpostref06_Hist × Int) :=
  if (decide (p1 < 0)) = true then (some (p0, 1)) else (if (decide (p1 > (p0.Rows.length : Int))) = true then (some (p0, 6)) else (some ((⟨p0.Rows, (if p1 > p0.Hor then p1 else p0.Hor)⟩ : Timpostref06_Hist), 0)))
def F_cmp_isNaN (p0 : ByteArray) : Option (Bool) :=
  some (!eqB p0 p0)
def F_cmp_Compare (p0 : ByteArray) (p1 : ByteArray) : Option (Int) :=
  (F_cmp_isNaN p0).bind fun x1 => (F_cmp_isNaN p1).bind fun x2 => if x1 = true then (if x2 = true then (some 0) else (some (-1))) else (if x2 = true then (some 1) else (if (lessB p0 p1) = true then (some (-1)) else (if (!leB p0 p1) = true then (some 1) else (some 0))))
def F_key_May (p0 : ByteArray) : Option (Bool) :=
  some (bif (!eqB p0 ByteArray.empty) then (decide ((p0.size : Int) ≤ 8)) else false)
def F_key_Empty (p0 : TRange) : Option (Bool) :=
  some (bif (!eqB p0.To ByteArray.empty) then (eq_TRange p0 (⟨(maxS p0.From p0.To), p0.To⟩ : TRange)) else false)
def F_internal_stringslite_HasSuffix (p0 : ByteArray) (p1 : ByteArray) : Option (Bool) :=
  (if (decide ((p0.size : Int) ≥ (p1.size : Int))) = true then ((subS p0 (IntKind.i64.wrap ((p0.size : Int) - (p1.size : Int))) (p0.size : Int)).bind fun x3 => some (eqB x3 p1)) else (some false) : Option (Bool)).bind fun s2 => some s2
def F_internal_stringslite_TrimSuffix (p0 : ByteArray) (p1 : ByteArray) : Option (ByteArray) :=
  (F_internal_stringslite_HasSuffix p0 p1).bind fun x1 => if x1 = true then ((subS p0 0 (IntKind.i64.wrap ((p0.size : Int) - (p1.size : Int)))).bind fun x3 => some x3) else (some p0)
def F_strings_TrimSuffix (p0 : ByteArray) (p1 : ByteArray) : Option (ByteArray) :=
  (F_internal_stringslite_TrimSuffix p0 p1).bind fun x1 => some x1
def F_key_MayRange (p0 : TRange) : Option (Bool) :=
  (F_key_Empty p0).bind fun x2 => (if (bif (!x2) then (decide ((p0.From.size : Int) ≤ 8)) else false) = true then ((F_strings_TrimSuffix p0.To (⟨#[0]⟩ : ByteArray)).bind fun x5 => some (decide ((x5.size : Int) ≤ 8))) else (some false) : Option (Bool)).bind fun s4 => some s4
def F_key_In (p0 : TRange) (p1 : ByteArray) : Option (Bool) :=
  some (bif (leB p0.From p1) then (bif (eqB p0.To ByteArray.empty) then true else (lessB p1 p0.To)) else false)
def F_event_Fold_1 (p0 : TKV) (p1 : ByteArray) : Option (Int) :=
  (F_cmp_Compare p0.Key p1).bind fun x2 => some x2
def F_slices_BinarySearchFunc_event_Fold_1_L1 (p0 : (List TKV)) (p1 : ByteArray) : Nat → Int → Int → Option (Int)
  | 0, _, _ => none
  | m6 + 1, y6_0, y6_1 => if (decide (y6_0 < y6_1)) = true then ((getI p0 (IntKind.i64.wrap (shrI .u64 (IntKind.u64.wrap (IntKind.i64.wrap (y6_0 + y6_1))) 1))).bind fun x8 => (F_event_Fold_1 x8 p1).bind fun x9 => if (decide (x9 < 0)) = true then (F_slices_BinarySearchFunc_event_Fold_1_L1 p0 p1 m6 (IntKind.i64.wrap ((IntKind.i64.wrap (shrI .u64 (IntKind.u64.wrap (IntKind.i64.wrap (y6_0 + y6_1))) 1)) + 1)) y6_1) else (F_slices_BinarySearchFunc_event_Fold_1_L1 p0 p1 m6 y6_0 (IntKind.i64.wrap (shrI .u64 (IntKind.u64.wrap (IntKind.i64.wrap (y6_0 + y6_1))) 1)))) else (some y6_0)
def F_slices_BinarySearchFunc_event_Fold_1 (n : Nat) (p0 : (List TKV)) (p1 : ByteArray) : Option (Int × Bool) :=
  (F_slices_BinarySearchFunc_event_Fold_1_L1 p0 p1 n 0 (p0.length : Int) : Option (Int)).bind fun s1 => (if (decide (s1 < (p0.length : Int))) = true then ((getI p0 s1).bind fun x4 => (F_event_Fold_1 x4 p1).bind fun x5 => some (x5 == 0)) else (some false) : Option (Bool)).bind fun s3 => some (s1, s3)
def F_event_Fold_L1 (n : Nat) : (List TEvent) → Nat → (List TKV) → Option ((List TKV))
  | [], _, y4_0 => some y4_0
  | z4 :: r4, i4, y4_0 => (F_slices_BinarySearchFunc_event_Fold_1 n y4_0 z4.Key).bind fun x9 => (if x9.2 = true then ((delL y4_0 x9.1 (IntKind.i64.wrap (x9.1 + 1))).bind fun x15 => some x15) else (some y4_0) : Option ((List TKV))).bind fun s11 => if (!z4.Del) = true then ((insL 40 s11 x9.1 (⟨z4.Key, z4.Val, z4.Rev⟩ : TKV)).bind fun x14 => F_event_Fold_L1 n r4 (i4 + 1) x14) else (F_event_Fold_L1 n r4 (i4 + 1) s11)
def F_event_Fold (n : Nat) (p0 : (List TKV)) (p1 : (List TEvent)) : Option ((List TKV)) :=
  (cloneL 40 p0).bind fun x1 => (F_event_Fold_L1 n p1 0 x1 : Option ((List TKV))).bind fun s2 => some s2
def F_txn_find_1 (p0 : TKV) (p1 : ByteArray) : Option (Int) :=
  (F_cmp_Compare p0.Key p1).bind fun x2 => some x2
def F_slices_BinarySearchFunc_txn_find_1_L1 (p0 : (List TKV)) (p1 : ByteArray) : Nat → Int → Int → Option (Int)
  | 0, _, _ => none
  | m6 + 1, y6_0, y6_1 => if (decide (y6_0 < y6_1)) = true then ((getI p0 (IntKind.i64.wrap (shrI .u64 (IntKind.u64.wrap (IntKind.i64.wrap (y6_0 + y6_1))) 1))).bind fun x8 => (F_txn_find_1 x8 p1).bind fun x9 => if (decide (x9 < 0)) = true then (F_slices_BinarySearchFunc_txn_find_1_L1 p0 p1 m6 (IntKind.i64.wrap ((IntKind.i64.wrap (shrI .u64 (IntKind.u64.wrap (IntKind.i64.wrap (y6_0 + y6_1))) 1)) + 1)) y6_1) else (F_slices_BinarySearchFunc_txn_find_1_L1 p0 p1 m6 y6_0 (IntKind.i64.wrap (shrI .u64 (IntKind.u64.wrap (IntKind.i64.wrap (y6_0 + y6_1))) 1)))) else (some y6_0)
def F_slices_BinarySearchFunc_txn_find_1 (n : Nat) (p0 : (List TKV)) (p1 : ByteArray) : Option (Int × Bool) :=
  (F_slices_BinarySearchFunc_txn_find_1_L1 p0 p1 n 0 (p0.length : Int) : Option (Int)).bind fun s1 => (if (decide (s1 < (p0.length : Int))) = true then ((getI p0 s1).bind fun x4 => (F_txn_find_1 x4 p1).bind fun x5 => some (x5 == 0)) else (some false) : Option (Bool)).bind fun s3 => some (s1, s3)
def F_txn_find (n : Nat) (p0 : (List TKV)) (p1 : ByteArray) : Option (TKV × Bool) :=
  (F_slices_BinarySearchFunc_txn_find_1 n p0 p1).bind fun x2 => if (!x2.2) = true then (some ((⟨ByteArray.empty, ByteArray.empty, 0⟩ : TKV), false)) else ((getI p0 x2.1).bind fun x4 => some (x4, true))
def F_txn_Holds_1 (n : Nat) (p0 : TCmp) (p1 : (List TKV)) : Option (Bool) :=
  (F_txn_find n p1 p0.Key).bind fun x2 => if (p0.Kind == 1) = true then (some (bif (!x2.2) then true else (!eqB x2.1.Val p0.Val))) else (if (bif (p0.Kind == 2) then (p0.Rev == 0) else false) = true then (some x2.2) else (if (p0.Kind == 2) = true then (some (bif (!x2.2) then true else (x2.1.Rev != p0.Rev))) else (some true)))
def F_slices_IndexFunc_111_txn_Holds_1_L1 (n : Nat) (p1c0 : (List TKV)) : (List TCmp) → Nat → Option (Lp (Unit) (Int))
  | [], _ => some (.go ())
  | z2 :: r2, i2 => (F_txn_Holds_1 n z2 p1c0).bind fun x6 => if x6 = true then (some (.out (i2 : Int))) else (F_slices_IndexFunc_111_txn_Holds_1_L1 n p1c0 r2 (i2 + 1))
def F_slices_IndexFunc_111_txn_Holds_1 (n : Nat) (p0 : (List TCmp)) (p1c0 : (List TKV)) : Option (Int) :=
  (F_slices_IndexFunc_111_txn_Holds_1_L1 n p1c0 p0 0 : Option (Lp (Unit) (Int))).bind fun s1 => lpK s1 fun u1 => some (-1)
def F_slices_ContainsFunc_96_txn_Holds_1 (n : Nat) (p0 : (List TCmp)) (p1c0 : (List TKV)) : Option (Bool) :=
  (F_slices_IndexFunc_111_txn_Holds_1 n p0 p1c0).bind fun x1 => some (decide (x1 ≥ 0))
def F_txn_Holds (n : Nat) (p0 : (List TKV)) (p1 : (List TCmp)) : Option (Bool) :=
  (F_slices_ContainsFunc_96_txn_Holds_1 n p1 p0).bind fun x2 => some (!x2)
def F_txn_Plan_L1 (n : Nat) (p0 : (List TKV)) : (List TOp) → Nat → (List TOp) → Option ((List TOp))
  | [], _, y7_0 => some y7_0
  | z7 :: r7, i7, y7_0 => (F_txn_find n p0 z7.Key).bind fun x12 => if (bif x12.2 then true else (!z7.Del)) = true then ((appL 40 y7_0 ([z7] : List TOp)).bind fun x16 => F_txn_Plan_L1 n p0 r7 (i7 + 1) (y7_0 ++ ([z7] : List TOp))) else (F_txn_Plan_L1 n p0 r7 (i7 + 1) y7_0)
def F_txn_Plan (n : Nat) (p0 : (List TKV)) (p1 : TReq) : Option (Bool × (List TOp)) :=
  (F_txn_Holds n p0 p1.Cmps).bind fun x2 => (if x2 = true then (some p1.Then) else (some p1.Else) : Option ((List TOp))).bind fun s4 => (F_txn_Plan_L1 n p0 s4 0 ([] : List TOp) : Option ((List TOp))).bind fun s5 => some (x2, s5)
def F_txn_compares_1 (p0 : TCmp) : Option (Bool) :=
  (F_key_May p0.Key).bind fun x2 => some (bif (bif (bif (!x2) then true else (bif (p0.Kind != 1) then (p0.Kind != 2) else false)) then true else (decide ((p0.Val.size : Int) > 8))) then true else (decide (p0.Rev < 0)))
def F_slices_IndexFunc_111_txn_compares_1_L1 : (List TCmp) → Nat → Option (Lp (Unit) (Int))
  | [], _ => some (.go ())
  | z2 :: r2, i2 => (F_txn_compares_1 z2).bind fun x6 => if x6 = true then (some (.out (i2 : Int))) else (F_slices_IndexFunc_111_txn_compares_1_L1 r2 (i2 + 1))
def F_slices_IndexFunc_111_txn_compares_1 (p0 : (List TCmp)) : Option (Int) :=
  (F_slices_IndexFunc_111_txn_compares_1_L1 p0 0 : Option (Lp (Unit) (Int))).bind fun s1 => lpK s1 fun u1 => some (-1)
def F_slices_ContainsFunc_96_txn_compares_1 (p0 : (List TCmp)) : Option (Bool) :=
  (F_slices_IndexFunc_111_txn_compares_1 p0).bind fun x1 => some (decide (x1 ≥ 0))
def F_txn_compares (p0 : (List TCmp)) : Option (Bool) :=
  (if (decide ((p0.length : Int) ≤ 4)) = true then ((F_slices_ContainsFunc_96_txn_compares_1 p0).bind fun x3 => some (!x3)) else (some false) : Option (Bool)).bind fun s2 => some s2
def F_txn_ops_L1 : (List TOp) → Nat → (List (ByteArray × Bool)) → Option (Lp ((List (ByteArray × Bool))) (Bool))
  | [], _, y3_0 => some (.go y3_0)
  | z3 :: r3, i3, y3_0 => (F_key_May z3.Key).bind fun x8 => (if (bif (bif (!x8) then true else (decide ((z3.Val.size : Int) > 8))) then true else (bif z3.Del then (!eqB z3.Val ByteArray.empty) else false)) = true then (some (true, true)) else (some (false, ((mget y3_0 z3.Key).getD false))) : Option (Bool × Bool)).bind fun s10 => if s10.2 = true then (some (.out false)) else (F_txn_ops_L1 r3 (i3 + 1) (mset y3_0 z3.Key true))
def F_txn_ops (p0 : (List TOp)) : Option (Bool) :=
  (F_txn_ops_L1 p0 0 ([] : (List (ByteArray × Bool))) : Option (Lp ((List (ByteArray × Bool))) (Bool))).bind fun s2 => lpK s2 fun u2 => some (decide ((p0.length : Int) ≤ 4))
def F_txn_May (p0 : TReq) : Option (Int) :=
  (if (p0.Kind == 1) = true then ((F_txn_compares p0.Cmps).bind fun x5 => (if x5 = true then ((F_txn_ops p0.Then).bind fun x11 => some x11) else (some false) : Option (Bool)).bind fun s7 => (if s7 = true then ((F_txn_ops p0.Else).bind fun x10 => some x10) else (some false) : Option (Bool)).bind fun s9 => some s9) else ((if (p0.Kind == 2) = true then ((F_key_MayRange p0.R).bind fun x14 => some (bif x14 then (decide (p0.Rev ≥ 0)) else false)) else ((if (p0.Kind == 3) = true then (some (decide (p0.Rev ≥ 0))) else (some false) : Option (Bool)).bind fun s16 => some s16) : Option (Bool)).bind fun s13 => some s13) : Option (Bool)).bind fun s3 => if (!s3) = true then (some 1) else (some 0)
def F_txn_Put (p0 : ByteArray) (p1 : ByteArray) : Option (TReq) :=
  some (⟨1, (⟨ByteArray.empty, ByteArray.empty⟩ : TRange), 0, ([] : List TCmp), ([(⟨p0, p1, false⟩ : TOp)] : List TOp), ([] : List TOp)⟩ : TReq)
def F_txn_Swap (p0 : ByteArray) (p1 : ByteArray) (p2 : ByteArray) : Option (TReq) :=
  (F_txn_Put p0 p2).bind fun x2 => some (⟨x2.Kind, x2.R, x2.Rev, ([(⟨1, p0, p1, 0⟩ : TCmp)] : List TCmp), x2.Then, x2.Else⟩ : TReq)
def F_hist_New  : Option (Ohist_Hist) :=
  some (⟨0, 0, ([] : (List (ByteArray × (List TEvent)))), ([] : List (List TEvent))⟩ : Ohist_Hist)
def F_hist_Hist_Apply_1 (p0 : TOp) (p1 : TOp) : Option (Bool) :=
  some (eqB p0.Key p1.Key)
def F_slices_IndexFunc_hist_Hist_Apply_1_L1 (p1c0 : TOp) : (List TOp) → Nat → Option (Lp (Unit) (Int))
  | [], _ => some (.go ())
  | z2 :: r2, i2 => (F_hist_Hist_Apply_1 z2 p1c0).bind fun x6 => if x6 = true then (some (.out (i2 : Int))) else (F_slices_IndexFunc_hist_Hist_Apply_1_L1 p1c0 r2 (i2 + 1))
def F_slices_IndexFunc_hist_Hist_Apply_1 (p0 : (List TOp)) (p1c0 : TOp) : Option (Int) :=
  (F_slices_IndexFunc_hist_Hist_Apply_1_L1 p1c0 p0 0 : Option (Lp (Unit) (Int))).bind fun s1 => lpK s1 fun u1 => some (-1)
def F_slices_ContainsFunc_hist_Hist_Apply_1 (p0 : (List TOp)) (p1c0 : TOp) : Option (Bool) :=
  (F_slices_IndexFunc_hist_Hist_Apply_1 p0 p1c0).bind fun x1 => some (decide (x1 ≥ 0))
def F_hist_Hist_Apply_L1 : (List TEvent) → Nat → (List (ByteArray × (List TEvent))) → Option ((List (ByteArray × (List TEvent))))
  | [], _, y10_0 => some y10_0
  | z10 :: r10, i10, y10_0 => (appL 48 ((mget y10_0 z10.Key).getD []) ([z10] : List TEvent)).bind fun x18 => F_hist_Hist_Apply_L1 r10 (i10 + 1) (mset y10_0 z10.Key (((mget y10_0 z10.Key).getD []) ++ ([z10] : List TEvent)))
def F_hist_Hist_Apply_L2 (p0 : Ohist_Hist) (p1 : (List TOp)) : (List TOp) → Nat → (List TEvent) → Option ((List TEvent))
  | [], _, y21_0 => some y21_0
  | z21 :: r21, i21, y21_0 => ((hatL p0.keys z21.Key p0.bounds_rev).bind fun x28 => (subL p1 (IntKind.i64.wrap ((i21 : Int) + 1)) (p1.length : Int)).bind fun x29 => (F_slices_ContainsFunc_hist_Hist_Apply_1 x29 z21).bind fun x30 => if (bif x30 then true else (bif z21.Del then (!x28.2) else false)) = true then (some (y21_0, x28.2, x28.1.Rev, x28.1.Key, x28.1.Val, x28.1.Del, x28.2, x28.1.Rev, x28.1.Key, x28.1.Val, x28.1.Del, x28.2, x28.1.Rev, x28.1.Key, x28.1.Val, x28.1.Del, x28.2, x29, x30, x30, (bif x30 then true else (bif z21.Del then (!x28.2) else false)))) else ((if z21.Del = true then (some ByteArray.empty) else (some z21.Val) : Option (ByteArray)).bind fun s35 => (appL 48 y21_0 ([(⟨(IntKind.i64.wrap (p0.bounds_rev + 1)), z21.Key, s35, z21.Del⟩ : TEvent)] : List TEvent)).bind fun x37 => some ((y21_0 ++ ([(⟨(IntKind.i64.wrap (p0.bounds_rev + 1)), z21.Key, s35, z21.Del⟩ : TEvent)] : List TEvent)), x28.2, x28.1.Rev, x28.1.Key, x28.1.Val, x28.1.Del, x28.2, x28.1.Rev, x28.1.Key, x28.1.Val, x28.1.Del, x28.2, x28.1.Rev, x28.1.Key, x28.1.Val, x28.1.Del, x28.2, x29, x30, x30, (bif x30 then true else (bif z21.Del then (!x28.2) else false)))) : Option ((List TEvent) × Bool × Int × ByteArray × ByteArray × Bool × Bool × Int × ByteArray × ByteArray × Bool × Bool × Int × ByteArray × ByteArray × Bool × Bool × (List TOp) × Bool × Bool × Bool)).bind fun s24 => F_hist_Hist_Apply_L2 p0 p1 r21 (i21 + 1) s24.1
def F_hist_Hist_Apply (p0 : Ohist_Hist) (p1 : (List TOp)) : Option ((List TEvent) × Ohist_Hist) :=
  (F_hist_Hist_Apply_L2 p0 p1 p1 0 ([] : List TEvent) : Option ((List TEvent))).bind fun s2 => if ((s2.length : Int) == 0) = true then (some (([] : List TEvent), p0)) else ((F_hist_Hist_Apply_L1 s2 0 p0.keys : Option ((List (ByteArray × (List TEvent))))).bind fun s4 => (appL 24 p0.rows ([s2] : List (List TEvent))).bind fun x6 => (cloneL 48 s2).bind fun x8 => some (x8, (⟨(IntKind.i64.wrap (p0.bounds_rev + 1)), p0.bounds_hor, s4, (p0.rows ++ ([s2] : List (List TEvent)))⟩ : Ohist_Hist)))
def F_hist_bounds_late (p0 : Ohist_Hist) (p1 : Int) : Option (Bool × Ohist_Hist) :=
  some ((decide (p1 > p0.bounds_rev)), p0)
def F_hist_Hist_Compact (p0 : Ohist_Hist) (p1 : Int) : Option (Int × Ohist_Hist) :=
  if (decide (p1 < 0)) = true then (some (1, p0)) else ((F_hist_bounds_late p0 p1).bind fun x2 => if x2.1 = true then (some (6, (⟨x2.2.bounds_rev, x2.2.bounds_hor, x2.2.keys, x2.2.rows⟩ : Ohist_Hist))) else (some (0, (⟨x2.2.bounds_rev, (if p1 > x2.2.bounds_hor then p1 else x2.2.bounds_hor), x2.2.keys, x2.2.rows⟩ : Ohist_Hist))))
def F_hist_Hist_Rev (p0 : Ohist_Hist) : Option (Int × Ohist_Hist) :=
  some (p0.bounds_rev, p0)
def F_hist_bounds_old (p0 : Ohist_Hist) (p1 : Int) : Option (Bool × Ohist_Hist) :=
  some ((decide (p1 < p0.bounds_hor)), p0)
def F_hist_Hist_At_L1 (p1 : Int) (p2 : TRange) (x5 : Bool × Ohist_Hist) : (List ByteArray) → Nat → (List TEvent) → Option ((List TEvent))
  | [], _, y12_0 => some y12_0
  | z12 :: r12, i12, y12_0 => (hatL x5.2.keys z12 p1).bind fun x16 => (if x16.2 = true then ((F_key_In p2 z12).bind fun x23 => some (true, x23)) else (some (false, false)) : Option (Bool × Bool)).bind fun s19 => if s19.2 = true then ((appL 48 y12_0 ([x16.1] : List TEvent)).bind fun x22 => F_hist_Hist_At_L1 p1 p2 x5 r12 (i12 + 1) (y12_0 ++ ([x16.1] : List TEvent))) else (F_hist_Hist_At_L1 p1 p2 x5 r12 (i12 + 1) y12_0)
def F_hist_Hist_At (n : Nat) (p0 : Ohist_Hist) (p1 : Int) (p2 : TRange) : Option ((List TKV) × Int × Ohist_Hist) :=
  (F_hist_bounds_old p0 p1).bind fun x3 => if x3.1 = true then (some (([] : List TKV), 5, (⟨x3.2.bounds_rev, x3.2.bounds_hor, x3.2.keys, x3.2.rows⟩ : Ohist_Hist))) else ((F_hist_bounds_late (⟨x3.2.bounds_rev, x3.2.bounds_hor, x3.2.keys, x3.2.rows⟩ : Ohist_Hist) p1).bind fun x5 => if x5.1 = true then (some (([] : List TKV), 6, (⟨x5.2.bounds_rev, x5.2.bounds_hor, x5.2.keys, x5.2.rows⟩ : Ohist_Hist))) else ((keysB (x5.2.keys.map (·.1))).bind fun x8 => (F_hist_Hist_At_L1 p1 p2 x5 x8 0 ([] : List TEvent) : Option ((List TEvent))).bind fun s9 => (F_event_Fold n ([] : List TKV) s9).bind fun x10 => some (x10, 0, (⟨x5.2.bounds_rev, x5.2.bounds_hor, x5.2.keys, x5.2.rows⟩ : Ohist_Hist))))
def F_hist_Hist_Hor (p0 : Ohist_Hist) : Option (Int × Ohist_Hist) :=
  some (p0.bounds_hor, p0)
def F_hist_Hist_Copy (p0 : Ohist_Hist) : Option (Ohist_Hist × Ohist_Hist) :=
  (cloneL 24 p0.rows).bind fun x4 => some ((⟨p0.bounds_rev, p0.bounds_hor, p0.keys, x4⟩ : Ohist_Hist), p0)
def F_hist_Hist_At_nil (p1 : Int) (p2 : TRange) : Option ((List TKV) × Int) :=
  some (([] : List TKV), 1)
def F_hist_Hist_Events_nil (p1 : Int) : Option ((List TEvent) × Int) :=
  some (([] : List TEvent), 1)
def F_hist_Hist_Compact_nil (p1 : Int) : Option (Int) :=
  some 1
def F_hist_Hist_Apply_nil (p1 : (List TOp)) : Option ((List TEvent)) :=
  some ([] : List TEvent)
def F_hist_Hist_Copy_nil  : Option (Unit) :=
  some ()
def F_hist_Hist_Rev_nil  : Option (Int) :=
  some 0
def F_hist_Hist_Hor_nil  : Option (Int) :=
  some 0
def F_law06_few_L1 : (List Timpostlaw06_Deed) → Nat → Option (Lp (Unit) (Bool))
  | [], _ => some (.go ())
  | z2 :: r2, i2 => if (decide ((i2 : Int) < 31)) = true then (if (decide ((z2.Ops.length : Int) > 8)) = true then (some (.out false)) else (F_law06_few_L1 r2 (i2 + 1))) else (some (.go ()))
def F_law06_few (p0 : (List Timpostlaw06_Deed)) : Option (Bool) :=
  (F_law06_few_L1 p0 0 : Option (Lp (Unit) (Bool))).bind fun s1 => lpK s1 fun u1 => some (decide ((p0.length : Int) ≤ 30))
def F_law06_do (n : Nat) (p0 : Ohist_Hist) (p1 : Timpostref06_Hist) (p2 : Timpostlaw06_Deed) : Option (Timpostref06_Hist × Bool × Ohist_Hist) :=
  if (p2.Kind == 1) = true then ((F_hist_Hist_Apply p0 p2.Ops).bind fun x5 => (F_ref06_Apply n p1 p2.Ops).bind fun x6 => (F_ref05_Events x5.1 x6.2).bind fun x8 => some (x6.1, x8, (⟨x5.2.bounds_rev, x5.2.bounds_hor, x5.2.keys, x5.2.rows⟩ : Ohist_Hist))) else ((F_hist_Hist_Compact p0 p2.Rev).bind fun x9 => (F_ref06_Compact p1 p2.Rev).bind fun x10 => some (x10.1, (x9.1 == x10.2), (⟨x9.2.bounds_rev, x9.2.bounds_hor, x9.2.keys, x9.2.rows⟩ : Ohist_Hist)))
def F_law06_ran_L1 (n : Nat) : (List Timpostlaw06_Deed) → Nat → (List (List TEvent)) → Int → Int → Int → (List (List TEvent)) → (List (ByteArray × (List TEvent))) → Option ((List (List TEvent)) × Int × Int × Int × (List (List TEvent)) × (List (ByteArray × (List TEvent))))
  | [], _, y4_0, y4_1, y4_2, y4_3, y4_4, y4_5 => some (y4_0, y4_1, y4_2, y4_3, y4_4, y4_5)
  | z4 :: r4, i4, y4_0, y4_1, y4_2, y4_3, y4_4, y4_5 => (F_law06_do n (⟨y4_2, y4_3, y4_5, y4_4⟩ : Ohist_Hist) (⟨y4_0, y4_1⟩ : Timpostref06_Hist) z4).bind fun x9 => F_law06_ran_L1 n r4 (i4 + 1) x9.1.Rows x9.1.Hor x9.2.2.bounds_rev x9.2.2.bounds_hor x9.2.2.rows x9.2.2.keys
def F_law06_ran (n : Nat) (p0 : (List Timpostlaw06_Deed)) : Option (Ohist_Hist) :=
  (F_hist_New ).bind fun x1 => (F_law06_ran_L1 n p0 0 ([] : List (List TEvent)) 0 x1.bounds_rev x1.bounds_hor x1.rows x1.keys : Option ((List (List TEvent)) × Int × Int × Int × (List (List TEvent)) × (List (ByteArray × (List TEvent))))).bind fun s3 => some (⟨s3.2.2.1, s3.2.2.2.1, s3.2.2.2.2.2, s3.2.2.2.2.1⟩ : Ohist_Hist)
def F_model_New  : Option (Omodel_Model × Ohist_Hist) :=
  (F_hist_New ).bind fun x1 => some ((⟨0⟩ : Omodel_Model), x1)
def F_model_Model_Head (p0 : Omodel_Model) (p0o0 : Ohist_Hist) : Option (THead × Omodel_Model × Ohist_Hist) :=
  (F_hist_Hist_Rev p0o0).bind fun x3 => (F_hist_Hist_Hor (⟨x3.2.bounds_rev, x3.2.bounds_hor, x3.2.keys, x3.2.rows⟩ : Ohist_Hist)).bind fun x4 => some ((⟨p0.seq, x3.1, x4.1⟩ : THead), p0, (⟨x4.2.bounds_rev, x4.2.bounds_hor, x4.2.keys, x4.2.rows⟩ : Ohist_Hist))
def F_model_Model_answer (p0 : Omodel_Model) (p0o0 : Ohist_Hist) (p1 : TResp) : Option (TResp × Omodel_Model × Ohist_Hist) :=
  (if (p1.Err != 0) = true then (some (0, 0, 0, false, ([] : List TKV))) else (some (p1.H.Seq, p1.H.Rev, p1.H.Hor, p1.Ok, p1.L)) : Option (Int × Int × Int × Bool × (List TKV))).bind fun s4 => (F_model_Model_Head p0 p0o0).bind fun x5 => some ((⟨x5.1, p1.Err, s4.2.2.2.1, s4.2.2.2.2⟩ : TResp), (⟨x5.2.1.seq⟩ : Omodel_Model), (⟨x5.2.2.bounds_rev, x5.2.2.bounds_hor, x5.2.2.keys, x5.2.2.rows⟩ : Ohist_Hist))
def F_model_Model_read (n : Nat) (p0 : Omodel_Model) (p0o0 : Ohist_Hist) (p1 : TReq) : Option (TResp × Omodel_Model × Ohist_Hist) :=
  (if (p1.Rev == 0) = true then ((F_hist_Hist_Rev p0o0).bind fun x6 => some (x6.1, x6.2.bounds_rev, x6.2.bounds_hor, x6.2.rows, x6.2.keys)) else (some (p1.Rev, p0o0.bounds_rev, p0o0.bounds_hor, p0o0.rows, p0o0.keys)) : Option (Int × Int × Int × (List (List TEvent)) × (List (ByteArray × (List TEvent))))).bind fun s4 => (F_hist_Hist_At n (⟨s4.2.1, s4.2.2.1, s4.2.2.2.2, s4.2.2.2.1⟩ : Ohist_Hist) s4.1 p1.R).bind fun x5 => some ((⟨(⟨0, 0, 0⟩ : THead), x5.2.1, false, x5.1⟩ : TResp), p0, (⟨x5.2.2.bounds_rev, x5.2.2.bounds_hor, x5.2.2.keys, x5.2.2.rows⟩ : Ohist_Hist))
def F_model_Model_change (n : Nat) (p0 : Omodel_Model) (p0o0 : Ohist_Hist) (p1 : TReq) : Option (TResp × Omodel_Model × Ohist_Hist) :=
  (F_hist_Hist_Rev p0o0).bind fun x3 => (F_hist_Hist_At n (⟨x3.2.bounds_rev, x3.2.bounds_hor, x3.2.keys, x3.2.rows⟩ : Ohist_Hist) x3.1 (⟨ByteArray.empty, ByteArray.empty⟩ : TRange)).bind fun x4 => (F_txn_Plan n x4.1 p1).bind fun x5 => (if ((x5.2.length : Int) == 0) = true then (some (.go (x4.2.2.bounds_rev, x4.2.2.bounds_hor, x4.2.2.rows, x4.2.2.keys))) else ((F_hist_Hist_Rev (⟨x4.2.2.bounds_rev, x4.2.2.bounds_hor, x4.2.2.keys, x4.2.2.rows⟩ : Ohist_Hist)).bind fun x9 => if (decide (x9.1 ≥ 1000)) = true then (some (.out ((⟨(⟨0, 0, 0⟩ : THead), 9, false, ([] : List TKV)⟩ : TResp), p0, (⟨x9.2.bounds_rev, x9.2.bounds_hor, x9.2.keys, x9.2.rows⟩ : Ohist_Hist)))) else ((F_hist_Hist_Rev (⟨x9.2.bounds_rev, x9.2.bounds_hor, x9.2.keys, x9.2.rows⟩ : Ohist_Hist)).bind fun x11 => (F_hist_Hist_Hor (⟨x11.2.bounds_rev, x11.2.bounds_hor, x11.2.keys, x11.2.rows⟩ : Ohist_Hist)).bind fun x12 => if (decide ((IntKind.i64.wrap ((IntKind.i64.wrap (x11.1 + 1)) - x12.1)) > 16)) = true then (some (.out ((⟨(⟨0, 0, 0⟩ : THead), 3, false, ([] : List TKV)⟩ : TResp), p0, (⟨x12.2.bounds_rev, x12.2.bounds_hor, x12.2.keys, x12.2.rows⟩ : Ohist_Hist)))) else (some (.go (x12.2.bounds_rev, x12.2.bounds_hor, x12.2.rows, x12.2.keys))))) : Option (Lp (Int × Int × (List (List TEvent)) × (List (ByteArray × (List TEvent)))) (TResp × Omodel_Model × Ohist_Hist))).bind fun s7 => lpK s7 fun u7 => (F_hist_Hist_Apply (⟨u7.1, u7.2.1, u7.2.2.2, u7.2.2.1⟩ : Ohist_Hist) x5.2).bind fun x8 => some ((⟨(⟨0, 0, 0⟩ : THead), 0, x5.1, ([] : List TKV)⟩ : TResp), p0, (⟨x8.2.bounds_rev, x8.2.bounds_hor, x8.2.keys, x8.2.rows⟩ : Ohist_Hist))
def F_model_Model_Serve (n : Nat) (p0 : Omodel_Model) (p0o0 : Ohist_Hist) (p1 : TReq) : Option (TResp × Omodel_Model × Ohist_Hist) :=
  (F_txn_May p1).bind fun x4 => if (x4 != 0) = true then ((F_model_Model_answer p0 p0o0 (⟨(⟨0, 0, 0⟩ : THead), x4, false, ([] : List TKV)⟩ : TResp)).bind fun x6 => some (x6.1, (⟨x6.2.1.seq⟩ : Omodel_Model), (⟨x6.2.2.bounds_rev, x6.2.2.bounds_hor, x6.2.2.keys, x6.2.2.rows⟩ : Ohist_Hist))) else (if (p1.Kind == 2) = true then ((F_model_Model_read n p0 p0o0 p1).bind fun x8 => (F_model_Model_answer (⟨x8.2.1.seq⟩ : Omodel_Model) (⟨x8.2.2.bounds_rev, x8.2.2.bounds_hor, x8.2.2.keys, x8.2.2.rows⟩ : Ohist_Hist) x8.1).bind fun x9 => some (x9.1, (⟨x9.2.1.seq⟩ : Omodel_Model), (⟨x9.2.2.bounds_rev, x9.2.2.bounds_hor, x9.2.2.keys, x9.2.2.rows⟩ : Ohist_Hist))) else (if (p1.Kind == 3) = true then ((F_hist_Hist_Compact p0o0 p1.Rev).bind fun x11 => (F_model_Model_answer (⟨(IntKind.i64.wrap (p0.seq + 1))⟩ : Omodel_Model) (⟨x11.2.bounds_rev, x11.2.bounds_hor, x11.2.keys, x11.2.rows⟩ : Ohist_Hist) (⟨(⟨0, 0, 0⟩ : THead), x11.1, false, ([] : List TKV)⟩ : TResp)).bind fun x12 => some (x12.1, (⟨x12.2.1.seq⟩ : Omodel_Model), (⟨x12.2.2.bounds_rev, x12.2.2.bounds_hor, x12.2.2.keys, x12.2.2.rows⟩ : Ohist_Hist))) else ((F_model_Model_change n (⟨(IntKind.i64.wrap (p0.seq + 1))⟩ : Omodel_Model) p0o0 p1).bind fun x13 => (F_model_Model_answer (⟨x13.2.1.seq⟩ : Omodel_Model) (⟨x13.2.2.bounds_rev, x13.2.2.bounds_hor, x13.2.2.keys, x13.2.2.rows⟩ : Ohist_Hist) x13.1).bind fun x14 => some (x14.1, (⟨x14.2.1.seq⟩ : Omodel_Model), (⟨x14.2.2.bounds_rev, x14.2.2.bounds_hor, x14.2.2.keys, x14.2.2.rows⟩ : Ohist_Hist)))))
def F_model_Model_Hist (p0 : Omodel_Model) (p0o0 : Ohist_Hist) : Option (Ohist_Hist × Omodel_Model × Ohist_Hist) :=
  (F_hist_Hist_Copy p0o0).bind fun x2 => some ((⟨x2.1.bounds_rev, x2.1.bounds_hor, x2.1.keys, x2.1.rows⟩ : Ohist_Hist), p0, (⟨x2.2.bounds_rev, x2.2.bounds_hor, x2.2.keys, x2.2.rows⟩ : Ohist_Hist))
def F_model_Model_Serve_nil (p1 : TReq) : Option (TResp) :=
  some (⟨(⟨0, 0, 0⟩ : THead), 1, false, ([] : List TKV)⟩ : TResp)
def F_model_Model_Head_nil  : Option (THead) :=
  some (⟨0, 0, 0⟩ : THead)
def F_model_Model_Hist_nil  : Option (Unit) :=
  some ()
def F_law08_few_L1 : (List TReq) → Nat → Option (Lp (Unit) (Bool))
  | [], _ => some (.go ())
  | z2 :: r2, i2 => if (decide ((i2 : Int) < 61)) = true then ((if (decide ((z2.Cmps.length : Int) > 8)) = true then (some (true, true)) else (some (false, (decide ((z2.Then.length : Int) > 8)))) : Option (Bool × Bool)).bind fun s7 => (if s7.2 = true then (some (true, true)) else (some (false, (decide ((z2.Else.length : Int) > 8)))) : Option (Bool × Bool)).bind fun s9 => if s9.2 = true then (some (.out false)) else (F_law08_few_L1 r2 (i2 + 1))) else (some (.go ()))
def F_law08_few (p0 : (List TReq)) : Option (Bool) :=
  (F_law08_few_L1 p0 0 : Option (Lp (Unit) (Bool))).bind fun s1 => lpK s1 fun u1 => some (decide ((p0.length : Int) ≤ 60))
def F_law08_ran_L1 (n : Nat) : (List TReq) → Nat → Int → Int → Int → (List (List TEvent)) → (List (ByteArray × (List TEvent))) → Option (Int × Int × Int × (List (List TEvent)) × (List (ByteArray × (List TEvent))))
  | [], _, y3_0, y3_1, y3_2, y3_3, y3_4 => some (y3_0, y3_1, y3_2, y3_3, y3_4)
  | z3 :: r3, i3, y3_0, y3_1, y3_2, y3_3, y3_4 => (F_model_Model_Serve n (⟨y3_0⟩ : Omodel_Model) (⟨y3_1, y3_2, y3_4, y3_3⟩ : Ohist_Hist) z3).bind fun x7 => F_law08_ran_L1 n r3 (i3 + 1) x7.2.1.seq x7.2.2.bounds_rev x7.2.2.bounds_hor x7.2.2.rows x7.2.2.keys
def F_law08_ran (n : Nat) (p0 : (List TReq)) : Option (Omodel_Model × Ohist_Hist) :=
  (F_model_New ).bind fun x1 => (F_law08_ran_L1 n p0 0 x1.1.seq x1.2.bounds_rev x1.2.bounds_hor x1.2.rows x1.2.keys : Option (Int × Int × Int × (List (List TEvent)) × (List (ByteArray × (List TEvent))))).bind fun s2 => some ((⟨s2.1⟩ : Omodel_Model), (⟨s2.2.1, s2.2.2.1, s2.2.2.2.2, s2.2.2.2.1⟩ : Ohist_Hist))
def F_front_At (p0 : TReq) (p1 : THead) : Option (Int × Int) :=
  (if (p0.Rev == 0) = true then (some p1.Rev) else (some p0.Rev) : Option (Int)).bind fun s4 => if (decide (s4 < p1.Hor)) = true then (some (0, 5)) else (if (decide (s4 > p1.Rev)) = true then (some (0, 6)) else (some (s4, 0)))
def F_front_Read (p0 : TReq) (p1 : (List TKV)) (p2 : THead) : Option (TResp) :=
  (F_front_At p0 p2).bind fun x4 => if (x4.2 != 0) = true then (some (⟨p2, x4.2, false, ([] : List TKV)⟩ : TResp)) else (some (⟨p2, 0, false, p1⟩ : TResp))
def F_front_rows_L1 (p0 : Int) : (List TOp) → Nat → (List TEvent) → Option ((List TEvent))
  | [], _, y3_0 => some y3_0
  | z3 :: r3, i3, y3_0 => (if z3.Del = true then (some ByteArray.empty) else (some z3.Val) : Option (ByteArray)).bind fun s10 => (appL 48 y3_0 ([(⟨p0, z3.Key, s10, z3.Del⟩ : TEvent)] : List TEvent)).bind fun x12 => F_front_rows_L1 p0 r3 (i3 + 1) (y3_0 ++ ([(⟨p0, z3.Key, s10, z3.Del⟩ : TEvent)] : List TEvent))
def F_front_rows (p0 : Int) (p1 : (List TOp)) : Option ((List TEvent)) :=
  (F_front_rows_L1 p0 p1 0 ([] : List TEvent) : Option ((List TEvent))).bind fun s1 => some s1
def F_front_Decide (n : Nat) (p0 : TReq) (p1 : (List TKV)) (p2 : THead) : Option (Tfront_Plan) :=
  if (p0.Kind == 3) = true then (if (decide (p0.Rev > p2.Rev)) = true then (some (⟨false, ([] : List TEvent), 6, 0⟩ : Tfront_Plan)) else (some (⟨false, ([] : List TEvent), 0, p0.Rev⟩ : Tfront_Plan))) else (if (p0.Kind == 1) = true then ((F_txn_Plan n p1 p0).bind fun x7 => (if ((x7.2.length : Int) == 0) = true then (some (.go ())) else (if (decide (p2.Rev ≥ 1000)) = true then (some (.out (⟨false, ([] : List TEvent), 9, 0⟩ : Tfront_Plan))) else (if (decide ((IntKind.i64.wrap ((IntKind.i64.wrap (p2.Rev + 1)) - p2.Hor)) > 16)) = true then (some (.out (⟨false, ([] : List TEvent), 3, 0⟩ : Tfront_Plan))) else (some (.go ())))) : Option (Lp (Unit) (Tfront_Plan))).bind fun s9 => lpK s9 fun u9 => (F_front_rows (IntKind.i64.wrap (p2.Rev + 1)) x7.2).bind fun x10 => some (⟨x7.1, x10, 0, 0⟩ : Tfront_Plan)) else (some (⟨false, ([] : List TEvent), 0, 0⟩ : Tfront_Plan)))
def F_front_Step (p0 : THead) (p1 : Tfront_Plan) : Option (THead) :=
  (if (decide ((p1.Rows.length : Int) > 0)) = true then (some (IntKind.i64.wrap (p0.Rev + 1))) else (some p0.Rev) : Option (Int)).bind fun s5 => some (⟨(IntKind.i64.wrap (p0.Seq + 1)), s5, (if p1.Hor > p0.Hor then p1.Hor else p0.Hor)⟩ : THead)
def F_front_Answer (p0 : THead) (p1 : Tfront_Plan) : Option (TResp) :=
  some (⟨p0, p1.Err, (bif p1.Ok then (p1.Err == 0) else false), ([] : List TKV)⟩ : TResp)
end Go.Proofs.Ytpfdandpmpmbiaa.V
