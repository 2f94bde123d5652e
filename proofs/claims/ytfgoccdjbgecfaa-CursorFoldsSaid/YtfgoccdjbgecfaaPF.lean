/- Plain functions, as the program has them.
   No condition: these are laws of the clean machine and of this program. -/
import Derived.Test.YtfgoccdjbgecfaaP0
namespace Go.Proofs.Ytfgoccdjbgecfaa.V
open Go
set_option linter.unusedVariables false
set_option linter.unusedSimpArgs false
set_option maxRecDepth 100000
def F_law10_few_L1 : (List Timpostlaw10_Deed) → Nat → Option (Lp (Unit) (Bool))
  | [], _ => some (.go ())
  | z2 :: r2, i2 => if (decide ((i2 : Int) < 31)) = true then (if (decide ((z2.Ops.length : Int) > 8)) = true then (some (.out false)) else (F_law10_few_L1 r2 (i2 + 1))) else (some (.go ()))
def F_law10_few (p0 : (List Timpostlaw10_Deed)) : Option (Bool) :=
  (F_law10_few_L1 p0 0 : Option (Lp (Unit) (Bool))).bind fun s1 => lpK s1 fun u1 => some (decide ((p0.length : Int) ≤ 30))
def F_key_In (p0 : TRange) (p1 : ByteArray) : Option (Bool) :=
  some (bif (leB p0.From p1) then (bif (eqB p0.To ByteArray.empty) then true else (lessB p1 p0.To)) else false)
def F_cmp_isNaN (p0 : ByteArray) : Option (Bool) :=
  some (!eqB p0 p0)
def F_cmp_Compare (p0 : ByteArray) (p1 : ByteArray) : Option (Int) :=
  (F_cmp_isNaN p0).bind fun x1 => (F_cmp_isNaN p1).bind fun x2 => if x1 = true then (if x2 = true then (some 0) else (some (-1))) else (if x2 = true then (some 1) else (if (lessB p0 p1) = true then (some (-1)) else (if (!leB p0 p1) = true then (some 1) else (some 0))))
def F_event_Filter_1 (p0 : TEvent) (p1 : TRange) : Option (Bool) :=
  (F_key_In p1 p0.Key).bind fun x2 => some (!x2)
def F_slices_IndexFunc_70_event_Filter_1_L1 (p1c0 : TRange) : (List TEvent) → Nat → Option (Lp (Unit) (Int))
  | [], _ => some (.go ())
  | z2 :: r2, i2 => (F_event_Filter_1 z2 p1c0).bind fun x6 => if x6 = true then (some (.out (i2 : Int))) else (F_slices_IndexFunc_70_event_Filter_1_L1 p1c0 r2 (i2 + 1))
def F_slices_IndexFunc_70_event_Filter_1 (p0 : (List TEvent)) (p1c0 : TRange) : Option (Int) :=
  (F_slices_IndexFunc_70_event_Filter_1_L1 p1c0 p0 0 : Option (Lp (Unit) (Int))).bind fun s1 => lpK s1 fun u1 => some (-1)
def F_slices_DeleteFunc_event_Filter_1_L1 (p1c0 : TRange) : Nat → Int → Int → (List TEvent) → Option ((List TEvent) × Int)
  | 0, _, _, _ => none
  | m8 + 1, y8_0, y8_1, y8_2 => if (decide (y8_1 < (y8_2.length : Int))) = true then ((getI y8_2 y8_1).bind fun x10 => (F_event_Filter_1 x10 p1c0).bind fun x12 => (if (!x12) = true then ((getI y8_2 y8_0).bind fun x15 => some ((setI y8_2 y8_0 x10), (IntKind.i64.wrap (y8_0 + 1)))) else (some (y8_2, y8_0)) : Option ((List TEvent) × Int)).bind fun s14 => F_slices_DeleteFunc_event_Filter_1_L1 p1c0 m8 s14.2 (IntKind.i64.wrap (y8_1 + 1)) s14.1) else (some (y8_2, y8_0))
def F_slices_DeleteFunc_event_Filter_1 (n : Nat) (p0 : (List TEvent)) (p1c0 : TRange) : Option ((List TEvent)) :=
  (F_slices_IndexFunc_70_event_Filter_1 p0 p1c0).bind fun x1 => if (x1 == (-1)) = true then (some p0) else ((F_slices_DeleteFunc_event_Filter_1_L1 p1c0 n x1 (IntKind.i64.wrap (x1 + 1)) p0 : Option ((List TEvent) × Int)).bind fun s4 => (clrL (⟨0, ByteArray.empty, ByteArray.empty, false⟩ : TEvent) s4.1 s4.2).bind fun x5 => (subL0 x5 0 s4.2).bind fun x6 => some x6)
def F_event_Filter (n : Nat) (p0 : (List TEvent)) (p1 : TRange) : Option ((List TEvent)) :=
  (cloneL 48 p0).bind fun x2 => (F_slices_DeleteFunc_event_Filter_1 n x2 p1).bind fun x3 => some x3
def F_event_Last_L1 : (List TEvent) → Nat → (List (ByteArray × TEvent)) → Option ((List (ByteArray × TEvent)))
  | [], _, y6_0 => some y6_0
  | z6 :: r6, i6, y6_0 => F_event_Last_L1 r6 (i6 + 1) (mset y6_0 z6.Key z6)
def F_event_Last (p0 : (List TEvent)) : Option ((List TEvent)) :=
  (F_event_Last_L1 p0 0 ([] : (List (ByteArray × TEvent))) : Option ((List (ByteArray × TEvent)))).bind fun s2 => (lastL s2).bind fun x4 => some x4
def F_event_Fold_1 (p0 : TKV) (p1 : ByteArray) : Option (Int) :=
  (F_cmp_Compare p0.Key p1).bind fun x2 => some x2
def F_slices_BinarySearchFunc_event_Fold_1_L1 (p0 : (List TKV)) (p1 : ByteArray) : Nat → Int → Int → Option (Int)
  | 0, _, _ => none
  | m6 + 1, y6_0, y6_1 => if (decide (y6_0 < y6_1)) = true then ((getI p0 (IntKind.i64.wrap (shrI .u64 (IntKind.u64.wrap (IntKind.i64.wrap (y6_0 + y6_1))) 1))).bind fun x8 => (F_event_Fold_1 x8 p1).bind fun x9 => if (decide (x9 < 0)) = true then (F_slices_BinarySearchFunc_event_Fold_1_L1 p0 p1 m6 (IntKind.i64.wrap ((IntKind.i64.wrap (shrI .u64 (IntKind.u64.wrap (IntKind.i64.wrap (y6_0 + y6_1))) 1)) + 1)) y6_1) else (F_slices_BinarySearchFunc_event_Fold_1_L1 p0 p1 m6 y6_0 (IntKind.i64.wrap (shrI .u64 (IntKind.u64.wrap (IntKind.i64.wrap (y6_0 + y6_1))) 1)))) else (some y6_0)
def F_slices_BinarySearchFunc_event_Fold_1 (n : Nat) (p0 : (List TKV)) (p1 : ByteArray) : Option (Int × Bool) :=
  (F_slices_BinarySearchFunc_event_Fold_1_L1 p0 p1 n 0 (p0.length : Int) : Option (Int)).bind fun s1 => (if (decide (s1 < (p0.length : Int))) = true then ((getI p0 s1).bind fun x4 => (F_event_Fold_1 x4 p1).bind fun x5 => some (x5 == 0)) else (some false) : Option (Bool)).bind fun s3 => some (s1, s3)
def F_event_Fold_L1 (n : Nat) : (List TEvent) → Nat → (List TKV) → Option ((List TKV))
  | [], _, y4_0 => some y4_0
  | z4 :: r4, i4, y4_0 => (F_slices_BinarySearchFunc_event_Fold_1 n y4_0 z4.Key).bind fun x9 => (if x9.2 = true then ((delL y4_0 x9.1 (IntKind.i64.wrap (x9.1 + 1))).bind fun x15 => some x15) else (some y4_0) : Option ((List TKV))).bind fun s11 => if (!z4.Del) = true then ((insL 40 s11 x9.1 (⟨z4.Key, z4.Val, z4.Rev⟩ : TKV)).bind fun x14 => F_event_Fold_L1 n r4 (i4 + 1) x14) else (F_event_Fold_L1 n r4 (i4 + 1) s11)
def F_event_Fold (n : Nat) (p0 : (List TKV)) (p1 : (List TEvent)) : Option ((List TKV)) :=
  (cloneL 40 p0).bind fun x1 => (F_event_Fold_L1 n p1 0 x1 : Option ((List TKV))).bind fun s2 => some s2
def F_ref04_In (p0 : TRange) (p1 : ByteArray) : Option (Bool) :=
  some (bif (!lessB p1 p0.From) then (bif (eqB p0.To ByteArray.empty) then true else (lessB p1 p0.To)) else false)
def F_ref05_Filter_L1 (p1 : TRange) : (List TEvent) → Nat → (List TEvent) → Option ((List TEvent))
  | [], _, y4_0 => some y4_0
  | z4 :: r4, i4, y4_0 => (F_ref04_In p1 z4.Key).bind fun x8 => (if x8 = true then ((appL 48 y4_0 ([z4] : List TEvent)).bind fun x13 => some (y4_0 ++ ([z4] : List TEvent))) else (some y4_0) : Option ((List TEvent))).bind fun s10 => F_ref05_Filter_L1 p1 r4 (i4 + 1) s10
def F_ref05_Filter (p0 : (List TEvent)) (p1 : TRange) : Option ((List TEvent)) :=
  (F_ref05_Filter_L1 p1 p0 0 ([] : List TEvent) : Option ((List TEvent))).bind fun s2 => some s2
def F_ref05_One_L1 (p0 : (List TKV)) (p1 : TEvent) : Nat → (List TKV) → Int → Option ((List TKV))
  | 0, _, _ => none
  | m7 + 1, y7_0, y7_1 => if (decide (y7_1 < (p0.length : Int))) = true then ((getI p0 y7_1).bind fun x9 => (if (!eqB x9.Key p1.Key) = true then ((getI p0 y7_1).bind fun x12 => (appL 40 y7_0 ([x12] : List TKV)).bind fun x14 => some (y7_0 ++ ([x12] : List TKV))) else (some y7_0) : Option ((List TKV))).bind fun s11 => F_ref05_One_L1 p0 p1 m7 s11 (IntKind.i64.wrap (y7_1 + 1))) else (some y7_0)
def F_ref05_One_L2 (p1 : TEvent) : (List TKV) → Nat → (List TKV) → Option ((List TKV) × Int)
  | [], i17, y17_0 => some (y17_0, (i17 : Int))
  | z17 :: r17, i17, y17_0 => if (lessB z17.Key p1.Key) = true then ((appL 40 y17_0 ([z17] : List TKV)).bind fun x23 => F_ref05_One_L2 p1 r17 (i17 + 1) (y17_0 ++ ([z17] : List TKV))) else (some (y17_0, (i17 : Int)))
def F_ref05_One (n : Nat) (p0 : (List TKV)) (p1 : TEvent) : Option ((List TKV)) :=
  (F_ref05_One_L2 p1 p0 0 ([] : List TKV) : Option ((List TKV) × Int)).bind fun s2 => (if (!p1.Del) = true then ((appL 40 s2.1 ([(⟨p1.Key, p1.Val, p1.Rev⟩ : TKV)] : List TKV)).bind fun x16 => some (s2.1 ++ ([(⟨p1.Key, p1.Val, p1.Rev⟩ : TKV)] : List TKV))) else (some s2.1) : Option ((List TKV))).bind fun s4 => (F_ref05_One_L1 p0 p1 n s4 s2.2 : Option ((List TKV))).bind fun s5 => some s5
def F_ref05_Fold_L1 (n : Nat) : (List TEvent) → Nat → (List TKV) → Option ((List TKV))
  | [], _, y2_0 => some y2_0
  | z2 :: r2, i2, y2_0 => (F_ref05_One n y2_0 z2).bind fun x6 => F_ref05_Fold_L1 n r2 (i2 + 1) x6
def F_ref05_Fold (n : Nat) (p0 : (List TKV)) (p1 : (List TEvent)) : Option ((List TKV)) :=
  (F_ref05_Fold_L1 n p1 0 p0 : Option ((List TKV))).bind fun s1 => some s1
def F_ref05_Events_L1 (p1 : (List TEvent)) : (List TEvent) → Nat → Option (Lp (Unit) (Bool))
  | [], _ => some (.go ())
  | z3 :: r3, i3 => (getI p1 (i3 : Int)).bind fun x7 => if (!(eq_TEvent z3 x7)) = true then (some (.out false)) else (F_ref05_Events_L1 p1 r3 (i3 + 1))
def F_ref05_Events (p0 : (List TEvent)) (p1 : (List TEvent)) : Option (Bool) :=
  if ((p0.length : Int) != (p1.length : Int)) = true then (some false) else ((F_ref05_Events_L1 p1 p0 0 : Option (Lp (Unit) (Bool))).bind fun s2 => lpK s2 fun u2 => some true)
def F_ref05_KVs_L1 (p1 : (List TKV)) : (List TKV) → Nat → Option (Lp (Unit) (Bool))
  | [], _ => some (.go ())
  | z3 :: r3, i3 => (getI p1 (i3 : Int)).bind fun x7 => if (!(eq_TKV z3 x7)) = true then (some (.out false)) else (F_ref05_KVs_L1 p1 r3 (i3 + 1))
def F_ref05_KVs (p0 : (List TKV)) (p1 : (List TKV)) : Option (Bool) :=
  if ((p0.length : Int) != (p1.length : Int)) = true then (some false) else ((F_ref05_KVs_L1 p1 p0 0 : Option (Lp (Unit) (Bool))).bind fun s2 => lpK s2 fun u2 => some true)
def F_hist_New  : Option (Ohist_Hist) :=
  some (⟨0, 0, ([] : (List (ByteArray × (List TEvent)))), ([] : List (List TEvent))⟩ : Ohist_Hist)
def F_hist_Hist_Apply_1 (p0 : TOp) (p1 : TOp) : Option (Bool) :=
  some (eqB p0.Key p1.Key)
def F_slices_IndexFunc_hist_Hist_Apply_1_L1 (p1c0 : TOp) : (List TOp) → Nat → Option (Lp (Unit) (Int))
  | [], _ => some (.go ())
  | z2 :: r2, i2 => (F_hist_Hist_Apply_1 z2 p1c0).bind fun x6 => if x6 = true then (some (.out (i2 : Int))) else (F_slices_IndexFunc_hist_Hist_Apply_1_L1 p1c0 r2 (i2 + 1))
def F_slices_IndexFunc_hist_Hist_Apply_1 (p0 : (List TOp)) (p1c0 : TOp) : Option (Int) :=
  (F_slices_IndexFunc_hist_Hist_Apply_1_L1 p1c0 p0 0 : Option (Lp (Unit) (Int))).bind fun s1 => lpK s1 fun u1 => some (-1)
def F_slices_ContainsFunc_hist_Hist_Apply_1 (p0 : (List TOp)) (p1c0 : TOp) : Option (Bool) :=
  (F_slices_IndexFunc_hist_Hist_Apply_1 p0 p1c0).bind fun x1 => some (decide (x1 ≥ 0))
def F_hist_Hist_Apply_L1 : (List TEvent) → Nat → (List (ByteArray × (List TEvent))) → Option ((List (ByteArray × (List TEvent))))
  | [], _, y10_0 => some y10_0
  | z10 :: r10, i10, y10_0 => (appL 48 ((mget y10_0 z10.Key).getD []) ([z10] : List TEvent)).bind fun x18 => F_hist_Hist_Apply_L1 r10 (i10 + 1) (mset y10_0 z10.Key (((mget y10_0 z10.Key).getD []) ++ ([z10] : List TEvent)))
def F_hist_Hist_Apply_L2 (p0 : Ohist_Hist) (p1 : (List TOp)) : (List TOp) → Nat → (List TEvent) → Option ((List TEvent))
  | [], _, y21_0 => some y21_0
  | z21 :: r21, i21, y21_0 => ((hatL p0.keys z21.Key p0.bounds_rev).bind fun x28 => (subL p1 (IntKind.i64.wrap ((i21 : Int) + 1)) (p1.length : Int)).bind fun x29 => (F_slices_ContainsFunc_hist_Hist_Apply_1 x29 z21).bind fun x30 => if (bif x30 then true else (bif z21.Del then (!x28.2) else false)) = true then (some (y21_0, x28.2, x28.1.Rev, x28.1.Key, x28.1.Val, x28.1.Del, x28.2, x28.1.Rev, x28.1.Key, x28.1.Val, x28.1.Del, x28.2, x28.1.Rev, x28.1.Key, x28.1.Val, x28.1.Del, x28.2, x29, x30, x30, (bif x30 then true else (bif z21.Del then (!x28.2) else false)))) else ((if z21.Del = true then (some ByteArray.empty) else (some z21.Val) : Option (ByteArray)).bind fun s35 => (appL 48 y21_0 ([(⟨(IntKind.i64.wrap (p0.bounds_rev + 1)), z21.Key, s35, z21.Del⟩ : TEvent)] : List TEvent)).bind fun x37 => some ((y21_0 ++ ([(⟨(IntKind.i64.wrap (p0.bounds_rev + 1)), z21.Key, s35, z21.Del⟩ : TEvent)] : List TEvent)), x28.2, x28.1.Rev, x28.1.Key, x28.1.Val, x28.1.Del, x28.2, x28.1.Rev, x28.1.Key, x28.1.Val, x28.1.Del, x28.2, x28.1.Rev, x28.1.Key, x28.1.Val, x28.1.Del, x28.2, x29, x30, x30, (bif x30 then true else (bif z21.Del then (!x28.2) else false)))) : Option ((List TEvent) × Bool × Int × ByteArray × ByteArray × Bool × Bool × Int × ByteArray × ByteArray × Bool × Bool × Int × ByteArray × ByteArray × Bool × Bool × (List TOp) × Bool × Bool × Bool)).bind fun s24 => F_hist_Hist_Apply_L2 p0 p1 r21 (i21 + 1) s24.1
def F_hist_Hist_Apply (p0 : Ohist_Hist) (p1 : (List TOp)) : Option ((List TEvent) × Ohist_Hist) :=
  (F_hist_Hist_Apply_L2 p0 p1 p1 0 ([] : List TEvent) : Option ((List TEvent))).bind fun s2 => if ((s2.length : Int) == 0) = true then (some (([] : List TEvent), p0)) else ((F_hist_Hist_Apply_L1 s2 0 p0.keys : Option ((List (ByteArray × (List TEvent))))).bind fun s4 => (appL 24 p0.rows ([s2] : List (List TEvent))).bind fun x6 => (cloneL 48 s2).bind fun x8 => some (x8, (⟨(IntKind.i64.wrap (p0.bounds_rev + 1)), p0.bounds_hor, s4, (p0.rows ++ ([s2] : List (List TEvent)))⟩ : Ohist_Hist)))
def F_hist_Hist_Rev (p0 : Ohist_Hist) : Option (Int × Ohist_Hist) :=
  some (p0.bounds_rev, p0)
def F_hist_bounds_old (p0 : Ohist_Hist) (p1 : Int) : Option (Bool × Ohist_Hist) :=
  some ((decide (p1 < p0.bounds_hor)), p0)
def F_hist_bounds_late (p0 : Ohist_Hist) (p1 : Int) : Option (Bool × Ohist_Hist) :=
  some ((decide (p1 > p0.bounds_rev)), p0)
def F_hist_Hist_At_L1 (p1 : Int) (p2 : TRange) (x5 : Bool × Ohist_Hist) : (List ByteArray) → Nat → (List TEvent) → Option ((List TEvent))
  | [], _, y12_0 => some y12_0
  | z12 :: r12, i12, y12_0 => (hatL x5.2.keys z12 p1).bind fun x16 => (if x16.2 = true then ((F_key_In p2 z12).bind fun x23 => some (true, x23)) else (some (false, false)) : Option (Bool × Bool)).bind fun s19 => if s19.2 = true then ((appL 48 y12_0 ([x16.1] : List TEvent)).bind fun x22 => F_hist_Hist_At_L1 p1 p2 x5 r12 (i12 + 1) (y12_0 ++ ([x16.1] : List TEvent))) else (F_hist_Hist_At_L1 p1 p2 x5 r12 (i12 + 1) y12_0)
def F_hist_Hist_At (n : Nat) (p0 : Ohist_Hist) (p1 : Int) (p2 : TRange) : Option ((List TKV) × Int × Ohist_Hist) :=
  (F_hist_bounds_old p0 p1).bind fun x3 => if x3.1 = true then (some (([] : List TKV), 5, (⟨x3.2.bounds_rev, x3.2.bounds_hor, x3.2.keys, x3.2.rows⟩ : Ohist_Hist))) else ((F_hist_bounds_late (⟨x3.2.bounds_rev, x3.2.bounds_hor, x3.2.keys, x3.2.rows⟩ : Ohist_Hist) p1).bind fun x5 => if x5.1 = true then (some (([] : List TKV), 6, (⟨x5.2.bounds_rev, x5.2.bounds_hor, x5.2.keys, x5.2.rows⟩ : Ohist_Hist))) else ((keysB (x5.2.keys.map (·.1))).bind fun x8 => (F_hist_Hist_At_L1 p1 p2 x5 x8 0 ([] : List TEvent) : Option ((List TEvent))).bind fun s9 => (F_event_Fold n ([] : List TKV) s9).bind fun x10 => some (x10, 0, (⟨x5.2.bounds_rev, x5.2.bounds_hor, x5.2.keys, x5.2.rows⟩ : Ohist_Hist))))
def F_hist_Hist_Events (p0 : Ohist_Hist) (p1 : Int) : Option ((List TEvent) × Int × Ohist_Hist) :=
  (F_hist_bounds_old p0 p1).bind fun x2 => (if x2.1 = true then (some true) else (some (p1 == x2.2.bounds_hor)) : Option (Bool)).bind fun s4 => if s4 = true then (some (([] : List TEvent), 5, (⟨x2.2.bounds_rev, x2.2.bounds_hor, x2.2.keys, x2.2.rows⟩ : Ohist_Hist))) else ((F_hist_bounds_late (⟨x2.2.bounds_rev, x2.2.bounds_hor, x2.2.keys, x2.2.rows⟩ : Ohist_Hist) p1).bind fun x6 => if x6.1 = true then (some (([] : List TEvent), 6, (⟨x6.2.bounds_rev, x6.2.bounds_hor, x6.2.keys, x6.2.rows⟩ : Ohist_Hist))) else ((getI x6.2.rows (IntKind.i64.wrap (p1 - 1))).bind fun x8 => (cloneL 48 x8).bind fun x9 => some (x9, 0, (⟨x6.2.bounds_rev, x6.2.bounds_hor, x6.2.keys, x6.2.rows⟩ : Ohist_Hist))))
def F_hist_Hist_Hor (p0 : Ohist_Hist) : Option (Int × Ohist_Hist) :=
  some (p0.bounds_hor, p0)
def F_hist_Hist_Compact (p0 : Ohist_Hist) (p1 : Int) : Option (Int × Ohist_Hist) :=
  if (decide (p1 < 0)) = true then (some (1, p0)) else ((F_hist_bounds_late p0 p1).bind fun x2 => if x2.1 = true then (some (6, (⟨x2.2.bounds_rev, x2.2.bounds_hor, x2.2.keys, x2.2.rows⟩ : Ohist_Hist))) else (some (0, (⟨x2.2.bounds_rev, (if p1 > x2.2.bounds_hor then p1 else x2.2.bounds_hor), x2.2.keys, x2.2.rows⟩ : Ohist_Hist))))
def F_cursor_bad (p0 : Tcursor_Cursor) (p1 : THead) : Option (Int) :=
  if p0.Dead = true then (some 4) else (if (decide (p0.Next ≤ p1.Hor)) = true then (some 5) else (if (decide ((IntKind.i64.wrap (p0.Next - 1)) > p1.Rev)) = true then (some 6) else (some 0)))
def F_cursor_gather_L1 : (List (List TEvent)) → Nat → (List (List TEvent)) → Option ((List (List TEvent)))
  | [], _, y3_0 => some y3_0
  | z3 :: r3, i3, y3_0 => if (decide ((z3.length : Int) > 0)) = true then ((appL 24 y3_0 ([z3] : List (List TEvent))).bind fun x9 => F_cursor_gather_L1 r3 (i3 + 1) (y3_0 ++ ([z3] : List (List TEvent)))) else (F_cursor_gather_L1 r3 (i3 + 1) y3_0)
def F_cursor_gather (p0 : (List (List TEvent))) : Option ((List (List TEvent))) :=
  (F_cursor_gather_L1 p0 0 ([] : List (List TEvent)) : Option ((List (List TEvent)))).bind fun s1 => some s1
def F_cursor_Deliver_L1 (n : Nat) (p0 : Tcursor_Cursor) : (List (List TEvent)) → Nat → (List (List TEvent)) → (List TEvent) → Option ((List (List TEvent)) × (List TEvent))
  | [], _, y16_0, y16_1 => some (y16_0, y16_1)
  | z16 :: r16, i16, y16_0, y16_1 => (F_event_Filter n z16 p0.R).bind fun x20 => (appL 24 y16_0 ([x20] : List (List TEvent))).bind fun x22 => (appL 48 y16_1 x20).bind fun x23 => F_cursor_Deliver_L1 n p0 r16 (i16 + 1) (y16_0 ++ ([x20] : List (List TEvent))) (y16_1 ++ x20)
def F_cursor_Deliver (n : Nat) (p0 : Tcursor_Cursor) (p1 : THead) (p2 : (List (List TEvent))) : Option (Tcursor_Cursor × Tcursor_Notice) :=
  (F_cursor_bad p0 p1).bind fun x5 => if (x5 == 0) = true then ((F_cursor_Deliver_L1 n p0 p2 0 ([] : List (List TEvent)) ([] : List TEvent) : Option ((List (List TEvent)) × (List TEvent))).bind fun s7 => (if p0.Once = true then ((F_event_Last s7.2).bind fun x13 => some ([x13] : List (List TEvent))) else (some s7.1) : Option ((List (List TEvent)))).bind fun s11 => (F_cursor_gather s11).bind fun x12 => some ((⟨p0.R, (IntKind.i64.wrap (p0.Next + (p2.length : Int))), p0.Once, p0.Dead⟩ : Tcursor_Cursor), (⟨0, 0, (IntKind.i64.wrap ((IntKind.i64.wrap (p0.Next + (p2.length : Int))) - 1)), x12⟩ : Tcursor_Notice))) else (if (x5 == 5) = true then (some ((⟨p0.R, p0.Next, p0.Once, true⟩ : Tcursor_Cursor), (⟨x5, p1.Hor, 0, ([] : List (List TEvent))⟩ : Tcursor_Notice))) else (some (p0, (⟨x5, 0, 0, ([] : List (List TEvent))⟩ : Tcursor_Notice))))
def F_cursor_Window (p0 : Tcursor_Cursor) (p1 : THead) (p2 : Int) : Option (Int) :=
  (F_cursor_bad p0 p1).bind fun x3 => if (x3 != 0) = true then (some 0) else (some (if 0 > (if p2 < (IntKind.i64.wrap ((IntKind.i64.wrap (p1.Rev - p0.Next)) + 1)) then p2 else (IntKind.i64.wrap ((IntKind.i64.wrap (p1.Rev - p0.Next)) + 1))) then 0 else (if p2 < (IntKind.i64.wrap ((IntKind.i64.wrap (p1.Rev - p0.Next)) + 1)) then p2 else (IntKind.i64.wrap ((IntKind.i64.wrap (p1.Rev - p0.Next)) + 1)))))
def F_cursor_Open (n : Nat) (p0 : Ohist_Hist) (p1 : TRange) (p2 : Int) : Option (Tcursor_Cursor × (List TKV) × Int × Ohist_Hist) :=
  (if (p2 == 0) = true then ((F_hist_Hist_Rev p0).bind fun x7 => some (x7.1, x7.2.bounds_rev, x7.2.bounds_hor, x7.2.rows, x7.2.keys)) else (some (p2, p0.bounds_rev, p0.bounds_hor, p0.rows, p0.keys)) : Option (Int × Int × Int × (List (List TEvent)) × (List (ByteArray × (List TEvent))))).bind fun s4 => (F_hist_Hist_At n (⟨s4.2.1, s4.2.2.1, s4.2.2.2.2, s4.2.2.2.1⟩ : Ohist_Hist) s4.1 p1).bind fun x5 => if (x5.2.1 != 0) = true then (some ((⟨(⟨ByteArray.empty, ByteArray.empty⟩ : TRange), 0, false, false⟩ : Tcursor_Cursor), ([] : List TKV), x5.2.1, (⟨x5.2.2.bounds_rev, x5.2.2.bounds_hor, x5.2.2.keys, x5.2.2.rows⟩ : Ohist_Hist))) else (some ((⟨p1, (IntKind.i64.wrap (s4.1 + 1)), false, false⟩ : Tcursor_Cursor), x5.1, 0, (⟨x5.2.2.bounds_rev, x5.2.2.bounds_hor, x5.2.2.keys, x5.2.2.rows⟩ : Ohist_Hist)))
def F_cursor_Poll_L1 (p0 : Tcursor_Cursor) (x7 : Int) : Nat → (List (List TEvent)) → Int → Int → Int → (List (List TEvent)) → (List (ByteArray × (List TEvent))) → Option ((List (List TEvent)) × Int × Int × (List (List TEvent)) × (List (ByteArray × (List TEvent))))
  | 0, _, _, _, _, _, _ => none
  | m11 + 1, y11_0, y11_1, y11_2, y11_3, y11_4, y11_5 => if (decide (y11_1 < x7)) = true then ((F_hist_Hist_Events (⟨y11_2, y11_3, y11_5, y11_4⟩ : Ohist_Hist) (IntKind.i64.wrap (p0.Next + y11_1))).bind fun x13 => (appL 24 y11_0 ([x13.1] : List (List TEvent))).bind fun x15 => F_cursor_Poll_L1 p0 x7 m11 (y11_0 ++ ([x13.1] : List (List TEvent))) (IntKind.i64.wrap (y11_1 + 1)) x13.2.2.bounds_rev x13.2.2.bounds_hor x13.2.2.rows x13.2.2.keys) else (some (y11_0, y11_2, y11_3, y11_4, y11_5))
def F_cursor_Poll (n : Nat) (p0 : Tcursor_Cursor) (p1 : Ohist_Hist) (p2 : Int) : Option (Tcursor_Cursor × Tcursor_Notice × Ohist_Hist) :=
  (F_hist_Hist_Rev p1).bind fun x4 => (F_hist_Hist_Hor (⟨x4.2.bounds_rev, x4.2.bounds_hor, x4.2.keys, x4.2.rows⟩ : Ohist_Hist)).bind fun x5 => (F_cursor_Window p0 (⟨0, x4.1, x5.1⟩ : THead) p2).bind fun x7 => (F_cursor_Poll_L1 p0 x7 n ([] : List (List TEvent)) 0 x5.2.bounds_rev x5.2.bounds_hor x5.2.rows x5.2.keys : Option ((List (List TEvent)) × Int × Int × (List (List TEvent)) × (List (ByteArray × (List TEvent))))).bind fun s8 => (F_cursor_Deliver n p0 (⟨0, x4.1, x5.1⟩ : THead) s8.1).bind fun x9 => some (x9.1, x9.2, (⟨s8.2.1, s8.2.2.1, s8.2.2.2.2, s8.2.2.2.1⟩ : Ohist_Hist))
def F_cursor_Token (p0 : Tcursor_Cursor) : Option (Ttoken_Token) :=
  some (⟨p0.R, p0.Next, p0.Once⟩ : Ttoken_Token)
def F_cursor_Resume (p0 : Ttoken_Token) : Option (Tcursor_Cursor) :=
  some (⟨p0.R, p0.Next, p0.Once, false⟩ : Tcursor_Cursor)
end Go.Proofs.Ytfgoccdjbgecfaa.V
