/- Plain functions, as the program has them.
   No condition: these are laws of the clean machine and of this program. -/
import Derived.Test.YtcjcbcmapjcfnaaP0
namespace Go.Proofs.Ytcjcbcmapjcfnaa.V
open Go
set_option linter.unusedVariables false
set_option linter.unusedSimpArgs false
set_option maxRecDepth 100000
def F_ref05_Events_L1 (p1 : (List TEvent)) : (List TEvent) → Nat → Option (Lp (Unit) (Bool))
  | [], _ => some (.go ())
  | z3 :: r3, i3 => (getI p1 (i3 : Int)).bind fun x7 => if (!(eq_TEvent z3 x7)) = true then (some (.out false)) else (F_ref05_Events_L1 p1 r3 (i3 + 1))
def F_ref05_Events (p0 : (List TEvent)) (p1 : (List TEvent)) : Option (Bool) :=
  if ((p0.length : Int) != (p1.length : Int)) = true then (some false) else ((F_ref05_Events_L1 p1 p0 0 : Option (Lp (Unit) (Bool))).bind fun s2 => lpK s2 fun u2 => some true)
def F_ref05_KVs_L1 (p1 : (List TKV)) : (List TKV) → Nat → Option (Lp (Unit) (Bool))
  | [], _ => some (.go ())
  | z3 :: r3, i3 => (getI p1 (i3 : Int)).bind fun x7 => if (!(eq_TKV z3 x7)) = true then (some (.out false)) else (F_ref05_KVs_L1 p1 r3 (i3 + 1))
def F_ref05_KVs (p0 : (List TKV)) (p1 : (List TKV)) : Option (Bool) :=
  if ((p0.length : Int) != (p1.length : Int)) = true then (some false) else ((F_ref05_KVs_L1 p1 p0 0 : Option (Lp (Unit) (Bool))).bind fun s2 => lpK s2 fun u2 => some true)
def F_ref05_Map_L1 (p0 : (List TKV)) : (List TKV) → Nat → Option (Lp (Unit) (Bool))
  | [], _ => some (.go ())
  | z2 :: r2, i2 => (getI p0 (IntKind.i64.wrap ((i2 : Int) - 1))).bind fun x5 => if (!lessB x5.Key z2.Key) = true then (some (.out false)) else (F_ref05_Map_L1 p0 r2 (i2 + 1))
def F_ref05_Map (p0 : (List TKV)) : Option (Bool) :=
  (F_ref05_Map_L1 p0 (List.drop 1 p0) 1 : Option (Lp (Unit) (Bool))).bind fun s1 => lpK s1 fun u1 => some true
def F_ref05_One_L1 (p0 : (List TKV)) (p1 : TEvent) : Nat → (List TKV) → Int → Option ((List TKV))
  | 0, _, _ => none
  | m7 + 1, y7_0, y7_1 => if (decide (y7_1 < (p0.length : Int))) = true then ((getI p0 y7_1).bind fun x9 => (if (!eqB x9.Key p1.Key) = true then ((getI p0 y7_1).bind fun x12 => (appL 40 y7_0 ([x12] : List TKV)).bind fun x14 => some (y7_0 ++ ([x12] : List TKV))) else (some y7_0) : Option ((List TKV))).bind fun s11 => F_ref05_One_L1 p0 p1 m7 s11 (IntKind.i64.wrap (y7_1 + 1))) else (some y7_0)
def F_ref05_One_L2 (p1 : TEvent) : (List TKV) → Nat → (List TKV) → Option ((List TKV) × Int)
  | [], i17, y17_0 => some (y17_0, (i17 : Int))
  | z17 :: r17, i17, y17_0 => if (lessB z17.Key p1.Key) = true then ((appL 40 y17_0 ([z17] : List TKV)).bind fun x23 => F_ref05_One_L2 p1 r17 (i17 + 1) (y17_0 ++ ([z17] : List TKV))) else (some (y17_0, (i17 : Int)))
def F_ref05_One (n : Nat) (p0 : (List TKV)) (p1 : TEvent) : Option ((List TKV)) :=
  (F_ref05_One_L2 p1 p0 0 ([] : List TKV) : Option ((List TKV) × Int)).bind fun s2 => (if (!p1.Del) = true then ((appL 40 s2.1 ([(⟨p1.Key, p1.Val, p1.Rev⟩ : TKV)] : List TKV)).bind fun x16 => some (s2.1 ++ ([(⟨p1.Key, p1.Val, p1.Rev⟩ : TKV)] : List TKV))) else (some s2.1) : Option ((List TKV))).bind fun s4 => (F_ref05_One_L1 p0 p1 n s4 s2.2 : Option ((List TKV))).bind fun s5 => some s5
def F_ref05_Fold_L1 (n : Nat) : (List TEvent) → Nat → (List TKV) → Option ((List TKV))
  | [], _, y2_0 => some y2_0
  | z2 :: r2, i2, y2_0 => (F_ref05_One n y2_0 z2).bind fun x6 => F_ref05_Fold_L1 n r2 (i2 + 1) x6
def F_ref05_Fold (n : Nat) (p0 : (List TKV)) (p1 : (List TEvent)) : Option ((List TKV)) :=
  (F_ref05_Fold_L1 n p1 0 p0 : Option ((List TKV))).bind fun s1 => some s1
def F_ref04_In (p0 : TRange) (p1 : ByteArray) : Option (Bool) :=
  some (bif (!lessB p1 p0.From) then (bif (eqB p0.To ByteArray.empty) then true else (lessB p1 p0.To)) else false)
def F_ref05_Filter_L1 (p1 : TRange) : (List TEvent) → Nat → (List TEvent) → Option ((List TEvent))
  | [], _, y4_0 => some y4_0
  | z4 :: r4, i4, y4_0 => (F_ref04_In p1 z4.Key).bind fun x8 => (if x8 = true then ((appL 48 y4_0 ([z4] : List TEvent)).bind fun x13 => some (y4_0 ++ ([z4] : List TEvent))) else (some y4_0) : Option ((List TEvent))).bind fun s10 => F_ref05_Filter_L1 p1 r4 (i4 + 1) s10
def F_ref05_Filter (p0 : (List TEvent)) (p1 : TRange) : Option ((List TEvent)) :=
  (F_ref05_Filter_L1 p1 p0 0 ([] : List TEvent) : Option ((List TEvent))).bind fun s2 => some s2
def F_ref05_Restrict_L1 (p1 : TRange) : (List TKV) → Nat → (List TKV) → Option ((List TKV))
  | [], _, y4_0 => some y4_0
  | z4 :: r4, i4, y4_0 => (F_ref04_In p1 z4.Key).bind fun x8 => (if x8 = true then ((appL 40 y4_0 ([z4] : List TKV)).bind fun x13 => some (y4_0 ++ ([z4] : List TKV))) else (some y4_0) : Option ((List TKV))).bind fun s10 => F_ref05_Restrict_L1 p1 r4 (i4 + 1) s10
def F_ref05_Restrict (p0 : (List TKV)) (p1 : TRange) : Option ((List TKV)) :=
  (F_ref05_Restrict_L1 p1 p0 0 ([] : List TKV) : Option ((List TKV))).bind fun s2 => some s2
def F_cmp_isNaN (p0 : ByteArray) : Option (Bool) :=
  some (!eqB p0 p0)
def F_cmp_Compare (p0 : ByteArray) (p1 : ByteArray) : Option (Int) :=
  (F_cmp_isNaN p0).bind fun x1 => (F_cmp_isNaN p1).bind fun x2 => if x1 = true then (if x2 = true then (some 0) else (some (-1))) else (if x2 = true then (some 1) else (if (lessB p0 p1) = true then (some (-1)) else (if (!leB p0 p1) = true then (some 1) else (some 0))))
def F_event_Fold_1 (p0 : TKV) (p1 : ByteArray) : Option (Int) :=
  (F_cmp_Compare p0.Key p1).bind fun x2 => some x2
def F_slices_BinarySearchFunc_event_Fold_1_L1 (p0 : (List TKV)) (p1 : ByteArray) : Nat → Int → Int → Option (Int)
  | 0, _, _ => none
  | m6 + 1, y6_0, y6_1 => if (decide (y6_0 < y6_1)) = true then ((getI p0 (IntKind.i64.wrap (shrI .u64 (IntKind.u64.wrap (IntKind.i64.wrap (y6_0 + y6_1))) 1))).bind fun x8 => (F_event_Fold_1 x8 p1).bind fun x9 => if (decide (x9 < 0)) = true then (F_slices_BinarySearchFunc_event_Fold_1_L1 p0 p1 m6 (IntKind.i64.wrap ((IntKind.i64.wrap (shrI .u64 (IntKind.u64.wrap (IntKind.i64.wrap (y6_0 + y6_1))) 1)) + 1)) y6_1) else (F_slices_BinarySearchFunc_event_Fold_1_L1 p0 p1 m6 y6_0 (IntKind.i64.wrap (shrI .u64 (IntKind.u64.wrap (IntKind.i64.wrap (y6_0 + y6_1))) 1)))) else (some y6_0)
def F_slices_BinarySearchFunc_event_Fold_1 (n : Nat) (p0 : (List TKV)) (p1 : ByteArray) : Option (Int × Bool) :=
  (F_slices_BinarySearchFunc_event_Fold_1_L1 p0 p1 n 0 (p0.length : Int) : Option (Int)).bind fun s1 => (if (decide (s1 < (p0.length : Int))) = true then ((getI p0 s1).bind fun x4 => (F_event_Fold_1 x4 p1).bind fun x5 => some (x5 == 0)) else (some false) : Option (Bool)).bind fun s3 => some (s1, s3)
def F_event_Fold_L1 (n : Nat) : (List TEvent) → Nat → (List TKV) → Option ((List TKV))
  | [], _, y4_0 => some y4_0
  | z4 :: r4, i4, y4_0 => (F_slices_BinarySearchFunc_event_Fold_1 n y4_0 z4.Key).bind fun x9 => (if x9.2 = true then ((delL y4_0 x9.1 (IntKind.i64.wrap (x9.1 + 1))).bind fun x15 => some x15) else (some y4_0) : Option ((List TKV))).bind fun s11 => if (!z4.Del) = true then ((insL 40 s11 x9.1 (⟨z4.Key, z4.Val, z4.Rev⟩ : TKV)).bind fun x14 => F_event_Fold_L1 n r4 (i4 + 1) x14) else (F_event_Fold_L1 n r4 (i4 + 1) s11)
def F_event_Fold (n : Nat) (p0 : (List TKV)) (p1 : (List TEvent)) : Option ((List TKV)) :=
  (cloneL 40 p0).bind fun x1 => (F_event_Fold_L1 n p1 0 x1 : Option ((List TKV))).bind fun s2 => some s2
def F_key_In (p0 : TRange) (p1 : ByteArray) : Option (Bool) :=
  some (bif (leB p0.From p1) then (bif (eqB p0.To ByteArray.empty) then true else (lessB p1 p0.To)) else false)
def F_event_Filter_1 (p0 : TEvent) (p1 : TRange) : Option (Bool) :=
  (F_key_In p1 p0.Key).bind fun x2 => some (!x2)
def F_slices_IndexFunc_event_Filter_1_L1 (p1c0 : TRange) : (List TEvent) → Nat → Option (Lp (Unit) (Int))
  | [], _ => some (.go ())
  | z2 :: r2, i2 => (F_event_Filter_1 z2 p1c0).bind fun x6 => if x6 = true then (some (.out (i2 : Int))) else (F_slices_IndexFunc_event_Filter_1_L1 p1c0 r2 (i2 + 1))
def F_slices_IndexFunc_event_Filter_1 (p0 : (List TEvent)) (p1c0 : TRange) : Option (Int) :=
  (F_slices_IndexFunc_event_Filter_1_L1 p1c0 p0 0 : Option (Lp (Unit) (Int))).bind fun s1 => lpK s1 fun u1 => some (-1)
def F_slices_DeleteFunc_event_Filter_1_L1 (p1c0 : TRange) : Nat → Int → Int → (List TEvent) → Option ((List TEvent) × Int)
  | 0, _, _, _ => none
  | m8 + 1, y8_0, y8_1, y8_2 => if (decide (y8_1 < (y8_2.length : Int))) = true then ((getI y8_2 y8_1).bind fun x10 => (F_event_Filter_1 x10 p1c0).bind fun x12 => (if (!x12) = true then ((getI y8_2 y8_0).bind fun x15 => some ((setI y8_2 y8_0 x10), (IntKind.i64.wrap (y8_0 + 1)))) else (some (y8_2, y8_0)) : Option ((List TEvent) × Int)).bind fun s14 => F_slices_DeleteFunc_event_Filter_1_L1 p1c0 m8 s14.2 (IntKind.i64.wrap (y8_1 + 1)) s14.1) else (some (y8_2, y8_0))
def F_slices_DeleteFunc_event_Filter_1 (n : Nat) (p0 : (List TEvent)) (p1c0 : TRange) : Option ((List TEvent)) :=
  (F_slices_IndexFunc_event_Filter_1 p0 p1c0).bind fun x1 => if (x1 == (-1)) = true then (some p0) else ((F_slices_DeleteFunc_event_Filter_1_L1 p1c0 n x1 (IntKind.i64.wrap (x1 + 1)) p0 : Option ((List TEvent) × Int)).bind fun s4 => (clrL (⟨0, ByteArray.empty, ByteArray.empty, false⟩ : TEvent) s4.1 s4.2).bind fun x5 => (subL0 x5 0 s4.2).bind fun x6 => some x6)
def F_event_Filter (n : Nat) (p0 : (List TEvent)) (p1 : TRange) : Option ((List TEvent)) :=
  (cloneL 48 p0).bind fun x2 => (F_slices_DeleteFunc_event_Filter_1 n x2 p1).bind fun x3 => some x3
def F_event_Restrict_1 (p0 : TKV) (p1 : TRange) : Option (Bool) :=
  (F_key_In p1 p0.Key).bind fun x2 => some (!x2)
def F_slices_IndexFunc_49_event_Restrict_1_L1 (p1c0 : TRange) : (List TKV) → Nat → Option (Lp (Unit) (Int))
  | [], _ => some (.go ())
  | z2 :: r2, i2 => (F_event_Restrict_1 z2 p1c0).bind fun x6 => if x6 = true then (some (.out (i2 : Int))) else (F_slices_IndexFunc_49_event_Restrict_1_L1 p1c0 r2 (i2 + 1))
def F_slices_IndexFunc_49_event_Restrict_1 (p0 : (List TKV)) (p1c0 : TRange) : Option (Int) :=
  (F_slices_IndexFunc_49_event_Restrict_1_L1 p1c0 p0 0 : Option (Lp (Unit) (Int))).bind fun s1 => lpK s1 fun u1 => some (-1)
def F_slices_DeleteFunc_40_event_Restrict_1_L1 (p1c0 : TRange) : Nat → Int → Int → (List TKV) → Option ((List TKV) × Int)
  | 0, _, _, _ => none
  | m8 + 1, y8_0, y8_1, y8_2 => if (decide (y8_1 < (y8_2.length : Int))) = true then ((getI y8_2 y8_1).bind fun x10 => (F_event_Restrict_1 x10 p1c0).bind fun x12 => (if (!x12) = true then ((getI y8_2 y8_0).bind fun x15 => some ((setI y8_2 y8_0 x10), (IntKind.i64.wrap (y8_0 + 1)))) else (some (y8_2, y8_0)) : Option ((List TKV) × Int)).bind fun s14 => F_slices_DeleteFunc_40_event_Restrict_1_L1 p1c0 m8 s14.2 (IntKind.i64.wrap (y8_1 + 1)) s14.1) else (some (y8_2, y8_0))
def F_slices_DeleteFunc_40_event_Restrict_1 (n : Nat) (p0 : (List TKV)) (p1c0 : TRange) : Option ((List TKV)) :=
  (F_slices_IndexFunc_49_event_Restrict_1 p0 p1c0).bind fun x1 => if (x1 == (-1)) = true then (some p0) else ((F_slices_DeleteFunc_40_event_Restrict_1_L1 p1c0 n x1 (IntKind.i64.wrap (x1 + 1)) p0 : Option ((List TKV) × Int)).bind fun s4 => (clrL (⟨ByteArray.empty, ByteArray.empty, 0⟩ : TKV) s4.1 s4.2).bind fun x5 => (subL0 x5 0 s4.2).bind fun x6 => some x6)
def F_event_Restrict (n : Nat) (p0 : (List TKV)) (p1 : TRange) : Option ((List TKV)) :=
  (cloneL 40 p0).bind fun x2 => (F_slices_DeleteFunc_40_event_Restrict_1 n x2 p1).bind fun x3 => some x3
def F_event_Last_L1 : (List TEvent) → Nat → (List (ByteArray × TEvent)) → Option ((List (ByteArray × TEvent)))
  | [], _, y6_0 => some y6_0
  | z6 :: r6, i6, y6_0 => F_event_Last_L1 r6 (i6 + 1) (mset y6_0 z6.Key z6)
def F_event_Last (p0 : (List TEvent)) : Option ((List TEvent)) :=
  (F_event_Last_L1 p0 0 ([] : (List (ByteArray × TEvent))) : Option ((List (ByteArray × TEvent)))).bind fun s2 => (lastL s2).bind fun x4 => some x4
def F_law05_few (p0 : (List TEvent)) : Option (Bool) :=
  some (decide ((p0.length : Int) ≤ 60))
def F_law05_EventFolds (n : Nat) (p0 : (List TKV)) (p1 : (List TEvent)) (p2 : TRange) : Option (Bool) :=
  (F_law05_few p1).bind fun x3 => (if (bif (!x3) then true else (decide ((p0.length : Int) > 60))) = true then (some true) else ((F_ref05_Map p0).bind fun x18 => some (!x18)) : Option (Bool)).bind fun s5 => if s5 = true then (some true) else ((appL 40 ([] : List TKV) p0).bind fun x8 => (F_event_Fold n p0 p1).bind fun x9 => (F_ref05_Fold n p0 p1).bind fun x10 => (F_ref05_KVs x9 x10).bind fun x11 => if x11 = true then ((F_event_Restrict n x9 p2).bind fun x13 => (F_ref05_Restrict x9 p2).bind fun x14 => (F_ref05_KVs x13 x14).bind fun x15 => if x15 = true then ((F_ref05_KVs p0 (([] : List TKV) ++ p0)).bind fun x17 => some x17) else (some false)) else (some false))
def F_law05_EventRange (n : Nat) (p0 : (List TKV)) (p1 : (List TEvent)) (p2 : TRange) : Option (Bool) :=
  (F_law05_few p1).bind fun x3 => (if (bif (!x3) then true else (decide ((p0.length : Int) > 60))) = true then (some true) else ((F_ref05_Map p0).bind fun x16 => some (!x16)) : Option (Bool)).bind fun s5 => if s5 = true then (some true) else ((F_event_Fold n p0 p1).bind fun x7 => (F_event_Restrict n x7 p2).bind fun x8 => (F_event_Restrict n p0 p2).bind fun x9 => (F_event_Filter n p1 p2).bind fun x10 => (F_event_Fold n x9 x10).bind fun x11 => (F_ref05_KVs x8 x11).bind fun x12 => (if x12 = true then ((F_ref05_Map x8).bind fun x15 => some x15) else (some false) : Option (Bool)).bind fun s14 => some s14)
def F_law05_EventKeys_L1 (p2 : ByteArray) : (List TEvent) → Nat → Bool → ByteArray → ByteArray → Int → Option (Bool × ByteArray × ByteArray × Int)
  | [], _, y17_0, y17_1, y17_2, y17_3 => some (y17_0, y17_1, y17_2, y17_3)
  | z17 :: r17, i17, y17_0, y17_1, y17_2, y17_3 => (if (eqB z17.Key p2) = true then (some ((!z17.Del), p2, z17.Val, z17.Rev)) else (some (y17_0, y17_1, y17_2, y17_3)) : Option (Bool × ByteArray × ByteArray × Int)).bind fun s22 => F_law05_EventKeys_L1 p2 r17 (i17 + 1) s22.1 s22.2.1 s22.2.2.1 s22.2.2.2
def F_law05_EventKeys_L2 (p2 : ByteArray) : (List TKV) → Nat → Bool → ByteArray → ByteArray → Int → Option (Bool × ByteArray × ByteArray × Int)
  | [], _, y26_0, y26_1, y26_2, y26_3 => some (y26_0, y26_1, y26_2, y26_3)
  | z26 :: r26, i26, y26_0, y26_1, y26_2, y26_3 => (if (eqB z26.Key p2) = true then (some (true, z26.Key, z26.Val, z26.Rev)) else (some (y26_0, y26_1, y26_2, y26_3)) : Option (Bool × ByteArray × ByteArray × Int)).bind fun s31 => F_law05_EventKeys_L2 p2 r26 (i26 + 1) s31.1 s31.2.1 s31.2.2.1 s31.2.2.2
def F_law05_EventKeys (n : Nat) (p0 : (List TKV)) (p1 : (List TEvent)) (p2 : ByteArray) : Option (Bool) :=
  (F_law05_few p1).bind fun x2 => (if (bif (!x2) then true else (decide ((p0.length : Int) > 60))) = true then (some true) else ((F_ref05_Map p0).bind fun x33 => some (!x33)) : Option (Bool)).bind fun s4 => if s4 = true then (some true) else ((F_law05_EventKeys_L2 p2 p0 0 false ByteArray.empty ByteArray.empty 0 : Option (Bool × ByteArray × ByteArray × Int)).bind fun s7 => (F_law05_EventKeys_L1 p2 p1 0 s7.1 s7.2.1 s7.2.2.1 s7.2.2.2 : Option (Bool × ByteArray × ByteArray × Int)).bind fun s8 => (F_event_Fold n p0 p1).bind fun x9 => (addS p2 (⟨#[0]⟩ : ByteArray)).bind fun x10 => (F_event_Restrict n x9 (⟨p2, (p2 ++ (⟨#[0]⟩ : ByteArray))⟩ : TRange)).bind fun x11 => (if (bif (decide ((x11.length : Int) ≤ 1)) then (((x11.length : Int) == 1) == s8.1) else false) = true then ((if (!s8.1) = true then (some true) else ((getI x11 0).bind fun x16 => some (eq_TKV x16 (⟨s8.2.1, s8.2.2.1, s8.2.2.2⟩ : TKV))) : Option (Bool)).bind fun s15 => some s15) else (some false) : Option (Bool)).bind fun s13 => some s13)
def F_law05_EventLast_L1 (x6 : (List TEvent)) : (List TEvent) → Nat → Option (Lp (Unit) (Bool))
  | [], _ => some (.go ())
  | z15 :: r15, i15 => (getI x6 (IntKind.i64.wrap ((i15 : Int) - 1))).bind fun x18 => if (!lessB x18.Key z15.Key) = true then (some (.out false)) else (F_law05_EventLast_L1 x6 r15 (i15 + 1))
def F_law05_EventLast (n : Nat) (p0 : (List TKV)) (p1 : (List TEvent)) : Option (Bool) :=
  (F_law05_few p1).bind fun x2 => (if (bif (!x2) then true else (decide ((p0.length : Int) > 60))) = true then (some true) else ((F_ref05_Map p0).bind fun x21 => some (!x21)) : Option (Bool)).bind fun s4 => if s4 = true then (some true) else ((F_event_Last p1).bind fun x6 => (F_law05_EventLast_L1 x6 (List.drop 1 x6) 1 : Option (Lp (Unit) (Bool))).bind fun s7 => lpK s7 fun u7 => (F_event_Fold n p0 p1).bind fun x8 => (F_event_Fold n p0 x6).bind fun x9 => (F_ref05_KVs x8 x9).bind fun x10 => (if x10 = true then ((F_event_Last x6).bind fun x13 => (F_ref05_Events x13 x6).bind fun x14 => some x14) else (some false) : Option (Bool)).bind fun s12 => some s12)
def F_event_row (p0 : (List (List TEvent))) (p1 : (List TEvent)) : Option ((List (List TEvent))) :=
  (cloneL 48 p1).bind fun x1 => (appL 24 p0 ([x1] : List (List TEvent))).bind fun x3 => some (p0 ++ ([x1] : List (List TEvent)))
def F_event_Cut_L1 (p0 : (List TEvent)) : (List TEvent) → Nat → (List (List TEvent)) → Int → Option ((List (List TEvent)))
  | [], _, y3_0, _ => some y3_0
  | z3 :: r3, i3, y3_0, y3_1 => (if ((IntKind.i64.wrap ((i3 : Int) + 1)) == (p0.length : Int)) = true then (some (true, true)) else ((getI p0 (IntKind.i64.wrap ((i3 : Int) + 1))).bind fun x11 => some (false, (x11.Rev != z3.Rev))) : Option (Bool × Bool)).bind fun s7 => if s7.2 = true then ((subL p0 y3_1 (IntKind.i64.wrap ((i3 : Int) + 1))).bind fun x9 => (F_event_row y3_0 x9).bind fun x10 => F_event_Cut_L1 p0 r3 (i3 + 1) x10 (IntKind.i64.wrap ((i3 : Int) + 1))) else (F_event_Cut_L1 p0 r3 (i3 + 1) y3_0 y3_1)
def F_event_Cut (p0 : (List TEvent)) : Option ((List (List TEvent))) :=
  (F_event_Cut_L1 p0 p0 0 ([] : List (List TEvent)) 0 : Option ((List (List TEvent)))).bind fun s1 => some s1
def F_law05_EventJoins_L1 : (List (List TEvent)) → Nat → (List TEvent) → Option (Lp ((List TEvent)) (Bool))
  | [], _, y21_0 => some (.go y21_0)
  | z21 :: r21, i21, y21_0 => if ((z21.length : Int) == 0) = true then (some (.out false)) else ((appL 48 y21_0 z21).bind fun x27 => F_law05_EventJoins_L1 r21 (i21 + 1) (y21_0 ++ z21))
def F_law05_EventJoins (n : Nat) (p0 : (List TKV)) (p1 : (List TEvent)) (p2 : (List TEvent)) : Option (Bool) :=
  (F_law05_few p1).bind fun x2 => (if (!x2) = true then (some true) else ((F_law05_few p2).bind fun x29 => some (!x29)) : Option (Bool)).bind fun s4 => (if (bif s4 then true else (decide ((p0.length : Int) > 60))) = true then (some true) else ((F_ref05_Map p0).bind fun x28 => some (!x28)) : Option (Bool)).bind fun s6 => if s6 = true then (some true) else ((appL 48 ([] : List TEvent) p1).bind fun x9 => (appL 48 (([] : List TEvent) ++ p1) p2).bind fun x10 => (F_event_Cut ((([] : List TEvent) ++ p1) ++ p2)).bind fun x11 => (F_law05_EventJoins_L1 x11 0 ([] : List TEvent) : Option (Lp ((List TEvent)) (Bool))).bind fun s13 => lpK s13 fun u13 => (F_event_Fold n p0 ((([] : List TEvent) ++ p1) ++ p2)).bind fun x14 => (F_event_Fold n p0 p1).bind fun x15 => (F_event_Fold n x15 p2).bind fun x16 => (F_ref05_KVs x14 x16).bind fun x17 => (if x17 = true then ((F_ref05_Events u13 ((([] : List TEvent) ++ p1) ++ p2)).bind fun x20 => some x20) else (some false) : Option (Bool)).bind fun s19 => some s19)
def F_ref05_Last_L2 (z3 : TEvent) : (List TEvent) → Nat → Option (Int × Int × Bool × Bool × Bool)
  | [], i19 => some ((i19 : Int), (i19 : Int), false, false, false)
  | z19 :: r19, i19 => if (lessB z19.Key z3.Key) = true then (F_ref05_Last_L2 z3 r19 (i19 + 1)) else (some ((i19 : Int), (i19 : Int), true, true, (lessB z19.Key z3.Key)))
def F_ref05_Last_L3 (p0 : (List TEvent)) (z3 : TEvent) : Nat → Bool → Int → Option (Bool × Int × Int × Bool)
  | 0, _, _ => none
  | m24 + 1, y24_0, y24_1 => if (decide (y24_1 < (p0.length : Int))) = true then ((if y24_0 = true then ((getI p0 y24_1).bind fun x28 => some (true, (!eqB x28.Key z3.Key))) else (some (false, false)) : Option (Bool × Bool)).bind fun s27 => F_ref05_Last_L3 p0 z3 m24 s27.2 (IntKind.i64.wrap (y24_1 + 1))) else (some (y24_0, y24_1, y24_1, (decide (y24_1 < (p0.length : Int)))))
def F_ref05_Last_L1 (n : Nat) (p0 : (List TEvent)) : (List TEvent) → Nat → (List TEvent) → Option ((List TEvent))
  | [], _, y3_0 => some y3_0
  | z3 :: r3, i3, y3_0 => ((F_ref05_Last_L3 p0 z3 n true (IntKind.i64.wrap ((i3 : Int) + 1)) : Option (Bool × Int × Int × Bool)).bind fun s7 => if (!s7.1) = true then (some (y3_0, s7.1, s7.2.1, s7.2.2.1, s7.2.2.2, s7.1, (!s7.1))) else ((F_ref05_Last_L2 z3 y3_0 0 : Option (Int × Int × Bool × Bool × Bool)).bind fun s9 => (subL0 y3_0 0 s9.1).bind fun x11 => (appL 48 ([] : List TEvent) x11).bind fun x13 => (appL 48 (([] : List TEvent) ++ x11) ([z3] : List TEvent)).bind fun x16 => (subL0 y3_0 s9.1 (y3_0.length : Int)).bind fun x17 => (appL 48 ((([] : List TEvent) ++ x11) ++ ([z3] : List TEvent)) x17).bind fun x18 => some ((((([] : List TEvent) ++ x11) ++ ([z3] : List TEvent)) ++ x17), s7.1, s7.2.1, s7.2.2.1, s7.2.2.2, s7.1, (!s7.1))) : Option ((List TEvent) × Bool × Int × Int × Bool × Bool × Bool)).bind fun s6 => F_ref05_Last_L1 n p0 r3 (i3 + 1) s6.1
def F_ref05_Last (n : Nat) (p0 : (List TEvent)) : Option ((List TEvent)) :=
  (F_ref05_Last_L1 n p0 p0 0 ([] : List TEvent) : Option ((List TEvent))).bind fun s1 => some s1
def curT (cl : List (List TEvent)) : Option (List TEvent) → Option (List (List TEvent) × List TEvent)
  | none => none
  | some y4 => some (cl, y4)
def F_ref05_Cut_L1 (p0 : List TEvent) : List TEvent → Nat → List (List TEvent) → Option (List TEvent) → Option (List (List TEvent))
  | [], _, cl, cur => some (cl ++ cur.toList)
  | z :: r, i, cl, cur => ((if ((i : Int) == 0) = true then some true else (getI p0 (IntKind.i64.wrap ((i : Int) - 1))).bind fun x11 => some (z.Rev != x11.Rev)).bind fun s7 =>
    (if s7 = true then (appL 24 (cl ++ cur.toList) ([[]] : List (List TEvent))).bind fun x9 => some (cl ++ cur.toList, ([] : List TEvent)) else curT cl cur)).bind fun s10 =>
    (appL 48 s10.2 ([z] : List TEvent)).bind fun x13 => F_ref05_Cut_L1 p0 r (i + 1) s10.1 (some (s10.2 ++ ([z] : List TEvent)))
def F_ref05_Cut (p0 : List TEvent) : Option (List (List TEvent)) := F_ref05_Cut_L1 p0 p0 0 [] none
def F_law05_EventTells_L1 (x6 : (List (List TEvent))) : (List (List TEvent)) → Nat → Option (Lp (Unit) (Bool))
  | [], _ => some (.go ())
  | z16 :: r16, i16 => (getI x6 (i16 : Int)).bind fun x20 => (F_ref05_Events z16 x20).bind fun x21 => if (!x21) = true then (some (.out false)) else (F_law05_EventTells_L1 x6 r16 (i16 + 1))
def F_law05_EventTells (n : Nat) (p0 : (List TEvent)) (p1 : TRange) : Option (Bool) :=
  (F_law05_few p0).bind fun x3 => if (!x3) = true then (some true) else ((F_event_Cut p0).bind fun x5 => (F_ref05_Cut p0).bind fun x6 => if ((x5.length : Int) != (x6.length : Int)) = true then (some false) else ((F_law05_EventTells_L1 x6 x5 0 : Option (Lp (Unit) (Bool))).bind fun s8 => lpK s8 fun u8 => (F_event_Filter n p0 p1).bind fun x9 => (F_ref05_Filter p0 p1).bind fun x10 => (F_ref05_Events x9 x10).bind fun x11 => if x11 = true then ((F_event_Last p0).bind fun x13 => (F_ref05_Last n p0).bind fun x14 => (F_ref05_Events x13 x14).bind fun x15 => some x15) else (some false)))
end Go.Proofs.Ytcjcbcmapjcfnaa.V
