/- Plain functions, as the program has them.
   No condition: these are laws of the clean machine and of this program. -/
import Derived.Test.YthgcmcifhhkebaaP0
namespace Go.Proofs.Ythgcmcifhhkebaa.V
open Go
set_option linter.unusedVariables false
set_option linter.unusedSimpArgs false
set_option maxRecDepth 100000
def F_ref04_In (p0 : TRange) (p1 : ByteArray) : Option (Bool) :=
  some (bif (!lessB p1 p0.From) then (bif (eqB p0.To ByteArray.empty) then true else (lessB p1 p0.To)) else false)
def F_ref11_Stab_L2 (z3 : Timpostref11_Sub) : (List Int) → Nat → Option (Int × Int × Bool × Bool × Bool)
  | [], i22 => some ((i22 : Int), (i22 : Int), false, false, false)
  | z22 :: r22, i22 => if (decide (z22 < z3.Id)) = true then (F_ref11_Stab_L2 z3 r22 (i22 + 1)) else (some ((i22 : Int), (i22 : Int), true, true, (decide (z22 < z3.Id))))
def F_ref11_Stab_L1 (p1 : ByteArray) (p2 : Int) : (List Timpostref11_Sub) → Nat → (List Int) → Option ((List Int))
  | [], _, y3_0 => some y3_0
  | z3 :: r3, i3, y3_0 => ((F_ref04_In z3.R p1).bind fun x8 => (if (!x8) = true then (some (true, true)) else (some (false, (decide (z3.Rev ≥ p2)))) : Option (Bool × Bool)).bind fun s10 => if s10.2 = true then (some (y3_0, x8, (!x8), s10.1, s10.2)) else ((F_ref11_Stab_L2 z3 y3_0 0 : Option (Int × Int × Bool × Bool × Bool)).bind fun s12 => (subL0 y3_0 0 s12.1).bind fun x14 => (appL 8 ([] : List Int) x14).bind fun x16 => (appL 8 (([] : List Int) ++ x14) ([z3.Id] : List Int)).bind fun x19 => (subL0 y3_0 s12.1 (y3_0.length : Int)).bind fun x20 => (appL 8 ((([] : List Int) ++ x14) ++ ([z3.Id] : List Int)) x20).bind fun x21 => some ((((([] : List Int) ++ x14) ++ ([z3.Id] : List Int)) ++ x20), x8, (!x8), s10.1, s10.2)) : Option ((List Int) × Bool × Bool × Bool × Bool)).bind fun s6 => F_ref11_Stab_L1 p1 p2 r3 (i3 + 1) s6.1
def F_ref11_Stab (p0 : (List Timpostref11_Sub)) (p1 : ByteArray) (p2 : Int) : Option ((List Int)) :=
  (F_ref11_Stab_L1 p1 p2 p0 0 ([] : List Int) : Option ((List Int))).bind fun s1 => some s1
def F_ref04_Empty (p0 : TRange) : Option (Bool) :=
  some (bif (!eqB p0.To ByteArray.empty) then (leB p0.To p0.From) else false)
def F_ref11_less (p0 : Timpostref11_Sub) (p1 : Timpostref11_Sub) : Option (Bool) :=
  if (!eqB p0.R.From p1.R.From) = true then (some (lessB p0.R.From p1.R.From)) else (some (decide (p0.Id < p1.Id)))
def F_ref11_Add_L1 (p0 : (List Timpostref11_Sub)) (p1 : Timpostref11_Sub) : (List Timpostref11_Sub) → Nat → (List Timpostref11_Sub) → Bool → Option (Lp ((List Timpostref11_Sub) × Bool) ((List Timpostref11_Sub) × Int))
  | [], _, y10_0, y10_1 => some (.go (y10_0, y10_1))
  | z10 :: r10, i10, y10_0, y10_1 => if (z10.Id == p1.Id) = true then (some (.out (p0, 8))) else ((if (!y10_1) = true then ((F_ref11_less p1 z10).bind fun x25 => some (true, x25)) else (some (false, false)) : Option (Bool × Bool)).bind fun s15 => (if s15.2 = true then ((appL 48 y10_0 ([p1] : List Timpostref11_Sub)).bind fun x22 => some ((y10_0 ++ ([p1] : List Timpostref11_Sub)), true)) else (some (y10_0, y10_1)) : Option ((List Timpostref11_Sub) × Bool)).bind fun s17 => (appL 48 s17.1 ([z10] : List Timpostref11_Sub)).bind fun x20 => F_ref11_Add_L1 p0 p1 r10 (i10 + 1) (s17.1 ++ ([z10] : List Timpostref11_Sub)) s17.2)
def F_ref11_Add (p0 : (List Timpostref11_Sub)) (p1 : Timpostref11_Sub) : Option ((List Timpostref11_Sub) × Int) :=
  (F_ref04_Empty p1.R).bind fun x2 => if x2 = true then (some (p0, 1)) else ((F_ref11_Add_L1 p0 p1 p0 0 ([] : List Timpostref11_Sub) false : Option (Lp ((List Timpostref11_Sub) × Bool) ((List Timpostref11_Sub) × Int))).bind fun s4 => lpK s4 fun u4 => if (!u4.2) = true then ((appL 48 u4.1 ([p1] : List Timpostref11_Sub)).bind fun x7 => some ((u4.1 ++ ([p1] : List Timpostref11_Sub)), 0)) else (some (u4.1, 0)))
def F_ref11_Del_L1 (p1 : Int) : (List Timpostref11_Sub) → Nat → (List Timpostref11_Sub) → Option ((List Timpostref11_Sub))
  | [], _, y4_0 => some y4_0
  | z4 :: r4, i4, y4_0 => (if (z4.Id != p1) = true then ((appL 48 y4_0 ([z4] : List Timpostref11_Sub)).bind fun x12 => some (y4_0 ++ ([z4] : List Timpostref11_Sub))) else (some y4_0) : Option ((List Timpostref11_Sub))).bind fun s9 => F_ref11_Del_L1 p1 r4 (i4 + 1) s9
def F_ref11_Del (p0 : (List Timpostref11_Sub)) (p1 : Int) : Option ((List Timpostref11_Sub) × Int) :=
  (F_ref11_Del_L1 p1 p0 0 ([] : List Timpostref11_Sub) : Option ((List Timpostref11_Sub))).bind fun s1 => if ((s1.length : Int) == (p0.length : Int)) = true then (some (p0, 4)) else (some (s1, 0))
def F_ref11_Ints_L1 (p1 : (List Int)) : (List Int) → Nat → Option (Lp (Unit) (Bool))
  | [], _ => some (.go ())
  | z3 :: r3, i3 => (getI p1 (i3 : Int)).bind fun x7 => if (z3 != x7) = true then (some (.out false)) else (F_ref11_Ints_L1 p1 r3 (i3 + 1))
def F_ref11_Ints (p0 : (List Int)) (p1 : (List Int)) : Option (Bool) :=
  if ((p0.length : Int) != (p1.length : Int)) = true then (some false) else ((F_ref11_Ints_L1 p1 p0 0 : Option (Lp (Unit) (Bool))).bind fun s2 => lpK s2 fun u2 => some true)
def F_subidx_New  : Option (Osubidx_Index) :=
  some (⟨([] : List Tsubidx_node)⟩ : Osubidx_Index)
def F_law11_made (p0 : Timpostref11_Sub) : Option (Tsubidx_Sub) :=
  some (⟨p0.Id, p0.Rev, p0.R⟩ : Tsubidx_Sub)
def F_key_Empty (p0 : TRange) : Option (Bool) :=
  some (bif (!eqB p0.To ByteArray.empty) then (eq_TRange p0 (⟨(maxS p0.From p0.To), p0.To⟩ : TRange)) else false)
def F_subidx_Index_of_1 (p0 : Tsubidx_node) (p1 : Int) : Option (Bool) :=
  some (p0.Sub.Id == p1)
def F_slices_IndexFunc_subidx_Index_of_1_L1 (p1c0 : Int) : (List Tsubidx_node) → Nat → Option (Lp (Unit) (Int))
  | [], _ => some (.go ())
  | z2 :: r2, i2 => (F_subidx_Index_of_1 z2 p1c0).bind fun x6 => if x6 = true then (some (.out (i2 : Int))) else (F_slices_IndexFunc_subidx_Index_of_1_L1 p1c0 r2 (i2 + 1))
def F_slices_IndexFunc_subidx_Index_of_1 (p0 : (List Tsubidx_node)) (p1c0 : Int) : Option (Int) :=
  (F_slices_IndexFunc_subidx_Index_of_1_L1 p1c0 p0 0 : Option (Lp (Unit) (Int))).bind fun s1 => lpK s1 fun u1 => some (-1)
def F_subidx_Index_of (p0 : Osubidx_Index) (p1 : Int) : Option (Int × Osubidx_Index) :=
  (F_slices_IndexFunc_subidx_Index_of_1 p0.l p1).bind fun x2 => some (x2, p0)
def F_cmp_isNaN (p0 : ByteArray) : Option (Bool) :=
  some (!eqB p0 p0)
def F_cmp_Compare (p0 : ByteArray) (p1 : ByteArray) : Option (Int) :=
  (F_cmp_isNaN p0).bind fun x1 => (F_cmp_isNaN p1).bind fun x2 => if x1 = true then (if x2 = true then (some 0) else (some (-1))) else (if x2 = true then (some 1) else (if (lessB p0 p1) = true then (some (-1)) else (if (!leB p0 p1) = true then (some 1) else (some 0))))
def F_cmp_isNaN_46 (p0 : Int) : Option (Bool) :=
  some (p0 != p0)
def F_cmp_Compare_39 (p0 : Int) (p1 : Int) : Option (Int) :=
  (F_cmp_isNaN_46 p0).bind fun x1 => (F_cmp_isNaN_46 p1).bind fun x2 => if x1 = true then (if x2 = true then (some 0) else (some (-1))) else (if x2 = true then (some 1) else (if (decide (p0 < p1)) = true then (some (-1)) else (if (decide (p0 > p1)) = true then (some 1) else (some 0))))
def F_cmp_Or_L1 : (List Int) → Nat → Option (Lp (Unit) (Int))
  | [], _ => some (.go ())
  | z2 :: r2, i2 => if (z2 != 0) = true then (some (.out z2)) else (F_cmp_Or_L1 r2 (i2 + 1))
def F_cmp_Or (p0 : (List Int)) : Option (Int) :=
  (F_cmp_Or_L1 p0 0 : Option (Lp (Unit) (Int))).bind fun s1 => lpK s1 fun u1 => some 0
def F_subidx_compare (p0 : Tsubidx_node) (p1 : Tsubidx_node) : Option (Int) :=
  (F_cmp_Compare p0.Sub.R.From p1.Sub.R.From).bind fun x3 => (F_cmp_Compare_39 p0.Sub.Id p1.Sub.Id).bind fun x4 => (F_cmp_Or ([x3, x4] : List Int)).bind fun x6 => some x6
def F_slices_BinarySearchFunc_subidx_compare_L1 (p0 : (List Tsubidx_node)) (p1 : Tsubidx_node) : Nat → Int → Int → Option (Int)
  | 0, _, _ => none
  | m6 + 1, y6_0, y6_1 => if (decide (y6_0 < y6_1)) = true then ((getI p0 (IntKind.i64.wrap (shrI .u64 (IntKind.u64.wrap (IntKind.i64.wrap (y6_0 + y6_1))) 1))).bind fun x8 => (F_subidx_compare x8 p1).bind fun x9 => if (decide (x9 < 0)) = true then (F_slices_BinarySearchFunc_subidx_compare_L1 p0 p1 m6 (IntKind.i64.wrap ((IntKind.i64.wrap (shrI .u64 (IntKind.u64.wrap (IntKind.i64.wrap (y6_0 + y6_1))) 1)) + 1)) y6_1) else (F_slices_BinarySearchFunc_subidx_compare_L1 p0 p1 m6 y6_0 (IntKind.i64.wrap (shrI .u64 (IntKind.u64.wrap (IntKind.i64.wrap (y6_0 + y6_1))) 1)))) else (some y6_0)
def F_slices_BinarySearchFunc_subidx_compare (n : Nat) (p0 : (List Tsubidx_node)) (p1 : Tsubidx_node) : Option (Int × Bool) :=
  (F_slices_BinarySearchFunc_subidx_compare_L1 p0 p1 n 0 (p0.length : Int) : Option (Int)).bind fun s2 => if (decide (s2 < (p0.length : Int))) = true then ((getI p0 s2).bind fun x4 => (F_subidx_compare x4 p1).bind fun x5 => some (s2, (x5 == 0))) else (some (s2, false))
def F_subidx_Index_tops_L1 : Nat → Int → (List Tsubidx_node) → Option ((List Tsubidx_node))
  | 0, _, _ => none
  | m2 + 1, y2_0, y2_1 => if (decide (y2_0 < (y2_1.length : Int))) = true then ((getI y2_1 y2_0).bind fun x4 => (if (decide (y2_0 > 0)) = true then (((getI (setI (setI y2_1 y2_0 (⟨x4.Sub, x4.Sub.R.To, x4.all⟩ : Tsubidx_node)) y2_0 (⟨x4.Sub, x4.Sub.R.To, (eqB x4.Sub.R.To ByteArray.empty)⟩ : Tsubidx_node)) (IntKind.i64.wrap (y2_0 - 1))).bind fun x10 => if (eqB x4.Sub.R.To ByteArray.empty) = true then (some ((setI (setI (setI (setI y2_1 y2_0 (⟨x4.Sub, x4.Sub.R.To, x4.all⟩ : Tsubidx_node)) y2_0 (⟨x4.Sub, x4.Sub.R.To, (eqB x4.Sub.R.To ByteArray.empty)⟩ : Tsubidx_node)) y2_0 (⟨x4.Sub, (maxS x4.Sub.R.To x10.top), (eqB x4.Sub.R.To ByteArray.empty)⟩ : Tsubidx_node)) y2_0 (⟨x4.Sub, (maxS x4.Sub.R.To x10.top), true⟩ : Tsubidx_node)), x10.top, (maxS x4.Sub.R.To x10.top), true, true)) else ((getI (setI (setI y2_1 y2_0 (⟨x4.Sub, x4.Sub.R.To, x4.all⟩ : Tsubidx_node)) y2_0 (⟨x4.Sub, x4.Sub.R.To, (eqB x4.Sub.R.To ByteArray.empty)⟩ : Tsubidx_node)) (IntKind.i64.wrap (y2_0 - 1))).bind fun x14 => some ((setI (setI (setI (setI y2_1 y2_0 (⟨x4.Sub, x4.Sub.R.To, x4.all⟩ : Tsubidx_node)) y2_0 (⟨x4.Sub, x4.Sub.R.To, (eqB x4.Sub.R.To ByteArray.empty)⟩ : Tsubidx_node)) y2_0 (⟨x4.Sub, (maxS x4.Sub.R.To x10.top), (eqB x4.Sub.R.To ByteArray.empty)⟩ : Tsubidx_node)) y2_0 (⟨x4.Sub, (maxS x4.Sub.R.To x10.top), x14.all⟩ : Tsubidx_node)), x10.top, (maxS x4.Sub.R.To x10.top), false, x14.all)) : Option ((List Tsubidx_node) × ByteArray × ByteArray × Bool × Bool)).bind fun s9 => some s9.1) else (some (setI (setI y2_1 y2_0 (⟨x4.Sub, x4.Sub.R.To, x4.all⟩ : Tsubidx_node)) y2_0 (⟨x4.Sub, x4.Sub.R.To, (eqB x4.Sub.R.To ByteArray.empty)⟩ : Tsubidx_node))) : Option ((List Tsubidx_node))).bind fun s8 => F_subidx_Index_tops_L1 m2 (IntKind.i64.wrap (y2_0 + 1)) s8) else (some y2_1)
def F_subidx_Index_tops (n : Nat) (p0 : Osubidx_Index) (p1 : Int) : Option (Osubidx_Index) :=
  (F_subidx_Index_tops_L1 n p1 p0.l : Option ((List Tsubidx_node))).bind fun s1 => some (⟨s1⟩ : Osubidx_Index)
def F_subidx_Index_Add (n : Nat) (p0 : Osubidx_Index) (p1 : Tsubidx_Sub) : Option (Int × Osubidx_Index) :=
  (F_key_Empty p1.R).bind fun x2 => if x2 = true then (some (1, p0)) else ((F_subidx_Index_of p0 p1.Id).bind fun x4 => if (decide (x4.1 ≥ 0)) = true then (some (8, (⟨x4.2.l⟩ : Osubidx_Index))) else ((F_slices_BinarySearchFunc_subidx_compare n x4.2.l (⟨p1, ByteArray.empty, false⟩ : Tsubidx_node)).bind fun x7 => (insL 72 x4.2.l x7.1 (⟨p1, ByteArray.empty, false⟩ : Tsubidx_node)).bind fun x9 => (F_subidx_Index_tops n (⟨x9⟩ : Osubidx_Index) x7.1).bind fun x10 => some (0, x10)))
def F_subidx_Index_Del (n : Nat) (p0 : Osubidx_Index) (p1 : Int) : Option (Int × Osubidx_Index) :=
  (F_subidx_Index_of p0 p1).bind fun x2 => if (decide (x2.1 < 0)) = true then (some (4, (⟨x2.2.l⟩ : Osubidx_Index))) else ((delL x2.2.l x2.1 (IntKind.i64.wrap (x2.1 + 1))).bind fun x4 => (F_subidx_Index_tops n (⟨x4⟩ : Osubidx_Index) x2.1).bind fun x5 => some (0, x5))
def F_law11_do (n : Nat) (p0 : Osubidx_Index) (p1 : (List Timpostref11_Sub)) (p2 : Timpostlaw11_Deed) : Option ((List Timpostref11_Sub) × Bool × Osubidx_Index) :=
  if (p2.Kind == 1) = true then ((F_law11_made p2.S).bind fun x3 => (F_subidx_Index_Add n p0 x3).bind fun x4 => (F_ref11_Add p1 p2.S).bind fun x5 => some (x5.1, (x4.1 == x5.2), (⟨x4.2.l⟩ : Osubidx_Index))) else ((F_subidx_Index_Del n p0 p2.S.Id).bind fun x6 => (F_ref11_Del p1 p2.S.Id).bind fun x7 => some (x7.1, (x6.1 == x7.2), (⟨x6.2.l⟩ : Osubidx_Index)))
def F_law11_ran_L1 (n : Nat) : (List Timpostlaw11_Deed) → Nat → (List Timpostref11_Sub) → (List Tsubidx_node) → Option ((List Tsubidx_node))
  | [], _, _, y3_1 => some y3_1
  | z3 :: r3, i3, y3_0, y3_1 => if (decide ((i3 : Int) < 60)) = true then ((F_law11_do n (⟨y3_1⟩ : Osubidx_Index) y3_0 z3).bind fun x7 => F_law11_ran_L1 n r3 (i3 + 1) x7.1 x7.2.2.l) else (some y3_1)
def F_law11_ran (n : Nat) (p0 : (List Timpostlaw11_Deed)) : Option (Osubidx_Index) :=
  (F_subidx_New ).bind fun x1 => (F_law11_ran_L1 n p0 0 ([] : List Timpostref11_Sub) x1.l : Option ((List Tsubidx_node))).bind fun s2 => some (⟨s2⟩ : Osubidx_Index)
def F_subidx_Index_All_L1 : (List Tsubidx_node) → Nat → (List Tsubidx_Sub) → Option ((List Tsubidx_Sub))
  | [], _, y4_0 => some y4_0
  | z4 :: r4, i4, y4_0 => (appL 48 y4_0 ([z4.Sub] : List Tsubidx_Sub)).bind fun x10 => F_subidx_Index_All_L1 r4 (i4 + 1) (y4_0 ++ ([z4.Sub] : List Tsubidx_Sub))
def F_subidx_Index_All (p0 : Osubidx_Index) : Option ((List Tsubidx_Sub) × Osubidx_Index) :=
  (F_subidx_Index_All_L1 p0.l 0 ([] : List Tsubidx_Sub) : Option ((List Tsubidx_Sub))).bind fun s2 => some (s2, p0)
def F_subidx_Index_Stab_1 (p0 : Tsubidx_node) (p1 : ByteArray) : Option (Int) :=
  if (leB p0.Sub.R.From p1) = true then (some (-1)) else (some 1)
def F_slices_BinarySearchFunc_28_subidx_Index_Stab_1_L1 (p0 : (List Tsubidx_node)) (p1 : ByteArray) : Nat → Int → Int → Option (Int)
  | 0, _, _ => none
  | m6 + 1, y6_0, y6_1 => if (decide (y6_0 < y6_1)) = true then ((getI p0 (IntKind.i64.wrap (shrI .u64 (IntKind.u64.wrap (IntKind.i64.wrap (y6_0 + y6_1))) 1))).bind fun x8 => (F_subidx_Index_Stab_1 x8 p1).bind fun x9 => if (decide (x9 < 0)) = true then (F_slices_BinarySearchFunc_28_subidx_Index_Stab_1_L1 p0 p1 m6 (IntKind.i64.wrap ((IntKind.i64.wrap (shrI .u64 (IntKind.u64.wrap (IntKind.i64.wrap (y6_0 + y6_1))) 1)) + 1)) y6_1) else (F_slices_BinarySearchFunc_28_subidx_Index_Stab_1_L1 p0 p1 m6 y6_0 (IntKind.i64.wrap (shrI .u64 (IntKind.u64.wrap (IntKind.i64.wrap (y6_0 + y6_1))) 1)))) else (some y6_0)
def F_slices_BinarySearchFunc_28_subidx_Index_Stab_1 (n : Nat) (p0 : (List Tsubidx_node)) (p1 : ByteArray) : Option (Int × Bool) :=
  (F_slices_BinarySearchFunc_28_subidx_Index_Stab_1_L1 p0 p1 n 0 (p0.length : Int) : Option (Int)).bind fun s1 => (if (decide (s1 < (p0.length : Int))) = true then ((getI p0 s1).bind fun x4 => (F_subidx_Index_Stab_1 x4 p1).bind fun x5 => some (x5 == 0)) else (some false) : Option (Bool)).bind fun s3 => some (s1, s3)
def F_key_In (p0 : TRange) (p1 : ByteArray) : Option (Bool) :=
  some (bif (leB p0.From p1) then (bif (eqB p0.To ByteArray.empty) then true else (lessB p1 p0.To)) else false)
def F_subidx_Index_Stab_L1 (p0 : Osubidx_Index) (p1 : ByteArray) (p2 : Int) : Nat → (List Int) → Int → Option ((List Int))
  | 0, _, _ => none
  | m6 + 1, y6_0, y6_1 => (if (decide (y6_1 ≥ 0)) = true then ((getI p0.l y6_1).bind fun x17 => (if x17.all = true then (some (true, true)) else ((getI p0.l y6_1).bind fun x20 => some (false, (!leB x20.top p1))) : Option (Bool × Bool)).bind fun s19 => some (true, s19.2)) else (some (false, false)) : Option (Bool × Bool)).bind fun s8 => if s8.2 = true then ((getI p0.l y6_1).bind fun x10 => (F_key_In x10.Sub.R p1).bind fun x12 => (if (bif x12 then (decide (x10.Sub.Rev < p2)) else false) = true then ((appL 8 y6_0 ([x10.Sub.Id] : List Int)).bind fun x16 => some (y6_0 ++ ([x10.Sub.Id] : List Int))) else (some y6_0) : Option ((List Int))).bind fun s14 => F_subidx_Index_Stab_L1 p0 p1 p2 m6 s14 (IntKind.i64.wrap (y6_1 - 1))) else (some y6_0)
def F_subidx_Index_Stab (n : Nat) (p0 : Osubidx_Index) (p1 : ByteArray) (p2 : Int) : Option ((List Int) × Osubidx_Index) :=
  (F_slices_BinarySearchFunc_28_subidx_Index_Stab_1 n p0.l p1).bind fun x2 => (F_subidx_Index_Stab_L1 p0 p1 p2 n ([] : List Int) (IntKind.i64.wrap (x2.1 - 1)) : Option ((List Int))).bind fun s3 => (sortZ s3).bind fun x4 => some (x4, p0)
def F_law11_SubidxPlays_L2 (x9 : (List Tsubidx_Sub) × Osubidx_Index) : (List Timpostref11_Sub) → Nat → Option (Lp (Int × Int) (Bool))
  | [], i14 => some (.go ((i14 : Int), (i14 : Int)))
  | z14 :: r14, i14 => (getI x9.1 (i14 : Int)).bind fun x17 => (F_law11_made z14).bind fun x19 => if (!(eq_Tsubidx_Sub x17 x19)) = true then (some (.out false)) else (F_law11_SubidxPlays_L2 x9 r14 (i14 + 1))
def F_law11_SubidxPlays_L1 (n : Nat) (p1 : ByteArray) (p2 : Int) : (List Timpostlaw11_Deed) → Nat → (List Timpostref11_Sub) → (List Tsubidx_node) → Option (Lp ((List Tsubidx_node)) (Bool))
  | [], _, _, y4_1 => some (.go y4_1)
  | z4 :: r4, i4, y4_0, y4_1 => if (decide ((i4 : Int) < 60)) = true then ((F_law11_do n (⟨y4_1⟩ : Osubidx_Index) y4_0 z4).bind fun x8 => (F_subidx_Index_All (⟨x8.2.2.l⟩ : Osubidx_Index)).bind fun x9 => (if (bif (!x8.2.1) then true else ((x9.1.length : Int) != (x8.1.length : Int))) = true then (some (true, true, x9.2.l)) else ((F_subidx_Index_Stab n (⟨x9.2.l⟩ : Osubidx_Index) p1 p2).bind fun x21 => (F_ref11_Stab x8.1 p1 p2).bind fun x22 => (F_ref11_Ints x21.1 x22).bind fun x23 => some (false, (!x23), x21.2.l)) : Option (Bool × Bool × (List Tsubidx_node))).bind fun s11 => if s11.2.1 = true then (some (.out false)) else ((F_law11_SubidxPlays_L2 x9 x8.1 0 : Option (Lp (Int × Int) (Bool))).bind fun s13 => lpK2 s13 fun u13 => F_law11_SubidxPlays_L1 n p1 p2 r4 (i4 + 1) x8.1 s11.2.2)) else (some (.go y4_1))
def F_law11_SubidxPlays (n : Nat) (p0 : (List Timpostlaw11_Deed)) (p1 : ByteArray) (p2 : Int) : Option (Bool) :=
  (F_subidx_New ).bind fun x2 => (F_law11_SubidxPlays_L1 n p1 p2 p0 0 ([] : List Timpostref11_Sub) x2.l : Option (Lp ((List Tsubidx_node)) (Bool))).bind fun s3 => lpK s3 fun u3 => some true
def F_law11_SubidxStabs_L2 (p1 : ByteArray) (p2 : Int) (z7 : Int) : (List Tsubidx_Sub) → Nat → Bool → Option (Bool × Int × Int)
  | [], i18, y18_0 => some (y18_0, (i18 : Int), (i18 : Int))
  | z18 :: r18, i18, y18_0 => (if y18_0 = true then (some (true, true, true)) else (if (z18.Id == z7) = true then ((F_ref04_In z18.R p1).bind fun x27 => if x27 = true then (some ((decide (z18.Rev < p2)), false, (decide (z18.Rev < p2)))) else (some (false, false, false))) else (some (false, false, false))) : Option (Bool × Bool × Bool)).bind fun s21 => F_law11_SubidxStabs_L2 p1 p2 z7 r18 (i18 + 1) s21.1
def F_law11_SubidxStabs_L1 (p1 : ByteArray) (p2 : Int) (x3 : (List Tsubidx_Sub) × Osubidx_Index) (x4 : (List Int) × Osubidx_Index) : (List Int) → Nat → Option (Lp (Unit) (Bool))
  | [], _ => some (.go ())
  | z7 :: r7, i7 => (F_law11_SubidxStabs_L2 p1 p2 z7 x3.1 0 false : Option (Bool × Int × Int)).bind fun s10 => (if (!s10.1) = true then (some (true, true)) else ((if (decide ((i7 : Int) > 0)) = true then ((getI x4.1 (IntKind.i64.wrap ((i7 : Int) - 1))).bind fun x17 => some (true, (decide (z7 ≤ x17)))) else (some (false, false)) : Option (Bool × Bool)).bind fun s15 => some (false, s15.2)) : Option (Bool × Bool)).bind fun s12 => if s12.2 = true then (some (.out false)) else (F_law11_SubidxStabs_L1 p1 p2 x3 x4 r7 (i7 + 1))
def F_law11_SubidxStabs_L3 (p1 : ByteArray) (p2 : Int) : (List Tsubidx_Sub) → Nat → Int → Option (Int)
  | [], _, y30_0 => some y30_0
  | z30 :: r30, i30, y30_0 => (F_ref04_In z30.R p1).bind fun x34 => (if x34 = true then (some (true, (decide (z30.Rev < p2)))) else (some (false, false)) : Option (Bool × Bool)).bind fun s36 => (if s36.2 = true then (some (IntKind.i64.wrap (y30_0 + 1))) else (some y30_0) : Option (Int)).bind fun s38 => F_law11_SubidxStabs_L3 p1 p2 r30 (i30 + 1) s38
def F_law11_SubidxStabs (n : Nat) (p0 : (List Timpostlaw11_Deed)) (p1 : ByteArray) (p2 : Int) : Option (Bool) :=
  (F_law11_ran n p0).bind fun x2 => (F_subidx_Index_All x2).bind fun x3 => (F_subidx_Index_Stab n (⟨x3.2.l⟩ : Osubidx_Index) p1 p2).bind fun x4 => (F_law11_SubidxStabs_L3 p1 p2 x3.1 0 0 : Option (Int)).bind fun s5 => (F_law11_SubidxStabs_L1 p1 p2 x3 x4 x4.1 0 : Option (Lp (Unit) (Bool))).bind fun s6 => lpK s6 fun u6 => some ((x4.1.length : Int) == s5)
def F_law11_SubidxTurns_L1 (x8 : (List Tsubidx_Sub) × Osubidx_Index) : (List Tsubidx_Sub) → Nat → Option (Lp (Unit) (Bool))
  | [], _ => some (.go ())
  | z14 :: r14, i14 => (getI x8.1 (i14 : Int)).bind fun x18 => if (!(eq_Tsubidx_Sub z14 x18)) = true then (some (.out false)) else (F_law11_SubidxTurns_L1 x8 r14 (i14 + 1))
def F_law11_SubidxTurns_L2 (n : Nat) (p0 : (List Timpostref11_Sub)) (p2 : Int) : (List Timpostref11_Sub) → Nat → (List Tsubidx_node) → (List Tsubidx_node) → Option (Lp ((List Tsubidx_node) × (List Tsubidx_node)) (Bool))
  | [], _, y20_0, y20_1 => some (.go (y20_0, y20_1))
  | z20 :: r20, i20, y20_0, y20_1 => (F_law11_made z20).bind fun x24 => (F_subidx_Index_Add n (⟨y20_1⟩ : Osubidx_Index) x24).bind fun x25 => (remI (IntKind.i64.wrap ((i20 : Int) + (IntKind.i64.wrap p2))) (p0.length : Int)).bind fun x26 => (getI p0 (IntKind.i64.wrap ((IntKind.i64.wrap ((p0.length : Int) - 1)) - x26))).bind fun x27 => (F_law11_made x27).bind fun x28 => (F_subidx_Index_Add n (⟨y20_0⟩ : Osubidx_Index) x28).bind fun x29 => (F_ref04_Empty z20.R).bind fun x31 => if ((x25.1 == 0) == x31) = true then (some (.out false)) else (F_law11_SubidxTurns_L2 n p0 p2 r20 (i20 + 1) x29.2.l x25.2.l)
def F_law11_SubidxTurns_L4 (p0 : (List Timpostref11_Sub)) (i33 : Nat) (z33 : Timpostref11_Sub) : Nat → Int → Option (Lp (Int × Int × Bool) (Bool))
  | 0, _ => none
  | m37 + 1, y37_0 => if (decide (y37_0 < (i33 : Int))) = true then ((getI p0 y37_0).bind fun x40 => if (z33.Id == x40.Id) = true then (some (.out true)) else (F_law11_SubidxTurns_L4 p0 i33 z33 m37 (IntKind.i64.wrap (y37_0 + 1)))) else (some (.go (y37_0, y37_0, (decide (y37_0 < (i33 : Int))))))
def F_law11_SubidxTurns_L3 (n : Nat) (p0 : (List Timpostref11_Sub)) : (List Timpostref11_Sub) → Nat → Option (Lp (Unit) (Bool))
  | [], _ => some (.go ())
  | z33 :: r33, i33 => (F_law11_SubidxTurns_L4 p0 i33 z33 n 0 : Option (Lp (Int × Int × Bool) (Bool))).bind fun s36 => lpK2 s36 fun u36 => F_law11_SubidxTurns_L3 n p0 r33 (i33 + 1)
def F_law11_SubidxTurns (n : Nat) (p0 : (List Timpostref11_Sub)) (p1 : ByteArray) (p2 : Int) : Option (Bool) :=
  if (decide ((p0.length : Int) > 40)) = true then (some true) else ((F_law11_SubidxTurns_L3 n p0 p0 0 : Option (Lp (Unit) (Bool))).bind fun s3 => lpK s3 fun u3 => (F_subidx_New ).bind fun x4 => (F_subidx_New ).bind fun x5 => (F_law11_SubidxTurns_L2 n p0 p2 p0 0 x5.l x4.l : Option (Lp ((List Tsubidx_node) × (List Tsubidx_node)) (Bool))).bind fun s6 => lpK s6 fun u6 => (F_subidx_Index_All (⟨u6.2⟩ : Osubidx_Index)).bind fun x7 => (F_subidx_Index_All (⟨u6.1⟩ : Osubidx_Index)).bind fun x8 => if ((x7.1.length : Int) != (x8.1.length : Int)) = true then (some false) else ((F_law11_SubidxTurns_L1 x8 x7.1 0 : Option (Lp (Unit) (Bool))).bind fun s10 => lpK s10 fun u10 => (F_subidx_Index_Stab n (⟨x7.2.l⟩ : Osubidx_Index) p1 5).bind fun x11 => (F_subidx_Index_Stab n (⟨x8.2.l⟩ : Osubidx_Index) p1 5).bind fun x12 => (F_ref11_Ints x11.1 x12.1).bind fun x13 => some x13))
def F_law11_SubidxGoes (n : Nat) (p0 : (List Timpostlaw11_Deed)) (p1 : Timpostref11_Sub) (p2 : ByteArray) : Option (Bool) :=
  (F_law11_ran n p0).bind fun x3 => (F_subidx_Index_Stab n x3 p2 9).bind fun x4 => (F_subidx_Index_All (⟨x4.2.l⟩ : Osubidx_Index)).bind fun x5 => (F_law11_made p1).bind fun x6 => (F_subidx_Index_Add n (⟨x5.2.l⟩ : Osubidx_Index) x6).bind fun x7 => if (x7.1 != 0) = true then ((F_ref04_Empty p1.R).bind fun x9 => (if ((x7.1 == 1) == x9) = true then ((F_subidx_Index_All (⟨x7.2.l⟩ : Osubidx_Index)).bind fun x12 => some (((x12.1.length : Int) == (x5.1.length : Int)), x12.2.l)) else (some (false, x7.2.l)) : Option (Bool × (List Tsubidx_node))).bind fun s11 => some s11.1) else ((F_law11_made p1).bind fun x13 => (F_subidx_Index_Add n (⟨x7.2.l⟩ : Osubidx_Index) x13).bind fun x14 => (F_subidx_Index_Del n (⟨x14.2.l⟩ : Osubidx_Index) p1.Id).bind fun x15 => (F_subidx_Index_Del n (⟨x15.2.l⟩ : Osubidx_Index) p1.Id).bind fun x16 => (if (bif (bif (x14.1 == 8) then (x15.1 == 0) else false) then (x16.1 == 4) else false) = true then ((F_subidx_Index_Stab n (⟨x16.2.l⟩ : Osubidx_Index) p2 9).bind fun x22 => (F_ref11_Ints x22.1 x4.1).bind fun x23 => some (x23, x22.2.l)) else (some (false, x16.2.l)) : Option (Bool × (List Tsubidx_node))).bind fun s18 => (if s18.1 = true then ((F_subidx_Index_All (⟨s18.2⟩ : Osubidx_Index)).bind fun x21 => some (((x21.1.length : Int) == (x5.1.length : Int)), x21.2.l)) else (some (false, s18.2)) : Option (Bool × (List Tsubidx_node))).bind fun s20 => some s20.1)
def F_law11_SubidxMore_L1 (p1 : Timpostref11_Sub) : (List Int) → Nat → (List Int) → Bool → Option ((List Int) × Bool)
  | [], _, y14_0, y14_1 => some (y14_0, y14_1)
  | z14 :: r14, i14, y14_0, y14_1 => (if (z14 == p1.Id) = true then (some (y14_0, true)) else ((appL 8 y14_0 ([z14] : List Int)).bind fun x22 => some ((y14_0 ++ ([z14] : List Int)), y14_1)) : Option ((List Int) × Bool)).bind fun s19 => F_law11_SubidxMore_L1 p1 r14 (i14 + 1) s19.1 s19.2
def F_law11_SubidxMore (n : Nat) (p0 : (List Timpostlaw11_Deed)) (p1 : Timpostref11_Sub) (p2 : ByteArray) : Option (Bool) :=
  (F_law11_ran n p0).bind fun x3 => (F_subidx_Index_Stab n x3 p2 9).bind fun x4 => (F_law11_made p1).bind fun x5 => (F_subidx_Index_Add n (⟨x4.2.l⟩ : Osubidx_Index) x5).bind fun x6 => if (x6.1 != 0) = true then (some true) else ((F_subidx_Index_Stab n (⟨x6.2.l⟩ : Osubidx_Index) p2 9).bind fun x8 => (F_law11_SubidxMore_L1 p1 x8.1 0 ([] : List Int) false : Option ((List Int) × Bool)).bind fun s9 => (F_ref11_Ints s9.1 x4.1).bind fun x10 => (if x10 = true then ((F_ref04_In p1.R p2).bind fun x13 => some (s9.2 == (bif x13 then (decide (p1.Rev < 9)) else false))) else (some false) : Option (Bool)).bind fun s12 => some s12)
end Go.Proofs.Ythgcmcifhhkebaa.V
