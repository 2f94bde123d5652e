/- Plain functions, as the program has them: a law.
   No condition: these are laws of the clean machine and of this program. -/
import Derived.Test.YtfgoccdjbgecfaaPF
namespace Go.Proofs.Ytfgoccdjbgecfaa.V
open Go
set_option linter.unusedVariables false
set_option linter.unusedSimpArgs false
set_option maxRecDepth 100000
def F_law10_CursorOnce_L1 : (List (List TEvent)) → Nat → (List TEvent) → Option ((List TEvent))
  | [], _, y30_0 => some y30_0
  | z30 :: r30, i30, y30_0 => (appL 48 y30_0 z30).bind fun x34 => F_law10_CursorOnce_L1 r30 (i30 + 1) (y30_0 ++ z30)
def F_law10_CursorOnce_L2 : (List Timpostlaw10_Deed) → Nat → Int → Int → (List (List TEvent)) → (List (ByteArray × (List TEvent))) → Option (Int × Int × (List (List TEvent)) × (List (ByteArray × (List TEvent))))
  | [], _, y35_0, y35_1, y35_2, y35_3 => some (y35_0, y35_1, y35_2, y35_3)
  | z35 :: r35, i35, y35_0, y35_1, y35_2, y35_3 => (F_hist_Hist_Apply (⟨y35_0, y35_1, y35_3, y35_2⟩ : Ohist_Hist) z35.Ops).bind fun x39 => F_law10_CursorOnce_L2 r35 (i35 + 1) x39.2.bounds_rev x39.2.bounds_hor x39.2.rows x39.2.keys
def F_law10_CursorOnce (n : Nat) (p0 : (List Timpostlaw10_Deed)) (p1 : TRange) (p2 : Int) : Option (Bool) :=
  (F_law10_few p0).bind fun x3 => if (!x3) = true then (some true) else ((F_hist_New ).bind fun x5 => (F_cursor_Open n x5 p1 0).bind fun x6 => (F_law10_CursorOnce_L2 p0 0 x6.2.2.2.bounds_rev x6.2.2.2.bounds_hor x6.2.2.2.rows x6.2.2.2.keys : Option (Int × Int × (List (List TEvent)) × (List (ByteArray × (List TEvent))))).bind fun s9 => (F_cursor_Poll n x6.1 (⟨s9.1, s9.2.1, s9.2.2.2, s9.2.2.1⟩ : Ohist_Hist) (IntKind.i64.wrap (Int.tmod p2 33))).bind fun x10 => (F_cursor_Poll n (⟨x6.1.R, x6.1.Next, true, x6.1.Dead⟩ : Tcursor_Cursor) (⟨x10.2.2.bounds_rev, x10.2.2.bounds_hor, x10.2.2.keys, x10.2.2.rows⟩ : Ohist_Hist) (IntKind.i64.wrap (Int.tmod p2 33))).bind fun x13 => (F_law10_CursorOnce_L1 x10.2.1.Rows 0 ([] : List TEvent) : Option ((List TEvent))).bind fun s16 => (if (decide ((x13.2.1.Rows.length : Int) > 0)) = true then ((getI x13.2.1.Rows 0).bind fun x29 => some x29) else (some ([] : List TEvent)) : Option ((List TEvent))).bind fun s18 => (if (bif (bif (x6.2.2.1 == 0) then (decide ((x13.2.1.Rows.length : Int) ≤ 1)) else false) then (x10.2.1.Upto == x13.2.1.Upto) else false) = true then ((F_ref05_Last n s16).bind fun x27 => (F_ref05_Events s18 x27).bind fun x28 => some x28) else (some false) : Option (Bool)).bind fun s21 => (if s21 = true then ((F_ref05_Fold n x6.2.1 s16).bind fun x24 => (F_ref05_Fold n x6.2.1 s18).bind fun x25 => (F_ref05_KVs x24 x25).bind fun x26 => some x26) else (some false) : Option (Bool)).bind fun s23 => some s23)
end Go.Proofs.Ytfgoccdjbgecfaa.V
