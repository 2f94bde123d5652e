/- What the types of this seat are.
   No condition: these are laws of the clean machine and of this program. -/
import Derived.Test.YtadfhabapgipbaaSg
import Derived.Test.YtadfhabapgipbaaPF
namespace Go.Proofs.Ytadfhabapgipbaa.V
open Go
set_option linter.unusedVariables false
set_option linter.unusedSimpArgs false
set_option maxRecDepth 100000
theorem ag_24 : isAggT EE.P 24 = some false := by kernel_rfl
theorem ag_25 : isAggT EE.P 25 = some false := by kernel_rfl
theorem ag_27 : isAggT EE.P 27 = some true := by kernel_rfl
theorem ag_28 : isAggT EE.P 28 = some false := by kernel_rfl
theorem ag_3 : isAggT EE.P 3 = some false := by kernel_rfl
theorem ag_30 : isAggT EE.P 30 = some true := by kernel_rfl
theorem ag_34 : isAggT EE.P 34 = some false := by kernel_rfl
theorem ag_35 : isAggT EE.P 35 = some false := by kernel_rfl
theorem ag_37 : isAggT EE.P 37 = some true := by kernel_rfl
theorem ag_4 : isAggT EE.P 4 = some false := by kernel_rfl
theorem ag_41 : isAggT EE.P 41 = some true := by kernel_rfl
theorem ag_52 : isAggT EE.P 52 = some true := by kernel_rfl
theorem ag_55 : isAggT EE.P 55 = some true := by kernel_rfl
theorem ag_65 : isAggT EE.P 65 = some true := by kernel_rfl
theorem ag_69 : isAggT EE.P 69 = some true := by kernel_rfl
theorem ag_9 : isAggT EE.P 9 = some false := by kernel_rfl
theorem at_12 : EE.P.funcs[12]? = some Try.f12 := by kernel_rfl
theorem at_13 : EE.P.funcs[13]? = some Try.f13 := by kernel_rfl
theorem at_14 : EE.P.funcs[14]? = some Try.f14 := by kernel_rfl
theorem at_19 : EE.P.funcs[19]? = some Try.f19 := by kernel_rfl
theorem at_20 : EE.P.funcs[20]? = some Try.f20 := by kernel_rfl
theorem at_21 : EE.P.funcs[21]? = some Try.f21 := by kernel_rfl
theorem at_23 : EE.P.funcs[23]? = some Try.f23 := by kernel_rfl
theorem at_24 : EE.P.funcs[24]? = some Try.f24 := by kernel_rfl
theorem at_25 : EE.P.funcs[25]? = some Try.f25 := by kernel_rfl
theorem at_26 : EE.P.funcs[26]? = some Try.f26 := by kernel_rfl
theorem at_27 : EE.P.funcs[27]? = some Try.f27 := by kernel_rfl
theorem at_37 : EE.P.funcs[37]? = some Try.f37 := by kernel_rfl
theorem at_38 : EE.P.funcs[38]? = some Try.f38 := by kernel_rfl
theorem at_39 : EE.P.funcs[39]? = some Try.f39 := by kernel_rfl
theorem at_40 : EE.P.funcs[40]? = some Try.f40 := by kernel_rfl
theorem at_42 : EE.P.funcs[42]? = some Try.f42 := by kernel_rfl
theorem at_43 : EE.P.funcs[43]? = some Try.f43 := by kernel_rfl
theorem at_44 : EE.P.funcs[44]? = some Try.f44 := by kernel_rfl
theorem at_5 : EE.P.funcs[5]? = some Try.f5 := by kernel_rfl
theorem at_6 : EE.P.funcs[6]? = some Try.f6 := by kernel_rfl
theorem at_62 : EE.P.funcs[62]? = some Try.f62 := by kernel_rfl
theorem at_63 : EE.P.funcs[63]? = some Try.f63 := by kernel_rfl
theorem at_64 : EE.P.funcs[64]? = some Try.f64 := by kernel_rfl
theorem at_65 : EE.P.funcs[65]? = some Try.f65 := by kernel_rfl
theorem at_80 : EE.P.funcs[80]? = some Try.f80 := by kernel_rfl
theorem be_4 {x y : Bool} : binV EE .eql 4 (.bool x) (.bool y) = some (.bool (x == y)) := by kernel_rfl
theorem bn_41 {x0 y0 : Int} {x1 y1 : ByteArray} {x2 y2 : ByteArray} {x3 y3 : Bool} : binV EE .neq 41 (.agg #[.int .i64 x0, .string x1, .string x2, .bool x3]) (.agg #[.int .i64 y0, .string y1, .string y2, .bool y3]) = some (.bool (!((x0 == y0) && ((x1 == y1) && ((x2 == y2) && ((x3 == y3) && (true))))))) := by kernel_rfl
theorem bn_69 {x0 y0 : ByteArray} {x1 y1 : ByteArray} {x2 y2 : Bool} : binV EE .neq 69 (.agg #[.string x0, .string x1, .bool x2]) (.agg #[.string y0, .string y1, .bool y2]) = some (.bool (!((x0 == y0) && ((x1 == y1) && ((x2 == y2) && (true)))))) := by kernel_rfl
theorem by_41 : bytesOf EE.P 41 = some 48 := by kernel_rfl
theorem by_52 : bytesOf EE.P 52 = some 40 := by kernel_rfl
theorem by_69 : bytesOf EE.P 69 = some 40 := by kernel_rfl
theorem by_9 : bytesOf EE.P 9 = some 16 := by kernel_rfl
theorem fa_27_0 (b o : Nat) : fieldAddrV EE 27 (.pointer (some ⟨b, o, none⟩)) 0 = some (.pointer (some ⟨b, o, none⟩)) := by kernel_rfl
theorem fa_27_2 (b o : Nat) : fieldAddrV EE 27 (.pointer (some ⟨b, o, none⟩)) 2 = some (.pointer (some ⟨b, o + 3, none⟩)) := by kernel_rfl
theorem fa_27_3 (b o : Nat) : fieldAddrV EE 27 (.pointer (some ⟨b, o, none⟩)) 3 = some (.pointer (some ⟨b, o + 4, none⟩)) := by kernel_rfl
theorem fa_27_4 (b o : Nat) : fieldAddrV EE 27 (.pointer (some ⟨b, o, none⟩)) 4 = some (.pointer (some ⟨b, o + 5, none⟩)) := by kernel_rfl
theorem fa_27_5 (b o : Nat) : fieldAddrV EE 27 (.pointer (some ⟨b, o, none⟩)) 5 = some (.pointer (some ⟨b, o + 6, none⟩)) := by kernel_rfl
theorem fa_30_1 (b o : Nat) : fieldAddrV EE 30 (.pointer (some ⟨b, o, none⟩)) 1 = some (.pointer (some ⟨b, o + 1, none⟩)) := by kernel_rfl
theorem fa_30_2 (b o : Nat) : fieldAddrV EE 30 (.pointer (some ⟨b, o, none⟩)) 2 = some (.pointer (some ⟨b, o + 2, none⟩)) := by kernel_rfl
theorem fa_37_0 (b o : Nat) : fieldAddrV EE 37 (.pointer (some ⟨b, o, none⟩)) 0 = some (.pointer (some ⟨b, o, none⟩)) := by kernel_rfl
theorem fa_37_1 (b o : Nat) : fieldAddrV EE 37 (.pointer (some ⟨b, o, none⟩)) 1 = some (.pointer (some ⟨b, o + 1, none⟩)) := by kernel_rfl
theorem fa_37_2 (b o : Nat) : fieldAddrV EE 37 (.pointer (some ⟨b, o, none⟩)) 2 = some (.pointer (some ⟨b, o + 2, none⟩)) := by kernel_rfl
theorem fa_37_3 (b o : Nat) : fieldAddrV EE 37 (.pointer (some ⟨b, o, none⟩)) 3 = some (.pointer (some ⟨b, o + 3, none⟩)) := by kernel_rfl
theorem fa_41_2 (b o : Nat) : fieldAddrV EE 41 (.pointer (some ⟨b, o, none⟩)) 2 = some (.pointer (some ⟨b, o + 2, none⟩)) := by kernel_rfl
theorem fa_52_0 (b o : Nat) : fieldAddrV EE 52 (.pointer (some ⟨b, o, none⟩)) 0 = some (.pointer (some ⟨b, o, none⟩)) := by kernel_rfl
theorem fa_52_1 (b o : Nat) : fieldAddrV EE 52 (.pointer (some ⟨b, o, none⟩)) 1 = some (.pointer (some ⟨b, o + 1, none⟩)) := by kernel_rfl
theorem fa_52_2 (b o : Nat) : fieldAddrV EE 52 (.pointer (some ⟨b, o, none⟩)) 2 = some (.pointer (some ⟨b, o + 2, none⟩)) := by kernel_rfl
theorem fa_55_0 (b o : Nat) : fieldAddrV EE 55 (.pointer (some ⟨b, o, none⟩)) 0 = some (.pointer (some ⟨b, o, none⟩)) := by kernel_rfl
theorem fa_55_1 (b o : Nat) : fieldAddrV EE 55 (.pointer (some ⟨b, o, none⟩)) 1 = some (.pointer (some ⟨b, o + 1, none⟩)) := by kernel_rfl
theorem fa_55_2 (b o : Nat) : fieldAddrV EE 55 (.pointer (some ⟨b, o, none⟩)) 2 = some (.pointer (some ⟨b, o + 2, none⟩)) := by kernel_rfl
theorem fa_55_3 (b o : Nat) : fieldAddrV EE 55 (.pointer (some ⟨b, o, none⟩)) 3 = some (.pointer (some ⟨b, o + 3, none⟩)) := by kernel_rfl
theorem fa_65_0 (b o : Nat) : fieldAddrV EE 65 (.pointer (some ⟨b, o, none⟩)) 0 = some (.pointer (some ⟨b, o, none⟩)) := by kernel_rfl
theorem fa_65_1 (b o : Nat) : fieldAddrV EE 65 (.pointer (some ⟨b, o, none⟩)) 1 = some (.pointer (some ⟨b, o + 1, none⟩)) := by kernel_rfl
theorem fa_65_2 (b o : Nat) : fieldAddrV EE 65 (.pointer (some ⟨b, o, none⟩)) 2 = some (.pointer (some ⟨b, o + 2, none⟩)) := by kernel_rfl
theorem fa_65_3 (b o : Nat) : fieldAddrV EE 65 (.pointer (some ⟨b, o, none⟩)) 3 = some (.pointer (some ⟨b, o + 3, none⟩)) := by kernel_rfl
theorem fa_69_0 (b o : Nat) : fieldAddrV EE 69 (.pointer (some ⟨b, o, none⟩)) 0 = some (.pointer (some ⟨b, o, none⟩)) := by kernel_rfl
theorem fa_69_1 (b o : Nat) : fieldAddrV EE 69 (.pointer (some ⟨b, o, none⟩)) 1 = some (.pointer (some ⟨b, o + 1, none⟩)) := by kernel_rfl
theorem fa_69_2 (b o : Nat) : fieldAddrV EE 69 (.pointer (some ⟨b, o, none⟩)) 2 = some (.pointer (some ⟨b, o + 2, none⟩)) := by kernel_rfl
theorem hb_11 : hasBody EE.P 11 = true := by kernel_rfl
theorem hb_12 : hasBody EE.P 12 = true := by kernel_rfl
theorem hb_13 : hasBody EE.P 13 = true := by kernel_rfl
theorem hb_14 : hasBody EE.P 14 = true := by kernel_rfl
theorem hb_19 : hasBody EE.P 19 = true := by kernel_rfl
theorem hb_20 : hasBody EE.P 20 = true := by kernel_rfl
theorem hb_21 : hasBody EE.P 21 = true := by kernel_rfl
theorem hb_22 : hasBody EE.P 22 = true := by kernel_rfl
theorem hb_23 : hasBody EE.P 23 = true := by kernel_rfl
theorem hb_24 : hasBody EE.P 24 = true := by kernel_rfl
theorem hb_25 : hasBody EE.P 25 = true := by kernel_rfl
theorem hb_26 : hasBody EE.P 26 = true := by kernel_rfl
theorem hb_27 : hasBody EE.P 27 = true := by kernel_rfl
theorem hb_37 : hasBody EE.P 37 = true := by kernel_rfl
theorem hb_38 : hasBody EE.P 38 = true := by kernel_rfl
theorem hb_39 : hasBody EE.P 39 = true := by kernel_rfl
theorem hb_40 : hasBody EE.P 40 = true := by kernel_rfl
theorem hb_42 : hasBody EE.P 42 = true := by kernel_rfl
theorem hb_43 : hasBody EE.P 43 = true := by kernel_rfl
theorem hb_44 : hasBody EE.P 44 = true := by kernel_rfl
theorem hb_59 : hasBody EE.P 59 = true := by kernel_rfl
theorem hb_60 : hasBody EE.P 60 = true := by kernel_rfl
theorem hb_61 : hasBody EE.P 61 = true := by kernel_rfl
theorem hb_62 : hasBody EE.P 62 = true := by kernel_rfl
theorem hb_63 : hasBody EE.P 63 = true := by kernel_rfl
theorem hb_64 : hasBody EE.P 64 = true := by kernel_rfl
theorem hb_65 : hasBody EE.P 65 = true := by kernel_rfl
theorem hb_80 : hasBody EE.P 80 = true := by kernel_rfl
theorem ln_112 {h : Heap} {a : Option Addr} {n c : Nat} : lenV EE h 112 (.slice a n c) = some (.int .i64 n) := by kernel_rfl
theorem ln_24 {h : Heap} {a : Option Addr} {n c : Nat} : lenV EE h 24 (.slice a n c) = some (.int .i64 n) := by kernel_rfl
theorem ln_25 {h : Heap} {a : Option Addr} {n c : Nat} : lenV EE h 25 (.slice a n c) = some (.int .i64 n) := by kernel_rfl
theorem ln_28 {h : Heap} {a : Option Addr} {n c : Nat} : lenV EE h 28 (.slice a n c) = some (.int .i64 n) := by kernel_rfl
theorem ln_34 {h : Heap} {a : Option Addr} {n c : Nat} : lenV EE h 34 (.slice a n c) = some (.int .i64 n) := by kernel_rfl
theorem ln_49 {h : Heap} {a : Option Addr} {n c : Nat} : lenV EE h 49 (.slice a n c) = some (.int .i64 n) := by kernel_rfl
theorem sz_25 : sz EE.P 25 = some 1 := by kernel_rfl
theorem sz_27 : sz EE.P 27 = some 7 := by kernel_rfl
theorem sz_30 : sz EE.P 30 = some 3 := by kernel_rfl
theorem sz_37 : sz EE.P 37 = some 4 := by kernel_rfl
theorem sz_41 : sz EE.P 41 = some 4 := by kernel_rfl
theorem sz_52 : sz EE.P 52 = some 3 := by kernel_rfl
theorem sz_55 : sz EE.P 55 = some 4 := by kernel_rfl
theorem sz_65 : sz EE.P 65 = some 4 := by kernel_rfl
theorem sz_69 : sz EE.P 69 = some 3 := by kernel_rfl
theorem sz_9 : sz EE.P 9 = some 1 := by kernel_rfl
theorem ut_112 : EE.P.underlying 112 = some (.slice 25) := by kernel_rfl
theorem ut_24 : EE.P.underlying 24 = some (.slice 65) := by kernel_rfl
theorem ut_25 : EE.P.underlying 25 = some (.slice 69) := by kernel_rfl
theorem ut_28 : EE.P.underlying 28 = some (.slice 52) := by kernel_rfl
theorem ut_34 : EE.P.underlying 34 = some (.slice 41) := by kernel_rfl
theorem ut_49 : EE.P.underlying 49 = some (.slice 9) := by kernel_rfl
theorem zo_25 : zeroOf EE.P 25 = some (Value.slice none 0 0) := by kernel_rfl
theorem zo_37 : zeroOf EE.P 37 = some (Value.agg #[Value.bool false, Value.slice none 0 0, Value.int IntKind.i64 0, Value.int IntKind.i64 0]) := by kernel_rfl
theorem zo_41 : zeroOf EE.P 41 = some (Value.agg #[Value.int IntKind.i64 0, Value.string { data := #[] }, Value.string { data := #[] }, Value.bool false]) := by kernel_rfl
theorem zo_52 : zeroOf EE.P 52 = some (Value.agg #[Value.string { data := #[] }, Value.string { data := #[] }, Value.int IntKind.i64 0]) := by kernel_rfl
theorem zo_55 : zeroOf EE.P 55 = some (Value.agg #[Value.bool false, Value.slice none 0 0, Value.int IntKind.i64 0, Value.int IntKind.i64 0]) := by kernel_rfl
theorem zo_65 : zeroOf EE.P 65 = some (Value.agg #[Value.int IntKind.i64 0, Value.string { data := #[] }, Value.string { data := #[] }, Value.int IntKind.i64 0]) := by kernel_rfl
theorem zo_69 : zeroOf EE.P 69 = some (Value.agg #[Value.string { data := #[] }, Value.string { data := #[] }, Value.bool false]) := by kernel_rfl
theorem zo_9 : zeroOf EE.P 9 = some (Value.string { data := #[] }) := by kernel_rfl
theorem zs_25_25 : zerosV EE.P #[25, 25] = some false := by kernel_rfl
theorem zs_28_28 : zerosV EE.P #[28, 28] = some false := by kernel_rfl
theorem zs_34_34 : zerosV EE.P #[34, 34] = some false := by kernel_rfl
theorem zs_49_49 : zerosV EE.P #[49, 49] = some false := by kernel_rfl
theorem fs_52_0 {a : Addr} (h : a.spot = none ∨ a.spot = some 1) : fieldAddrV EE 52 (.pointer (some a)) 0 = some (.pointer (some ⟨a.block, a.off + 0, a.spot⟩)) := by
  obtain ⟨b, o, s⟩ := a
  rcases h with h | h
  · cases h; kernel_rfl
  · cases h; kernel_rfl
end Go.Proofs.Ytadfhabapgipbaa.V
