/- What the types of this seat are.
   No condition: these are laws of the clean machine and of this program. -/
import Derived.Test.YtadfhabapgipbaaSa
import Derived.Test.YtadfhabapgipbaaPF
namespace Go.Proofs.Ytadfhabapgipbaa.V
open Go
set_option linter.unusedVariables false
set_option linter.unusedSimpArgs false
set_option maxRecDepth 100000
theorem ag_23 : isAggT EE.P 23 = some true := by kernel_rfl
theorem ag_24 : isAggT EE.P 24 = some false := by kernel_rfl
theorem ag_25 : isAggT EE.P 25 = some false := by kernel_rfl
theorem ag_27 : isAggT EE.P 27 = some true := by kernel_rfl
theorem ag_28 : isAggT EE.P 28 = some false := by kernel_rfl
theorem ag_3 : isAggT EE.P 3 = some false := by kernel_rfl
theorem ag_4 : isAggT EE.P 4 = some false := by kernel_rfl
theorem ag_52 : isAggT EE.P 52 = some true := by kernel_rfl
theorem ag_65 : isAggT EE.P 65 = some true := by kernel_rfl
theorem ag_69 : isAggT EE.P 69 = some true := by kernel_rfl
theorem ag_9 : isAggT EE.P 9 = some false := by kernel_rfl
theorem at_13 : EE.P.funcs[13]? = some Try.f13 := by kernel_rfl
theorem at_24 : EE.P.funcs[24]? = some Try.f24 := by kernel_rfl
theorem at_25 : EE.P.funcs[25]? = some Try.f25 := by kernel_rfl
theorem at_26 : EE.P.funcs[26]? = some Try.f26 := by kernel_rfl
theorem at_27 : EE.P.funcs[27]? = some Try.f27 := by kernel_rfl
theorem at_28 : EE.P.funcs[28]? = some Try.f28 := by kernel_rfl
theorem at_29 : EE.P.funcs[29]? = some Try.f29 := by kernel_rfl
theorem at_30 : EE.P.funcs[30]? = some Try.f30 := by kernel_rfl
theorem at_31 : EE.P.funcs[31]? = some Try.f31 := by kernel_rfl
theorem at_42 : EE.P.funcs[42]? = some Try.f42 := by kernel_rfl
theorem at_43 : EE.P.funcs[43]? = some Try.f43 := by kernel_rfl
theorem at_44 : EE.P.funcs[44]? = some Try.f44 := by kernel_rfl
theorem at_45 : EE.P.funcs[45]? = some Try.f45 := by kernel_rfl
theorem at_46 : EE.P.funcs[46]? = some Try.f46 := by kernel_rfl
theorem at_47 : EE.P.funcs[47]? = some Try.f47 := by kernel_rfl
theorem at_62 : EE.P.funcs[62]? = some Try.f62 := by kernel_rfl
theorem at_63 : EE.P.funcs[63]? = some Try.f63 := by kernel_rfl
theorem at_64 : EE.P.funcs[64]? = some Try.f64 := by kernel_rfl
theorem at_65 : EE.P.funcs[65]? = some Try.f65 := by kernel_rfl
theorem at_66 : EE.P.funcs[66]? = some Try.f66 := by kernel_rfl
theorem at_67 : EE.P.funcs[67]? = some Try.f67 := by kernel_rfl
theorem at_68 : EE.P.funcs[68]? = some Try.f68 := by kernel_rfl
theorem at_69 : EE.P.funcs[69]? = some Try.f69 := by kernel_rfl
theorem at_8 : EE.P.funcs[8]? = some Try.f8 := by kernel_rfl
theorem at_80 : EE.P.funcs[80]? = some Try.f80 := by kernel_rfl
theorem at_81 : EE.P.funcs[81]? = some Try.f81 := by kernel_rfl
theorem at_9 : EE.P.funcs[9]? = some Try.f9 := by kernel_rfl
theorem at_97 : EE.P.funcs[97]? = some Try.f97 := by kernel_rfl
theorem be_4 {x y : Bool} : binV EE .eql 4 (.bool x) (.bool y) = some (.bool (x == y)) := by kernel_rfl
theorem bn_69 {x0 y0 : ByteArray} {x1 y1 : ByteArray} {x2 y2 : Bool} : binV EE .neq 69 (.agg #[.string x0, .string x1, .bool x2]) (.agg #[.string y0, .string y1, .bool y2]) = some (.bool (!((x0 == y0) && ((x1 == y1) && ((x2 == y2) && (true)))))) := by kernel_rfl
theorem bq_23 {x0 y0 : ByteArray} {x1 y1 : ByteArray} : binV EE .eql 23 (.agg #[.string x0, .string x1]) (.agg #[.string y0, .string y1]) = some (.bool (((x0 == y0) && ((x1 == y1) && (true))))) := by kernel_rfl
theorem bq_69 {x0 y0 : ByteArray} {x1 y1 : ByteArray} {x2 y2 : Bool} : binV EE .eql 69 (.agg #[.string x0, .string x1, .bool x2]) (.agg #[.string y0, .string y1, .bool y2]) = some (.bool (((x0 == y0) && ((x1 == y1) && ((x2 == y2) && (true)))))) := by kernel_rfl
theorem by_65 : bytesOf EE.P 65 = some 48 := by kernel_rfl
theorem by_69 : bytesOf EE.P 69 = some 40 := by kernel_rfl
theorem fa_23_0 (b o : Nat) : fieldAddrV EE 23 (.pointer (some ⟨b, o, none⟩)) 0 = some (.pointer (some ⟨b, o, none⟩)) := by kernel_rfl
theorem fa_23_1 (b o : Nat) : fieldAddrV EE 23 (.pointer (some ⟨b, o, none⟩)) 1 = some (.pointer (some ⟨b, o + 1, none⟩)) := by kernel_rfl
theorem fa_27_0 (b o : Nat) : fieldAddrV EE 27 (.pointer (some ⟨b, o, none⟩)) 0 = some (.pointer (some ⟨b, o, none⟩)) := by kernel_rfl
theorem fa_27_1 (b o : Nat) : fieldAddrV EE 27 (.pointer (some ⟨b, o, none⟩)) 1 = some (.pointer (some ⟨b, o + 1, none⟩)) := by kernel_rfl
theorem fa_27_2 (b o : Nat) : fieldAddrV EE 27 (.pointer (some ⟨b, o, none⟩)) 2 = some (.pointer (some ⟨b, o + 3, none⟩)) := by kernel_rfl
theorem fa_27_3 (b o : Nat) : fieldAddrV EE 27 (.pointer (some ⟨b, o, none⟩)) 3 = some (.pointer (some ⟨b, o + 4, none⟩)) := by kernel_rfl
theorem fa_27_4 (b o : Nat) : fieldAddrV EE 27 (.pointer (some ⟨b, o, none⟩)) 4 = some (.pointer (some ⟨b, o + 5, none⟩)) := by kernel_rfl
theorem fa_27_5 (b o : Nat) : fieldAddrV EE 27 (.pointer (some ⟨b, o, none⟩)) 5 = some (.pointer (some ⟨b, o + 6, none⟩)) := by kernel_rfl
theorem fa_52_0 (b o : Nat) : fieldAddrV EE 52 (.pointer (some ⟨b, o, none⟩)) 0 = some (.pointer (some ⟨b, o, none⟩)) := by kernel_rfl
theorem fa_52_1 (b o : Nat) : fieldAddrV EE 52 (.pointer (some ⟨b, o, none⟩)) 1 = some (.pointer (some ⟨b, o + 1, none⟩)) := by kernel_rfl
theorem fa_52_2 (b o : Nat) : fieldAddrV EE 52 (.pointer (some ⟨b, o, none⟩)) 2 = some (.pointer (some ⟨b, o + 2, none⟩)) := by kernel_rfl
theorem fa_65_0 (b o : Nat) : fieldAddrV EE 65 (.pointer (some ⟨b, o, none⟩)) 0 = some (.pointer (some ⟨b, o, none⟩)) := by kernel_rfl
theorem fa_65_1 (b o : Nat) : fieldAddrV EE 65 (.pointer (some ⟨b, o, none⟩)) 1 = some (.pointer (some ⟨b, o + 1, none⟩)) := by kernel_rfl
theorem fa_65_2 (b o : Nat) : fieldAddrV EE 65 (.pointer (some ⟨b, o, none⟩)) 2 = some (.pointer (some ⟨b, o + 2, none⟩)) := by kernel_rfl
theorem fa_65_3 (b o : Nat) : fieldAddrV EE 65 (.pointer (some ⟨b, o, none⟩)) 3 = some (.pointer (some ⟨b, o + 3, none⟩)) := by kernel_rfl
theorem fa_69_0 (b o : Nat) : fieldAddrV EE 69 (.pointer (some ⟨b, o, none⟩)) 0 = some (.pointer (some ⟨b, o, none⟩)) := by kernel_rfl
theorem fa_69_1 (b o : Nat) : fieldAddrV EE 69 (.pointer (some ⟨b, o, none⟩)) 1 = some (.pointer (some ⟨b, o + 1, none⟩)) := by kernel_rfl
theorem fa_69_2 (b o : Nat) : fieldAddrV EE 69 (.pointer (some ⟨b, o, none⟩)) 2 = some (.pointer (some ⟨b, o + 2, none⟩)) := by kernel_rfl
theorem hb_13 : hasBody EE.P 13 = true := by kernel_rfl
theorem hb_22 : hasBody EE.P 22 = true := by kernel_rfl
theorem hb_24 : hasBody EE.P 24 = true := by kernel_rfl
theorem hb_25 : hasBody EE.P 25 = true := by kernel_rfl
theorem hb_26 : hasBody EE.P 26 = true := by kernel_rfl
theorem hb_27 : hasBody EE.P 27 = true := by kernel_rfl
theorem hb_28 : hasBody EE.P 28 = true := by kernel_rfl
theorem hb_29 : hasBody EE.P 29 = true := by kernel_rfl
theorem hb_30 : hasBody EE.P 30 = true := by kernel_rfl
theorem hb_31 : hasBody EE.P 31 = true := by kernel_rfl
theorem hb_42 : hasBody EE.P 42 = true := by kernel_rfl
theorem hb_43 : hasBody EE.P 43 = true := by kernel_rfl
theorem hb_44 : hasBody EE.P 44 = true := by kernel_rfl
theorem hb_45 : hasBody EE.P 45 = true := by kernel_rfl
theorem hb_46 : hasBody EE.P 46 = true := by kernel_rfl
theorem hb_47 : hasBody EE.P 47 = true := by kernel_rfl
theorem hb_62 : hasBody EE.P 62 = true := by kernel_rfl
theorem hb_63 : hasBody EE.P 63 = true := by kernel_rfl
theorem hb_64 : hasBody EE.P 64 = true := by kernel_rfl
theorem hb_65 : hasBody EE.P 65 = true := by kernel_rfl
theorem hb_66 : hasBody EE.P 66 = true := by kernel_rfl
theorem hb_67 : hasBody EE.P 67 = true := by kernel_rfl
theorem hb_68 : hasBody EE.P 68 = true := by kernel_rfl
theorem hb_69 : hasBody EE.P 69 = true := by kernel_rfl
theorem hb_80 : hasBody EE.P 80 = true := by kernel_rfl
theorem hb_81 : hasBody EE.P 81 = true := by kernel_rfl
theorem hb_97 : hasBody EE.P 97 = true := by kernel_rfl
theorem ln_24 {h : Heap} {a : Option Addr} {n c : Nat} : lenV EE h 24 (.slice a n c) = some (.int .i64 n) := by kernel_rfl
theorem ln_25 {h : Heap} {a : Option Addr} {n c : Nat} : lenV EE h 25 (.slice a n c) = some (.int .i64 n) := by kernel_rfl
theorem ln_28 {h : Heap} {a : Option Addr} {n c : Nat} : lenV EE h 28 (.slice a n c) = some (.int .i64 n) := by kernel_rfl
theorem ln_9 {h : Heap} {x : ByteArray} : lenV EE h 9 (.string x) = some (.int .i64 x.size) := by kernel_rfl
theorem sz_23 : sz EE.P 23 = some 2 := by kernel_rfl
theorem sz_24 : sz EE.P 24 = some 1 := by kernel_rfl
theorem sz_25 : sz EE.P 25 = some 1 := by kernel_rfl
theorem sz_27 : sz EE.P 27 = some 7 := by kernel_rfl
theorem sz_3 : sz EE.P 3 = some 1 := by kernel_rfl
theorem sz_52 : sz EE.P 52 = some 3 := by kernel_rfl
theorem sz_65 : sz EE.P 65 = some 4 := by kernel_rfl
theorem sz_69 : sz EE.P 69 = some 3 := by kernel_rfl
theorem ut_24 : EE.P.underlying 24 = some (.slice 65) := by kernel_rfl
theorem ut_25 : EE.P.underlying 25 = some (.slice 69) := by kernel_rfl
theorem ut_28 : EE.P.underlying 28 = some (.slice 52) := by kernel_rfl
theorem zo_27 : zeroOf EE.P 27 = some (Value.agg #[Value.int IntKind.i64 0, Value.string { data := #[] }, Value.string { data := #[] }, Value.int IntKind.i64 0, Value.slice none 0 0, Value.slice none 0 0, Value.slice none 0 0]) := by kernel_rfl
theorem zo_52 : zeroOf EE.P 52 = some (Value.agg #[Value.string { data := #[] }, Value.string { data := #[] }, Value.int IntKind.i64 0]) := by kernel_rfl
theorem zo_65 : zeroOf EE.P 65 = some (Value.agg #[Value.int IntKind.i64 0, Value.string { data := #[] }, Value.string { data := #[] }, Value.int IntKind.i64 0]) := by kernel_rfl
theorem zo_69 : zeroOf EE.P 69 = some (Value.agg #[Value.string { data := #[] }, Value.string { data := #[] }, Value.bool false]) := by kernel_rfl
theorem zs_24_24 : zerosV EE.P #[24, 24] = some false := by kernel_rfl
theorem zs_25_25 : zerosV EE.P #[25, 25] = some false := by kernel_rfl
theorem fs_52_0 {a : Addr} (h : a.spot = none ∨ a.spot = some 1) : fieldAddrV EE 52 (.pointer (some a)) 0 = some (.pointer (some ⟨a.block, a.off + 0, a.spot⟩)) := by
  obtain ⟨b, o, s⟩ := a
  rcases h with h | h
  · cases h; kernel_rfl
  · cases h; kernel_rfl
theorem ja_71_0 (b o : Nat) : indexAddrV EE 71 (.pointer (some ⟨b, o, none⟩)) (.int .i64 0) = some (.pointer (some ⟨b, o + 0, none⟩)) := by kernel_rfl
theorem ja_71_1 (b o : Nat) : indexAddrV EE 71 (.pointer (some ⟨b, o, none⟩)) (.int .i64 1) = some (.pointer (some ⟨b, o + 1, none⟩)) := by kernel_rfl
theorem sc_9 : scalarT EE.P 9 = some .string := by kernel_rfl
theorem um_122 : EE.P.underlying 122 = some (.map 9 4) := by kernel_rfl
end Go.Proofs.Ytadfhabapgipbaa.V
