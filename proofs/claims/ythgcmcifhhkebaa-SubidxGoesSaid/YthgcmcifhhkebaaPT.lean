/- What the types of this seat are.
   No condition: these are laws of the clean machine and of this program. -/
import Derived.Test.YthgcmcifhhkebaaSi
import Derived.Test.YthgcmcifhhkebaaPF
namespace Go.Proofs.Ythgcmcifhhkebaa.V
open Go
set_option linter.unusedVariables false
set_option linter.unusedSimpArgs false
set_option maxRecDepth 100000
theorem ag_25 : isAggT EE.P 25 = some true := by kernel_rfl
theorem ag_27 : isAggT EE.P 27 = some true := by kernel_rfl
theorem ag_3 : isAggT EE.P 3 = some false := by kernel_rfl
theorem ag_32 : isAggT EE.P 32 = some true := by kernel_rfl
theorem ag_4 : isAggT EE.P 4 = some false := by kernel_rfl
theorem ag_45 : isAggT EE.P 45 = some true := by kernel_rfl
theorem ag_53 : isAggT EE.P 53 = some false := by kernel_rfl
theorem ag_58 : isAggT EE.P 58 = some true := by kernel_rfl
theorem ag_9 : isAggT EE.P 9 = some false := by kernel_rfl
theorem at_10 : EE.P.funcs[10]? = some Try.f10 := by kernel_rfl
theorem at_11 : EE.P.funcs[11]? = some Try.f11 := by kernel_rfl
theorem at_12 : EE.P.funcs[12]? = some Try.f12 := by kernel_rfl
theorem at_13 : EE.P.funcs[13]? = some Try.f13 := by kernel_rfl
theorem at_14 : EE.P.funcs[14]? = some Try.f14 := by kernel_rfl
theorem at_15 : EE.P.funcs[15]? = some Try.f15 := by kernel_rfl
theorem at_16 : EE.P.funcs[16]? = some Try.f16 := by kernel_rfl
theorem at_17 : EE.P.funcs[17]? = some Try.f17 := by kernel_rfl
theorem at_18 : EE.P.funcs[18]? = some Try.f18 := by kernel_rfl
theorem at_19 : EE.P.funcs[19]? = some Try.f19 := by kernel_rfl
theorem at_20 : EE.P.funcs[20]? = some Try.f20 := by kernel_rfl
theorem at_21 : EE.P.funcs[21]? = some Try.f21 := by kernel_rfl
theorem at_22 : EE.P.funcs[22]? = some Try.f22 := by kernel_rfl
theorem at_23 : EE.P.funcs[23]? = some Try.f23 := by kernel_rfl
theorem at_24 : EE.P.funcs[24]? = some Try.f24 := by kernel_rfl
theorem at_25 : EE.P.funcs[25]? = some Try.f25 := by kernel_rfl
theorem at_27 : EE.P.funcs[27]? = some Try.f27 := by kernel_rfl
theorem at_28 : EE.P.funcs[28]? = some Try.f28 := by kernel_rfl
theorem at_29 : EE.P.funcs[29]? = some Try.f29 := by kernel_rfl
theorem at_3 : EE.P.funcs[3]? = some Try.f3 := by kernel_rfl
theorem at_30 : EE.P.funcs[30]? = some Try.f30 := by kernel_rfl
theorem at_32 : EE.P.funcs[32]? = some Try.f32 := by kernel_rfl
theorem at_33 : EE.P.funcs[33]? = some Try.f33 := by kernel_rfl
theorem at_35 : EE.P.funcs[35]? = some Try.f35 := by kernel_rfl
theorem at_36 : EE.P.funcs[36]? = some Try.f36 := by kernel_rfl
theorem at_37 : EE.P.funcs[37]? = some Try.f37 := by kernel_rfl
theorem at_38 : EE.P.funcs[38]? = some Try.f38 := by kernel_rfl
theorem at_39 : EE.P.funcs[39]? = some Try.f39 := by kernel_rfl
theorem at_4 : EE.P.funcs[4]? = some Try.f4 := by kernel_rfl
theorem at_44 : EE.P.funcs[44]? = some Try.f44 := by kernel_rfl
theorem at_45 : EE.P.funcs[45]? = some Try.f45 := by kernel_rfl
theorem at_46 : EE.P.funcs[46]? = some Try.f46 := by kernel_rfl
theorem at_5 : EE.P.funcs[5]? = some Try.f5 := by kernel_rfl
theorem at_6 : EE.P.funcs[6]? = some Try.f6 := by kernel_rfl
theorem at_7 : EE.P.funcs[7]? = some Try.f7 := by kernel_rfl
theorem be_4 {x y : Bool} : binV EE .eql 4 (.bool x) (.bool y) = some (.bool (x == y)) := by kernel_rfl
theorem bn_32 {x0 y0 : Int} {x1 y1 : Int} {x2 y2 : ByteArray} {x3 y3 : ByteArray} : binV EE .neq 32 (.agg #[.int .i64 x0, .int .i64 x1, .string x2, .string x3]) (.agg #[.int .i64 y0, .int .i64 y1, .string y2, .string y3]) = some (.bool (!((x0 == y0) && ((x1 == y1) && ((x2 == y2) && ((x3 == y3) && (true))))))) := by kernel_rfl
theorem bq_25 {x0 y0 : ByteArray} {x1 y1 : ByteArray} : binV EE .eql 25 (.agg #[.string x0, .string x1]) (.agg #[.string y0, .string y1]) = some (.bool (((x0 == y0) && ((x1 == y1) && (true))))) := by kernel_rfl
theorem by_27 : bytesOf EE.P 27 = some 48 := by kernel_rfl
theorem by_3 : bytesOf EE.P 3 = some 8 := by kernel_rfl
theorem by_32 : bytesOf EE.P 32 = some 48 := by kernel_rfl
theorem fa_25_0 (b o : Nat) : fieldAddrV EE 25 (.pointer (some ⟨b, o, none⟩)) 0 = some (.pointer (some ⟨b, o, none⟩)) := by kernel_rfl
theorem fa_25_1 (b o : Nat) : fieldAddrV EE 25 (.pointer (some ⟨b, o, none⟩)) 1 = some (.pointer (some ⟨b, o + 1, none⟩)) := by kernel_rfl
theorem fa_27_0 (b o : Nat) : fieldAddrV EE 27 (.pointer (some ⟨b, o, none⟩)) 0 = some (.pointer (some ⟨b, o, none⟩)) := by kernel_rfl
theorem fa_27_1 (b o : Nat) : fieldAddrV EE 27 (.pointer (some ⟨b, o, none⟩)) 1 = some (.pointer (some ⟨b, o + 1, none⟩)) := by kernel_rfl
theorem fa_27_2 (b o : Nat) : fieldAddrV EE 27 (.pointer (some ⟨b, o, none⟩)) 2 = some (.pointer (some ⟨b, o + 2, none⟩)) := by kernel_rfl
theorem fa_32_0 (b o : Nat) : fieldAddrV EE 32 (.pointer (some ⟨b, o, none⟩)) 0 = some (.pointer (some ⟨b, o, none⟩)) := by kernel_rfl
theorem fa_32_1 (b o : Nat) : fieldAddrV EE 32 (.pointer (some ⟨b, o, none⟩)) 1 = some (.pointer (some ⟨b, o + 1, none⟩)) := by kernel_rfl
theorem fa_32_2 (b o : Nat) : fieldAddrV EE 32 (.pointer (some ⟨b, o, none⟩)) 2 = some (.pointer (some ⟨b, o + 2, none⟩)) := by kernel_rfl
theorem fa_45_0 (b o : Nat) : fieldAddrV EE 45 (.pointer (some ⟨b, o, none⟩)) 0 = some (.pointer (some ⟨b, o, none⟩)) := by kernel_rfl
theorem fa_45_1 (b o : Nat) : fieldAddrV EE 45 (.pointer (some ⟨b, o, none⟩)) 1 = some (.pointer (some ⟨b, o + 1, none⟩)) := by kernel_rfl
theorem fa_55_0 (b o : Nat) : fieldAddrV EE 55 (.pointer (some ⟨b, o, none⟩)) 0 = some (.pointer (some ⟨b, o, none⟩)) := by kernel_rfl
theorem fa_58_0 (b o : Nat) : fieldAddrV EE 58 (.pointer (some ⟨b, o, none⟩)) 0 = some (.pointer (some ⟨b, o, none⟩)) := by kernel_rfl
theorem fa_58_1 (b o : Nat) : fieldAddrV EE 58 (.pointer (some ⟨b, o, none⟩)) 1 = some (.pointer (some ⟨b, o + 4, none⟩)) := by kernel_rfl
theorem fa_58_2 (b o : Nat) : fieldAddrV EE 58 (.pointer (some ⟨b, o, none⟩)) 2 = some (.pointer (some ⟨b, o + 5, none⟩)) := by kernel_rfl
theorem hb_10 : hasBody EE.P 10 = true := by kernel_rfl
theorem hb_11 : hasBody EE.P 11 = true := by kernel_rfl
theorem hb_12 : hasBody EE.P 12 = true := by kernel_rfl
theorem hb_13 : hasBody EE.P 13 = true := by kernel_rfl
theorem hb_14 : hasBody EE.P 14 = true := by kernel_rfl
theorem hb_15 : hasBody EE.P 15 = true := by kernel_rfl
theorem hb_16 : hasBody EE.P 16 = true := by kernel_rfl
theorem hb_17 : hasBody EE.P 17 = true := by kernel_rfl
theorem hb_18 : hasBody EE.P 18 = true := by kernel_rfl
theorem hb_19 : hasBody EE.P 19 = true := by kernel_rfl
theorem hb_20 : hasBody EE.P 20 = true := by kernel_rfl
theorem hb_21 : hasBody EE.P 21 = true := by kernel_rfl
theorem hb_22 : hasBody EE.P 22 = true := by kernel_rfl
theorem hb_23 : hasBody EE.P 23 = true := by kernel_rfl
theorem hb_24 : hasBody EE.P 24 = true := by kernel_rfl
theorem hb_25 : hasBody EE.P 25 = true := by kernel_rfl
theorem hb_26 : hasBody EE.P 26 = true := by kernel_rfl
theorem hb_27 : hasBody EE.P 27 = true := by kernel_rfl
theorem hb_28 : hasBody EE.P 28 = true := by kernel_rfl
theorem hb_29 : hasBody EE.P 29 = true := by kernel_rfl
theorem hb_30 : hasBody EE.P 30 = true := by kernel_rfl
theorem hb_31 : hasBody EE.P 31 = true := by kernel_rfl
theorem hb_32 : hasBody EE.P 32 = true := by kernel_rfl
theorem hb_33 : hasBody EE.P 33 = true := by kernel_rfl
theorem hb_34 : hasBody EE.P 34 = true := by kernel_rfl
theorem hb_35 : hasBody EE.P 35 = true := by kernel_rfl
theorem hb_36 : hasBody EE.P 36 = true := by kernel_rfl
theorem hb_37 : hasBody EE.P 37 = true := by kernel_rfl
theorem hb_38 : hasBody EE.P 38 = true := by kernel_rfl
theorem hb_39 : hasBody EE.P 39 = true := by kernel_rfl
theorem hb_44 : hasBody EE.P 44 = true := by kernel_rfl
theorem hb_45 : hasBody EE.P 45 = true := by kernel_rfl
theorem hb_46 : hasBody EE.P 46 = true := by kernel_rfl
theorem hb_9 : hasBody EE.P 9 = true := by kernel_rfl
theorem ln_22 {h : Heap} {a : Option Addr} {n c : Nat} : lenV EE h 22 (.slice a n c) = some (.int .i64 n) := by kernel_rfl
theorem ln_35 {h : Heap} {a : Option Addr} {n c : Nat} : lenV EE h 35 (.slice a n c) = some (.int .i64 n) := by kernel_rfl
theorem ln_38 {h : Heap} {a : Option Addr} {n c : Nat} : lenV EE h 38 (.slice a n c) = some (.int .i64 n) := by kernel_rfl
theorem ln_41 {h : Heap} {a : Option Addr} {n c : Nat} : lenV EE h 41 (.slice a n c) = some (.int .i64 n) := by kernel_rfl
theorem ln_53 {h : Heap} {a : Option Addr} {n c : Nat} : lenV EE h 53 (.slice a n c) = some (.int .i64 n) := by kernel_rfl
theorem sz_25 : sz EE.P 25 = some 2 := by kernel_rfl
theorem sz_27 : sz EE.P 27 = some 4 := by kernel_rfl
theorem sz_3 : sz EE.P 3 = some 1 := by kernel_rfl
theorem sz_32 : sz EE.P 32 = some 4 := by kernel_rfl
theorem sz_4 : sz EE.P 4 = some 1 := by kernel_rfl
theorem sz_45 : sz EE.P 45 = some 5 := by kernel_rfl
theorem sz_53 : sz EE.P 53 = some 1 := by kernel_rfl
theorem sz_58 : sz EE.P 58 = some 6 := by kernel_rfl
theorem sz_9 : sz EE.P 9 = some 1 := by kernel_rfl
theorem ut_22 : EE.P.underlying 22 = some (.slice 27) := by kernel_rfl
theorem ut_35 : EE.P.underlying 35 = some (.slice 32) := by kernel_rfl
theorem ut_38 : EE.P.underlying 38 = some (.slice 3) := by kernel_rfl
theorem ut_41 : EE.P.underlying 41 = some (.slice 45) := by kernel_rfl
theorem ut_53 : EE.P.underlying 53 = some (.slice 58) := by kernel_rfl
theorem zo_27 : zeroOf EE.P 27 = some (Value.agg #[Value.int IntKind.i64 0, Value.int IntKind.i64 0, Value.string { data := #[] }, Value.string { data := #[] }]) := by kernel_rfl
theorem zo_3 : zeroOf EE.P 3 = some (Value.int IntKind.i64 0) := by kernel_rfl
theorem zo_32 : zeroOf EE.P 32 = some (Value.agg #[Value.int IntKind.i64 0, Value.int IntKind.i64 0, Value.string { data := #[] }, Value.string { data := #[] }]) := by kernel_rfl
theorem zo_58 : zeroOf EE.P 58 = some (Value.agg #[Value.int IntKind.i64 0, Value.int IntKind.i64 0, Value.string { data := #[] }, Value.string { data := #[] }, Value.string { data := #[] }, Value.bool false]) := by kernel_rfl
theorem zs_22_22 : zerosV EE.P #[22, 22] = some false := by kernel_rfl
theorem zs_35_35 : zerosV EE.P #[35, 35] = some false := by kernel_rfl
theorem zs_38_38 : zerosV EE.P #[38, 38] = some false := by kernel_rfl
theorem fs_27_0 {a : Addr} (h : a.spot = none ∨ a.spot = some 1) : fieldAddrV EE 27 (.pointer (some a)) 0 = some (.pointer (some ⟨a.block, a.off + 0, a.spot⟩)) := by
  obtain ⟨b, o, s⟩ := a
  rcases h with h | h
  · cases h; kernel_rfl
  · cases h; kernel_rfl
theorem fs_27_1 {a : Addr} (h : a.spot = none ∨ a.spot = some 1) : fieldAddrV EE 27 (.pointer (some a)) 1 = some (.pointer (some ⟨a.block, a.off + 1, a.spot⟩)) := by
  obtain ⟨b, o, s⟩ := a
  rcases h with h | h
  · cases h; kernel_rfl
  · cases h; kernel_rfl
theorem fs_27_2 {a : Addr} (h : a.spot = none ∨ a.spot = some 1) : fieldAddrV EE 27 (.pointer (some a)) 2 = some (.pointer (some ⟨a.block, a.off + 2, a.spot⟩)) := by
  obtain ⟨b, o, s⟩ := a
  rcases h with h | h
  · cases h; kernel_rfl
  · cases h; kernel_rfl
theorem fs_32_0 {a : Addr} (h : a.spot = none ∨ a.spot = some 1) : fieldAddrV EE 32 (.pointer (some a)) 0 = some (.pointer (some ⟨a.block, a.off + 0, a.spot⟩)) := by
  obtain ⟨b, o, s⟩ := a
  rcases h with h | h
  · cases h; kernel_rfl
  · cases h; kernel_rfl
theorem fs_32_1 {a : Addr} (h : a.spot = none ∨ a.spot = some 1) : fieldAddrV EE 32 (.pointer (some a)) 1 = some (.pointer (some ⟨a.block, a.off + 1, a.spot⟩)) := by
  obtain ⟨b, o, s⟩ := a
  rcases h with h | h
  · cases h; kernel_rfl
  · cases h; kernel_rfl
theorem fs_32_2 {a : Addr} (h : a.spot = none ∨ a.spot = some 1) : fieldAddrV EE 32 (.pointer (some a)) 2 = some (.pointer (some ⟨a.block, a.off + 2, a.spot⟩)) := by
  obtain ⟨b, o, s⟩ := a
  rcases h with h | h
  · cases h; kernel_rfl
  · cases h; kernel_rfl
end Go.Proofs.Ythgcmcifhhkebaa.V
