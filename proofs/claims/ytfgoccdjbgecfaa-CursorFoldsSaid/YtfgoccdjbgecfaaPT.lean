/- What the types of this seat are.
   No condition: these are laws of the clean machine and of this program. -/
import Derived.Test.YtfgoccdjbgecfaaSi
import Derived.Test.YtfgoccdjbgecfaaPF
namespace Go.Proofs.Ytfgoccdjbgecfaa.V
open Go
set_option linter.unusedVariables false
set_option linter.unusedSimpArgs false
set_option maxRecDepth 100000
theorem ag_100 : isAggT EE.P 100 = some true := by kernel_rfl
theorem ag_23 : isAggT EE.P 23 = some true := by kernel_rfl
theorem ag_27 : isAggT EE.P 27 = some true := by kernel_rfl
theorem ag_28 : isAggT EE.P 28 = some false := by kernel_rfl
theorem ag_3 : isAggT EE.P 3 = some false := by kernel_rfl
theorem ag_30 : isAggT EE.P 30 = some false := by kernel_rfl
theorem ag_31 : isAggT EE.P 31 = some true := by kernel_rfl
theorem ag_32 : isAggT EE.P 32 = some false := by kernel_rfl
theorem ag_34 : isAggT EE.P 34 = some true := by kernel_rfl
theorem ag_4 : isAggT EE.P 4 = some false := by kernel_rfl
theorem ag_48 : isAggT EE.P 48 = some false := by kernel_rfl
theorem ag_54 : isAggT EE.P 54 = some false := by kernel_rfl
theorem ag_74 : isAggT EE.P 74 = some true := by kernel_rfl
theorem ag_77 : isAggT EE.P 77 = some true := by kernel_rfl
theorem ag_86 : isAggT EE.P 86 = some false := by kernel_rfl
theorem ag_9 : isAggT EE.P 9 = some false := by kernel_rfl
theorem ag_92 : isAggT EE.P 92 = some true := by kernel_rfl
theorem at_15 : EE.P.funcs[15]? = some Try.f15 := by kernel_rfl
theorem at_17 : EE.P.funcs[17]? = some Try.f17 := by kernel_rfl
theorem at_18 : EE.P.funcs[18]? = some Try.f18 := by kernel_rfl
theorem at_19 : EE.P.funcs[19]? = some Try.f19 := by kernel_rfl
theorem at_20 : EE.P.funcs[20]? = some Try.f20 := by kernel_rfl
theorem at_21 : EE.P.funcs[21]? = some Try.f21 := by kernel_rfl
theorem at_22 : EE.P.funcs[22]? = some Try.f22 := by kernel_rfl
theorem at_23 : EE.P.funcs[23]? = some Try.f23 := by kernel_rfl
theorem at_24 : EE.P.funcs[24]? = some Try.f24 := by kernel_rfl
theorem at_25 : EE.P.funcs[25]? = some Try.f25 := by kernel_rfl
theorem at_27 : EE.P.funcs[27]? = some Try.f27 := by kernel_rfl
theorem at_28 : EE.P.funcs[28]? = some Try.f28 := by kernel_rfl
theorem at_29 : EE.P.funcs[29]? = some Try.f29 := by kernel_rfl
theorem at_30 : EE.P.funcs[30]? = some Try.f30 := by kernel_rfl
theorem at_31 : EE.P.funcs[31]? = some Try.f31 := by kernel_rfl
theorem at_32 : EE.P.funcs[32]? = some Try.f32 := by kernel_rfl
theorem at_33 : EE.P.funcs[33]? = some Try.f33 := by kernel_rfl
theorem at_35 : EE.P.funcs[35]? = some Try.f35 := by kernel_rfl
theorem at_36 : EE.P.funcs[36]? = some Try.f36 := by kernel_rfl
theorem at_37 : EE.P.funcs[37]? = some Try.f37 := by kernel_rfl
theorem at_38 : EE.P.funcs[38]? = some Try.f38 := by kernel_rfl
theorem at_4 : EE.P.funcs[4]? = some Try.f4 := by kernel_rfl
theorem at_41 : EE.P.funcs[41]? = some Try.f41 := by kernel_rfl
theorem at_43 : EE.P.funcs[43]? = some Try.f43 := by kernel_rfl
theorem at_46 : EE.P.funcs[46]? = some Try.f46 := by kernel_rfl
theorem at_47 : EE.P.funcs[47]? = some Try.f47 := by kernel_rfl
theorem at_48 : EE.P.funcs[48]? = some Try.f48 := by kernel_rfl
theorem at_49 : EE.P.funcs[49]? = some Try.f49 := by kernel_rfl
theorem at_52 : EE.P.funcs[52]? = some Try.f52 := by kernel_rfl
theorem at_53 : EE.P.funcs[53]? = some Try.f53 := by kernel_rfl
theorem at_54 : EE.P.funcs[54]? = some Try.f54 := by kernel_rfl
theorem at_55 : EE.P.funcs[55]? = some Try.f55 := by kernel_rfl
theorem at_59 : EE.P.funcs[59]? = some Try.f59 := by kernel_rfl
theorem at_6 : EE.P.funcs[6]? = some Try.f6 := by kernel_rfl
theorem at_61 : EE.P.funcs[61]? = some Try.f61 := by kernel_rfl
theorem at_66 : EE.P.funcs[66]? = some Try.f66 := by kernel_rfl
theorem at_67 : EE.P.funcs[67]? = some Try.f67 := by kernel_rfl
theorem at_70 : EE.P.funcs[70]? = some Try.f70 := by kernel_rfl
theorem at_74 : EE.P.funcs[74]? = some Try.f74 := by kernel_rfl
theorem at_9 : EE.P.funcs[9]? = some Try.f9 := by kernel_rfl
theorem bn_100 {x0 y0 : ByteArray} {x1 y1 : ByteArray} {x2 y2 : Int} : binV EE .neq 100 (.agg #[.string x0, .string x1, .int .i64 x2]) (.agg #[.string y0, .string y1, .int .i64 y2]) = some (.bool (!((x0 == y0) && ((x1 == y1) && ((x2 == y2) && (true)))))) := by kernel_rfl
theorem bn_77 {x0 y0 : Int} {x1 y1 : ByteArray} {x2 y2 : ByteArray} {x3 y3 : Bool} : binV EE .neq 77 (.agg #[.int .i64 x0, .string x1, .string x2, .bool x3]) (.agg #[.int .i64 y0, .string y1, .string y2, .bool y3]) = some (.bool (!((x0 == y0) && ((x1 == y1) && ((x2 == y2) && ((x3 == y3) && (true))))))) := by kernel_rfl
theorem by_100 : bytesOf EE.P 100 = some 40 := by kernel_rfl
theorem by_30 : bytesOf EE.P 30 = some 24 := by kernel_rfl
theorem by_77 : bytesOf EE.P 77 = some 48 := by kernel_rfl
theorem fa_100_0 (b o : Nat) : fieldAddrV EE 100 (.pointer (some ⟨b, o, none⟩)) 0 = some (.pointer (some ⟨b, o, none⟩)) := by kernel_rfl
theorem fa_23_0 (b o : Nat) : fieldAddrV EE 23 (.pointer (some ⟨b, o, none⟩)) 0 = some (.pointer (some ⟨b, o, none⟩)) := by kernel_rfl
theorem fa_23_1 (b o : Nat) : fieldAddrV EE 23 (.pointer (some ⟨b, o, none⟩)) 1 = some (.pointer (some ⟨b, o + 1, none⟩)) := by kernel_rfl
theorem fa_25_0 (b o : Nat) : fieldAddrV EE 25 (.pointer (some ⟨b, o, none⟩)) 0 = some (.pointer (some ⟨b, o, none⟩)) := by kernel_rfl
theorem fa_25_2 (b o : Nat) : fieldAddrV EE 25 (.pointer (some ⟨b, o, none⟩)) 2 = some (.pointer (some ⟨b, o + 3, none⟩)) := by kernel_rfl
theorem fa_27_1 (b o : Nat) : fieldAddrV EE 27 (.pointer (some ⟨b, o, none⟩)) 1 = some (.pointer (some ⟨b, o + 1, none⟩)) := by kernel_rfl
theorem fa_27_2 (b o : Nat) : fieldAddrV EE 27 (.pointer (some ⟨b, o, none⟩)) 2 = some (.pointer (some ⟨b, o + 2, none⟩)) := by kernel_rfl
theorem fa_31_0 (b o : Nat) : fieldAddrV EE 31 (.pointer (some ⟨b, o, none⟩)) 0 = some (.pointer (some ⟨b, o, none⟩)) := by kernel_rfl
theorem fa_31_1 (b o : Nat) : fieldAddrV EE 31 (.pointer (some ⟨b, o, none⟩)) 1 = some (.pointer (some ⟨b, o + 2, none⟩)) := by kernel_rfl
theorem fa_31_2 (b o : Nat) : fieldAddrV EE 31 (.pointer (some ⟨b, o, none⟩)) 2 = some (.pointer (some ⟨b, o + 3, none⟩)) := by kernel_rfl
theorem fa_31_3 (b o : Nat) : fieldAddrV EE 31 (.pointer (some ⟨b, o, none⟩)) 3 = some (.pointer (some ⟨b, o + 4, none⟩)) := by kernel_rfl
theorem fa_34_0 (b o : Nat) : fieldAddrV EE 34 (.pointer (some ⟨b, o, none⟩)) 0 = some (.pointer (some ⟨b, o, none⟩)) := by kernel_rfl
theorem fa_34_1 (b o : Nat) : fieldAddrV EE 34 (.pointer (some ⟨b, o, none⟩)) 1 = some (.pointer (some ⟨b, o + 1, none⟩)) := by kernel_rfl
theorem fa_34_2 (b o : Nat) : fieldAddrV EE 34 (.pointer (some ⟨b, o, none⟩)) 2 = some (.pointer (some ⟨b, o + 2, none⟩)) := by kernel_rfl
theorem fa_34_3 (b o : Nat) : fieldAddrV EE 34 (.pointer (some ⟨b, o, none⟩)) 3 = some (.pointer (some ⟨b, o + 3, none⟩)) := by kernel_rfl
theorem fa_74_0 (b o : Nat) : fieldAddrV EE 74 (.pointer (some ⟨b, o, none⟩)) 0 = some (.pointer (some ⟨b, o, none⟩)) := by kernel_rfl
theorem fa_74_1 (b o : Nat) : fieldAddrV EE 74 (.pointer (some ⟨b, o, none⟩)) 1 = some (.pointer (some ⟨b, o + 2, none⟩)) := by kernel_rfl
theorem fa_74_2 (b o : Nat) : fieldAddrV EE 74 (.pointer (some ⟨b, o, none⟩)) 2 = some (.pointer (some ⟨b, o + 3, none⟩)) := by kernel_rfl
theorem fa_77_0 (b o : Nat) : fieldAddrV EE 77 (.pointer (some ⟨b, o, none⟩)) 0 = some (.pointer (some ⟨b, o, none⟩)) := by kernel_rfl
theorem fa_77_1 (b o : Nat) : fieldAddrV EE 77 (.pointer (some ⟨b, o, none⟩)) 1 = some (.pointer (some ⟨b, o + 1, none⟩)) := by kernel_rfl
theorem fa_77_2 (b o : Nat) : fieldAddrV EE 77 (.pointer (some ⟨b, o, none⟩)) 2 = some (.pointer (some ⟨b, o + 2, none⟩)) := by kernel_rfl
theorem fa_77_3 (b o : Nat) : fieldAddrV EE 77 (.pointer (some ⟨b, o, none⟩)) 3 = some (.pointer (some ⟨b, o + 3, none⟩)) := by kernel_rfl
theorem fa_88_0 (b o : Nat) : fieldAddrV EE 88 (.pointer (some ⟨b, o, none⟩)) 0 = some (.pointer (some ⟨b, o, none⟩)) := by kernel_rfl
theorem fa_88_1 (b o : Nat) : fieldAddrV EE 88 (.pointer (some ⟨b, o, none⟩)) 1 = some (.pointer (some ⟨b, o + 1, none⟩)) := by kernel_rfl
theorem fa_90_0 (b o : Nat) : fieldAddrV EE 90 (.pointer (some ⟨b, o, none⟩)) 0 = some (.pointer (some ⟨b, o, none⟩)) := by kernel_rfl
theorem fa_90_1 (b o : Nat) : fieldAddrV EE 90 (.pointer (some ⟨b, o, none⟩)) 1 = some (.pointer (some ⟨b, o + 2, none⟩)) := by kernel_rfl
theorem fa_90_2 (b o : Nat) : fieldAddrV EE 90 (.pointer (some ⟨b, o, none⟩)) 2 = some (.pointer (some ⟨b, o + 3, none⟩)) := by kernel_rfl
theorem fa_92_0 (b o : Nat) : fieldAddrV EE 92 (.pointer (some ⟨b, o, none⟩)) 0 = some (.pointer (some ⟨b, o, none⟩)) := by kernel_rfl
theorem fa_92_1 (b o : Nat) : fieldAddrV EE 92 (.pointer (some ⟨b, o, none⟩)) 1 = some (.pointer (some ⟨b, o + 1, none⟩)) := by kernel_rfl
theorem fa_92_2 (b o : Nat) : fieldAddrV EE 92 (.pointer (some ⟨b, o, none⟩)) 2 = some (.pointer (some ⟨b, o + 2, none⟩)) := by kernel_rfl
theorem hb_15 : hasBody EE.P 15 = true := by kernel_rfl
theorem hb_17 : hasBody EE.P 17 = true := by kernel_rfl
theorem hb_18 : hasBody EE.P 18 = true := by kernel_rfl
theorem hb_19 : hasBody EE.P 19 = true := by kernel_rfl
theorem hb_20 : hasBody EE.P 20 = true := by kernel_rfl
theorem hb_21 : hasBody EE.P 21 = true := by kernel_rfl
theorem hb_22 : hasBody EE.P 22 = true := by kernel_rfl
theorem hb_23 : hasBody EE.P 23 = true := by kernel_rfl
theorem hb_24 : hasBody EE.P 24 = true := by kernel_rfl
theorem hb_25 : hasBody EE.P 25 = true := by kernel_rfl
theorem hb_27 : hasBody EE.P 27 = true := by kernel_rfl
theorem hb_28 : hasBody EE.P 28 = true := by kernel_rfl
theorem hb_29 : hasBody EE.P 29 = true := by kernel_rfl
theorem hb_30 : hasBody EE.P 30 = true := by kernel_rfl
theorem hb_31 : hasBody EE.P 31 = true := by kernel_rfl
theorem hb_32 : hasBody EE.P 32 = true := by kernel_rfl
theorem hb_33 : hasBody EE.P 33 = true := by kernel_rfl
theorem hb_35 : hasBody EE.P 35 = true := by kernel_rfl
theorem hb_36 : hasBody EE.P 36 = true := by kernel_rfl
theorem hb_37 : hasBody EE.P 37 = true := by kernel_rfl
theorem hb_38 : hasBody EE.P 38 = true := by kernel_rfl
theorem hb_41 : hasBody EE.P 41 = true := by kernel_rfl
theorem hb_42 : hasBody EE.P 42 = true := by kernel_rfl
theorem hb_43 : hasBody EE.P 43 = true := by kernel_rfl
theorem hb_44 : hasBody EE.P 44 = true := by kernel_rfl
theorem hb_45 : hasBody EE.P 45 = true := by kernel_rfl
theorem hb_46 : hasBody EE.P 46 = true := by kernel_rfl
theorem hb_47 : hasBody EE.P 47 = true := by kernel_rfl
theorem hb_48 : hasBody EE.P 48 = true := by kernel_rfl
theorem hb_49 : hasBody EE.P 49 = true := by kernel_rfl
theorem hb_50 : hasBody EE.P 50 = true := by kernel_rfl
theorem hb_51 : hasBody EE.P 51 = true := by kernel_rfl
theorem hb_52 : hasBody EE.P 52 = true := by kernel_rfl
theorem hb_53 : hasBody EE.P 53 = true := by kernel_rfl
theorem hb_54 : hasBody EE.P 54 = true := by kernel_rfl
theorem hb_55 : hasBody EE.P 55 = true := by kernel_rfl
theorem hb_56 : hasBody EE.P 56 = true := by kernel_rfl
theorem hb_57 : hasBody EE.P 57 = true := by kernel_rfl
theorem hb_59 : hasBody EE.P 59 = true := by kernel_rfl
theorem hb_61 : hasBody EE.P 61 = true := by kernel_rfl
theorem hb_65 : hasBody EE.P 65 = true := by kernel_rfl
theorem hb_66 : hasBody EE.P 66 = true := by kernel_rfl
theorem hb_67 : hasBody EE.P 67 = true := by kernel_rfl
theorem hb_68 : hasBody EE.P 68 = true := by kernel_rfl
theorem hb_69 : hasBody EE.P 69 = true := by kernel_rfl
theorem hb_70 : hasBody EE.P 70 = true := by kernel_rfl
theorem hb_74 : hasBody EE.P 74 = true := by kernel_rfl
theorem hb_8 : hasBody EE.P 8 = true := by kernel_rfl
theorem hb_9 : hasBody EE.P 9 = true := by kernel_rfl
theorem ln_102 {h : Heap} {a : Option Addr} {n c : Nat} : lenV EE h 102 (.slice a n c) = some (.int .i64 n) := by kernel_rfl
theorem ln_28 {h : Heap} {a : Option Addr} {n c : Nat} : lenV EE h 28 (.slice a n c) = some (.int .i64 n) := by kernel_rfl
theorem ln_30 {h : Heap} {a : Option Addr} {n c : Nat} : lenV EE h 30 (.slice a n c) = some (.int .i64 n) := by kernel_rfl
theorem ln_48 {h : Heap} {a : Option Addr} {n c : Nat} : lenV EE h 48 (.slice a n c) = some (.int .i64 n) := by kernel_rfl
theorem ln_54 {h : Heap} {a : Option Addr} {n c : Nat} : lenV EE h 54 (.slice a n c) = some (.int .i64 n) := by kernel_rfl
theorem ln_57 {h : Heap} {a : Option Addr} {n c : Nat} : lenV EE h 57 (.slice a n c) = some (.int .i64 n) := by kernel_rfl
theorem sz_100 : sz EE.P 100 = some 3 := by kernel_rfl
theorem sz_23 : sz EE.P 23 = some 2 := by kernel_rfl
theorem sz_27 : sz EE.P 27 = some 3 := by kernel_rfl
theorem sz_28 : sz EE.P 28 = some 1 := by kernel_rfl
theorem sz_3 : sz EE.P 3 = some 1 := by kernel_rfl
theorem sz_30 : sz EE.P 30 = some 1 := by kernel_rfl
theorem sz_31 : sz EE.P 31 = some 5 := by kernel_rfl
theorem sz_34 : sz EE.P 34 = some 4 := by kernel_rfl
theorem sz_4 : sz EE.P 4 = some 1 := by kernel_rfl
theorem sz_56 : sz EE.P 56 = some 3 := by kernel_rfl
theorem sz_74 : sz EE.P 74 = some 4 := by kernel_rfl
theorem sz_77 : sz EE.P 77 = some 4 := by kernel_rfl
theorem sz_9 : sz EE.P 9 = some 1 := by kernel_rfl
theorem sz_92 : sz EE.P 92 = some 3 := by kernel_rfl
theorem ut_102 : EE.P.underlying 102 = some (.slice 9) := by kernel_rfl
theorem ut_28 : EE.P.underlying 28 = some (.slice 30) := by kernel_rfl
theorem ut_30 : EE.P.underlying 30 = some (.slice 77) := by kernel_rfl
theorem ut_48 : EE.P.underlying 48 = some (.slice 56) := by kernel_rfl
theorem ut_54 : EE.P.underlying 54 = some (.slice 92) := by kernel_rfl
theorem ut_57 : EE.P.underlying 57 = some (.slice 100) := by kernel_rfl
theorem zo_100 : zeroOf EE.P 100 = some (Value.agg #[Value.string { data := #[] }, Value.string { data := #[] }, Value.int IntKind.i64 0]) := by kernel_rfl
theorem zo_27 : zeroOf EE.P 27 = some (Value.agg #[Value.int IntKind.i64 0, Value.int IntKind.i64 0, Value.int IntKind.i64 0]) := by kernel_rfl
theorem zo_30 : zeroOf EE.P 30 = some (Value.slice none 0 0) := by kernel_rfl
theorem zo_31 : zeroOf EE.P 31 = some (Value.agg #[Value.string { data := #[] }, Value.string { data := #[] }, Value.int IntKind.i64 0, Value.bool false, Value.bool false]) := by kernel_rfl
theorem zo_34 : zeroOf EE.P 34 = some (Value.agg #[Value.int IntKind.i64 0, Value.int IntKind.i64 0, Value.int IntKind.i64 0, Value.slice none 0 0]) := by kernel_rfl
theorem zo_74 : zeroOf EE.P 74 = some (Value.agg #[Value.string { data := #[] }, Value.string { data := #[] }, Value.int IntKind.i64 0, Value.bool false]) := by kernel_rfl
theorem zo_77 : zeroOf EE.P 77 = some (Value.agg #[Value.int IntKind.i64 0, Value.string { data := #[] }, Value.string { data := #[] }, Value.bool false]) := by kernel_rfl
theorem zo_92 : zeroOf EE.P 92 = some (Value.agg #[Value.string { data := #[] }, Value.string { data := #[] }, Value.bool false]) := by kernel_rfl
theorem zs_28_28 : zerosV EE.P #[28, 28] = some false := by kernel_rfl
theorem zs_30_30 : zerosV EE.P #[30, 30] = some false := by kernel_rfl
theorem zs_57_57 : zerosV EE.P #[57, 57] = some false := by kernel_rfl
theorem fs_100_0 {a : Addr} (h : a.spot = none ∨ a.spot = some 1) : fieldAddrV EE 100 (.pointer (some a)) 0 = some (.pointer (some ⟨a.block, a.off + 0, a.spot⟩)) := by
  obtain ⟨b, o, s⟩ := a
  rcases h with h | h
  · cases h; kernel_rfl
  · cases h; kernel_rfl
theorem fs_56_0 {a : Addr} (h : a.spot = none ∨ a.spot = some 1) : fieldAddrV EE 56 (.pointer (some a)) 0 = some (.pointer (some ⟨a.block, a.off + 0, a.spot⟩)) := by
  obtain ⟨b, o, s⟩ := a
  rcases h with h | h
  · cases h; kernel_rfl
  · cases h; kernel_rfl
theorem fs_56_1 {a : Addr} (h : a.spot = none ∨ a.spot = some 1) : fieldAddrV EE 56 (.pointer (some a)) 1 = some (.pointer (some ⟨a.block, a.off + 1, a.spot⟩)) := by
  obtain ⟨b, o, s⟩ := a
  rcases h with h | h
  · cases h; kernel_rfl
  · cases h; kernel_rfl
theorem fs_56_2 {a : Addr} (h : a.spot = none ∨ a.spot = some 1) : fieldAddrV EE 56 (.pointer (some a)) 2 = some (.pointer (some ⟨a.block, a.off + 2, a.spot⟩)) := by
  obtain ⟨b, o, s⟩ := a
  rcases h with h | h
  · cases h; kernel_rfl
  · cases h; kernel_rfl
theorem fs_77_0 {a : Addr} (h : a.spot = none ∨ a.spot = some 1) : fieldAddrV EE 77 (.pointer (some a)) 0 = some (.pointer (some ⟨a.block, a.off + 0, a.spot⟩)) := by
  obtain ⟨b, o, s⟩ := a
  rcases h with h | h
  · cases h; kernel_rfl
  · cases h; kernel_rfl
theorem fs_77_1 {a : Addr} (h : a.spot = none ∨ a.spot = some 1) : fieldAddrV EE 77 (.pointer (some a)) 1 = some (.pointer (some ⟨a.block, a.off + 1, a.spot⟩)) := by
  obtain ⟨b, o, s⟩ := a
  rcases h with h | h
  · cases h; kernel_rfl
  · cases h; kernel_rfl
theorem ja_49_0 (b o : Nat) : indexAddrV EE 49 (.pointer (some ⟨b, o, none⟩)) (.int .i64 0) = some (.pointer (some ⟨b, o + 0, none⟩)) := by kernel_rfl
theorem ja_49_1 (b o : Nat) : indexAddrV EE 49 (.pointer (some ⟨b, o, none⟩)) (.int .i64 1) = some (.pointer (some ⟨b, o + 1, none⟩)) := by kernel_rfl
theorem sc_9 : scalarT EE.P 9 = some .string := by kernel_rfl
theorem um_109 : EE.P.underlying 109 = some (.map 9 77) := by kernel_rfl
theorem um_86 : EE.P.underlying 86 = some (.map 9 30) := by kernel_rfl
theorem evo_clone_45 {h : Heap} (hw : Wf h) {a : Option Addr} {c : Nat} {xs ys : List TEvent} (f0 : RL R_TEvent h a c xs) (hy : cloneL 48 xs = some ys) :
    EvO EE 45 [.slice a xs.length c] [] h (fun v S h1 => ∃ q t, v = .slice q ys.length ys.length ∧ S = [t] ∧ AccR R_TEvent 77 h1 t (.slice q ys.length ys.length) ys) := by
  obtain ⟨hr, rfl⟩ := cloneL_some hy
  cases a with
  | none =>
    have e0 := RL.none_nil f0
    subst e0
    refine evo_of rfl (show EE.P.funcs[45]? = some Try.f45 by kernel_rfl) rfl rfl ?_
    refine go_seq ?_
    refine go_region ?_
    refine gAc rfl rfl ?_
    refine go_nil ?_
    refine go_seq ?_
    refine go_seq ?_
    refine go_region ?_
    refine gM rfl rfl ?_
    refine gr rfl (r_bin (v := .bool true) (ot rfl) (oc rfl) (by kernel_rfl)) ?_
    refine go_nil ?_
    refine g_cond (b := true) (ot rfl) (fun _ => ?_) (fun h => by cases h)
    refine go_seq ?_
    refine go_region ?_
    refine gAc rfl rfl ?_
    refine go_nil ?_
    exact g_ret (rst rfl rs0) (fun h1 hf hs => ⟨[[]], _, hf, HExt.refl _, hw, hs, nde nd0, none, [], rfl, rfl, AccR.nil _ _ _⟩)
  | some a =>
    refine evo_of rfl (show EE.P.funcs[45]? = some Try.f45 by kernel_rfl) rfl rfl ?_
    refine go_seq ?_
    refine go_region ?_
    refine gAc rfl rfl ?_
    refine go_nil ?_
    refine go_seq ?_
    refine go_seq ?_
    refine go_region ?_
    refine gM rfl rfl ?_
    refine gr rfl (r_bin (v := .bool false) (ot rfl) (oc rfl) (by kernel_rfl)) ?_
    refine go_nil ?_
    refine g_cond (b := false) (ot rfl) (fun h => by cases h) (fun _ => ?_)
    refine go_skip ?_
    refine go_seq ?_
    refine go_region ?_
    refine gs_bslice (segs := []) (cs := []) rfl op0 ut_30 sz_77 zo_77 rfl rfl ?_; intro b5
    refine gM rfl rfl ?_
    obtain ⟨rw1, hw1, hq1⟩ := RL.first f0 (by decide)
    refine gs_app0 (rows2 := rw1) (R := R_TEvent) rfl (os1 (ot rfl) (os1 (ot rfl) os0)) rfl ut_30 sz_77 rfl (by decide) by_77 zo_77 rfl (by kernel_rfl) rfl rfl (first_e hq1 (fun h' kn => kn.firstV hq1)) hw1 (AccR.lit _ _ _ _) hr (fun p1 tl1 f1 => ?_)
    refine gA rfl rfl ?_
    refine go_nil ?_
    refine gs_sub (.cons_cons _ (.cons _ (.refl _))) ?_
    exact g_ret (rst rfl rs0) (fun h1 hf hs => ⟨[tl1], _, hf, HExt.refl _, hw, hs, ndt f1 nd0, _, _, rfl, rfl, f1⟩)
theorem evo_clone_65 {h : Heap} (hw : Wf h) {a : Option Addr} {c : Nat} {xs ys : List TKV} (f0 : RL R_TKV h a c xs) (hy : cloneL 40 xs = some ys) :
    EvO EE 65 [.slice a xs.length c] [] h (fun v S h1 => ∃ q t, v = .slice q ys.length ys.length ∧ S = [t] ∧ AccR R_TKV 100 h1 t (.slice q ys.length ys.length) ys) := by
  obtain ⟨hr, rfl⟩ := cloneL_some hy
  cases a with
  | none =>
    have e0 := RL.none_nil f0
    subst e0
    refine evo_of rfl (show EE.P.funcs[65]? = some Try.f65 by kernel_rfl) rfl rfl ?_
    refine go_seq ?_
    refine go_region ?_
    refine gAc rfl rfl ?_
    refine go_nil ?_
    refine go_seq ?_
    refine go_seq ?_
    refine go_region ?_
    refine gM rfl rfl ?_
    refine gr rfl (r_bin (v := .bool true) (ot rfl) (oc rfl) (by kernel_rfl)) ?_
    refine go_nil ?_
    refine g_cond (b := true) (ot rfl) (fun _ => ?_) (fun h => by cases h)
    refine go_seq ?_
    refine go_region ?_
    refine gAc rfl rfl ?_
    refine go_nil ?_
    exact g_ret (rst rfl rs0) (fun h1 hf hs => ⟨[[]], _, hf, HExt.refl _, hw, hs, nde nd0, none, [], rfl, rfl, AccR.nil _ _ _⟩)
  | some a =>
    refine evo_of rfl (show EE.P.funcs[65]? = some Try.f65 by kernel_rfl) rfl rfl ?_
    refine go_seq ?_
    refine go_region ?_
    refine gAc rfl rfl ?_
    refine go_nil ?_
    refine go_seq ?_
    refine go_seq ?_
    refine go_region ?_
    refine gM rfl rfl ?_
    refine gr rfl (r_bin (v := .bool false) (ot rfl) (oc rfl) (by kernel_rfl)) ?_
    refine go_nil ?_
    refine g_cond (b := false) (ot rfl) (fun h => by cases h) (fun _ => ?_)
    refine go_skip ?_
    refine go_seq ?_
    refine go_region ?_
    refine gs_bslice (segs := []) (cs := []) rfl op0 ut_57 sz_100 zo_100 rfl rfl ?_; intro b5
    refine gM rfl rfl ?_
    obtain ⟨rw1, hw1, hq1⟩ := RL.first f0 (by decide)
    refine gs_app0 (rows2 := rw1) (R := R_TKV) rfl (os1 (ot rfl) (os1 (ot rfl) os0)) rfl ut_57 sz_100 rfl (by decide) by_100 zo_100 rfl (by kernel_rfl) rfl rfl (first_e hq1 (fun h' kn => kn.firstV hq1)) hw1 (AccR.lit _ _ _ _) hr (fun p1 tl1 f1 => ?_)
    refine gA rfl rfl ?_
    refine go_nil ?_
    refine gs_sub (.cons_cons _ (.cons _ (.refl _))) ?_
    exact g_ret (rst rfl rs0) (fun h1 hf hs => ⟨[tl1], _, hf, HExt.refl _, hw, hs, ndt f1 nd0, _, _, rfl, rfl, f1⟩)
theorem ev_clip_44 {h : Heap} (hw : Wf h) {a : Option Addr} {c : Nat} {xs : List TEvent} (f0 : RL R_TEvent h a c xs) (hg : goodA a) :
    Ev EE 44 [.slice a xs.length c] h (fun v h1 => ∃ a2, v = .slice a2 xs.length xs.length ∧ RL R_TEvent h1 a2 xs.length xs ∧ fullA a2) := by
  obtain ⟨a2, hc, f1, hf1⟩ := clip_ok (E := EE) f0 hg ut_30 sz_77
  refine ev_of hw rfl (show EE.P.funcs[44]? = some Go.Proofs.Try.f44 by kernel_rfl) rfl rfl (go_seg0 ?_)
  refine go_seq ?_
  refine go_region ?_
  refine gAc rfl rfl ?_
  refine go_nil ?_
  refine go_seq ?_
  refine go_region ?_
  refine gM rfl rfl ?_
  refine gM rfl rfl ?_
  refine gr rfl (r_len rfl (os1 (ot rfl) os0) (fun _ _ => ln_30)) ?_
  refine gM rfl rfl ?_
  refine gr rfl (r_len rfl (os1 (ot rfl) os0) (fun _ _ => ln_30)) ?_
  refine gr rfl (r_slice (ot rfl) on (oo (ot rfl)) (oo (ot rfl)) (fun hf kn => hc _)) ?_
  refine gA rfl rfl ?_
  refine go_nil ?_
  exact g_ret (rst rfl rs0) (fun h1 hf hs => ⟨hs.hext, a2, rfl, f1.ext hs.hext.kn, hf1⟩)
def evH (x : TEvent) : EvH := ⟨x.Rev, x.Key, x.Val, x.Del⟩
theorem gOf_lt {xs : List TEvent} {j : Nat} (h : j < xs.length) : gOf (xs.map evH) j = evH xs[j] := by
  unfold gOf; rw [List.getElem?_map, List.getElem?_eq_getElem h]; rfl
theorem atT_app : ∀ (l : List TEvent) (e : TEvent) (rev : Int), atT (l ++ [e]) rev = if e.Rev ≤ rev then some e else atT l rev
  | [], e, rev => by simp [atT]
  | x :: l, e, rev => by
    rw [List.cons_append, atT, atT_app l e rev]
    by_cases h : e.Rev ≤ rev
    · rw [if_pos h, if_pos h]
    · rw [if_neg h, if_neg h]; rfl
theorem atB_atT (xs : List TEvent) (rev : Int) : ∀ n, n ≤ xs.length → atB (gOf (xs.map evH)) rev n = (atT (xs.take n) rev).map evH
  | 0, _ => rfl
  | n + 1, h => by
    rw [atB, gOf_lt (by omega), List.take_succ_eq_append_getElem (by omega), atT_app, atB_atT xs rev n (by omega)]
    by_cases q : (evH xs[n]).a ≤ rev
    · rw [if_pos q, if_pos (show xs[n].Rev ≤ rev from q)]; rfl
    · rw [if_neg q, if_neg (show ¬ xs[n].Rev ≤ rev from q)]
theorem rowsOf_rl {h : Heap} {a : Option Addr} {c : Nat} {xs : List TEvent} (s : RL R_TEvent h a c xs) : rowsOf h a xs.length = some (xs.map evH) := by
  have row : ∀ i (hi : i < xs.length), ∃ a0, a = some a0 ∧ rowAt h a0 i = some (evH xs[i]) := by
    intro i hi
    obtain ⟨a0, a', row, h1, h2, h3, h4⟩ := s.2.2.1 i _ (List.getElem?_eq_getElem hi)
    refine ⟨a0, h1, ?_⟩
    unfold rowAt
    have h2 : elemAddr a0 (i * 4) = some a' := h2
    have h3 : cellsAt h a' 4 = some row := h3
    rw [h2]; dsimp only; rw [h3]
    have h4 : row = c_TEvent xs[i] := h4
    rw [h4]; rfl
  cases he : xs.length with
  | zero =>
    have : xs = [] := List.eq_nil_of_length_eq_zero he
    subst this; rfl
  | succ k =>
    obtain ⟨a0, ha, _⟩ := row 0 (by omega)
    subst ha
    show rowsAt h a0 (k + 1) = _
    rw [← he]
    have gen : ∀ n, n ≤ xs.length → rowsAt h a0 n = some ((xs.take n).map evH) := by
      intro n
      induction n with
      | zero => intro _; rfl
      | succ n ih =>
        intro hn
        obtain ⟨a1, e1, h1⟩ := row n (by omega)
        cases e1
        rw [rowsAt, ih (by omega)]
        dsimp only
        rw [h1]
        dsimp only
        rw [List.take_succ_eq_append_getElem (by omega), List.map_append]; rfl
    rw [gen _ (Nat.le_refl _), List.take_length]
theorem evo_hat_42 {h : Heap} (hw : Wf h) {b mb T : Nat} {x0 x1 : Value} {rest : List Value} {raw : List (ByteArray × Value)} {m : List (ByteArray × List TEvent)} {k : ByteArray} {rev : Int} {y : TEvent × Bool}
    (f : MR R_TEvent h raw m) (hy : hatL m k rev = some y) :
    EvO EE 42 [.pointer (some ⟨b, 0, none⟩), .string k, .int .i64 rev] [[⟨b, .cells (x0 :: x1 :: .map (some mb) :: rest) T⟩], [⟨mb, .map (encM kS id raw)⟩]] h (fun v S h1 => v = .tuple #[.agg #[.int .i64 y.1.Rev, .string y.1.Key, .string y.1.Val, .bool y.1.Del], .bool y.2] ∧
      S = [[⟨b, .cells (x0 :: x1 :: .map (some mb) :: rest) T⟩], [⟨mb, .map (encM kS id raw)⟩]]) := by
  intro h' hf hs
  have hs0 := hs
  have hs : Has [⟨b, .cells (x0 :: x1 :: .map (some mb) :: rest) T⟩, ⟨mb, .map (encM kS id raw)⟩] h h' hf := hs
  obtain ⟨hb1, _⟩ := hs.blk ⟨b, .cells (x0 :: x1 :: .map (some mb) :: rest) T⟩ List.mem_cons_self
  obtain ⟨hb2, _⟩ := hs.blk ⟨mb, .map (encM kS id raw)⟩ (List.mem_cons_of_mem _ List.mem_cons_self)
  obtain ⟨a, c, g1, g2, g3⟩ := f.get k
  have hr := rowsOf_msk hs.msk (rowsOf_rl (g2.ext hs.ext.kn))
  have hl := lookM (E := E1) hb2 (by exact um_86) (by exact sc_9) (by exact zo_30) k
  rw [g1] at hl
  unfold hatL at hy
  split at hy
  case isFalse => cases hy
  rename_i hq
  cases hy
  have hat := atB_atT ((mget m k).getD []) rev _ (Nat.le_refl _)
  rw [List.take_length] at hat
  have hrun : run EE 1 42 [.pointer (some ⟨b, 0, none⟩), .string k, .int .i64 rev] h' = some (.tuple #[.agg #[.int .i64 ((atT ((mget m k).getD []) rev).getD ⟨0, ByteArray.empty, ByteArray.empty, false⟩).Rev, .string ((atT ((mget m k).getD []) rev).getD ⟨0, ByteArray.empty, ByteArray.empty, false⟩).Key, .string ((atT ((mget m k).getD []) rev).getD ⟨0, ByteArray.empty, ByteArray.empty, false⟩).Val, .bool ((atT ((mget m k).getD []) rev).getD ⟨0, ByteArray.empty, ByteArray.empty, false⟩).Del], .bool (match atT ((mget m k).getD []) rev with | some x => !x.Del | none => false)], h') := by
    rw [run_prim (p := atP E1) rfl]
    show (match h'.get b with
      | some (.cells (_ :: _ :: .map (some m) :: _) _) => match lookupV E1 h' 86 (.map (some m)) (.string k) false with
        | some (.slice a n _) => match rowsOf h' a n with
          | some l => bif Nat.ble n 1000000 then some (Value.tuple #[((atB (gOf l) rev n).getD evZ).v, .bool (okB (atB (gOf l) rev n))], h') else none
          | none => none
        | _ => none
      | _ => none) = _
    rw [hb1]; dsimp only; rw [hl]; dsimp only; rw [hr]; dsimp only; rw [hq, hat]
    cases atT ((mget m k).getD []) rev <;> rfl
  exact ⟨1, _, h', _, h, hf, hrun, HExt.refl _, hw, hs0, ndb (by intro e; cases e) (ndb (by intro e; cases e) nd0), rfl, rfl⟩
theorem evo_mkeys_51 {h : Heap} (hw : Wf h) {mb : Nat} :
    EvO EE 51 [.map (some mb)] [] h (fun v S h1 => ∃ b, v = .func (.func 64) #[] #[.pointer (some ⟨b, 0, none⟩)] ∧ S = [[⟨b, .cells [.map (some mb)] 86⟩]]) := by
  refine evo_of rfl (show EE.P.funcs[51]? = some Go.Proofs.Try.f51 by kernel_rfl) rfl rfl ?_
  refine go_seq ?_
  refine go_region ?_
  refine gs_box (segs := []) rfl (ot rfl) rfl ?_; intro b1
  refine gAc rfl rfl ?_
  refine go_nil ?_
  refine go_seq ?_
  refine go_region ?_
  refine gr rfl (r_func os0 (os1 (ot rfl) os0)) ?_
  refine gA rfl rfl ?_
  refine go_nil ?_
  exact g_ret (rst rfl rs0) (fun h1 hf hs => ⟨[[⟨b1, .cells [.map (some mb)] 86⟩]], _, hf, HExt.refl _, hw, hs, ndb (by intro e; cases e) nd0, _, rfl, rfl⟩)
theorem flat_one : ∀ l : List (List UInt8), (l.map (fun x => [encStr x])).flatten = l.map encStr
  | [] => rfl
  | x :: l => by rw [List.map_cons, List.flatten_cons, flat_one l]; rfl
theorem keysOf_enc : ∀ raw : List (ByteArray × Value), keysOf (encM kS id raw) = some ((raw.map (fun e : ByteArray × Value => e.1)).map (fun x : ByteArray => x.toList))
  | [] => rfl
  | e :: r => by
    show (match keysOf (encM kS id r) with | some l => some (e.1.toList :: l) | none => none) = _
    rw [keysOf_enc r]; rfl
theorem evo_keys_50 {h : Heap} (hw : Wf h) {bq mb : Nat} {raw : List (ByteArray × Value)} {ks ys : List ByteArray} (hk : raw.map (·.1) = ks) (hy : keysB ks = some ys) :
    EvO EE 50 [.func (.func 64) #[] #[.pointer (some ⟨bq, 0, none⟩)]] [[⟨bq, .cells [.map (some mb)] 86⟩], [⟨mb, .map (encM kS id raw)⟩]] h (fun v S h1 => ∃ q t, v = .slice q ys.length ys.length ∧ S = [t, [⟨mb, .map (encM kS id raw)⟩]] ∧ AccR (RS_ 9) 9 h1 t (.slice q ys.length ys.length) ys) := by
  subst hk
  intro h' hf hs
  have hs : Has [⟨bq, .cells [.map (some mb)] 86⟩, ⟨mb, .map (encM kS id raw)⟩] h h' hf := hs
  obtain ⟨hb1, _⟩ := hs.blk ⟨bq, .cells [.map (some mb)] 86⟩ List.mem_cons_self
  obtain ⟨hb2, _⟩ := hs.blk ⟨mb, .map (encM kS id raw)⟩ (List.mem_cons_of_mem _ List.mem_cons_self)
  unfold keysB at hy
  split at hy
  case isFalse => cases hy
  rename_i hq
  cases hy
  have hq2 := hq
  rw [Bool.and_eq_true, Bool.and_eq_true] at hq2
  have hml := Nat.le_of_ble_eq_true hq2.1.2
  have hlen : ((sortU ((raw.map (fun e : ByteArray × Value => e.1)).map (fun x : ByteArray => x.toList))).map toB).length = ((raw.map (fun e : ByteArray × Value => e.1)).map (fun x : ByteArray => x.toList)).length := by rw [List.length_map]; exact (sortU_perm _).length_eq
  have hcore : keysP [.func (.func 64) #[] #[.pointer (some ⟨bq, 0, none⟩)]] h' = bif ((raw.map (fun e : ByteArray × Value => e.1)).map (fun x : ByteArray => x.toList)).isEmpty then some (.slice none 0 0, h') else some (.slice (some ⟨h'.n, 0, some 0⟩) ((raw.map (fun e : ByteArray × Value => e.1)).map (fun x : ByteArray => x.toList)).length ((raw.map (fun e : ByteArray × Value => e.1)).map (fun x : ByteArray => x.toList)).length, h'.alloc (.cells ((sortU ((raw.map (fun e : ByteArray × Value => e.1)).map (fun x : ByteArray => x.toList))).map encStr) 9)) := by
    show (match h'.get bq with
      | some (.cells [.map (some m)] _) => match h'.get m with
        | some (.map es) => match keysOf es with
          | some ks => bif nodupB ks && Nat.ble ks.length 1000000 && ks.all (fun k => Nat.ble k.length maxLen) then
              (bif ks.isEmpty then some (Value.slice none 0 0, h') else some (.slice (some ⟨h'.n, 0, some 0⟩) ks.length ks.length, h'.alloc (.cells ((sortU ks).map encStr) 9))) else none
          | none => none
        | _ => none
      | _ => none) = _
    rw [hb1]; dsimp only; rw [hb2]; dsimp only; rw [keysOf_enc]; dsimp only; rw [hq]; rfl
  have hsub : [(⟨mb, .map (encM kS id raw)⟩ : Blk)].Sublist [⟨bq, .cells [.map (some mb)] 86⟩, ⟨mb, .map (encM kS id raw)⟩] := .cons _ (List.Sublist.refl _)
  cases he : ((raw.map (fun e : ByteArray × Value => e.1)).map (fun x : ByteArray => x.toList)).isEmpty with
  | true =>
    have hm0 : (raw.map (fun e : ByteArray × Value => e.1)).map (fun x : ByteArray => x.toList) = [] := List.isEmpty_iff.mp he
    rw [hm0] at hcore hlen ⊢
    have hrun : run EE 1 50 [.func (.func 64) #[] #[.pointer (some ⟨bq, 0, none⟩)]] h' = some (.slice none 0 0, h') := by
      rw [run_prim (p := keysP) rfl]; exact hcore
    obtain ⟨hf', hs'⟩ := hs.sub hsub
    exact ⟨1, _, h', [[], [⟨mb, .map (encM kS id raw)⟩]], hf', hf', hrun, hs'.ext, hs'.wf, hs'.rebase, nde (ndb (by intro e; cases e) nd0), none, [], rfl, rfl, AccR.nil _ _ _⟩
  | false =>
    rw [he] at hcore
    have hrun : run EE 1 50 [.func (.func 64) #[] #[.pointer (some ⟨bq, 0, none⟩)]] h' = some (.slice (some ⟨h'.n, 0, some 0⟩) ((raw.map (fun e : ByteArray × Value => e.1)).map (fun x : ByteArray => x.toList)).length ((raw.map (fun e : ByteArray × Value => e.1)).map (fun x : ByteArray => x.toList)).length, h'.alloc (.cells ((sortU ((raw.map (fun e : ByteArray × Value => e.1)).map (fun x : ByteArray => x.toList))).map encStr) 9)) := by
      rw [run_prim (p := keysP) rfl]; exact hcore
    obtain ⟨hf', hs'⟩ := hs.sub hsub
    have hs2 := hs'.alloc (.cells ((sortU ((raw.map (fun e : ByteArray × Value => e.1)).map (fun x : ByteArray => x.toList))).map encStr) 9)
    refine ⟨1, _, _, [[⟨h'.n, .cells ((sortU ((raw.map (fun e : ByteArray × Value => e.1)).map (fun x : ByteArray => x.toList))).map encStr) 9⟩], [⟨mb, .map (encM kS id raw)⟩]], _, _, hrun, hs2.ext, hs2.wf, hs2.rebase, ndb (by intro q; cases q) (ndb (by intro e; cases e) nd0), some ⟨h'.n, 0, some 0⟩, _, by rw [hlen], rfl, ?_⟩
    refine ⟨by rw [hlen]; omega, .inr ⟨h'.n, (sortU ((raw.map (fun e : ByteArray × Value => e.1)).map (fun x : ByteArray => x.toList))).map (fun x => [encStr x]), rfl, ?_, ?_⟩⟩
    · rw [flat_one]
    · refine ⟨by rw [List.length_map, List.length_map], fun i row x hr hx => ?_⟩
      rw [List.getElem?_map] at hr hx
      cases hi : (sortU ((raw.map (fun e : ByteArray × Value => e.1)).map (fun x : ByteArray => x.toList)))[i]? with
      | none => rw [hi] at hr; cases hr
      | some e =>
        rw [hi] at hr hx
        cases hr; cases hx
        rfl
theorem evo_values_57 {h : Heap} (hw : Wf h) {mb : Nat} :
    EvO EE 57 [.map (some mb)] [] h (fun v S h1 => ∃ b, v = .func (.func 73) #[] #[.pointer (some ⟨b, 0, none⟩)] ∧ S = [[⟨b, .cells [.map (some mb)] 109⟩]]) := by
  refine evo_of rfl (show EE.P.funcs[57]? = some Try.f57 by kernel_rfl) rfl rfl ?_
  refine go_seq ?_
  refine go_region ?_
  refine gs_box (segs := []) rfl (ot rfl) rfl ?_; intro b1
  refine gAc rfl rfl ?_
  refine go_nil ?_
  refine go_seq ?_
  refine go_region ?_
  refine gr rfl (r_func os0 (os1 (ot rfl) os0)) ?_
  refine gA rfl rfl ?_
  refine go_nil ?_
  exact g_ret (rst rfl rs0) (fun h1 hf hs => ⟨[[⟨b1, .cells [.map (some mb)] 109⟩]], _, hf, HExt.refl _, hw, hs, ndb (by intro e; cases e) nd0, _, rfl, rfl⟩)
theorem decKVs_enc : ∀ {m : List (ByteArray × TEvent)}, m.all (fun e => (e.1.toList == e.2.Key.toList) && Nat.ble e.2.Key.toList.length maxLen) = true → decKVs (encM kS vE_TEvent m) = some (m.map (fun e : ByteArray × TEvent => evV e.2))
  | [], _ => rfl
  | e :: m, h => by
    rw [List.all_cons, Bool.and_eq_true] at h
    have h1 : decKV (kS e.1, vE_TEvent e.2) = some (evV e.2) := by
      show (bif _ then _ else none) = _
      rw [h.1]; rfl
    have h2 := decKVs_enc h.2
    show (match decKV (kS e.1, vE_TEvent e.2) with
      | some x => match decKVs (encM kS vE_TEvent m) with | some l => some (x :: l) | none => none
      | none => none) = _
    rw [h1, h2]; rfl
theorem evo_sorted_56 {h : Heap} (hw : Wf h) {bq mb : Nat} {m : List (ByteArray × TEvent)} {ys : List TEvent} (hy : lastL m = some ys) :
    EvO EE 56 [.func (.func 73) #[] #[.pointer (some ⟨bq, 0, none⟩)], .func (.func 58) #[] #[]] [[⟨bq, .cells [.map (some mb)] 109⟩], [⟨mb, .map (encM kS vE_TEvent m)⟩]] h (fun v S h1 => ∃ q t, v = .slice q ys.length ys.length ∧ S = [t] ∧ AccR R_TEvent 77 h1 t (.slice q ys.length ys.length) ys) := by
  intro h' hf hs
  have hs : Has [⟨bq, .cells [.map (some mb)] 109⟩, ⟨mb, .map (encM kS vE_TEvent m)⟩] h h' hf := hs
  obtain ⟨hb1, _⟩ := hs.blk ⟨bq, .cells [.map (some mb)] 109⟩ List.mem_cons_self
  obtain ⟨hb2, _⟩ := hs.blk ⟨mb, .map (encM kS vE_TEvent m)⟩ (List.mem_cons_of_mem _ List.mem_cons_self)
  unfold lastL at hy
  split at hy
  case isFalse => cases hy
  rename_i hq
  cases hy
  rw [Bool.and_eq_true, Bool.and_eq_true] at hq
  obtain ⟨⟨q1, q2⟩, q3⟩ := hq
  have hd := decKVs_enc q1
  have q2' : nodupB ((m.map (fun e : ByteArray × TEvent => evV e.2)).map (fun x : EvV => x.k)) = true := by rw [List.map_map]; exact q2
  have q3' : Nat.ble (m.map (fun e : ByteArray × TEvent => evV e.2)).length 1000000 = true := by rw [List.length_map]; exact q3
  have hml := Nat.le_of_ble_eq_true q3
  have hlen : ((sortK (m.map (fun e : ByteArray × TEvent => evV e.2))).map evB).length = (m.map (fun e : ByteArray × TEvent => evV e.2)).length := by rw [List.length_map, (sortK_perm _).length_eq]
  have hcore : sortedP [.func (.func 73) #[] #[.pointer (some ⟨bq, 0, none⟩)], .func (.func 58) #[] #[]] h' = bif (m.map (fun e : ByteArray × TEvent => evV e.2)).isEmpty then some (.slice none 0 0, h') else some (.slice (some ⟨h'.n, 0, some 0⟩) (m.map (fun e : ByteArray × TEvent => evV e.2)).length (m.map (fun e : ByteArray × TEvent => evV e.2)).length, h'.alloc (.cells ((sortK (m.map (fun e : ByteArray × TEvent => evV e.2))).flatMap EvV.cs) 77)) := by
    show (match h'.get bq with
      | some (.cells [.map (some m)] _) => match h'.get m with
        | some (.map es) => match decKVs es with
          | some xs => bif nodupB (xs.map (fun x : EvV => x.k)) && Nat.ble xs.length 1000000 then
              (bif xs.isEmpty then some (Value.slice none 0 0, h') else some (.slice (some ⟨h'.n, 0, some 0⟩) xs.length xs.length, h'.alloc (.cells ((sortK xs).flatMap EvV.cs) 77))) else none
          | none => none
        | _ => none
      | _ => none) = _
    rw [hb1]; dsimp only; rw [hb2]; dsimp only; rw [hd]; dsimp only; rw [q2', q3']; rfl
  cases he : (m.map (fun e : ByteArray × TEvent => evV e.2)).isEmpty with
  | true =>
    have hm0 : m.map (fun e : ByteArray × TEvent => evV e.2) = [] := List.isEmpty_iff.mp he
    rw [hm0] at hcore hlen ⊢
    have hrun : run EE 1 56 [.func (.func 73) #[] #[.pointer (some ⟨bq, 0, none⟩)], .func (.func 58) #[] #[]] h' = some (.slice none 0 0, h') := by
      rw [run_prim (p := sortedP) rfl]; exact hcore
    obtain ⟨hf', hs'⟩ := hs.sub (List.nil_sublist _)
    exact ⟨1, _, h', [[]], hf', hf', hrun, hs'.ext, hs'.wf, hs'.rebase, nde nd0, none, [], rfl, rfl, AccR.nil _ _ _⟩
  | false =>
    rw [he] at hcore
    have hrun : run EE 1 56 [.func (.func 73) #[] #[.pointer (some ⟨bq, 0, none⟩)], .func (.func 58) #[] #[]] h' = some (.slice (some ⟨h'.n, 0, some 0⟩) (m.map (fun e : ByteArray × TEvent => evV e.2)).length (m.map (fun e : ByteArray × TEvent => evV e.2)).length, h'.alloc (.cells ((sortK (m.map (fun e : ByteArray × TEvent => evV e.2))).flatMap EvV.cs) 77)) := by
      rw [run_prim (p := sortedP) rfl]; exact hcore
    obtain ⟨hf', hs'⟩ := hs.sub (List.nil_sublist _)
    have hs2 := hs'.alloc (.cells ((sortK (m.map (fun e : ByteArray × TEvent => evV e.2))).flatMap EvV.cs) 77)
    refine ⟨1, _, _, [[⟨h'.n, .cells ((sortK (m.map (fun e : ByteArray × TEvent => evV e.2))).flatMap EvV.cs) 77⟩]], _, _, hrun, hs2.ext, hs2.wf, hs2.rebase, ndb (by intro q; cases q) nd0, some ⟨h'.n, 0, some 0⟩, _, by rw [hlen], rfl, ?_⟩
    refine ⟨by rw [hlen, List.length_map]; omega, .inr ⟨h'.n, (sortK (m.map (fun e : ByteArray × TEvent => evV e.2))).map EvV.cs, rfl, ?_, ?_⟩⟩
    · rw [List.flatMap_def]
    · refine ⟨by rw [List.length_map, List.length_map], fun i row x hr hx => ?_⟩
      rw [List.getElem?_map] at hr hx
      cases hi : (sortK (m.map (fun e : ByteArray × TEvent => evV e.2)))[i]? with
      | none => rw [hi] at hr; cases hr
      | some e =>
        rw [hi] at hr hx
        cases hr; cases hx
        rfl
end Go.Proofs.Ytfgoccdjbgecfaa.V
