/- What the types of this seat are.
   No condition: these are laws of the clean machine and of this program. -/
import Derived.Test.YtpfdandpmpmbiaaSi
import Derived.Test.YtpfdandpmpmbiaaPF
namespace Go.Proofs.Ytpfdandpmpmbiaa.V
open Go
set_option linter.unusedVariables false
set_option linter.unusedSimpArgs false
set_option maxRecDepth 100000
theorem ag_108 : isAggT EE.P 108 = some true := by kernel_rfl
theorem ag_133 : isAggT EE.P 133 = some true := by kernel_rfl
theorem ag_25 : isAggT EE.P 25 = some false := by kernel_rfl
theorem ag_28 : isAggT EE.P 28 = some false := by kernel_rfl
theorem ag_29 : isAggT EE.P 29 = some false := by kernel_rfl
theorem ag_3 : isAggT EE.P 3 = some false := by kernel_rfl
theorem ag_33 : isAggT EE.P 33 = some true := by kernel_rfl
theorem ag_34 : isAggT EE.P 34 = some false := by kernel_rfl
theorem ag_36 : isAggT EE.P 36 = some true := by kernel_rfl
theorem ag_39 : isAggT EE.P 39 = some false := by kernel_rfl
theorem ag_4 : isAggT EE.P 4 = some false := by kernel_rfl
theorem ag_41 : isAggT EE.P 41 = some true := by kernel_rfl
theorem ag_45 : isAggT EE.P 45 = some true := by kernel_rfl
theorem ag_47 : isAggT EE.P 47 = some true := by kernel_rfl
theorem ag_5 : isAggT EE.P 5 = some false := by kernel_rfl
theorem ag_50 : isAggT EE.P 50 = some false := by kernel_rfl
theorem ag_59 : isAggT EE.P 59 = some false := by kernel_rfl
theorem ag_61 : isAggT EE.P 61 = some true := by kernel_rfl
theorem ag_71 : isAggT EE.P 71 = some true := by kernel_rfl
theorem ag_73 : isAggT EE.P 73 = some true := by kernel_rfl
theorem ag_9 : isAggT EE.P 9 = some false := by kernel_rfl
theorem ag_90 : isAggT EE.P 90 = some true := by kernel_rfl
theorem ag_97 : isAggT EE.P 97 = some true := by kernel_rfl
theorem ag_98 : isAggT EE.P 98 = some false := by kernel_rfl
theorem at_10 : EE.P.funcs[10]? = some Try.f10 := by kernel_rfl
theorem at_100 : EE.P.funcs[100]? = some Try.f100 := by kernel_rfl
theorem at_105 : EE.P.funcs[105]? = some Try.f105 := by kernel_rfl
theorem at_108 : EE.P.funcs[108]? = some Try.f108 := by kernel_rfl
theorem at_11 : EE.P.funcs[11]? = some Try.f11 := by kernel_rfl
theorem at_111 : EE.P.funcs[111]? = some Try.f111 := by kernel_rfl
theorem at_112 : EE.P.funcs[112]? = some Try.f112 := by kernel_rfl
theorem at_12 : EE.P.funcs[12]? = some Try.f12 := by kernel_rfl
theorem at_125 : EE.P.funcs[125]? = some Try.f125 := by kernel_rfl
theorem at_126 : EE.P.funcs[126]? = some Try.f126 := by kernel_rfl
theorem at_13 : EE.P.funcs[13]? = some Try.f13 := by kernel_rfl
theorem at_15 : EE.P.funcs[15]? = some Try.f15 := by kernel_rfl
theorem at_16 : EE.P.funcs[16]? = some Try.f16 := by kernel_rfl
theorem at_17 : EE.P.funcs[17]? = some Try.f17 := by kernel_rfl
theorem at_18 : EE.P.funcs[18]? = some Try.f18 := by kernel_rfl
theorem at_19 : EE.P.funcs[19]? = some Try.f19 := by kernel_rfl
theorem at_20 : EE.P.funcs[20]? = some Try.f20 := by kernel_rfl
theorem at_21 : EE.P.funcs[21]? = some Try.f21 := by kernel_rfl
theorem at_22 : EE.P.funcs[22]? = some Try.f22 := by kernel_rfl
theorem at_23 : EE.P.funcs[23]? = some Try.f23 := by kernel_rfl
theorem at_24 : EE.P.funcs[24]? = some Try.f24 := by kernel_rfl
theorem at_25 : EE.P.funcs[25]? = some Try.f25 := by kernel_rfl
theorem at_26 : EE.P.funcs[26]? = some Try.f26 := by kernel_rfl
theorem at_28 : EE.P.funcs[28]? = some Try.f28 := by kernel_rfl
theorem at_29 : EE.P.funcs[29]? = some Try.f29 := by kernel_rfl
theorem at_3 : EE.P.funcs[3]? = some Try.f3 := by kernel_rfl
theorem at_30 : EE.P.funcs[30]? = some Try.f30 := by kernel_rfl
theorem at_32 : EE.P.funcs[32]? = some Try.f32 := by kernel_rfl
theorem at_33 : EE.P.funcs[33]? = some Try.f33 := by kernel_rfl
theorem at_34 : EE.P.funcs[34]? = some Try.f34 := by kernel_rfl
theorem at_35 : EE.P.funcs[35]? = some Try.f35 := by kernel_rfl
theorem at_36 : EE.P.funcs[36]? = some Try.f36 := by kernel_rfl
theorem at_37 : EE.P.funcs[37]? = some Try.f37 := by kernel_rfl
theorem at_38 : EE.P.funcs[38]? = some Try.f38 := by kernel_rfl
theorem at_39 : EE.P.funcs[39]? = some Try.f39 := by kernel_rfl
theorem at_4 : EE.P.funcs[4]? = some Try.f4 := by kernel_rfl
theorem at_41 : EE.P.funcs[41]? = some Try.f41 := by kernel_rfl
theorem at_42 : EE.P.funcs[42]? = some Try.f42 := by kernel_rfl
theorem at_43 : EE.P.funcs[43]? = some Try.f43 := by kernel_rfl
theorem at_44 : EE.P.funcs[44]? = some Try.f44 := by kernel_rfl
theorem at_45 : EE.P.funcs[45]? = some Try.f45 := by kernel_rfl
theorem at_46 : EE.P.funcs[46]? = some Try.f46 := by kernel_rfl
theorem at_47 : EE.P.funcs[47]? = some Try.f47 := by kernel_rfl
theorem at_48 : EE.P.funcs[48]? = some Try.f48 := by kernel_rfl
theorem at_5 : EE.P.funcs[5]? = some Try.f5 := by kernel_rfl
theorem at_51 : EE.P.funcs[51]? = some Try.f51 := by kernel_rfl
theorem at_52 : EE.P.funcs[52]? = some Try.f52 := by kernel_rfl
theorem at_56 : EE.P.funcs[56]? = some Try.f56 := by kernel_rfl
theorem at_57 : EE.P.funcs[57]? = some Try.f57 := by kernel_rfl
theorem at_58 : EE.P.funcs[58]? = some Try.f58 := by kernel_rfl
theorem at_59 : EE.P.funcs[59]? = some Try.f59 := by kernel_rfl
theorem at_6 : EE.P.funcs[6]? = some Try.f6 := by kernel_rfl
theorem at_60 : EE.P.funcs[60]? = some Try.f60 := by kernel_rfl
theorem at_61 : EE.P.funcs[61]? = some Try.f61 := by kernel_rfl
theorem at_62 : EE.P.funcs[62]? = some Try.f62 := by kernel_rfl
theorem at_69 : EE.P.funcs[69]? = some Try.f69 := by kernel_rfl
theorem at_7 : EE.P.funcs[7]? = some Try.f7 := by kernel_rfl
theorem at_70 : EE.P.funcs[70]? = some Try.f70 := by kernel_rfl
theorem at_71 : EE.P.funcs[71]? = some Try.f71 := by kernel_rfl
theorem at_72 : EE.P.funcs[72]? = some Try.f72 := by kernel_rfl
theorem at_73 : EE.P.funcs[73]? = some Try.f73 := by kernel_rfl
theorem at_74 : EE.P.funcs[74]? = some Try.f74 := by kernel_rfl
theorem at_75 : EE.P.funcs[75]? = some Try.f75 := by kernel_rfl
theorem at_76 : EE.P.funcs[76]? = some Try.f76 := by kernel_rfl
theorem at_77 : EE.P.funcs[77]? = some Try.f77 := by kernel_rfl
theorem at_8 : EE.P.funcs[8]? = some Try.f8 := by kernel_rfl
theorem at_83 : EE.P.funcs[83]? = some Try.f83 := by kernel_rfl
theorem at_84 : EE.P.funcs[84]? = some Try.f84 := by kernel_rfl
theorem at_85 : EE.P.funcs[85]? = some Try.f85 := by kernel_rfl
theorem at_88 : EE.P.funcs[88]? = some Try.f88 := by kernel_rfl
theorem at_89 : EE.P.funcs[89]? = some Try.f89 := by kernel_rfl
theorem at_9 : EE.P.funcs[9]? = some Try.f9 := by kernel_rfl
theorem at_90 : EE.P.funcs[90]? = some Try.f90 := by kernel_rfl
theorem at_94 : EE.P.funcs[94]? = some Try.f94 := by kernel_rfl
theorem at_95 : EE.P.funcs[95]? = some Try.f95 := by kernel_rfl
theorem at_96 : EE.P.funcs[96]? = some Try.f96 := by kernel_rfl
theorem at_97 : EE.P.funcs[97]? = some Try.f97 := by kernel_rfl
theorem at_98 : EE.P.funcs[98]? = some Try.f98 := by kernel_rfl
theorem at_99 : EE.P.funcs[99]? = some Try.f99 := by kernel_rfl
theorem be_4 {x y : Bool} : binV EE .eql 4 (.bool x) (.bool y) = some (.bool (x == y)) := by kernel_rfl
theorem bn_108 {x0 y0 : Int} {x1 y1 : ByteArray} {x2 y2 : ByteArray} {x3 y3 : Bool} : binV EE .neq 108 (.agg #[.int .i64 x0, .string x1, .string x2, .bool x3]) (.agg #[.int .i64 y0, .string y1, .string y2, .bool y3]) = some (.bool (!((x0 == y0) && ((x1 == y1) && ((x2 == y2) && ((x3 == y3) && (true))))))) := by kernel_rfl
theorem bn_47 {x0 y0 : ByteArray} {x1 y1 : ByteArray} {x2 y2 : Int} : binV EE .neq 47 (.agg #[.string x0, .string x1, .int .i64 x2]) (.agg #[.string y0, .string y1, .int .i64 y2]) = some (.bool (!((x0 == y0) && ((x1 == y1) && ((x2 == y2) && (true)))))) := by kernel_rfl
theorem bn_71 {x0 y0 : Int} {x1 y1 : Int} {x2 y2 : Int} : binV EE .neq 71 (.agg #[.int .i64 x0, .int .i64 x1, .int .i64 x2]) (.agg #[.int .i64 y0, .int .i64 y1, .int .i64 y2]) = some (.bool (!((x0 == y0) && ((x1 == y1) && ((x2 == y2) && (true)))))) := by kernel_rfl
theorem bq_33 {x0 y0 : ByteArray} {x1 y1 : ByteArray} : binV EE .eql 33 (.agg #[.string x0, .string x1]) (.agg #[.string y0, .string y1]) = some (.bool (((x0 == y0) && ((x1 == y1) && (true))))) := by kernel_rfl
theorem bq_47 {x0 y0 : ByteArray} {x1 y1 : ByteArray} {x2 y2 : Int} : binV EE .eql 47 (.agg #[.string x0, .string x1, .int .i64 x2]) (.agg #[.string y0, .string y1, .int .i64 y2]) = some (.bool (((x0 == y0) && ((x1 == y1) && ((x2 == y2) && (true)))))) := by kernel_rfl
theorem bq_71 {x0 y0 : Int} {x1 y1 : Int} {x2 y2 : Int} : binV EE .eql 71 (.agg #[.int .i64 x0, .int .i64 x1, .int .i64 x2]) (.agg #[.int .i64 y0, .int .i64 y1, .int .i64 y2]) = some (.bool (((x0 == y0) && ((x1 == y1) && ((x2 == y2) && (true)))))) := by kernel_rfl
theorem bu_4 {x y : Bool} : binV EE .neq 4 (.bool x) (.bool y) = some (.bool (!(x == y))) := by kernel_rfl
theorem by_108 : bytesOf EE.P 108 = some 48 := by kernel_rfl
theorem by_45 : bytesOf EE.P 45 = some 40 := by kernel_rfl
theorem by_47 : bytesOf EE.P 47 = some 40 := by kernel_rfl
theorem by_50 : bytesOf EE.P 50 = some 24 := by kernel_rfl
theorem fa_100_0 (b o : Nat) : fieldAddrV EE 100 (.pointer (some ⟨b, o, none⟩)) 0 = some (.pointer (some ⟨b, o, none⟩)) := by kernel_rfl
theorem fa_100_1 (b o : Nat) : fieldAddrV EE 100 (.pointer (some ⟨b, o, none⟩)) 1 = some (.pointer (some ⟨b, o + 2, none⟩)) := by kernel_rfl
theorem fa_100_2 (b o : Nat) : fieldAddrV EE 100 (.pointer (some ⟨b, o, none⟩)) 2 = some (.pointer (some ⟨b, o + 3, none⟩)) := by kernel_rfl
theorem fa_108_0 (b o : Nat) : fieldAddrV EE 108 (.pointer (some ⟨b, o, none⟩)) 0 = some (.pointer (some ⟨b, o, none⟩)) := by kernel_rfl
theorem fa_108_1 (b o : Nat) : fieldAddrV EE 108 (.pointer (some ⟨b, o, none⟩)) 1 = some (.pointer (some ⟨b, o + 1, none⟩)) := by kernel_rfl
theorem fa_108_2 (b o : Nat) : fieldAddrV EE 108 (.pointer (some ⟨b, o, none⟩)) 2 = some (.pointer (some ⟨b, o + 2, none⟩)) := by kernel_rfl
theorem fa_108_3 (b o : Nat) : fieldAddrV EE 108 (.pointer (some ⟨b, o, none⟩)) 3 = some (.pointer (some ⟨b, o + 3, none⟩)) := by kernel_rfl
theorem fa_130_0 (b o : Nat) : fieldAddrV EE 130 (.pointer (some ⟨b, o, none⟩)) 0 = some (.pointer (some ⟨b, o, none⟩)) := by kernel_rfl
theorem fa_130_1 (b o : Nat) : fieldAddrV EE 130 (.pointer (some ⟨b, o, none⟩)) 1 = some (.pointer (some ⟨b, o + 1, none⟩)) := by kernel_rfl
theorem fa_133_0 (b o : Nat) : fieldAddrV EE 133 (.pointer (some ⟨b, o, none⟩)) 0 = some (.pointer (some ⟨b, o, none⟩)) := by kernel_rfl
theorem fa_133_1 (b o : Nat) : fieldAddrV EE 133 (.pointer (some ⟨b, o, none⟩)) 1 = some (.pointer (some ⟨b, o + 1, none⟩)) := by kernel_rfl
theorem fa_133_2 (b o : Nat) : fieldAddrV EE 133 (.pointer (some ⟨b, o, none⟩)) 2 = some (.pointer (some ⟨b, o + 2, none⟩)) := by kernel_rfl
theorem fa_133_3 (b o : Nat) : fieldAddrV EE 133 (.pointer (some ⟨b, o, none⟩)) 3 = some (.pointer (some ⟨b, o + 3, none⟩)) := by kernel_rfl
theorem fa_33_0 (b o : Nat) : fieldAddrV EE 33 (.pointer (some ⟨b, o, none⟩)) 0 = some (.pointer (some ⟨b, o, none⟩)) := by kernel_rfl
theorem fa_33_1 (b o : Nat) : fieldAddrV EE 33 (.pointer (some ⟨b, o, none⟩)) 1 = some (.pointer (some ⟨b, o + 1, none⟩)) := by kernel_rfl
theorem fa_36_0 (b o : Nat) : fieldAddrV EE 36 (.pointer (some ⟨b, o, none⟩)) 0 = some (.pointer (some ⟨b, o, none⟩)) := by kernel_rfl
theorem fa_36_1 (b o : Nat) : fieldAddrV EE 36 (.pointer (some ⟨b, o, none⟩)) 1 = some (.pointer (some ⟨b, o + 1, none⟩)) := by kernel_rfl
theorem fa_41_0 (b o : Nat) : fieldAddrV EE 41 (.pointer (some ⟨b, o, none⟩)) 0 = some (.pointer (some ⟨b, o, none⟩)) := by kernel_rfl
theorem fa_41_1 (b o : Nat) : fieldAddrV EE 41 (.pointer (some ⟨b, o, none⟩)) 1 = some (.pointer (some ⟨b, o + 1, none⟩)) := by kernel_rfl
theorem fa_41_2 (b o : Nat) : fieldAddrV EE 41 (.pointer (some ⟨b, o, none⟩)) 2 = some (.pointer (some ⟨b, o + 2, none⟩)) := by kernel_rfl
theorem fa_45_0 (b o : Nat) : fieldAddrV EE 45 (.pointer (some ⟨b, o, none⟩)) 0 = some (.pointer (some ⟨b, o, none⟩)) := by kernel_rfl
theorem fa_45_1 (b o : Nat) : fieldAddrV EE 45 (.pointer (some ⟨b, o, none⟩)) 1 = some (.pointer (some ⟨b, o + 1, none⟩)) := by kernel_rfl
theorem fa_45_2 (b o : Nat) : fieldAddrV EE 45 (.pointer (some ⟨b, o, none⟩)) 2 = some (.pointer (some ⟨b, o + 2, none⟩)) := by kernel_rfl
theorem fa_47_0 (b o : Nat) : fieldAddrV EE 47 (.pointer (some ⟨b, o, none⟩)) 0 = some (.pointer (some ⟨b, o, none⟩)) := by kernel_rfl
theorem fa_47_1 (b o : Nat) : fieldAddrV EE 47 (.pointer (some ⟨b, o, none⟩)) 1 = some (.pointer (some ⟨b, o + 1, none⟩)) := by kernel_rfl
theorem fa_47_2 (b o : Nat) : fieldAddrV EE 47 (.pointer (some ⟨b, o, none⟩)) 2 = some (.pointer (some ⟨b, o + 2, none⟩)) := by kernel_rfl
theorem fa_61_0 (b o : Nat) : fieldAddrV EE 61 (.pointer (some ⟨b, o, none⟩)) 0 = some (.pointer (some ⟨b, o, none⟩)) := by kernel_rfl
theorem fa_61_1 (b o : Nat) : fieldAddrV EE 61 (.pointer (some ⟨b, o, none⟩)) 1 = some (.pointer (some ⟨b, o + 1, none⟩)) := by kernel_rfl
theorem fa_61_2 (b o : Nat) : fieldAddrV EE 61 (.pointer (some ⟨b, o, none⟩)) 2 = some (.pointer (some ⟨b, o + 3, none⟩)) := by kernel_rfl
theorem fa_61_3 (b o : Nat) : fieldAddrV EE 61 (.pointer (some ⟨b, o, none⟩)) 3 = some (.pointer (some ⟨b, o + 4, none⟩)) := by kernel_rfl
theorem fa_61_4 (b o : Nat) : fieldAddrV EE 61 (.pointer (some ⟨b, o, none⟩)) 4 = some (.pointer (some ⟨b, o + 5, none⟩)) := by kernel_rfl
theorem fa_61_5 (b o : Nat) : fieldAddrV EE 61 (.pointer (some ⟨b, o, none⟩)) 5 = some (.pointer (some ⟨b, o + 6, none⟩)) := by kernel_rfl
theorem fa_71_0 (b o : Nat) : fieldAddrV EE 71 (.pointer (some ⟨b, o, none⟩)) 0 = some (.pointer (some ⟨b, o, none⟩)) := by kernel_rfl
theorem fa_71_1 (b o : Nat) : fieldAddrV EE 71 (.pointer (some ⟨b, o, none⟩)) 1 = some (.pointer (some ⟨b, o + 1, none⟩)) := by kernel_rfl
theorem fa_71_2 (b o : Nat) : fieldAddrV EE 71 (.pointer (some ⟨b, o, none⟩)) 2 = some (.pointer (some ⟨b, o + 2, none⟩)) := by kernel_rfl
theorem fa_73_0 (b o : Nat) : fieldAddrV EE 73 (.pointer (some ⟨b, o, none⟩)) 0 = some (.pointer (some ⟨b, o, none⟩)) := by kernel_rfl
theorem fa_73_1 (b o : Nat) : fieldAddrV EE 73 (.pointer (some ⟨b, o, none⟩)) 1 = some (.pointer (some ⟨b, o + 3, none⟩)) := by kernel_rfl
theorem fa_73_2 (b o : Nat) : fieldAddrV EE 73 (.pointer (some ⟨b, o, none⟩)) 2 = some (.pointer (some ⟨b, o + 4, none⟩)) := by kernel_rfl
theorem fa_73_3 (b o : Nat) : fieldAddrV EE 73 (.pointer (some ⟨b, o, none⟩)) 3 = some (.pointer (some ⟨b, o + 5, none⟩)) := by kernel_rfl
theorem fa_90_0 (b o : Nat) : fieldAddrV EE 90 (.pointer (some ⟨b, o, none⟩)) 0 = some (.pointer (some ⟨b, o, none⟩)) := by kernel_rfl
theorem fa_90_1 (b o : Nat) : fieldAddrV EE 90 (.pointer (some ⟨b, o, none⟩)) 1 = some (.pointer (some ⟨b, o + 1, none⟩)) := by kernel_rfl
theorem fa_90_2 (b o : Nat) : fieldAddrV EE 90 (.pointer (some ⟨b, o, none⟩)) 2 = some (.pointer (some ⟨b, o + 2, none⟩)) := by kernel_rfl
theorem fa_90_3 (b o : Nat) : fieldAddrV EE 90 (.pointer (some ⟨b, o, none⟩)) 3 = some (.pointer (some ⟨b, o + 3, none⟩)) := by kernel_rfl
theorem fa_97_0 (b o : Nat) : fieldAddrV EE 97 (.pointer (some ⟨b, o, none⟩)) 0 = some (.pointer (some ⟨b, o, none⟩)) := by kernel_rfl
theorem fa_97_1 (b o : Nat) : fieldAddrV EE 97 (.pointer (some ⟨b, o, none⟩)) 1 = some (.pointer (some ⟨b, o + 1, none⟩)) := by kernel_rfl
theorem hb_100 : hasBody EE.P 100 = true := by kernel_rfl
theorem hb_105 : hasBody EE.P 105 = true := by kernel_rfl
theorem hb_108 : hasBody EE.P 108 = true := by kernel_rfl
theorem hb_111 : hasBody EE.P 111 = true := by kernel_rfl
theorem hb_112 : hasBody EE.P 112 = true := by kernel_rfl
theorem hb_125 : hasBody EE.P 125 = true := by kernel_rfl
theorem hb_126 : hasBody EE.P 126 = true := by kernel_rfl
theorem hb_14 : hasBody EE.P 14 = true := by kernel_rfl
theorem hb_15 : hasBody EE.P 15 = true := by kernel_rfl
theorem hb_16 : hasBody EE.P 16 = true := by kernel_rfl
theorem hb_17 : hasBody EE.P 17 = true := by kernel_rfl
theorem hb_18 : hasBody EE.P 18 = true := by kernel_rfl
theorem hb_19 : hasBody EE.P 19 = true := by kernel_rfl
theorem hb_20 : hasBody EE.P 20 = true := by kernel_rfl
theorem hb_21 : hasBody EE.P 21 = true := by kernel_rfl
theorem hb_22 : hasBody EE.P 22 = true := by kernel_rfl
theorem hb_23 : hasBody EE.P 23 = true := by kernel_rfl
theorem hb_24 : hasBody EE.P 24 = true := by kernel_rfl
theorem hb_25 : hasBody EE.P 25 = true := by kernel_rfl
theorem hb_26 : hasBody EE.P 26 = true := by kernel_rfl
theorem hb_27 : hasBody EE.P 27 = true := by kernel_rfl
theorem hb_28 : hasBody EE.P 28 = true := by kernel_rfl
theorem hb_29 : hasBody EE.P 29 = true := by kernel_rfl
theorem hb_30 : hasBody EE.P 30 = true := by kernel_rfl
theorem hb_31 : hasBody EE.P 31 = true := by kernel_rfl
theorem hb_32 : hasBody EE.P 32 = true := by kernel_rfl
theorem hb_33 : hasBody EE.P 33 = true := by kernel_rfl
theorem hb_34 : hasBody EE.P 34 = true := by kernel_rfl
theorem hb_35 : hasBody EE.P 35 = true := by kernel_rfl
theorem hb_36 : hasBody EE.P 36 = true := by kernel_rfl
theorem hb_37 : hasBody EE.P 37 = true := by kernel_rfl
theorem hb_38 : hasBody EE.P 38 = true := by kernel_rfl
theorem hb_39 : hasBody EE.P 39 = true := by kernel_rfl
theorem hb_40 : hasBody EE.P 40 = true := by kernel_rfl
theorem hb_41 : hasBody EE.P 41 = true := by kernel_rfl
theorem hb_42 : hasBody EE.P 42 = true := by kernel_rfl
theorem hb_43 : hasBody EE.P 43 = true := by kernel_rfl
theorem hb_44 : hasBody EE.P 44 = true := by kernel_rfl
theorem hb_45 : hasBody EE.P 45 = true := by kernel_rfl
theorem hb_46 : hasBody EE.P 46 = true := by kernel_rfl
theorem hb_47 : hasBody EE.P 47 = true := by kernel_rfl
theorem hb_48 : hasBody EE.P 48 = true := by kernel_rfl
theorem hb_51 : hasBody EE.P 51 = true := by kernel_rfl
theorem hb_52 : hasBody EE.P 52 = true := by kernel_rfl
theorem hb_53 : hasBody EE.P 53 = true := by kernel_rfl
theorem hb_54 : hasBody EE.P 54 = true := by kernel_rfl
theorem hb_55 : hasBody EE.P 55 = true := by kernel_rfl
theorem hb_56 : hasBody EE.P 56 = true := by kernel_rfl
theorem hb_57 : hasBody EE.P 57 = true := by kernel_rfl
theorem hb_58 : hasBody EE.P 58 = true := by kernel_rfl
theorem hb_59 : hasBody EE.P 59 = true := by kernel_rfl
theorem hb_60 : hasBody EE.P 60 = true := by kernel_rfl
theorem hb_61 : hasBody EE.P 61 = true := by kernel_rfl
theorem hb_62 : hasBody EE.P 62 = true := by kernel_rfl
theorem hb_63 : hasBody EE.P 63 = true := by kernel_rfl
theorem hb_64 : hasBody EE.P 64 = true := by kernel_rfl
theorem hb_65 : hasBody EE.P 65 = true := by kernel_rfl
theorem hb_66 : hasBody EE.P 66 = true := by kernel_rfl
theorem hb_69 : hasBody EE.P 69 = true := by kernel_rfl
theorem hb_70 : hasBody EE.P 70 = true := by kernel_rfl
theorem hb_71 : hasBody EE.P 71 = true := by kernel_rfl
theorem hb_72 : hasBody EE.P 72 = true := by kernel_rfl
theorem hb_73 : hasBody EE.P 73 = true := by kernel_rfl
theorem hb_74 : hasBody EE.P 74 = true := by kernel_rfl
theorem hb_75 : hasBody EE.P 75 = true := by kernel_rfl
theorem hb_76 : hasBody EE.P 76 = true := by kernel_rfl
theorem hb_77 : hasBody EE.P 77 = true := by kernel_rfl
theorem hb_82 : hasBody EE.P 82 = true := by kernel_rfl
theorem hb_83 : hasBody EE.P 83 = true := by kernel_rfl
theorem hb_84 : hasBody EE.P 84 = true := by kernel_rfl
theorem hb_85 : hasBody EE.P 85 = true := by kernel_rfl
theorem hb_86 : hasBody EE.P 86 = true := by kernel_rfl
theorem hb_87 : hasBody EE.P 87 = true := by kernel_rfl
theorem hb_88 : hasBody EE.P 88 = true := by kernel_rfl
theorem hb_89 : hasBody EE.P 89 = true := by kernel_rfl
theorem hb_90 : hasBody EE.P 90 = true := by kernel_rfl
theorem hb_94 : hasBody EE.P 94 = true := by kernel_rfl
theorem hb_95 : hasBody EE.P 95 = true := by kernel_rfl
theorem hb_96 : hasBody EE.P 96 = true := by kernel_rfl
theorem hb_97 : hasBody EE.P 97 = true := by kernel_rfl
theorem hb_98 : hasBody EE.P 98 = true := by kernel_rfl
theorem hb_99 : hasBody EE.P 99 = true := by kernel_rfl
theorem ln_102 {h : Heap} {a : Option Addr} {n c : Nat} : lenV EE h 102 (.slice a n c) = some (.int .i64 n) := by kernel_rfl
theorem ln_22 {h : Heap} {a : Option Addr} {n c : Nat} : lenV EE h 22 (.slice a n c) = some (.int .i64 n) := by kernel_rfl
theorem ln_28 {h : Heap} {a : Option Addr} {n c : Nat} : lenV EE h 28 (.slice a n c) = some (.int .i64 n) := by kernel_rfl
theorem ln_34 {h : Heap} {a : Option Addr} {n c : Nat} : lenV EE h 34 (.slice a n c) = some (.int .i64 n) := by kernel_rfl
theorem ln_39 {h : Heap} {a : Option Addr} {n c : Nat} : lenV EE h 39 (.slice a n c) = some (.int .i64 n) := by kernel_rfl
theorem ln_50 {h : Heap} {a : Option Addr} {n c : Nat} : lenV EE h 50 (.slice a n c) = some (.int .i64 n) := by kernel_rfl
theorem ln_59 {h : Heap} {a : Option Addr} {n c : Nat} : lenV EE h 59 (.slice a n c) = some (.int .i64 n) := by kernel_rfl
theorem ln_66 {h : Heap} {a : Option Addr} {n c : Nat} : lenV EE h 66 (.slice a n c) = some (.int .i64 n) := by kernel_rfl
theorem ln_9 {h : Heap} {x : ByteArray} : lenV EE h 9 (.string x) = some (.int .i64 x.size) := by kernel_rfl
theorem sz_108 : sz EE.P 108 = some 4 := by kernel_rfl
theorem sz_133 : sz EE.P 133 = some 4 := by kernel_rfl
theorem sz_3 : sz EE.P 3 = some 1 := by kernel_rfl
theorem sz_33 : sz EE.P 33 = some 2 := by kernel_rfl
theorem sz_34 : sz EE.P 34 = some 1 := by kernel_rfl
theorem sz_36 : sz EE.P 36 = some 2 := by kernel_rfl
theorem sz_41 : sz EE.P 41 = some 3 := by kernel_rfl
theorem sz_45 : sz EE.P 45 = some 3 := by kernel_rfl
theorem sz_47 : sz EE.P 47 = some 3 := by kernel_rfl
theorem sz_5 : sz EE.P 5 = some 1 := by kernel_rfl
theorem sz_50 : sz EE.P 50 = some 1 := by kernel_rfl
theorem sz_59 : sz EE.P 59 = some 1 := by kernel_rfl
theorem sz_61 : sz EE.P 61 = some 7 := by kernel_rfl
theorem sz_71 : sz EE.P 71 = some 3 := by kernel_rfl
theorem sz_73 : sz EE.P 73 = some 6 := by kernel_rfl
theorem sz_9 : sz EE.P 9 = some 1 := by kernel_rfl
theorem sz_90 : sz EE.P 90 = some 4 := by kernel_rfl
theorem sz_97 : sz EE.P 97 = some 2 := by kernel_rfl
theorem ut_102 : EE.P.underlying 102 = some (.slice 9) := by kernel_rfl
theorem ut_22 : EE.P.underlying 22 = some (.slice 41) := by kernel_rfl
theorem ut_28 : EE.P.underlying 28 = some (.slice 47) := by kernel_rfl
theorem ut_34 : EE.P.underlying 34 = some (.slice 50) := by kernel_rfl
theorem ut_39 : EE.P.underlying 39 = some (.slice 45) := by kernel_rfl
theorem ut_50 : EE.P.underlying 50 = some (.slice 108) := by kernel_rfl
theorem ut_59 : EE.P.underlying 59 = some (.slice 133) := by kernel_rfl
theorem ut_66 : EE.P.underlying 66 = some (.slice 61) := by kernel_rfl
theorem ut_80 : EE.P.underlying 80 = some (.slice 5) := by kernel_rfl
theorem zo_108 : zeroOf EE.P 108 = some (Value.agg #[Value.int IntKind.i64 0, Value.string { data := #[] }, Value.string { data := #[] }, Value.bool false]) := by kernel_rfl
theorem zo_133 : zeroOf EE.P 133 = some (Value.agg #[Value.int IntKind.i64 0, Value.string { data := #[] }, Value.string { data := #[] }, Value.int IntKind.i64 0]) := by kernel_rfl
theorem zo_36 : zeroOf EE.P 36 = some (Value.agg #[Value.slice none 0 0, Value.int IntKind.i64 0]) := by kernel_rfl
theorem zo_45 : zeroOf EE.P 45 = some (Value.agg #[Value.string { data := #[] }, Value.string { data := #[] }, Value.bool false]) := by kernel_rfl
theorem zo_47 : zeroOf EE.P 47 = some (Value.agg #[Value.string { data := #[] }, Value.string { data := #[] }, Value.int IntKind.i64 0]) := by kernel_rfl
theorem zo_5 : zeroOf EE.P 5 = some (Value.int IntKind.u8 0) := by kernel_rfl
theorem zo_50 : zeroOf EE.P 50 = some (Value.slice none 0 0) := by kernel_rfl
theorem zo_61 : zeroOf EE.P 61 = some (Value.agg #[Value.int IntKind.i64 0, Value.string { data := #[] }, Value.string { data := #[] }, Value.int IntKind.i64 0, Value.slice none 0 0, Value.slice none 0 0, Value.slice none 0 0]) := by kernel_rfl
theorem zo_71 : zeroOf EE.P 71 = some (Value.agg #[Value.int IntKind.i64 0, Value.int IntKind.i64 0, Value.int IntKind.i64 0]) := by kernel_rfl
theorem zo_73 : zeroOf EE.P 73 = some (Value.agg #[Value.int IntKind.i64 0, Value.int IntKind.i64 0, Value.int IntKind.i64 0, Value.int IntKind.i64 0, Value.bool false, Value.slice none 0 0]) := by kernel_rfl
theorem zo_90 : zeroOf EE.P 90 = some (Value.agg #[Value.bool false, Value.slice none 0 0, Value.int IntKind.i64 0, Value.int IntKind.i64 0]) := by kernel_rfl
theorem zs_28_28 : zerosV EE.P #[28, 28] = some false := by kernel_rfl
theorem zs_34_34 : zerosV EE.P #[34, 34] = some false := by kernel_rfl
theorem zs_39_39 : zerosV EE.P #[39, 39] = some false := by kernel_rfl
theorem zs_50_50 : zerosV EE.P #[50, 50] = some false := by kernel_rfl
theorem fs_108_1 {a : Addr} (h : a.spot = none ∨ a.spot = some 1) : fieldAddrV EE 108 (.pointer (some a)) 1 = some (.pointer (some ⟨a.block, a.off + 1, a.spot⟩)) := by
  obtain ⟨b, o, s⟩ := a
  rcases h with h | h
  · cases h; kernel_rfl
  · cases h; kernel_rfl
theorem fs_108_2 {a : Addr} (h : a.spot = none ∨ a.spot = some 1) : fieldAddrV EE 108 (.pointer (some a)) 2 = some (.pointer (some ⟨a.block, a.off + 2, a.spot⟩)) := by
  obtain ⟨b, o, s⟩ := a
  rcases h with h | h
  · cases h; kernel_rfl
  · cases h; kernel_rfl
theorem fs_108_3 {a : Addr} (h : a.spot = none ∨ a.spot = some 1) : fieldAddrV EE 108 (.pointer (some a)) 3 = some (.pointer (some ⟨a.block, a.off + 3, a.spot⟩)) := by
  obtain ⟨b, o, s⟩ := a
  rcases h with h | h
  · cases h; kernel_rfl
  · cases h; kernel_rfl
theorem fs_41_1 {a : Addr} (h : a.spot = none ∨ a.spot = some 1) : fieldAddrV EE 41 (.pointer (some a)) 1 = some (.pointer (some ⟨a.block, a.off + 1, a.spot⟩)) := by
  obtain ⟨b, o, s⟩ := a
  rcases h with h | h
  · cases h; kernel_rfl
  · cases h; kernel_rfl
theorem fs_45_0 {a : Addr} (h : a.spot = none ∨ a.spot = some 1) : fieldAddrV EE 45 (.pointer (some a)) 0 = some (.pointer (some ⟨a.block, a.off + 0, a.spot⟩)) := by
  obtain ⟨b, o, s⟩ := a
  rcases h with h | h
  · cases h; kernel_rfl
  · cases h; kernel_rfl
theorem fs_45_1 {a : Addr} (h : a.spot = none ∨ a.spot = some 1) : fieldAddrV EE 45 (.pointer (some a)) 1 = some (.pointer (some ⟨a.block, a.off + 1, a.spot⟩)) := by
  obtain ⟨b, o, s⟩ := a
  rcases h with h | h
  · cases h; kernel_rfl
  · cases h; kernel_rfl
theorem fs_45_2 {a : Addr} (h : a.spot = none ∨ a.spot = some 1) : fieldAddrV EE 45 (.pointer (some a)) 2 = some (.pointer (some ⟨a.block, a.off + 2, a.spot⟩)) := by
  obtain ⟨b, o, s⟩ := a
  rcases h with h | h
  · cases h; kernel_rfl
  · cases h; kernel_rfl
theorem fs_47_0 {a : Addr} (h : a.spot = none ∨ a.spot = some 1) : fieldAddrV EE 47 (.pointer (some a)) 0 = some (.pointer (some ⟨a.block, a.off + 0, a.spot⟩)) := by
  obtain ⟨b, o, s⟩ := a
  rcases h with h | h
  · cases h; kernel_rfl
  · cases h; kernel_rfl
theorem fs_47_1 {a : Addr} (h : a.spot = none ∨ a.spot = some 1) : fieldAddrV EE 47 (.pointer (some a)) 1 = some (.pointer (some ⟨a.block, a.off + 1, a.spot⟩)) := by
  obtain ⟨b, o, s⟩ := a
  rcases h with h | h
  · cases h; kernel_rfl
  · cases h; kernel_rfl
theorem fs_47_2 {a : Addr} (h : a.spot = none ∨ a.spot = some 1) : fieldAddrV EE 47 (.pointer (some a)) 2 = some (.pointer (some ⟨a.block, a.off + 2, a.spot⟩)) := by
  obtain ⟨b, o, s⟩ := a
  rcases h with h | h
  · cases h; kernel_rfl
  · cases h; kernel_rfl
theorem fs_61_0 {a : Addr} (h : a.spot = none ∨ a.spot = some 1) : fieldAddrV EE 61 (.pointer (some a)) 0 = some (.pointer (some ⟨a.block, a.off + 0, a.spot⟩)) := by
  obtain ⟨b, o, s⟩ := a
  rcases h with h | h
  · cases h; kernel_rfl
  · cases h; kernel_rfl
theorem fs_61_3 {a : Addr} (h : a.spot = none ∨ a.spot = some 1) : fieldAddrV EE 61 (.pointer (some a)) 3 = some (.pointer (some ⟨a.block, a.off + 4, a.spot⟩)) := by
  obtain ⟨b, o, s⟩ := a
  rcases h with h | h
  · cases h; kernel_rfl
  · cases h; kernel_rfl
theorem fs_61_4 {a : Addr} (h : a.spot = none ∨ a.spot = some 1) : fieldAddrV EE 61 (.pointer (some a)) 4 = some (.pointer (some ⟨a.block, a.off + 5, a.spot⟩)) := by
  obtain ⟨b, o, s⟩ := a
  rcases h with h | h
  · cases h; kernel_rfl
  · cases h; kernel_rfl
theorem fs_61_5 {a : Addr} (h : a.spot = none ∨ a.spot = some 1) : fieldAddrV EE 61 (.pointer (some a)) 5 = some (.pointer (some ⟨a.block, a.off + 6, a.spot⟩)) := by
  obtain ⟨b, o, s⟩ := a
  rcases h with h | h
  · cases h; kernel_rfl
  · cases h; kernel_rfl
theorem ja_79_0 (b o : Nat) : indexAddrV EE 79 (.pointer (some ⟨b, o, none⟩)) (.int .i64 0) = some (.pointer (some ⟨b, o + 0, none⟩)) := by kernel_rfl
theorem ja_79_1 (b o : Nat) : indexAddrV EE 79 (.pointer (some ⟨b, o, none⟩)) (.int .i64 1) = some (.pointer (some ⟨b, o + 1, none⟩)) := by kernel_rfl
theorem ja_79_2 (b o : Nat) : indexAddrV EE 79 (.pointer (some ⟨b, o, none⟩)) (.int .i64 2) = some (.pointer (some ⟨b, o + 2, none⟩)) := by kernel_rfl
theorem sc_9 : scalarT EE.P 9 = some .string := by kernel_rfl
theorem um_156 : EE.P.underlying 156 = some (.map 9 4) := by kernel_rfl
theorem um_98 : EE.P.underlying 98 = some (.map 9 50) := by kernel_rfl
theorem evo_clone_64 {h : Heap} (hw : Wf h) {a : Option Addr} {c : Nat} {xs ys : List TEvent} (f0 : RL R_TEvent h a c xs) (hy : cloneL 48 xs = some ys) :
    EvO EE 64 [.slice a xs.length c] [] h (fun v S h1 => ∃ q t, v = .slice q ys.length ys.length ∧ S = [t] ∧ AccR R_TEvent 108 h1 t (.slice q ys.length ys.length) ys) := by
  obtain ⟨hr, rfl⟩ := cloneL_some hy
  cases a with
  | none =>
    have e0 := RL.none_nil f0
    subst e0
    refine evo_of rfl (show EE.P.funcs[64]? = some Try.f64 by kernel_rfl) rfl rfl ?_
    refine go_seq ?_
    refine go_region ?_
    refine gAc rfl rfl ?_
    refine go_nil ?_
    refine go_seq ?_
    refine go_seq ?_
    refine go_region ?_
    refine gM rfl rfl ?_
    refine gr rfl (r_bin (v := .bool true) (ot rfl) (oc rfl) (by kernel_rfl)) ?_
    refine go_nil ?_
    refine g_cond (b := true) (ot rfl) (fun _ => ?_) (fun h => by cases h)
    refine go_seq ?_
    refine go_region ?_
    refine gAc rfl rfl ?_
    refine go_nil ?_
    exact g_ret (rst rfl rs0) (fun h1 hf hs => ⟨[[]], _, hf, HExt.refl _, hw, hs, nde nd0, none, [], rfl, rfl, AccR.nil _ _ _⟩)
  | some a =>
    refine evo_of rfl (show EE.P.funcs[64]? = some Try.f64 by kernel_rfl) rfl rfl ?_
    refine go_seq ?_
    refine go_region ?_
    refine gAc rfl rfl ?_
    refine go_nil ?_
    refine go_seq ?_
    refine go_seq ?_
    refine go_region ?_
    refine gM rfl rfl ?_
    refine gr rfl (r_bin (v := .bool false) (ot rfl) (oc rfl) (by kernel_rfl)) ?_
    refine go_nil ?_
    refine g_cond (b := false) (ot rfl) (fun h => by cases h) (fun _ => ?_)
    refine go_skip ?_
    refine go_seq ?_
    refine go_region ?_
    refine gs_bslice (segs := []) (cs := []) rfl op0 ut_50 sz_108 zo_108 rfl rfl ?_; intro b5
    refine gM rfl rfl ?_
    obtain ⟨rw1, hw1, hq1⟩ := RL.first f0 (by decide)
    refine gs_app0 (rows2 := rw1) (R := R_TEvent) rfl (os1 (ot rfl) (os1 (ot rfl) os0)) rfl ut_50 sz_108 rfl (by decide) by_108 zo_108 rfl (by kernel_rfl) rfl rfl (first_e hq1 (fun h' kn => kn.firstV hq1)) hw1 (AccR.lit _ _ _ _) hr (fun p1 tl1 f1 => ?_)
    refine gA rfl rfl ?_
    refine go_nil ?_
    refine gs_sub (.cons_cons _ (.cons _ (.refl _))) ?_
    exact g_ret (rst rfl rs0) (fun h1 hf hs => ⟨[tl1], _, hf, HExt.refl _, hw, hs, ndt f1 nd0, _, _, rfl, rfl, f1⟩)
theorem evo_clone_82 {h : Heap} (hw : Wf h) {a : Option Addr} {c : Nat} {xs ys : List TKV} (f0 : RL R_TKV h a c xs) (hy : cloneL 40 xs = some ys) :
    EvO EE 82 [.slice a xs.length c] [] h (fun v S h1 => ∃ q t, v = .slice q ys.length ys.length ∧ S = [t] ∧ AccR R_TKV 47 h1 t (.slice q ys.length ys.length) ys) := by
  obtain ⟨hr, rfl⟩ := cloneL_some hy
  cases a with
  | none =>
    have e0 := RL.none_nil f0
    subst e0
    refine evo_of rfl (show EE.P.funcs[82]? = some Try.f82 by kernel_rfl) rfl rfl ?_
    refine go_seq ?_
    refine go_region ?_
    refine gAc rfl rfl ?_
    refine go_nil ?_
    refine go_seq ?_
    refine go_seq ?_
    refine go_region ?_
    refine gM rfl rfl ?_
    refine gr rfl (r_bin (v := .bool true) (ot rfl) (oc rfl) (by kernel_rfl)) ?_
    refine go_nil ?_
    refine g_cond (b := true) (ot rfl) (fun _ => ?_) (fun h => by cases h)
    refine go_seq ?_
    refine go_region ?_
    refine gAc rfl rfl ?_
    refine go_nil ?_
    exact g_ret (rst rfl rs0) (fun h1 hf hs => ⟨[[]], _, hf, HExt.refl _, hw, hs, nde nd0, none, [], rfl, rfl, AccR.nil _ _ _⟩)
  | some a =>
    refine evo_of rfl (show EE.P.funcs[82]? = some Try.f82 by kernel_rfl) rfl rfl ?_
    refine go_seq ?_
    refine go_region ?_
    refine gAc rfl rfl ?_
    refine go_nil ?_
    refine go_seq ?_
    refine go_seq ?_
    refine go_region ?_
    refine gM rfl rfl ?_
    refine gr rfl (r_bin (v := .bool false) (ot rfl) (oc rfl) (by kernel_rfl)) ?_
    refine go_nil ?_
    refine g_cond (b := false) (ot rfl) (fun h => by cases h) (fun _ => ?_)
    refine go_skip ?_
    refine go_seq ?_
    refine go_region ?_
    refine gs_bslice (segs := []) (cs := []) rfl op0 ut_28 sz_47 zo_47 rfl rfl ?_; intro b5
    refine gM rfl rfl ?_
    obtain ⟨rw1, hw1, hq1⟩ := RL.first f0 (by decide)
    refine gs_app0 (rows2 := rw1) (R := R_TKV) rfl (os1 (ot rfl) (os1 (ot rfl) os0)) rfl ut_28 sz_47 rfl (by decide) by_47 zo_47 rfl (by kernel_rfl) rfl rfl (first_e hq1 (fun h' kn => kn.firstV hq1)) hw1 (AccR.lit _ _ _ _) hr (fun p1 tl1 f1 => ?_)
    refine gA rfl rfl ?_
    refine go_nil ?_
    refine gs_sub (.cons_cons _ (.cons _ (.refl _))) ?_
    exact g_ret (rst rfl rs0) (fun h1 hf hs => ⟨[tl1], _, hf, HExt.refl _, hw, hs, ndt f1 nd0, _, _, rfl, rfl, f1⟩)
theorem evo_cloneA_66 {h : Heap} (hw : Wf h) {q : Option Addr} {tl : List Blk} {xs ys : List (List TEvent)} (f0 : AccR (Rep.sl R_TEvent 50) 50 h tl (.slice q xs.length xs.length) xs) (hy : cloneL 24 xs = some ys) :
    EvO EE 66 [.slice q xs.length xs.length] [tl] h (fun v S h1 => ∃ q2 t2, v = .slice q2 ys.length ys.length ∧ S = [t2, tl] ∧ AccR (Rep.sl R_TEvent 50) 50 h1 t2 (.slice q2 ys.length ys.length) ys ∧ AccR (Rep.sl R_TEvent 50) 50 h1 tl (.slice q xs.length xs.length) xs) := by
  obtain ⟨hr, rfl⟩ := cloneL_some hy
  cases q with
  | none =>
    have e0 : ys = [] ∧ tl = [] := by
      obtain ⟨_, ⟨h1, _, h3⟩ | ⟨b, rows, h2, _⟩⟩ := f0
      · exact ⟨h1, h3⟩
      · simp at h2
    obtain ⟨e0, e1⟩ := e0
    subst e0 e1
    refine evo_of rfl (show EE.P.funcs[66]? = some Try.f66 by kernel_rfl) rfl rfl ?_
    refine go_seq ?_
    refine go_region ?_
    refine gAc rfl rfl ?_
    refine go_nil ?_
    refine go_seq ?_
    refine go_seq ?_
    refine go_region ?_
    refine gM rfl rfl ?_
    refine gr rfl (r_bin (v := .bool true) (ot rfl) (oc rfl) (by kernel_rfl)) ?_
    refine go_nil ?_
    refine g_cond (b := true) (ot rfl) (fun _ => ?_) (fun h => by cases h)
    refine go_seq ?_
    refine go_region ?_
    refine gAc rfl rfl ?_
    refine go_nil ?_
    exact g_ret (rst rfl rs0) (fun h1 hf hs => ⟨[[], []], _, hf, HExt.refl _, hw, hs, nde (nde nd0), none, [], rfl, rfl, AccR.nil _ _ _, f0⟩)
  | some a =>
    obtain ⟨rw1, hw1, hq1⟩ := AccR.first f0 (by decide)
    refine evo_of rfl (show EE.P.funcs[66]? = some Try.f66 by kernel_rfl) rfl rfl ?_
    refine go_seq ?_
    refine go_region ?_
    refine gAc rfl rfl ?_
    refine go_nil ?_
    refine go_seq ?_
    refine go_seq ?_
    refine go_region ?_
    refine gM rfl rfl ?_
    refine gr rfl (r_bin (v := .bool false) (ot rfl) (oc rfl) (by kernel_rfl)) ?_
    refine go_nil ?_
    refine g_cond (b := false) (ot rfl) (fun h => by cases h) (fun _ => ?_)
    refine go_skip ?_
    refine go_seq ?_
    refine go_region ?_
    refine gs_bslice (cs := []) rfl op0 ut_34 sz_50 zo_50 rfl rfl ?_; intro b5
    refine gM rfl rfl ?_
    refine gs_app0 (rows2 := rw1) (R := (Rep.sl R_TEvent 50)) rfl (os1 (ot rfl) (os1 (ot rfl) os0)) rfl ut_34 sz_50 rfl (by decide) by_50 zo_50 rfl (by kernel_rfl) rfl rfl (fun h' hf hs => hq1 _ h' hf (fun e he => by simp [he]) hs) hw1 (AccR.lit _ _ _ _) hr (fun p1 tl1 f1 => ?_)
    refine gA rfl rfl ?_
    refine go_nil ?_
    refine gs_sub (.cons_cons _ (.cons _ (.refl _))) ?_
    exact g_ret (rst rfl rs0) (fun h1 hf hs => ⟨[tl1, tl], _, hf, HExt.refl _, hw, hs, ndt f1 (ndt f0 nd0), _, _, rfl, rfl, f1, f0⟩)
theorem ev_clip_63 {h : Heap} (hw : Wf h) {a : Option Addr} {c : Nat} {xs : List TEvent} (f0 : RL R_TEvent h a c xs) (hg : goodA a) :
    Ev EE 63 [.slice a xs.length c] h (fun v h1 => ∃ a2, v = .slice a2 xs.length xs.length ∧ RL R_TEvent h1 a2 xs.length xs ∧ fullA a2) := by
  obtain ⟨a2, hc, f1, hf1⟩ := clip_ok (E := EE) f0 hg ut_50 sz_108
  refine ev_of hw rfl (show EE.P.funcs[63]? = some Go.Proofs.Try.f63 by kernel_rfl) rfl rfl (go_seg0 ?_)
  refine go_seq ?_
  refine go_region ?_
  refine gAc rfl rfl ?_
  refine go_nil ?_
  refine go_seq ?_
  refine go_region ?_
  refine gM rfl rfl ?_
  refine gM rfl rfl ?_
  refine gr rfl (r_len rfl (os1 (ot rfl) os0) (fun _ _ => ln_50)) ?_
  refine gM rfl rfl ?_
  refine gr rfl (r_len rfl (os1 (ot rfl) os0) (fun _ _ => ln_50)) ?_
  refine gr rfl (r_slice (ot rfl) on (oo (ot rfl)) (oo (ot rfl)) (fun hf kn => hc _)) ?_
  refine gA rfl rfl ?_
  refine go_nil ?_
  exact g_ret (rst rfl rs0) (fun h1 hf hs => ⟨hs.hext, a2, rfl, f1.ext hs.hext.kn, hf1⟩)
def evH (x : TEvent) : EvH := ⟨x.Rev, x.Key, x.Val, x.Del⟩
theorem gOf_lt {xs : List TEvent} {j : Nat} (h : j < xs.length) : gOf (xs.map evH) j = evH xs[j] := by
  unfold gOf; rw [List.getElem?_map, List.getElem?_eq_getElem h]; rfl
theorem atT_app : ∀ (l : List TEvent) (e : TEvent) (rev : Int), atT (l ++ [e]) rev = if e.Rev ≤ rev then some e else atT l rev
  | [], e, rev => by simp [atT]
  | x :: l, e, rev => by
    rw [List.cons_append, atT, atT_app l e rev]
    by_cases h : e.Rev ≤ rev
    · rw [if_pos h, if_pos h]
    · rw [if_neg h, if_neg h]; rfl
theorem atB_atT (xs : List TEvent) (rev : Int) : ∀ n, n ≤ xs.length → atB (gOf (xs.map evH)) rev n = (atT (xs.take n) rev).map evH
  | 0, _ => rfl
  | n + 1, h => by
    rw [atB, gOf_lt (by omega), List.take_succ_eq_append_getElem (by omega), atT_app, atB_atT xs rev n (by omega)]
    by_cases q : (evH xs[n]).a ≤ rev
    · rw [if_pos q, if_pos (show xs[n].Rev ≤ rev from q)]; rfl
    · rw [if_neg q, if_neg (show ¬ xs[n].Rev ≤ rev from q)]
theorem rowsOf_rl {h : Heap} {a : Option Addr} {c : Nat} {xs : List TEvent} (s : RL R_TEvent h a c xs) : rowsOf h a xs.length = some (xs.map evH) := by
  have row : ∀ i (hi : i < xs.length), ∃ a0, a = some a0 ∧ rowAt h a0 i = some (evH xs[i]) := by
    intro i hi
    obtain ⟨a0, a', row, h1, h2, h3, h4⟩ := s.2.2.1 i _ (List.getElem?_eq_getElem hi)
    refine ⟨a0, h1, ?_⟩
    unfold rowAt
    have h2 : elemAddr a0 (i * 4) = some a' := h2
    have h3 : cellsAt h a' 4 = some row := h3
    rw [h2]; dsimp only; rw [h3]
    have h4 : row = c_TEvent xs[i] := h4
    rw [h4]; rfl
  cases he : xs.length with
  | zero =>
    have : xs = [] := List.eq_nil_of_length_eq_zero he
    subst this; rfl
  | succ k =>
    obtain ⟨a0, ha, _⟩ := row 0 (by omega)
    subst ha
    show rowsAt h a0 (k + 1) = _
    rw [← he]
    have gen : ∀ n, n ≤ xs.length → rowsAt h a0 n = some ((xs.take n).map evH) := by
      intro n
      induction n with
      | zero => intro _; rfl
      | succ n ih =>
        intro hn
        obtain ⟨a1, e1, h1⟩ := row n (by omega)
        cases e1
        rw [rowsAt, ih (by omega)]
        dsimp only
        rw [h1]
        dsimp only
        rw [List.take_succ_eq_append_getElem (by omega), List.map_append]; rfl
    rw [gen _ (Nat.le_refl _), List.take_length]
theorem evo_hat_55 {h : Heap} (hw : Wf h) {b mb T : Nat} {x0 x1 : Value} {rest : List Value} {raw : List (ByteArray × Value)} {m : List (ByteArray × List TEvent)} {k : ByteArray} {rev : Int} {y : TEvent × Bool}
    (f : MR R_TEvent h raw m) (hy : hatL m k rev = some y) :
    EvO EE 55 [.pointer (some ⟨b, 0, none⟩), .string k, .int .i64 rev] [[⟨b, .cells (x0 :: x1 :: .map (some mb) :: rest) T⟩], [⟨mb, .map (encM kS id raw)⟩]] h (fun v S h1 => v = .tuple #[.agg #[.int .i64 y.1.Rev, .string y.1.Key, .string y.1.Val, .bool y.1.Del], .bool y.2] ∧
      S = [[⟨b, .cells (x0 :: x1 :: .map (some mb) :: rest) T⟩], [⟨mb, .map (encM kS id raw)⟩]]) := by
  intro h' hf hs
  have hs0 := hs
  have hs : Has [⟨b, .cells (x0 :: x1 :: .map (some mb) :: rest) T⟩, ⟨mb, .map (encM kS id raw)⟩] h h' hf := hs
  obtain ⟨hb1, _⟩ := hs.blk ⟨b, .cells (x0 :: x1 :: .map (some mb) :: rest) T⟩ List.mem_cons_self
  obtain ⟨hb2, _⟩ := hs.blk ⟨mb, .map (encM kS id raw)⟩ (List.mem_cons_of_mem _ List.mem_cons_self)
  obtain ⟨a, c, g1, g2, g3⟩ := f.get k
  have hr := rowsOf_msk hs.msk (rowsOf_rl (g2.ext hs.ext.kn))
  have hl := lookM (E := E1) hb2 (by exact um_98) (by exact sc_9) (by exact zo_50) k
  rw [g1] at hl
  unfold hatL at hy
  split at hy
  case isFalse => cases hy
  rename_i hq
  cases hy
  have hat := atB_atT ((mget m k).getD []) rev _ (Nat.le_refl _)
  rw [List.take_length] at hat
  have hrun : run EE 1 55 [.pointer (some ⟨b, 0, none⟩), .string k, .int .i64 rev] h' = some (.tuple #[.agg #[.int .i64 ((atT ((mget m k).getD []) rev).getD ⟨0, ByteArray.empty, ByteArray.empty, false⟩).Rev, .string ((atT ((mget m k).getD []) rev).getD ⟨0, ByteArray.empty, ByteArray.empty, false⟩).Key, .string ((atT ((mget m k).getD []) rev).getD ⟨0, ByteArray.empty, ByteArray.empty, false⟩).Val, .bool ((atT ((mget m k).getD []) rev).getD ⟨0, ByteArray.empty, ByteArray.empty, false⟩).Del], .bool (match atT ((mget m k).getD []) rev with | some x => !x.Del | none => false)], h') := by
    rw [run_prim (p := atP E1) rfl]
    show (match h'.get b with
      | some (.cells (_ :: _ :: .map (some m) :: _) _) => match lookupV E1 h' 98 (.map (some m)) (.string k) false with
        | some (.slice a n _) => match rowsOf h' a n with
          | some l => bif Nat.ble n 1000000 then some (Value.tuple #[((atB (gOf l) rev n).getD evZ).v, .bool (okB (atB (gOf l) rev n))], h') else none
          | none => none
        | _ => none
      | _ => none) = _
    rw [hb1]; dsimp only; rw [hl]; dsimp only; rw [hr]; dsimp only; rw [hq, hat]
    cases atT ((mget m k).getD []) rev <;> rfl
  exact ⟨1, _, h', _, h, hf, hrun, HExt.refl _, hw, hs0, ndb (by intro e; cases e) (ndb (by intro e; cases e) nd0), rfl, rfl⟩
theorem evo_mkeys_54 {h : Heap} (hw : Wf h) {mb : Nat} :
    EvO EE 54 [.map (some mb)] [] h (fun v S h1 => ∃ b, v = .func (.func 80) #[] #[.pointer (some ⟨b, 0, none⟩)] ∧ S = [[⟨b, .cells [.map (some mb)] 98⟩]]) := by
  refine evo_of rfl (show EE.P.funcs[54]? = some Go.Proofs.Try.f54 by kernel_rfl) rfl rfl ?_
  refine go_seq ?_
  refine go_region ?_
  refine gs_box (segs := []) rfl (ot rfl) rfl ?_; intro b1
  refine gAc rfl rfl ?_
  refine go_nil ?_
  refine go_seq ?_
  refine go_region ?_
  refine gr rfl (r_func os0 (os1 (ot rfl) os0)) ?_
  refine gA rfl rfl ?_
  refine go_nil ?_
  exact g_ret (rst rfl rs0) (fun h1 hf hs => ⟨[[⟨b1, .cells [.map (some mb)] 98⟩]], _, hf, HExt.refl _, hw, hs, ndb (by intro e; cases e) nd0, _, rfl, rfl⟩)
theorem flat_one : ∀ l : List (List UInt8), (l.map (fun x => [encStr x])).flatten = l.map encStr
  | [] => rfl
  | x :: l => by rw [List.map_cons, List.flatten_cons, flat_one l]; rfl
theorem keysOf_enc : ∀ raw : List (ByteArray × Value), keysOf (encM kS id raw) = some ((raw.map (fun e : ByteArray × Value => e.1)).map (fun x : ByteArray => x.toList))
  | [] => rfl
  | e :: r => by
    show (match keysOf (encM kS id r) with | some l => some (e.1.toList :: l) | none => none) = _
    rw [keysOf_enc r]; rfl
theorem evo_keys_53 {h : Heap} (hw : Wf h) {bq mb : Nat} {raw : List (ByteArray × Value)} {ks ys : List ByteArray} (hk : raw.map (·.1) = ks) (hy : keysB ks = some ys) :
    EvO EE 53 [.func (.func 80) #[] #[.pointer (some ⟨bq, 0, none⟩)]] [[⟨bq, .cells [.map (some mb)] 98⟩], [⟨mb, .map (encM kS id raw)⟩]] h (fun v S h1 => ∃ q t, v = .slice q ys.length ys.length ∧ S = [t, [⟨mb, .map (encM kS id raw)⟩]] ∧ AccR (RS_ 9) 9 h1 t (.slice q ys.length ys.length) ys) := by
  subst hk
  intro h' hf hs
  have hs : Has [⟨bq, .cells [.map (some mb)] 98⟩, ⟨mb, .map (encM kS id raw)⟩] h h' hf := hs
  obtain ⟨hb1, _⟩ := hs.blk ⟨bq, .cells [.map (some mb)] 98⟩ List.mem_cons_self
  obtain ⟨hb2, _⟩ := hs.blk ⟨mb, .map (encM kS id raw)⟩ (List.mem_cons_of_mem _ List.mem_cons_self)
  unfold keysB at hy
  split at hy
  case isFalse => cases hy
  rename_i hq
  cases hy
  have hq2 := hq
  rw [Bool.and_eq_true, Bool.and_eq_true] at hq2
  have hml := Nat.le_of_ble_eq_true hq2.1.2
  have hlen : ((sortU ((raw.map (fun e : ByteArray × Value => e.1)).map (fun x : ByteArray => x.toList))).map toB).length = ((raw.map (fun e : ByteArray × Value => e.1)).map (fun x : ByteArray => x.toList)).length := by rw [List.length_map]; exact (sortU_perm _).length_eq
  have hcore : keysP [.func (.func 80) #[] #[.pointer (some ⟨bq, 0, none⟩)]] h' = bif ((raw.map (fun e : ByteArray × Value => e.1)).map (fun x : ByteArray => x.toList)).isEmpty then some (.slice none 0 0, h') else some (.slice (some ⟨h'.n, 0, some 0⟩) ((raw.map (fun e : ByteArray × Value => e.1)).map (fun x : ByteArray => x.toList)).length ((raw.map (fun e : ByteArray × Value => e.1)).map (fun x : ByteArray => x.toList)).length, h'.alloc (.cells ((sortU ((raw.map (fun e : ByteArray × Value => e.1)).map (fun x : ByteArray => x.toList))).map encStr) 9)) := by
    show (match h'.get bq with
      | some (.cells [.map (some m)] _) => match h'.get m with
        | some (.map es) => match keysOf es with
          | some ks => bif nodupB ks && Nat.ble ks.length 1000000 && ks.all (fun k => Nat.ble k.length maxLen) then
              (bif ks.isEmpty then some (Value.slice none 0 0, h') else some (.slice (some ⟨h'.n, 0, some 0⟩) ks.length ks.length, h'.alloc (.cells ((sortU ks).map encStr) 9))) else none
          | none => none
        | _ => none
      | _ => none) = _
    rw [hb1]; dsimp only; rw [hb2]; dsimp only; rw [keysOf_enc]; dsimp only; rw [hq]; rfl
  have hsub : [(⟨mb, .map (encM kS id raw)⟩ : Blk)].Sublist [⟨bq, .cells [.map (some mb)] 98⟩, ⟨mb, .map (encM kS id raw)⟩] := .cons _ (List.Sublist.refl _)
  cases he : ((raw.map (fun e : ByteArray × Value => e.1)).map (fun x : ByteArray => x.toList)).isEmpty with
  | true =>
    have hm0 : (raw.map (fun e : ByteArray × Value => e.1)).map (fun x : ByteArray => x.toList) = [] := List.isEmpty_iff.mp he
    rw [hm0] at hcore hlen ⊢
    have hrun : run EE 1 53 [.func (.func 80) #[] #[.pointer (some ⟨bq, 0, none⟩)]] h' = some (.slice none 0 0, h') := by
      rw [run_prim (p := keysP) rfl]; exact hcore
    obtain ⟨hf', hs'⟩ := hs.sub hsub
    exact ⟨1, _, h', [[], [⟨mb, .map (encM kS id raw)⟩]], hf', hf', hrun, hs'.ext, hs'.wf, hs'.rebase, nde (ndb (by intro e; cases e) nd0), none, [], rfl, rfl, AccR.nil _ _ _⟩
  | false =>
    rw [he] at hcore
    have hrun : run EE 1 53 [.func (.func 80) #[] #[.pointer (some ⟨bq, 0, none⟩)]] h' = some (.slice (some ⟨h'.n, 0, some 0⟩) ((raw.map (fun e : ByteArray × Value => e.1)).map (fun x : ByteArray => x.toList)).length ((raw.map (fun e : ByteArray × Value => e.1)).map (fun x : ByteArray => x.toList)).length, h'.alloc (.cells ((sortU ((raw.map (fun e : ByteArray × Value => e.1)).map (fun x : ByteArray => x.toList))).map encStr) 9)) := by
      rw [run_prim (p := keysP) rfl]; exact hcore
    obtain ⟨hf', hs'⟩ := hs.sub hsub
    have hs2 := hs'.alloc (.cells ((sortU ((raw.map (fun e : ByteArray × Value => e.1)).map (fun x : ByteArray => x.toList))).map encStr) 9)
    refine ⟨1, _, _, [[⟨h'.n, .cells ((sortU ((raw.map (fun e : ByteArray × Value => e.1)).map (fun x : ByteArray => x.toList))).map encStr) 9⟩], [⟨mb, .map (encM kS id raw)⟩]], _, _, hrun, hs2.ext, hs2.wf, hs2.rebase, ndb (by intro q; cases q) (ndb (by intro e; cases e) nd0), some ⟨h'.n, 0, some 0⟩, _, by rw [hlen], rfl, ?_⟩
    refine ⟨by rw [hlen]; omega, .inr ⟨h'.n, (sortU ((raw.map (fun e : ByteArray × Value => e.1)).map (fun x : ByteArray => x.toList))).map (fun x => [encStr x]), rfl, ?_, ?_⟩⟩
    · rw [flat_one]
    · refine ⟨by rw [List.length_map, List.length_map], fun i row x hr hx => ?_⟩
      rw [List.getElem?_map] at hr hx
      cases hi : (sortU ((raw.map (fun e : ByteArray × Value => e.1)).map (fun x : ByteArray => x.toList)))[i]? with
      | none => rw [hi] at hr; cases hr
      | some e =>
        rw [hi] at hr hx
        cases hr; cases hx
        rfl
theorem evo_mclone_65 {h : Heap} (hw : Wf h) {mb : Nat} {es : List (Value × Value)} :
    EvO EE 65 [.map (some mb)] [[⟨mb, .map es⟩]] h (fun v S h1 => ∃ b2, v = .map (some b2) ∧ S = [[⟨b2, .map es⟩], [⟨mb, .map es⟩]]) := by
  intro h' hf hs
  have hs : Has [⟨mb, .map es⟩] h h' hf := hs
  obtain ⟨hb1, _⟩ := hs.blk ⟨mb, .map es⟩ List.mem_cons_self
  have hrun : run EE 1 65 [.map (some mb)] h' = some (.map (some h'.n), h'.alloc (.map es)) := by
    rw [run_prim (p := cloneP) rfl]
    show (match h'.get mb with | some (.map es) => some (Value.map (some h'.n), h'.alloc (.map es)) | _ => none) = _
    rw [hb1]
  have hs2 := hs.alloc (.map es)
  exact ⟨1, _, _, [[⟨h'.n, .map es⟩], [⟨mb, .map es⟩]], _, _, hrun, hs2.ext, hs2.wf, hs2.rebase, ndb (by intro q; cases q) (ndb (by intro e; cases e) nd0), _, rfl, rfl⟩
end Go.Proofs.Ytpfdandpmpmbiaa.V
