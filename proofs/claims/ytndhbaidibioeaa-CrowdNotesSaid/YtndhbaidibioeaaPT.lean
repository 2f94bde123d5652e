/- What the types of this seat are.
   No condition: these are laws of the clean machine and of this program. -/
import Derived.Test.YtndhbaidibioeaaSa
import Derived.Test.YtndhbaidibioeaaPF
namespace Go.Proofs.Ytndhbaidibioeaa.V
open Go
set_option linter.unusedVariables false
set_option linter.unusedSimpArgs false
set_option maxRecDepth 100000
theorem ag_101 : isAggT EE.P 101 = some false := by kernel_rfl
theorem ag_102 : isAggT EE.P 102 = some false := by kernel_rfl
theorem ag_105 : isAggT EE.P 105 = some true := by kernel_rfl
theorem ag_111 : isAggT EE.P 111 = some false := by kernel_rfl
theorem ag_120 : isAggT EE.P 120 = some false := by kernel_rfl
theorem ag_148 : isAggT EE.P 148 = some false := by kernel_rfl
theorem ag_165 : isAggT EE.P 165 = some false := by kernel_rfl
theorem ag_24 : isAggT EE.P 24 = some false := by kernel_rfl
theorem ag_26 : isAggT EE.P 26 = some false := by kernel_rfl
theorem ag_29 : isAggT EE.P 29 = some false := by kernel_rfl
theorem ag_3 : isAggT EE.P 3 = some false := by kernel_rfl
theorem ag_30 : isAggT EE.P 30 = some false := by kernel_rfl
theorem ag_32 : isAggT EE.P 32 = some true := by kernel_rfl
theorem ag_34 : isAggT EE.P 34 = some false := by kernel_rfl
theorem ag_4 : isAggT EE.P 4 = some false := by kernel_rfl
theorem ag_64 : isAggT EE.P 64 = some false := by kernel_rfl
theorem ag_73 : isAggT EE.P 73 = some true := by kernel_rfl
theorem ag_80 : isAggT EE.P 80 = some false := by kernel_rfl
theorem ag_81 : isAggT EE.P 81 = some false := by kernel_rfl
theorem ag_86 : isAggT EE.P 86 = some true := by kernel_rfl
theorem ag_89 : isAggT EE.P 89 = some true := by kernel_rfl
theorem ag_9 : isAggT EE.P 9 = some false := by kernel_rfl
theorem ag_92 : isAggT EE.P 92 = some false := by kernel_rfl
theorem at_10 : EE.P.funcs[10]? = some Try.f10 := by kernel_rfl
theorem at_100 : EE.P.funcs[100]? = some Try.f100 := by kernel_rfl
theorem at_101 : EE.P.funcs[101]? = some Try.f101 := by kernel_rfl
theorem at_102 : EE.P.funcs[102]? = some Try.f102 := by kernel_rfl
theorem at_103 : EE.P.funcs[103]? = some Try.f103 := by kernel_rfl
theorem at_109 : EE.P.funcs[109]? = some Try.f109 := by kernel_rfl
theorem at_11 : EE.P.funcs[11]? = some Try.f11 := by kernel_rfl
theorem at_110 : EE.P.funcs[110]? = some Try.f110 := by kernel_rfl
theorem at_111 : EE.P.funcs[111]? = some Try.f111 := by kernel_rfl
theorem at_112 : EE.P.funcs[112]? = some Try.f112 := by kernel_rfl
theorem at_113 : EE.P.funcs[113]? = some Try.f113 := by kernel_rfl
theorem at_114 : EE.P.funcs[114]? = some Try.f114 := by kernel_rfl
theorem at_115 : EE.P.funcs[115]? = some Try.f115 := by kernel_rfl
theorem at_116 : EE.P.funcs[116]? = some Try.f116 := by kernel_rfl
theorem at_117 : EE.P.funcs[117]? = some Try.f117 := by kernel_rfl
theorem at_118 : EE.P.funcs[118]? = some Try.f118 := by kernel_rfl
theorem at_119 : EE.P.funcs[119]? = some Try.f119 := by kernel_rfl
theorem at_12 : EE.P.funcs[12]? = some Try.f12 := by kernel_rfl
theorem at_120 : EE.P.funcs[120]? = some Try.f120 := by kernel_rfl
theorem at_121 : EE.P.funcs[121]? = some Try.f121 := by kernel_rfl
theorem at_122 : EE.P.funcs[122]? = some Try.f122 := by kernel_rfl
theorem at_21 : EE.P.funcs[21]? = some Try.f21 := by kernel_rfl
theorem at_22 : EE.P.funcs[22]? = some Try.f22 := by kernel_rfl
theorem at_25 : EE.P.funcs[25]? = some Try.f25 := by kernel_rfl
theorem at_27 : EE.P.funcs[27]? = some Try.f27 := by kernel_rfl
theorem at_28 : EE.P.funcs[28]? = some Try.f28 := by kernel_rfl
theorem at_29 : EE.P.funcs[29]? = some Try.f29 := by kernel_rfl
theorem at_30 : EE.P.funcs[30]? = some Try.f30 := by kernel_rfl
theorem at_31 : EE.P.funcs[31]? = some Try.f31 := by kernel_rfl
theorem at_32 : EE.P.funcs[32]? = some Try.f32 := by kernel_rfl
theorem at_33 : EE.P.funcs[33]? = some Try.f33 := by kernel_rfl
theorem at_34 : EE.P.funcs[34]? = some Try.f34 := by kernel_rfl
theorem at_35 : EE.P.funcs[35]? = some Try.f35 := by kernel_rfl
theorem at_37 : EE.P.funcs[37]? = some Try.f37 := by kernel_rfl
theorem at_38 : EE.P.funcs[38]? = some Try.f38 := by kernel_rfl
theorem at_39 : EE.P.funcs[39]? = some Try.f39 := by kernel_rfl
theorem at_40 : EE.P.funcs[40]? = some Try.f40 := by kernel_rfl
theorem at_41 : EE.P.funcs[41]? = some Try.f41 := by kernel_rfl
theorem at_42 : EE.P.funcs[42]? = some Try.f42 := by kernel_rfl
theorem at_44 : EE.P.funcs[44]? = some Try.f44 := by kernel_rfl
theorem at_47 : EE.P.funcs[47]? = some Try.f47 := by kernel_rfl
theorem at_49 : EE.P.funcs[49]? = some Try.f49 := by kernel_rfl
theorem at_50 : EE.P.funcs[50]? = some Try.f50 := by kernel_rfl
theorem at_51 : EE.P.funcs[51]? = some Try.f51 := by kernel_rfl
theorem at_52 : EE.P.funcs[52]? = some Try.f52 := by kernel_rfl
theorem at_53 : EE.P.funcs[53]? = some Try.f53 := by kernel_rfl
theorem at_54 : EE.P.funcs[54]? = some Try.f54 := by kernel_rfl
theorem at_55 : EE.P.funcs[55]? = some Try.f55 := by kernel_rfl
theorem at_56 : EE.P.funcs[56]? = some Try.f56 := by kernel_rfl
theorem at_57 : EE.P.funcs[57]? = some Try.f57 := by kernel_rfl
theorem at_59 : EE.P.funcs[59]? = some Try.f59 := by kernel_rfl
theorem at_60 : EE.P.funcs[60]? = some Try.f60 := by kernel_rfl
theorem at_61 : EE.P.funcs[61]? = some Try.f61 := by kernel_rfl
theorem at_62 : EE.P.funcs[62]? = some Try.f62 := by kernel_rfl
theorem at_63 : EE.P.funcs[63]? = some Try.f63 := by kernel_rfl
theorem at_65 : EE.P.funcs[65]? = some Try.f65 := by kernel_rfl
theorem at_66 : EE.P.funcs[66]? = some Try.f66 := by kernel_rfl
theorem at_67 : EE.P.funcs[67]? = some Try.f67 := by kernel_rfl
theorem at_68 : EE.P.funcs[68]? = some Try.f68 := by kernel_rfl
theorem at_69 : EE.P.funcs[69]? = some Try.f69 := by kernel_rfl
theorem at_71 : EE.P.funcs[71]? = some Try.f71 := by kernel_rfl
theorem at_72 : EE.P.funcs[72]? = some Try.f72 := by kernel_rfl
theorem at_73 : EE.P.funcs[73]? = some Try.f73 := by kernel_rfl
theorem at_74 : EE.P.funcs[74]? = some Try.f74 := by kernel_rfl
theorem at_75 : EE.P.funcs[75]? = some Try.f75 := by kernel_rfl
theorem at_76 : EE.P.funcs[76]? = some Try.f76 := by kernel_rfl
theorem at_77 : EE.P.funcs[77]? = some Try.f77 := by kernel_rfl
theorem at_78 : EE.P.funcs[78]? = some Try.f78 := by kernel_rfl
theorem at_8 : EE.P.funcs[8]? = some Try.f8 := by kernel_rfl
theorem at_84 : EE.P.funcs[84]? = some Try.f84 := by kernel_rfl
theorem at_85 : EE.P.funcs[85]? = some Try.f85 := by kernel_rfl
theorem at_86 : EE.P.funcs[86]? = some Try.f86 := by kernel_rfl
theorem at_87 : EE.P.funcs[87]? = some Try.f87 := by kernel_rfl
theorem at_88 : EE.P.funcs[88]? = some Try.f88 := by kernel_rfl
theorem at_89 : EE.P.funcs[89]? = some Try.f89 := by kernel_rfl
theorem at_90 : EE.P.funcs[90]? = some Try.f90 := by kernel_rfl
theorem at_91 : EE.P.funcs[91]? = some Try.f91 := by kernel_rfl
theorem at_92 : EE.P.funcs[92]? = some Try.f92 := by kernel_rfl
theorem at_93 : EE.P.funcs[93]? = some Try.f93 := by kernel_rfl
theorem at_94 : EE.P.funcs[94]? = some Try.f94 := by kernel_rfl
theorem at_95 : EE.P.funcs[95]? = some Try.f95 := by kernel_rfl
theorem at_96 : EE.P.funcs[96]? = some Try.f96 := by kernel_rfl
theorem at_97 : EE.P.funcs[97]? = some Try.f97 := by kernel_rfl
theorem at_98 : EE.P.funcs[98]? = some Try.f98 := by kernel_rfl
theorem at_99 : EE.P.funcs[99]? = some Try.f99 := by kernel_rfl
theorem bu_4 {x y : Bool} : binV EE .neq 4 (.bool x) (.bool y) = some (.bool (!(x == y))) := by kernel_rfl
theorem by_119 : bytesOf EE.P 119 = some 16 := by kernel_rfl
theorem by_29 : bytesOf EE.P 29 = some 8 := by kernel_rfl
theorem by_76 : bytesOf EE.P 76 = some 48 := by kernel_rfl
theorem by_86 : bytesOf EE.P 86 = some 40 := by kernel_rfl
theorem by_89 : bytesOf EE.P 89 = some 40 := by kernel_rfl
theorem fa_105_0 (b o : Nat) : fieldAddrV EE 105 (.pointer (some ⟨b, o, none⟩)) 0 = some (.pointer (some ⟨b, o, none⟩)) := by kernel_rfl
theorem fa_105_1 (b o : Nat) : fieldAddrV EE 105 (.pointer (some ⟨b, o, none⟩)) 1 = some (.pointer (some ⟨b, o + 1, none⟩)) := by kernel_rfl
theorem fa_105_2 (b o : Nat) : fieldAddrV EE 105 (.pointer (some ⟨b, o, none⟩)) 2 = some (.pointer (some ⟨b, o + 2, none⟩)) := by kernel_rfl
theorem fa_105_3 (b o : Nat) : fieldAddrV EE 105 (.pointer (some ⟨b, o, none⟩)) 3 = some (.pointer (some ⟨b, o + 3, none⟩)) := by kernel_rfl
theorem fa_105_4 (b o : Nat) : fieldAddrV EE 105 (.pointer (some ⟨b, o, none⟩)) 4 = some (.pointer (some ⟨b, o + 4, none⟩)) := by kernel_rfl
theorem fa_105_5 (b o : Nat) : fieldAddrV EE 105 (.pointer (some ⟨b, o, none⟩)) 5 = some (.pointer (some ⟨b, o + 5, none⟩)) := by kernel_rfl
theorem fa_114_0 (b o : Nat) : fieldAddrV EE 114 (.pointer (some ⟨b, o, none⟩)) 0 = some (.pointer (some ⟨b, o, none⟩)) := by kernel_rfl
theorem fa_114_1 (b o : Nat) : fieldAddrV EE 114 (.pointer (some ⟨b, o, none⟩)) 1 = some (.pointer (some ⟨b, o + 4, none⟩)) := by kernel_rfl
theorem fa_119_0 (b o : Nat) : fieldAddrV EE 119 (.pointer (some ⟨b, o, none⟩)) 0 = some (.pointer (some ⟨b, o, none⟩)) := by kernel_rfl
theorem fa_119_1 (b o : Nat) : fieldAddrV EE 119 (.pointer (some ⟨b, o, none⟩)) 1 = some (.pointer (some ⟨b, o + 1, none⟩)) := by kernel_rfl
theorem fa_122_0 (b o : Nat) : fieldAddrV EE 122 (.pointer (some ⟨b, o, none⟩)) 0 = some (.pointer (some ⟨b, o, none⟩)) := by kernel_rfl
theorem fa_122_1 (b o : Nat) : fieldAddrV EE 122 (.pointer (some ⟨b, o, none⟩)) 1 = some (.pointer (some ⟨b, o + 1, none⟩)) := by kernel_rfl
theorem fa_122_2 (b o : Nat) : fieldAddrV EE 122 (.pointer (some ⟨b, o, none⟩)) 2 = some (.pointer (some ⟨b, o + 2, none⟩)) := by kernel_rfl
theorem fa_32_0 (b o : Nat) : fieldAddrV EE 32 (.pointer (some ⟨b, o, none⟩)) 0 = some (.pointer (some ⟨b, o, none⟩)) := by kernel_rfl
theorem fa_32_1 (b o : Nat) : fieldAddrV EE 32 (.pointer (some ⟨b, o, none⟩)) 1 = some (.pointer (some ⟨b, o + 1, none⟩)) := by kernel_rfl
theorem fa_32_2 (b o : Nat) : fieldAddrV EE 32 (.pointer (some ⟨b, o, none⟩)) 2 = some (.pointer (some ⟨b, o + 2, none⟩)) := by kernel_rfl
theorem fa_32_3 (b o : Nat) : fieldAddrV EE 32 (.pointer (some ⟨b, o, none⟩)) 3 = some (.pointer (some ⟨b, o + 3, none⟩)) := by kernel_rfl
theorem fa_73_0 (b o : Nat) : fieldAddrV EE 73 (.pointer (some ⟨b, o, none⟩)) 0 = some (.pointer (some ⟨b, o, none⟩)) := by kernel_rfl
theorem fa_73_1 (b o : Nat) : fieldAddrV EE 73 (.pointer (some ⟨b, o, none⟩)) 1 = some (.pointer (some ⟨b, o + 1, none⟩)) := by kernel_rfl
theorem fa_73_2 (b o : Nat) : fieldAddrV EE 73 (.pointer (some ⟨b, o, none⟩)) 2 = some (.pointer (some ⟨b, o + 2, none⟩)) := by kernel_rfl
theorem fa_76_2 (b o : Nat) : fieldAddrV EE 76 (.pointer (some ⟨b, o, none⟩)) 2 = some (.pointer (some ⟨b, o + 2, none⟩)) := by kernel_rfl
theorem fa_76_4 (b o : Nat) : fieldAddrV EE 76 (.pointer (some ⟨b, o, none⟩)) 4 = some (.pointer (some ⟨b, o + 4, none⟩)) := by kernel_rfl
theorem fa_83_0 (b o : Nat) : fieldAddrV EE 83 (.pointer (some ⟨b, o, none⟩)) 0 = some (.pointer (some ⟨b, o, none⟩)) := by kernel_rfl
theorem fa_83_1 (b o : Nat) : fieldAddrV EE 83 (.pointer (some ⟨b, o, none⟩)) 1 = some (.pointer (some ⟨b, o + 1, none⟩)) := by kernel_rfl
theorem fa_83_2 (b o : Nat) : fieldAddrV EE 83 (.pointer (some ⟨b, o, none⟩)) 2 = some (.pointer (some ⟨b, o + 2, none⟩)) := by kernel_rfl
theorem fa_86_0 (b o : Nat) : fieldAddrV EE 86 (.pointer (some ⟨b, o, none⟩)) 0 = some (.pointer (some ⟨b, o, none⟩)) := by kernel_rfl
theorem fa_86_1 (b o : Nat) : fieldAddrV EE 86 (.pointer (some ⟨b, o, none⟩)) 1 = some (.pointer (some ⟨b, o + 1, none⟩)) := by kernel_rfl
theorem fa_86_2 (b o : Nat) : fieldAddrV EE 86 (.pointer (some ⟨b, o, none⟩)) 2 = some (.pointer (some ⟨b, o + 2, none⟩)) := by kernel_rfl
theorem fa_86_3 (b o : Nat) : fieldAddrV EE 86 (.pointer (some ⟨b, o, none⟩)) 3 = some (.pointer (some ⟨b, o + 3, none⟩)) := by kernel_rfl
theorem fa_86_4 (b o : Nat) : fieldAddrV EE 86 (.pointer (some ⟨b, o, none⟩)) 4 = some (.pointer (some ⟨b, o + 4, none⟩)) := by kernel_rfl
theorem fa_89_0 (b o : Nat) : fieldAddrV EE 89 (.pointer (some ⟨b, o, none⟩)) 0 = some (.pointer (some ⟨b, o, none⟩)) := by kernel_rfl
theorem fa_89_1 (b o : Nat) : fieldAddrV EE 89 (.pointer (some ⟨b, o, none⟩)) 1 = some (.pointer (some ⟨b, o + 1, none⟩)) := by kernel_rfl
theorem fa_89_2 (b o : Nat) : fieldAddrV EE 89 (.pointer (some ⟨b, o, none⟩)) 2 = some (.pointer (some ⟨b, o + 2, none⟩)) := by kernel_rfl
theorem fa_89_3 (b o : Nat) : fieldAddrV EE 89 (.pointer (some ⟨b, o, none⟩)) 3 = some (.pointer (some ⟨b, o + 3, none⟩)) := by kernel_rfl
theorem fa_94_0 (b o : Nat) : fieldAddrV EE 94 (.pointer (some ⟨b, o, none⟩)) 0 = some (.pointer (some ⟨b, o, none⟩)) := by kernel_rfl
theorem fa_94_1 (b o : Nat) : fieldAddrV EE 94 (.pointer (some ⟨b, o, none⟩)) 1 = some (.pointer (some ⟨b, o + 1, none⟩)) := by kernel_rfl
theorem hb_10 : hasBody EE.P 10 = true := by kernel_rfl
theorem hb_100 : hasBody EE.P 100 = true := by kernel_rfl
theorem hb_101 : hasBody EE.P 101 = true := by kernel_rfl
theorem hb_102 : hasBody EE.P 102 = true := by kernel_rfl
theorem hb_103 : hasBody EE.P 103 = true := by kernel_rfl
theorem hb_109 : hasBody EE.P 109 = true := by kernel_rfl
theorem hb_11 : hasBody EE.P 11 = true := by kernel_rfl
theorem hb_110 : hasBody EE.P 110 = true := by kernel_rfl
theorem hb_111 : hasBody EE.P 111 = true := by kernel_rfl
theorem hb_112 : hasBody EE.P 112 = true := by kernel_rfl
theorem hb_113 : hasBody EE.P 113 = true := by kernel_rfl
theorem hb_114 : hasBody EE.P 114 = true := by kernel_rfl
theorem hb_115 : hasBody EE.P 115 = true := by kernel_rfl
theorem hb_116 : hasBody EE.P 116 = true := by kernel_rfl
theorem hb_117 : hasBody EE.P 117 = true := by kernel_rfl
theorem hb_118 : hasBody EE.P 118 = true := by kernel_rfl
theorem hb_119 : hasBody EE.P 119 = true := by kernel_rfl
theorem hb_12 : hasBody EE.P 12 = true := by kernel_rfl
theorem hb_120 : hasBody EE.P 120 = true := by kernel_rfl
theorem hb_121 : hasBody EE.P 121 = true := by kernel_rfl
theorem hb_122 : hasBody EE.P 122 = true := by kernel_rfl
theorem hb_21 : hasBody EE.P 21 = true := by kernel_rfl
theorem hb_22 : hasBody EE.P 22 = true := by kernel_rfl
theorem hb_25 : hasBody EE.P 25 = true := by kernel_rfl
theorem hb_26 : hasBody EE.P 26 = true := by kernel_rfl
theorem hb_27 : hasBody EE.P 27 = true := by kernel_rfl
theorem hb_28 : hasBody EE.P 28 = true := by kernel_rfl
theorem hb_29 : hasBody EE.P 29 = true := by kernel_rfl
theorem hb_30 : hasBody EE.P 30 = true := by kernel_rfl
theorem hb_31 : hasBody EE.P 31 = true := by kernel_rfl
theorem hb_32 : hasBody EE.P 32 = true := by kernel_rfl
theorem hb_33 : hasBody EE.P 33 = true := by kernel_rfl
theorem hb_34 : hasBody EE.P 34 = true := by kernel_rfl
theorem hb_35 : hasBody EE.P 35 = true := by kernel_rfl
theorem hb_37 : hasBody EE.P 37 = true := by kernel_rfl
theorem hb_38 : hasBody EE.P 38 = true := by kernel_rfl
theorem hb_39 : hasBody EE.P 39 = true := by kernel_rfl
theorem hb_40 : hasBody EE.P 40 = true := by kernel_rfl
theorem hb_41 : hasBody EE.P 41 = true := by kernel_rfl
theorem hb_42 : hasBody EE.P 42 = true := by kernel_rfl
theorem hb_44 : hasBody EE.P 44 = true := by kernel_rfl
theorem hb_47 : hasBody EE.P 47 = true := by kernel_rfl
theorem hb_49 : hasBody EE.P 49 = true := by kernel_rfl
theorem hb_50 : hasBody EE.P 50 = true := by kernel_rfl
theorem hb_51 : hasBody EE.P 51 = true := by kernel_rfl
theorem hb_52 : hasBody EE.P 52 = true := by kernel_rfl
theorem hb_53 : hasBody EE.P 53 = true := by kernel_rfl
theorem hb_54 : hasBody EE.P 54 = true := by kernel_rfl
theorem hb_55 : hasBody EE.P 55 = true := by kernel_rfl
theorem hb_56 : hasBody EE.P 56 = true := by kernel_rfl
theorem hb_57 : hasBody EE.P 57 = true := by kernel_rfl
theorem hb_59 : hasBody EE.P 59 = true := by kernel_rfl
theorem hb_60 : hasBody EE.P 60 = true := by kernel_rfl
theorem hb_61 : hasBody EE.P 61 = true := by kernel_rfl
theorem hb_62 : hasBody EE.P 62 = true := by kernel_rfl
theorem hb_63 : hasBody EE.P 63 = true := by kernel_rfl
theorem hb_64 : hasBody EE.P 64 = true := by kernel_rfl
theorem hb_65 : hasBody EE.P 65 = true := by kernel_rfl
theorem hb_66 : hasBody EE.P 66 = true := by kernel_rfl
theorem hb_67 : hasBody EE.P 67 = true := by kernel_rfl
theorem hb_68 : hasBody EE.P 68 = true := by kernel_rfl
theorem hb_69 : hasBody EE.P 69 = true := by kernel_rfl
theorem hb_71 : hasBody EE.P 71 = true := by kernel_rfl
theorem hb_72 : hasBody EE.P 72 = true := by kernel_rfl
theorem hb_73 : hasBody EE.P 73 = true := by kernel_rfl
theorem hb_74 : hasBody EE.P 74 = true := by kernel_rfl
theorem hb_75 : hasBody EE.P 75 = true := by kernel_rfl
theorem hb_76 : hasBody EE.P 76 = true := by kernel_rfl
theorem hb_77 : hasBody EE.P 77 = true := by kernel_rfl
theorem hb_78 : hasBody EE.P 78 = true := by kernel_rfl
theorem hb_84 : hasBody EE.P 84 = true := by kernel_rfl
theorem hb_85 : hasBody EE.P 85 = true := by kernel_rfl
theorem hb_86 : hasBody EE.P 86 = true := by kernel_rfl
theorem hb_87 : hasBody EE.P 87 = true := by kernel_rfl
theorem hb_88 : hasBody EE.P 88 = true := by kernel_rfl
theorem hb_89 : hasBody EE.P 89 = true := by kernel_rfl
theorem hb_90 : hasBody EE.P 90 = true := by kernel_rfl
theorem hb_91 : hasBody EE.P 91 = true := by kernel_rfl
theorem hb_92 : hasBody EE.P 92 = true := by kernel_rfl
theorem hb_93 : hasBody EE.P 93 = true := by kernel_rfl
theorem hb_94 : hasBody EE.P 94 = true := by kernel_rfl
theorem hb_95 : hasBody EE.P 95 = true := by kernel_rfl
theorem hb_96 : hasBody EE.P 96 = true := by kernel_rfl
theorem hb_97 : hasBody EE.P 97 = true := by kernel_rfl
theorem hb_98 : hasBody EE.P 98 = true := by kernel_rfl
theorem hb_99 : hasBody EE.P 99 = true := by kernel_rfl
theorem ln_120 {h : Heap} {a : Option Addr} {n c : Nat} : lenV EE h 120 (.slice a n c) = some (.int .i64 n) := by kernel_rfl
theorem ln_44 {h : Heap} {a : Option Addr} {n c : Nat} : lenV EE h 44 (.slice a n c) = some (.int .i64 n) := by kernel_rfl
theorem ln_64 {h : Heap} {a : Option Addr} {n c : Nat} : lenV EE h 64 (.slice a n c) = some (.int .i64 n) := by kernel_rfl
theorem ln_68 {h : Heap} {a : Option Addr} {n c : Nat} : lenV EE h 68 (.slice a n c) = some (.int .i64 n) := by kernel_rfl
theorem ln_80 {h : Heap} {a : Option Addr} {n c : Nat} : lenV EE h 80 (.slice a n c) = some (.int .i64 n) := by kernel_rfl
theorem ln_81 {h : Heap} {a : Option Addr} {n c : Nat} : lenV EE h 81 (.slice a n c) = some (.int .i64 n) := by kernel_rfl
theorem ln_92 {h : Heap} {a : Option Addr} {n c : Nat} : lenV EE h 92 (.slice a n c) = some (.int .i64 n) := by kernel_rfl
theorem sz_101 : sz EE.P 101 = some 1 := by kernel_rfl
theorem sz_102 : sz EE.P 102 = some 1 := by kernel_rfl
theorem sz_105 : sz EE.P 105 = some 6 := by kernel_rfl
theorem sz_119 : sz EE.P 119 = some 2 := by kernel_rfl
theorem sz_165 : sz EE.P 165 = some 1 := by kernel_rfl
theorem sz_29 : sz EE.P 29 = some 1 := by kernel_rfl
theorem sz_3 : sz EE.P 3 = some 1 := by kernel_rfl
theorem sz_32 : sz EE.P 32 = some 4 := by kernel_rfl
theorem sz_4 : sz EE.P 4 = some 1 := by kernel_rfl
theorem sz_64 : sz EE.P 64 = some 1 := by kernel_rfl
theorem sz_73 : sz EE.P 73 = some 3 := by kernel_rfl
theorem sz_76 : sz EE.P 76 = some 5 := by kernel_rfl
theorem sz_80 : sz EE.P 80 = some 1 := by kernel_rfl
theorem sz_81 : sz EE.P 81 = some 1 := by kernel_rfl
theorem sz_86 : sz EE.P 86 = some 5 := by kernel_rfl
theorem sz_89 : sz EE.P 89 = some 4 := by kernel_rfl
theorem sz_9 : sz EE.P 9 = some 1 := by kernel_rfl
theorem sz_92 : sz EE.P 92 = some 1 := by kernel_rfl
theorem ut_120 : EE.P.underlying 120 = some (.slice 119) := by kernel_rfl
theorem ut_44 : EE.P.underlying 44 = some (.slice 9) := by kernel_rfl
theorem ut_64 : EE.P.underlying 64 = some (.slice 76) := by kernel_rfl
theorem ut_68 : EE.P.underlying 68 = some (.slice 73) := by kernel_rfl
theorem ut_80 : EE.P.underlying 80 = some (.slice 89) := by kernel_rfl
theorem ut_81 : EE.P.underlying 81 = some (.slice 86) := by kernel_rfl
theorem ut_92 : EE.P.underlying 92 = some (.slice 29) := by kernel_rfl
theorem zo_101 : zeroOf EE.P 101 = some (Value.nilFunc) := by kernel_rfl
theorem zo_119 : zeroOf EE.P 119 = some (Value.agg #[Value.pointer none, Value.int IntKind.i64 0]) := by kernel_rfl
theorem zo_165 : zeroOf EE.P 165 = some (Value.nilFunc) := by kernel_rfl
theorem zo_29 : zeroOf EE.P 29 = some (Value.int IntKind.u64 0) := by kernel_rfl
theorem zo_3 : zeroOf EE.P 3 = some (Value.int IntKind.i64 0) := by kernel_rfl
theorem zo_32 : zeroOf EE.P 32 = some (Value.agg #[Value.bool false, Value.string { data := #[] }, Value.int IntKind.u64 0, Value.int IntKind.i64 0]) := by kernel_rfl
theorem zo_76 : zeroOf EE.P 76 = some (Value.agg #[Value.int IntKind.i64 0, Value.string { data := #[] }, Value.bool false, Value.int IntKind.i64 0, Value.int IntKind.i64 0]) := by kernel_rfl
theorem zo_86 : zeroOf EE.P 86 = some (Value.agg #[Value.int IntKind.i64 0, Value.int IntKind.i64 0, Value.int IntKind.i64 0, Value.int IntKind.i64 0, Value.int IntKind.u64 0]) := by kernel_rfl
theorem zo_89 : zeroOf EE.P 89 = some (Value.agg #[Value.string { data := #[] }, Value.int IntKind.i64 0, Value.int IntKind.u64 0, Value.int IntKind.i64 0]) := by kernel_rfl
theorem zs_64_64 : zerosV EE.P #[64, 64] = some false := by kernel_rfl
theorem zs_80_80 : zerosV EE.P #[80, 80] = some false := by kernel_rfl
theorem zs_81_81 : zerosV EE.P #[81, 81] = some false := by kernel_rfl
theorem zs_92_92 : zerosV EE.P #[92, 92] = some false := by kernel_rfl
theorem fs_73_0 {a : Addr} (h : a.spot = none ∨ a.spot = some 1) : fieldAddrV EE 73 (.pointer (some a)) 0 = some (.pointer (some ⟨a.block, a.off + 0, a.spot⟩)) := by
 obtain ⟨b, o, s⟩ := a
 rcases h with h | h
 ·
  cases h; kernel_rfl
 ·
  cases h; kernel_rfl
theorem fs_73_1 {a : Addr} (h : a.spot = none ∨ a.spot = some 1) : fieldAddrV EE 73 (.pointer (some a)) 1 = some (.pointer (some ⟨a.block, a.off + 1, a.spot⟩)) := by
 obtain ⟨b, o, s⟩ := a
 rcases h with h | h
 ·
  cases h; kernel_rfl
 ·
  cases h; kernel_rfl
theorem fs_76_3 {a : Addr} (h : a.spot = none ∨ a.spot = some 1) : fieldAddrV EE 76 (.pointer (some a)) 3 = some (.pointer (some ⟨a.block, a.off + 3, a.spot⟩)) := by
 obtain ⟨b, o, s⟩ := a
 rcases h with h | h
 ·
  cases h; kernel_rfl
 ·
  cases h; kernel_rfl
theorem fs_76_4 {a : Addr} (h : a.spot = none ∨ a.spot = some 1) : fieldAddrV EE 76 (.pointer (some a)) 4 = some (.pointer (some ⟨a.block, a.off + 4, a.spot⟩)) := by
 obtain ⟨b, o, s⟩ := a
 rcases h with h | h
 ·
  cases h; kernel_rfl
 ·
  cases h; kernel_rfl
theorem evo_cloneA_64 {h : Heap} (hw : Wf h) {q : Option Addr} {tl : List Blk} {xs ys : List Torder_Call} (f0 : AccR R_Torder_Call 76 h tl (.slice q xs.length xs.length) xs) (hy : cloneL 48 xs = some ys) :
 EvO EE 64 [.slice q xs.length xs.length] [tl] h (fun v S h1 => ∃ q2 t2, v = .slice q2 ys.length ys.length ∧ S = [t2, tl] ∧ AccR R_Torder_Call 76 h1 t2 (.slice q2 ys.length ys.length) ys ∧ AccR R_Torder_Call 76 h1 tl (.slice q xs.length xs.length) xs) := by
 obtain ⟨hr, rfl⟩ := cloneL_some hy
 cases q with
 | none =>
  have e0 : ys = [] ∧ tl = [] := by
   obtain ⟨_, ⟨h1, _, h3⟩ | ⟨b, rows, h2, _⟩⟩ := f0
   ·
    exact ⟨h1, h3⟩
   ·
    simp at h2
  obtain ⟨e0, e1⟩ := e0
  subst e0 e1
  refine evo_of rfl (show EE.P.funcs[64]? = some Try.f64 by kernel_rfl) rfl rfl ?_
  refine go_seq ?_
  refine go_region ?_
  refine gAc rfl rfl ?_
  refine go_nil ?_
  refine go_seq ?_
  refine go_seq ?_
  refine go_region ?_
  refine gM rfl rfl ?_
  refine gr rfl (r_bin (v := .bool true) (ot rfl) (oc rfl) (by kernel_rfl)) ?_
  refine go_nil ?_
  refine g_cond (b := true) (ot rfl) (fun _ => ?_) (fun h => by cases h)
  refine go_seq ?_
  refine go_region ?_
  refine gAc rfl rfl ?_
  refine go_nil ?_
  exact g_ret (rst rfl rs0) (fun h1 hf hs => ⟨[[], []], _, hf, HExt.refl _, hw, hs, nde (nde nd0), none, [], rfl, rfl, AccR.nil _ _ _, f0⟩)
 | some a =>
  obtain ⟨rw1, hw1, hq1⟩ := AccR.first f0 (by decide)
  refine evo_of rfl (show EE.P.funcs[64]? = some Try.f64 by kernel_rfl) rfl rfl ?_
  refine go_seq ?_
  refine go_region ?_
  refine gAc rfl rfl ?_
  refine go_nil ?_
  refine go_seq ?_
  refine go_seq ?_
  refine go_region ?_
  refine gM rfl rfl ?_
  refine gr rfl (r_bin (v := .bool false) (ot rfl) (oc rfl) (by kernel_rfl)) ?_
  refine go_nil ?_
  refine g_cond (b := false) (ot rfl) (fun h => by cases h) (fun _ => ?_)
  refine go_skip ?_
  refine go_seq ?_
  refine go_region ?_
  refine gs_bslice (cs := []) rfl op0 ut_64 sz_76 zo_76 rfl rfl ?_; intro b5
  refine gM rfl rfl ?_
  refine gs_app0 (rows2 := rw1) (R := R_Torder_Call) rfl (os1 (ot rfl) (os1 (ot rfl) os0)) rfl ut_64 sz_76 rfl (by decide) by_76 zo_76 rfl (by kernel_rfl) rfl rfl (fun h' hf hs => hq1 _ h' hf (fun e he => by simp [he]) hs) hw1 (AccR.lit _ _ _ _) hr (fun p1 tl1 f1 => ?_)
  refine gA rfl rfl ?_
  refine go_nil ?_
  refine gs_sub (.cons_cons _ (.cons _ (.refl _))) ?_
  exact g_ret (rst rfl rs0) (fun h1 hf hs => ⟨[tl1, tl], _, hf, HExt.refl _, hw, hs, ndt f1 (ndt f0 nd0), _, _, rfl, rfl, f1, f0⟩)
end Go.Proofs.Ytndhbaidibioeaa.V
