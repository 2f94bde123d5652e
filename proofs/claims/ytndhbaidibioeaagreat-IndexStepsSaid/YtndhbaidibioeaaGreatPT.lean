/- What the types of this seat are.
   No condition: these are laws of the clean machine and of this program. -/
import Derived.Test.YtndhbaidibioeaaGreatSa
import Derived.Test.YtndhbaidibioeaaGreatPF
namespace Go.Proofs.YtndhbaidibioeaaGreat.V
open Go
set_option linter.unusedVariables false
set_option linter.unusedSimpArgs false
set_option maxRecDepth 100000
theorem ag_105 : isAggT EE.P 105 = some false := by kernel_rfl
theorem ag_127 : isAggT EE.P 127 = some true := by kernel_rfl
theorem ag_128 : isAggT EE.P 128 = some false := by kernel_rfl
theorem ag_129 : isAggT EE.P 129 = some false := by kernel_rfl
theorem ag_134 : isAggT EE.P 134 = some false := by kernel_rfl
theorem ag_135 : isAggT EE.P 135 = some false := by kernel_rfl
theorem ag_138 : isAggT EE.P 138 = some true := by kernel_rfl
theorem ag_141 : isAggT EE.P 141 = some false := by kernel_rfl
theorem ag_144 : isAggT EE.P 144 = some false := by kernel_rfl
theorem ag_155 : isAggT EE.P 155 = some true := by kernel_rfl
theorem ag_159 : isAggT EE.P 159 = some false := by kernel_rfl
theorem ag_175 : isAggT EE.P 175 = some true := by kernel_rfl
theorem ag_201 : isAggT EE.P 201 = some false := by kernel_rfl
theorem ag_210 : isAggT EE.P 210 = some false := by kernel_rfl
theorem ag_24 : isAggT EE.P 24 = some true := by kernel_rfl
theorem ag_27 : isAggT EE.P 27 = some false := by kernel_rfl
theorem ag_29 : isAggT EE.P 29 = some false := by kernel_rfl
theorem ag_3 : isAggT EE.P 3 = some false := by kernel_rfl
theorem ag_32 : isAggT EE.P 32 = some false := by kernel_rfl
theorem ag_36 : isAggT EE.P 36 = some true := by kernel_rfl
theorem ag_4 : isAggT EE.P 4 = some false := by kernel_rfl
theorem ag_45 : isAggT EE.P 45 = some false := by kernel_rfl
theorem ag_5 : isAggT EE.P 5 = some false := by kernel_rfl
theorem ag_51 : isAggT EE.P 51 = some false := by kernel_rfl
theorem ag_56 : isAggT EE.P 56 = some true := by kernel_rfl
theorem ag_61 : isAggT EE.P 61 = some false := by kernel_rfl
theorem ag_83 : isAggT EE.P 83 = some false := by kernel_rfl
theorem ag_84 : isAggT EE.P 84 = some false := by kernel_rfl
theorem ag_85 : isAggT EE.P 85 = some false := by kernel_rfl
theorem ag_89 : isAggT EE.P 89 = some false := by kernel_rfl
theorem ag_9 : isAggT EE.P 9 = some false := by kernel_rfl
theorem ag_93 : isAggT EE.P 93 = some false := by kernel_rfl
theorem ag_95 : isAggT EE.P 95 = some true := by kernel_rfl
theorem at_10 : EE.P.funcs[10]? = some Tryz.f10 := by kernel_rfl
theorem at_106 : EE.P.funcs[106]? = some Tryz.f106 := by kernel_rfl
theorem at_107 : EE.P.funcs[107]? = some Tryz.f107 := by kernel_rfl
theorem at_108 : EE.P.funcs[108]? = some Tryz.f108 := by kernel_rfl
theorem at_109 : EE.P.funcs[109]? = some Tryz.f109 := by kernel_rfl
theorem at_110 : EE.P.funcs[110]? = some Tryz.f110 := by kernel_rfl
theorem at_111 : EE.P.funcs[111]? = some Tryz.f111 := by kernel_rfl
theorem at_112 : EE.P.funcs[112]? = some Tryz.f112 := by kernel_rfl
theorem at_113 : EE.P.funcs[113]? = some Tryz.f113 := by kernel_rfl
theorem at_114 : EE.P.funcs[114]? = some Tryz.f114 := by kernel_rfl
theorem at_115 : EE.P.funcs[115]? = some Tryz.f115 := by kernel_rfl
theorem at_117 : EE.P.funcs[117]? = some Tryz.f117 := by kernel_rfl
theorem at_118 : EE.P.funcs[118]? = some Tryz.f118 := by kernel_rfl
theorem at_119 : EE.P.funcs[119]? = some Tryz.f119 := by kernel_rfl
theorem at_120 : EE.P.funcs[120]? = some Tryz.f120 := by kernel_rfl
theorem at_121 : EE.P.funcs[121]? = some Tryz.f121 := by kernel_rfl
theorem at_129 : EE.P.funcs[129]? = some Tryz.f129 := by kernel_rfl
theorem at_130 : EE.P.funcs[130]? = some Tryz.f130 := by kernel_rfl
theorem at_131 : EE.P.funcs[131]? = some Tryz.f131 := by kernel_rfl
theorem at_133 : EE.P.funcs[133]? = some Tryz.f133 := by kernel_rfl
theorem at_134 : EE.P.funcs[134]? = some Tryz.f134 := by kernel_rfl
theorem at_135 : EE.P.funcs[135]? = some Tryz.f135 := by kernel_rfl
theorem at_136 : EE.P.funcs[136]? = some Tryz.f136 := by kernel_rfl
theorem at_139 : EE.P.funcs[139]? = some Tryz.f139 := by kernel_rfl
theorem at_14 : EE.P.funcs[14]? = some Tryz.f14 := by kernel_rfl
theorem at_140 : EE.P.funcs[140]? = some Tryz.f140 := by kernel_rfl
theorem at_141 : EE.P.funcs[141]? = some Tryz.f141 := by kernel_rfl
theorem at_142 : EE.P.funcs[142]? = some Tryz.f142 := by kernel_rfl
theorem at_143 : EE.P.funcs[143]? = some Tryz.f143 := by kernel_rfl
theorem at_144 : EE.P.funcs[144]? = some Tryz.f144 := by kernel_rfl
theorem at_145 : EE.P.funcs[145]? = some Tryz.f145 := by kernel_rfl
theorem at_146 : EE.P.funcs[146]? = some Tryz.f146 := by kernel_rfl
theorem at_147 : EE.P.funcs[147]? = some Tryz.f147 := by kernel_rfl
theorem at_148 : EE.P.funcs[148]? = some Tryz.f148 := by kernel_rfl
theorem at_149 : EE.P.funcs[149]? = some Tryz.f149 := by kernel_rfl
theorem at_15 : EE.P.funcs[15]? = some Tryz.f15 := by kernel_rfl
theorem at_150 : EE.P.funcs[150]? = some Tryz.f150 := by kernel_rfl
theorem at_151 : EE.P.funcs[151]? = some Tryz.f151 := by kernel_rfl
theorem at_152 : EE.P.funcs[152]? = some Tryz.f152 := by kernel_rfl
theorem at_153 : EE.P.funcs[153]? = some Tryz.f153 := by kernel_rfl
theorem at_154 : EE.P.funcs[154]? = some Tryz.f154 := by kernel_rfl
theorem at_155 : EE.P.funcs[155]? = some Tryz.f155 := by kernel_rfl
theorem at_156 : EE.P.funcs[156]? = some Tryz.f156 := by kernel_rfl
theorem at_157 : EE.P.funcs[157]? = some Tryz.f157 := by kernel_rfl
theorem at_158 : EE.P.funcs[158]? = some Tryz.f158 := by kernel_rfl
theorem at_159 : EE.P.funcs[159]? = some Tryz.f159 := by kernel_rfl
theorem at_160 : EE.P.funcs[160]? = some Tryz.f160 := by kernel_rfl
theorem at_176 : EE.P.funcs[176]? = some Tryz.f176 := by kernel_rfl
theorem at_177 : EE.P.funcs[177]? = some Tryz.f177 := by kernel_rfl
theorem at_178 : EE.P.funcs[178]? = some Tryz.f178 := by kernel_rfl
theorem at_18 : EE.P.funcs[18]? = some Tryz.f18 := by kernel_rfl
theorem at_20 : EE.P.funcs[20]? = some Tryz.f20 := by kernel_rfl
theorem at_21 : EE.P.funcs[21]? = some Tryz.f21 := by kernel_rfl
theorem at_23 : EE.P.funcs[23]? = some Tryz.f23 := by kernel_rfl
theorem at_24 : EE.P.funcs[24]? = some Tryz.f24 := by kernel_rfl
theorem at_25 : EE.P.funcs[25]? = some Tryz.f25 := by kernel_rfl
theorem at_26 : EE.P.funcs[26]? = some Tryz.f26 := by kernel_rfl
theorem at_37 : EE.P.funcs[37]? = some Tryz.f37 := by kernel_rfl
theorem at_39 : EE.P.funcs[39]? = some Tryz.f39 := by kernel_rfl
theorem at_40 : EE.P.funcs[40]? = some Tryz.f40 := by kernel_rfl
theorem at_41 : EE.P.funcs[41]? = some Tryz.f41 := by kernel_rfl
theorem at_42 : EE.P.funcs[42]? = some Tryz.f42 := by kernel_rfl
theorem at_43 : EE.P.funcs[43]? = some Tryz.f43 := by kernel_rfl
theorem at_44 : EE.P.funcs[44]? = some Tryz.f44 := by kernel_rfl
theorem at_45 : EE.P.funcs[45]? = some Tryz.f45 := by kernel_rfl
theorem at_46 : EE.P.funcs[46]? = some Tryz.f46 := by kernel_rfl
theorem at_47 : EE.P.funcs[47]? = some Tryz.f47 := by kernel_rfl
theorem at_48 : EE.P.funcs[48]? = some Tryz.f48 := by kernel_rfl
theorem at_50 : EE.P.funcs[50]? = some Tryz.f50 := by kernel_rfl
theorem at_51 : EE.P.funcs[51]? = some Tryz.f51 := by kernel_rfl
theorem at_52 : EE.P.funcs[52]? = some Tryz.f52 := by kernel_rfl
theorem at_53 : EE.P.funcs[53]? = some Tryz.f53 := by kernel_rfl
theorem at_54 : EE.P.funcs[54]? = some Tryz.f54 := by kernel_rfl
theorem at_55 : EE.P.funcs[55]? = some Tryz.f55 := by kernel_rfl
theorem at_56 : EE.P.funcs[56]? = some Tryz.f56 := by kernel_rfl
theorem at_59 : EE.P.funcs[59]? = some Tryz.f59 := by kernel_rfl
theorem at_65 : EE.P.funcs[65]? = some Tryz.f65 := by kernel_rfl
theorem at_69 : EE.P.funcs[69]? = some Tryz.f69 := by kernel_rfl
theorem at_7 : EE.P.funcs[7]? = some Tryz.f7 := by kernel_rfl
theorem at_71 : EE.P.funcs[71]? = some Tryz.f71 := by kernel_rfl
theorem at_72 : EE.P.funcs[72]? = some Tryz.f72 := by kernel_rfl
theorem at_73 : EE.P.funcs[73]? = some Tryz.f73 := by kernel_rfl
theorem at_74 : EE.P.funcs[74]? = some Tryz.f74 := by kernel_rfl
theorem at_75 : EE.P.funcs[75]? = some Tryz.f75 := by kernel_rfl
theorem at_76 : EE.P.funcs[76]? = some Tryz.f76 := by kernel_rfl
theorem at_77 : EE.P.funcs[77]? = some Tryz.f77 := by kernel_rfl
theorem at_78 : EE.P.funcs[78]? = some Tryz.f78 := by kernel_rfl
theorem at_79 : EE.P.funcs[79]? = some Tryz.f79 := by kernel_rfl
theorem at_80 : EE.P.funcs[80]? = some Tryz.f80 := by kernel_rfl
theorem at_81 : EE.P.funcs[81]? = some Tryz.f81 := by kernel_rfl
theorem at_82 : EE.P.funcs[82]? = some Tryz.f82 := by kernel_rfl
theorem at_83 : EE.P.funcs[83]? = some Tryz.f83 := by kernel_rfl
theorem at_84 : EE.P.funcs[84]? = some Tryz.f84 := by kernel_rfl
theorem at_85 : EE.P.funcs[85]? = some Tryz.f85 := by kernel_rfl
theorem at_86 : EE.P.funcs[86]? = some Tryz.f86 := by kernel_rfl
theorem at_87 : EE.P.funcs[87]? = some Tryz.f87 := by kernel_rfl
theorem at_88 : EE.P.funcs[88]? = some Tryz.f88 := by kernel_rfl
theorem at_89 : EE.P.funcs[89]? = some Tryz.f89 := by kernel_rfl
theorem at_90 : EE.P.funcs[90]? = some Tryz.f90 := by kernel_rfl
theorem at_91 : EE.P.funcs[91]? = some Tryz.f91 := by kernel_rfl
theorem at_92 : EE.P.funcs[92]? = some Tryz.f92 := by kernel_rfl
theorem at_93 : EE.P.funcs[93]? = some Tryz.f93 := by kernel_rfl
theorem at_96 : EE.P.funcs[96]? = some Tryz.f96 := by kernel_rfl
theorem at_97 : EE.P.funcs[97]? = some Tryz.f97 := by kernel_rfl
theorem by_127 : bytesOf EE.P 127 = some 40 := by kernel_rfl
theorem by_155 : bytesOf EE.P 155 = some 40 := by kernel_rfl
theorem by_175 : bytesOf EE.P 175 = some 56 := by kernel_rfl
theorem by_56 : bytesOf EE.P 56 = some 40 := by kernel_rfl
theorem by_93 : bytesOf EE.P 93 = some 8 := by kernel_rfl
theorem fa_107_0 (b o : Nat) : fieldAddrV EE 107 (.pointer (some ⟨b, o, none⟩)) 0 = some (.pointer (some ⟨b, o, none⟩)) := by kernel_rfl
theorem fa_107_1 (b o : Nat) : fieldAddrV EE 107 (.pointer (some ⟨b, o, none⟩)) 1 = some (.pointer (some ⟨b, o + 1, none⟩)) := by kernel_rfl
theorem fa_127_0 (b o : Nat) : fieldAddrV EE 127 (.pointer (some ⟨b, o, none⟩)) 0 = some (.pointer (some ⟨b, o, none⟩)) := by kernel_rfl
theorem fa_127_1 (b o : Nat) : fieldAddrV EE 127 (.pointer (some ⟨b, o, none⟩)) 1 = some (.pointer (some ⟨b, o + 1, none⟩)) := by kernel_rfl
theorem fa_127_2 (b o : Nat) : fieldAddrV EE 127 (.pointer (some ⟨b, o, none⟩)) 2 = some (.pointer (some ⟨b, o + 2, none⟩)) := by kernel_rfl
theorem fa_127_3 (b o : Nat) : fieldAddrV EE 127 (.pointer (some ⟨b, o, none⟩)) 3 = some (.pointer (some ⟨b, o + 3, none⟩)) := by kernel_rfl
theorem fa_131_0 (b o : Nat) : fieldAddrV EE 131 (.pointer (some ⟨b, o, none⟩)) 0 = some (.pointer (some ⟨b, o, none⟩)) := by kernel_rfl
theorem fa_131_1 (b o : Nat) : fieldAddrV EE 131 (.pointer (some ⟨b, o, none⟩)) 1 = some (.pointer (some ⟨b, o + 1, none⟩)) := by kernel_rfl
theorem fa_131_2 (b o : Nat) : fieldAddrV EE 131 (.pointer (some ⟨b, o, none⟩)) 2 = some (.pointer (some ⟨b, o + 2, none⟩)) := by kernel_rfl
theorem fa_138_0 (b o : Nat) : fieldAddrV EE 138 (.pointer (some ⟨b, o, none⟩)) 0 = some (.pointer (some ⟨b, o, none⟩)) := by kernel_rfl
theorem fa_138_1 (b o : Nat) : fieldAddrV EE 138 (.pointer (some ⟨b, o, none⟩)) 1 = some (.pointer (some ⟨b, o + 1, none⟩)) := by kernel_rfl
theorem fa_138_2 (b o : Nat) : fieldAddrV EE 138 (.pointer (some ⟨b, o, none⟩)) 2 = some (.pointer (some ⟨b, o + 2, none⟩)) := by kernel_rfl
theorem fa_138_3 (b o : Nat) : fieldAddrV EE 138 (.pointer (some ⟨b, o, none⟩)) 3 = some (.pointer (some ⟨b, o + 3, none⟩)) := by kernel_rfl
theorem fa_138_4 (b o : Nat) : fieldAddrV EE 138 (.pointer (some ⟨b, o, none⟩)) 4 = some (.pointer (some ⟨b, o + 4, none⟩)) := by kernel_rfl
theorem fa_138_5 (b o : Nat) : fieldAddrV EE 138 (.pointer (some ⟨b, o, none⟩)) 5 = some (.pointer (some ⟨b, o + 5, none⟩)) := by kernel_rfl
theorem fa_146_0 (b o : Nat) : fieldAddrV EE 146 (.pointer (some ⟨b, o, none⟩)) 0 = some (.pointer (some ⟨b, o, none⟩)) := by kernel_rfl
theorem fa_146_1 (b o : Nat) : fieldAddrV EE 146 (.pointer (some ⟨b, o, none⟩)) 1 = some (.pointer (some ⟨b, o + 4, none⟩)) := by kernel_rfl
theorem fa_155_0 (b o : Nat) : fieldAddrV EE 155 (.pointer (some ⟨b, o, none⟩)) 0 = some (.pointer (some ⟨b, o, none⟩)) := by kernel_rfl
theorem fa_155_1 (b o : Nat) : fieldAddrV EE 155 (.pointer (some ⟨b, o, none⟩)) 1 = some (.pointer (some ⟨b, o + 1, none⟩)) := by kernel_rfl
theorem fa_155_2 (b o : Nat) : fieldAddrV EE 155 (.pointer (some ⟨b, o, none⟩)) 2 = some (.pointer (some ⟨b, o + 2, none⟩)) := by kernel_rfl
theorem fa_155_3 (b o : Nat) : fieldAddrV EE 155 (.pointer (some ⟨b, o, none⟩)) 3 = some (.pointer (some ⟨b, o + 3, none⟩)) := by kernel_rfl
theorem fa_155_4 (b o : Nat) : fieldAddrV EE 155 (.pointer (some ⟨b, o, none⟩)) 4 = some (.pointer (some ⟨b, o + 4, none⟩)) := by kernel_rfl
theorem fa_161_0 (b o : Nat) : fieldAddrV EE 161 (.pointer (some ⟨b, o, none⟩)) 0 = some (.pointer (some ⟨b, o, none⟩)) := by kernel_rfl
theorem fa_161_1 (b o : Nat) : fieldAddrV EE 161 (.pointer (some ⟨b, o, none⟩)) 1 = some (.pointer (some ⟨b, o + 1, none⟩)) := by kernel_rfl
theorem fa_163_0 (b o : Nat) : fieldAddrV EE 163 (.pointer (some ⟨b, o, none⟩)) 0 = some (.pointer (some ⟨b, o, none⟩)) := by kernel_rfl
theorem fa_163_1 (b o : Nat) : fieldAddrV EE 163 (.pointer (some ⟨b, o, none⟩)) 1 = some (.pointer (some ⟨b, o + 1, none⟩)) := by kernel_rfl
theorem fa_163_2 (b o : Nat) : fieldAddrV EE 163 (.pointer (some ⟨b, o, none⟩)) 2 = some (.pointer (some ⟨b, o + 2, none⟩)) := by kernel_rfl
theorem fa_163_3 (b o : Nat) : fieldAddrV EE 163 (.pointer (some ⟨b, o, none⟩)) 3 = some (.pointer (some ⟨b, o + 6, none⟩)) := by kernel_rfl
theorem fa_163_4 (b o : Nat) : fieldAddrV EE 163 (.pointer (some ⟨b, o, none⟩)) 4 = some (.pointer (some ⟨b, o + 7, none⟩)) := by kernel_rfl
theorem fa_163_5 (b o : Nat) : fieldAddrV EE 163 (.pointer (some ⟨b, o, none⟩)) 5 = some (.pointer (some ⟨b, o + 8, none⟩)) := by kernel_rfl
theorem fa_175_0 (b o : Nat) : fieldAddrV EE 175 (.pointer (some ⟨b, o, none⟩)) 0 = some (.pointer (some ⟨b, o, none⟩)) := by kernel_rfl
theorem fa_175_1 (b o : Nat) : fieldAddrV EE 175 (.pointer (some ⟨b, o, none⟩)) 1 = some (.pointer (some ⟨b, o + 4, none⟩)) := by kernel_rfl
theorem fa_24_0 (b o : Nat) : fieldAddrV EE 24 (.pointer (some ⟨b, o, none⟩)) 0 = some (.pointer (some ⟨b, o, none⟩)) := by kernel_rfl
theorem fa_24_1 (b o : Nat) : fieldAddrV EE 24 (.pointer (some ⟨b, o, none⟩)) 1 = some (.pointer (some ⟨b, o + 1, none⟩)) := by kernel_rfl
theorem fa_36_0 (b o : Nat) : fieldAddrV EE 36 (.pointer (some ⟨b, o, none⟩)) 0 = some (.pointer (some ⟨b, o, none⟩)) := by kernel_rfl
theorem fa_36_1 (b o : Nat) : fieldAddrV EE 36 (.pointer (some ⟨b, o, none⟩)) 1 = some (.pointer (some ⟨b, o + 1, none⟩)) := by kernel_rfl
theorem fa_36_2 (b o : Nat) : fieldAddrV EE 36 (.pointer (some ⟨b, o, none⟩)) 2 = some (.pointer (some ⟨b, o + 2, none⟩)) := by kernel_rfl
theorem fa_36_3 (b o : Nat) : fieldAddrV EE 36 (.pointer (some ⟨b, o, none⟩)) 3 = some (.pointer (some ⟨b, o + 3, none⟩)) := by kernel_rfl
theorem fa_88_0 (b o : Nat) : fieldAddrV EE 88 (.pointer (some ⟨b, o, none⟩)) 0 = some (.pointer (some ⟨b, o, none⟩)) := by kernel_rfl
theorem fa_88_1 (b o : Nat) : fieldAddrV EE 88 (.pointer (some ⟨b, o, none⟩)) 1 = some (.pointer (some ⟨b, o + 1, none⟩)) := by kernel_rfl
theorem fa_88_2 (b o : Nat) : fieldAddrV EE 88 (.pointer (some ⟨b, o, none⟩)) 2 = some (.pointer (some ⟨b, o + 2, none⟩)) := by kernel_rfl
theorem fa_88_3 (b o : Nat) : fieldAddrV EE 88 (.pointer (some ⟨b, o, none⟩)) 3 = some (.pointer (some ⟨b, o + 3, none⟩)) := by kernel_rfl
theorem fa_88_4 (b o : Nat) : fieldAddrV EE 88 (.pointer (some ⟨b, o, none⟩)) 4 = some (.pointer (some ⟨b, o + 4, none⟩)) := by kernel_rfl
theorem fa_91_0 (b o : Nat) : fieldAddrV EE 91 (.pointer (some ⟨b, o, none⟩)) 0 = some (.pointer (some ⟨b, o, none⟩)) := by kernel_rfl
theorem fa_91_1 (b o : Nat) : fieldAddrV EE 91 (.pointer (some ⟨b, o, none⟩)) 1 = some (.pointer (some ⟨b, o + 1, none⟩)) := by kernel_rfl
theorem fa_91_2 (b o : Nat) : fieldAddrV EE 91 (.pointer (some ⟨b, o, none⟩)) 2 = some (.pointer (some ⟨b, o + 2, none⟩)) := by kernel_rfl
theorem fa_95_0 (b o : Nat) : fieldAddrV EE 95 (.pointer (some ⟨b, o, none⟩)) 0 = some (.pointer (some ⟨b, o, none⟩)) := by kernel_rfl
theorem fa_95_1 (b o : Nat) : fieldAddrV EE 95 (.pointer (some ⟨b, o, none⟩)) 1 = some (.pointer (some ⟨b, o + 1, none⟩)) := by kernel_rfl
theorem fa_95_2 (b o : Nat) : fieldAddrV EE 95 (.pointer (some ⟨b, o, none⟩)) 2 = some (.pointer (some ⟨b, o + 2, none⟩)) := by kernel_rfl
theorem fa_95_3 (b o : Nat) : fieldAddrV EE 95 (.pointer (some ⟨b, o, none⟩)) 3 = some (.pointer (some ⟨b, o + 3, none⟩)) := by kernel_rfl
theorem hb_10 : hasBody EE.P 10 = true := by kernel_rfl
theorem hb_106 : hasBody EE.P 106 = true := by kernel_rfl
theorem hb_107 : hasBody EE.P 107 = true := by kernel_rfl
theorem hb_108 : hasBody EE.P 108 = true := by kernel_rfl
theorem hb_109 : hasBody EE.P 109 = true := by kernel_rfl
theorem hb_110 : hasBody EE.P 110 = true := by kernel_rfl
theorem hb_111 : hasBody EE.P 111 = true := by kernel_rfl
theorem hb_112 : hasBody EE.P 112 = true := by kernel_rfl
theorem hb_113 : hasBody EE.P 113 = true := by kernel_rfl
theorem hb_114 : hasBody EE.P 114 = true := by kernel_rfl
theorem hb_115 : hasBody EE.P 115 = true := by kernel_rfl
theorem hb_117 : hasBody EE.P 117 = true := by kernel_rfl
theorem hb_118 : hasBody EE.P 118 = true := by kernel_rfl
theorem hb_119 : hasBody EE.P 119 = true := by kernel_rfl
theorem hb_120 : hasBody EE.P 120 = true := by kernel_rfl
theorem hb_121 : hasBody EE.P 121 = true := by kernel_rfl
theorem hb_129 : hasBody EE.P 129 = true := by kernel_rfl
theorem hb_130 : hasBody EE.P 130 = true := by kernel_rfl
theorem hb_131 : hasBody EE.P 131 = true := by kernel_rfl
theorem hb_133 : hasBody EE.P 133 = true := by kernel_rfl
theorem hb_134 : hasBody EE.P 134 = true := by kernel_rfl
theorem hb_135 : hasBody EE.P 135 = true := by kernel_rfl
theorem hb_136 : hasBody EE.P 136 = true := by kernel_rfl
theorem hb_139 : hasBody EE.P 139 = true := by kernel_rfl
theorem hb_14 : hasBody EE.P 14 = true := by kernel_rfl
theorem hb_140 : hasBody EE.P 140 = true := by kernel_rfl
theorem hb_141 : hasBody EE.P 141 = true := by kernel_rfl
theorem hb_142 : hasBody EE.P 142 = true := by kernel_rfl
theorem hb_143 : hasBody EE.P 143 = true := by kernel_rfl
theorem hb_144 : hasBody EE.P 144 = true := by kernel_rfl
theorem hb_145 : hasBody EE.P 145 = true := by kernel_rfl
theorem hb_146 : hasBody EE.P 146 = true := by kernel_rfl
theorem hb_147 : hasBody EE.P 147 = true := by kernel_rfl
theorem hb_148 : hasBody EE.P 148 = true := by kernel_rfl
theorem hb_149 : hasBody EE.P 149 = true := by kernel_rfl
theorem hb_15 : hasBody EE.P 15 = true := by kernel_rfl
theorem hb_150 : hasBody EE.P 150 = true := by kernel_rfl
theorem hb_151 : hasBody EE.P 151 = true := by kernel_rfl
theorem hb_152 : hasBody EE.P 152 = true := by kernel_rfl
theorem hb_153 : hasBody EE.P 153 = true := by kernel_rfl
theorem hb_154 : hasBody EE.P 154 = true := by kernel_rfl
theorem hb_155 : hasBody EE.P 155 = true := by kernel_rfl
theorem hb_156 : hasBody EE.P 156 = true := by kernel_rfl
theorem hb_157 : hasBody EE.P 157 = true := by kernel_rfl
theorem hb_158 : hasBody EE.P 158 = true := by kernel_rfl
theorem hb_159 : hasBody EE.P 159 = true := by kernel_rfl
theorem hb_160 : hasBody EE.P 160 = true := by kernel_rfl
theorem hb_176 : hasBody EE.P 176 = true := by kernel_rfl
theorem hb_177 : hasBody EE.P 177 = true := by kernel_rfl
theorem hb_178 : hasBody EE.P 178 = true := by kernel_rfl
theorem hb_18 : hasBody EE.P 18 = true := by kernel_rfl
theorem hb_20 : hasBody EE.P 20 = true := by kernel_rfl
theorem hb_21 : hasBody EE.P 21 = true := by kernel_rfl
theorem hb_23 : hasBody EE.P 23 = true := by kernel_rfl
theorem hb_24 : hasBody EE.P 24 = true := by kernel_rfl
theorem hb_25 : hasBody EE.P 25 = true := by kernel_rfl
theorem hb_26 : hasBody EE.P 26 = true := by kernel_rfl
theorem hb_37 : hasBody EE.P 37 = true := by kernel_rfl
theorem hb_39 : hasBody EE.P 39 = true := by kernel_rfl
theorem hb_40 : hasBody EE.P 40 = true := by kernel_rfl
theorem hb_41 : hasBody EE.P 41 = true := by kernel_rfl
theorem hb_42 : hasBody EE.P 42 = true := by kernel_rfl
theorem hb_43 : hasBody EE.P 43 = true := by kernel_rfl
theorem hb_44 : hasBody EE.P 44 = true := by kernel_rfl
theorem hb_45 : hasBody EE.P 45 = true := by kernel_rfl
theorem hb_46 : hasBody EE.P 46 = true := by kernel_rfl
theorem hb_47 : hasBody EE.P 47 = true := by kernel_rfl
theorem hb_48 : hasBody EE.P 48 = true := by kernel_rfl
theorem hb_50 : hasBody EE.P 50 = true := by kernel_rfl
theorem hb_51 : hasBody EE.P 51 = true := by kernel_rfl
theorem hb_52 : hasBody EE.P 52 = true := by kernel_rfl
theorem hb_53 : hasBody EE.P 53 = true := by kernel_rfl
theorem hb_54 : hasBody EE.P 54 = true := by kernel_rfl
theorem hb_55 : hasBody EE.P 55 = true := by kernel_rfl
theorem hb_56 : hasBody EE.P 56 = true := by kernel_rfl
theorem hb_59 : hasBody EE.P 59 = true := by kernel_rfl
theorem hb_65 : hasBody EE.P 65 = true := by kernel_rfl
theorem hb_69 : hasBody EE.P 69 = true := by kernel_rfl
theorem hb_71 : hasBody EE.P 71 = true := by kernel_rfl
theorem hb_72 : hasBody EE.P 72 = true := by kernel_rfl
theorem hb_73 : hasBody EE.P 73 = true := by kernel_rfl
theorem hb_74 : hasBody EE.P 74 = true := by kernel_rfl
theorem hb_75 : hasBody EE.P 75 = true := by kernel_rfl
theorem hb_76 : hasBody EE.P 76 = true := by kernel_rfl
theorem hb_77 : hasBody EE.P 77 = true := by kernel_rfl
theorem hb_78 : hasBody EE.P 78 = true := by kernel_rfl
theorem hb_79 : hasBody EE.P 79 = true := by kernel_rfl
theorem hb_80 : hasBody EE.P 80 = true := by kernel_rfl
theorem hb_81 : hasBody EE.P 81 = true := by kernel_rfl
theorem hb_82 : hasBody EE.P 82 = true := by kernel_rfl
theorem hb_83 : hasBody EE.P 83 = true := by kernel_rfl
theorem hb_84 : hasBody EE.P 84 = true := by kernel_rfl
theorem hb_85 : hasBody EE.P 85 = true := by kernel_rfl
theorem hb_86 : hasBody EE.P 86 = true := by kernel_rfl
theorem hb_87 : hasBody EE.P 87 = true := by kernel_rfl
theorem hb_88 : hasBody EE.P 88 = true := by kernel_rfl
theorem hb_89 : hasBody EE.P 89 = true := by kernel_rfl
theorem hb_9 : hasBody EE.P 9 = true := by kernel_rfl
theorem hb_90 : hasBody EE.P 90 = true := by kernel_rfl
theorem hb_91 : hasBody EE.P 91 = true := by kernel_rfl
theorem hb_92 : hasBody EE.P 92 = true := by kernel_rfl
theorem hb_93 : hasBody EE.P 93 = true := by kernel_rfl
theorem hb_96 : hasBody EE.P 96 = true := by kernel_rfl
theorem hb_97 : hasBody EE.P 97 = true := by kernel_rfl
theorem ln_105 {h : Heap} {a : Option Addr} {n c : Nat} : lenV EE h 105 (.slice a n c) = some (.int .i64 n) := by kernel_rfl
theorem ln_128 {h : Heap} {a : Option Addr} {n c : Nat} : lenV EE h 128 (.slice a n c) = some (.int .i64 n) := by kernel_rfl
theorem ln_129 {h : Heap} {a : Option Addr} {n c : Nat} : lenV EE h 129 (.slice a n c) = some (.int .i64 n) := by kernel_rfl
theorem ln_159 {h : Heap} {a : Option Addr} {n c : Nat} : lenV EE h 159 (.slice a n c) = some (.int .i64 n) := by kernel_rfl
theorem ln_22 {h : Heap} {a : Option Addr} {n c : Nat} : lenV EE h 22 (.slice a n c) = some (.int .i64 n) := by kernel_rfl
theorem ln_42 {h : Heap} {a : Option Addr} {n c : Nat} : lenV EE h 42 (.slice a n c) = some (.int .i64 n) := by kernel_rfl
theorem sz_105 : sz EE.P 105 = some 1 := by kernel_rfl
theorem sz_127 : sz EE.P 127 = some 4 := by kernel_rfl
theorem sz_128 : sz EE.P 128 = some 1 := by kernel_rfl
theorem sz_129 : sz EE.P 129 = some 1 := by kernel_rfl
theorem sz_134 : sz EE.P 134 = some 1 := by kernel_rfl
theorem sz_135 : sz EE.P 135 = some 1 := by kernel_rfl
theorem sz_138 : sz EE.P 138 = some 6 := by kernel_rfl
theorem sz_155 : sz EE.P 155 = some 5 := by kernel_rfl
theorem sz_159 : sz EE.P 159 = some 1 := by kernel_rfl
theorem sz_175 : sz EE.P 175 = some 5 := by kernel_rfl
theorem sz_210 : sz EE.P 210 = some 1 := by kernel_rfl
theorem sz_24 : sz EE.P 24 = some 2 := by kernel_rfl
theorem sz_29 : sz EE.P 29 = some 1 := by kernel_rfl
theorem sz_3 : sz EE.P 3 = some 1 := by kernel_rfl
theorem sz_32 : sz EE.P 32 = some 1 := by kernel_rfl
theorem sz_36 : sz EE.P 36 = some 4 := by kernel_rfl
theorem sz_4 : sz EE.P 4 = some 1 := by kernel_rfl
theorem sz_45 : sz EE.P 45 = some 1 := by kernel_rfl
theorem sz_5 : sz EE.P 5 = some 1 := by kernel_rfl
theorem sz_56 : sz EE.P 56 = some 3 := by kernel_rfl
theorem sz_84 : sz EE.P 84 = some 1 := by kernel_rfl
theorem sz_85 : sz EE.P 85 = some 1 := by kernel_rfl
theorem sz_9 : sz EE.P 9 = some 1 := by kernel_rfl
theorem sz_93 : sz EE.P 93 = some 1 := by kernel_rfl
theorem sz_95 : sz EE.P 95 = some 4 := by kernel_rfl
theorem ut_105 : EE.P.underlying 105 = some (.slice 93) := by kernel_rfl
theorem ut_128 : EE.P.underlying 128 = some (.slice 127) := by kernel_rfl
theorem ut_129 : EE.P.underlying 129 = some (.slice 155) := by kernel_rfl
theorem ut_159 : EE.P.underlying 159 = some (.slice 175) := by kernel_rfl
theorem ut_22 : EE.P.underlying 22 = some (.slice 36) := by kernel_rfl
theorem ut_29 : EE.P.underlying 29 = some (.slice 56) := by kernel_rfl
theorem ut_42 : EE.P.underlying 42 = some (.slice 5) := by kernel_rfl
theorem ut_44 : EE.P.underlying 44 = some (.slice 32) := by kernel_rfl
theorem zo_127 : zeroOf EE.P 127 = some (Value.agg #[Value.string { data := #[] }, Value.int IntKind.i64 0, Value.int IntKind.u64 0, Value.int IntKind.i64 0]) := by kernel_rfl
theorem zo_134 : zeroOf EE.P 134 = some (Value.nilFunc) := by kernel_rfl
theorem zo_155 : zeroOf EE.P 155 = some (Value.agg #[Value.int IntKind.i64 0, Value.int IntKind.i64 0, Value.int IntKind.i64 0, Value.int IntKind.i64 0, Value.int IntKind.u64 0]) := by kernel_rfl
theorem zo_175 : zeroOf EE.P 175 = some (Value.agg #[Value.int IntKind.i64 0, Value.string { data := #[] }, Value.string { data := #[] }, Value.bool false, Value.int IntKind.u64 0]) := by kernel_rfl
theorem zo_210 : zeroOf EE.P 210 = some (Value.nilFunc) := by kernel_rfl
theorem zo_24 : zeroOf EE.P 24 = some (Value.agg #[Value.string { data := #[] }, Value.string { data := #[] }]) := by kernel_rfl
theorem zo_3 : zeroOf EE.P 3 = some (Value.int IntKind.i64 0) := by kernel_rfl
theorem zo_32 : zeroOf EE.P 32 = some (Value.pointer none) := by kernel_rfl
theorem zo_56 : zeroOf EE.P 56 = some (Value.agg #[Value.string { data := #[] }, Value.string { data := #[] }, Value.int IntKind.i64 0]) := by kernel_rfl
theorem zo_84 : zeroOf EE.P 84 = some (Value.nilFunc) := by kernel_rfl
theorem zo_85 : zeroOf EE.P 85 = some (Value.pointer none) := by kernel_rfl
theorem zo_93 : zeroOf EE.P 93 = some (Value.int IntKind.u64 0) := by kernel_rfl
theorem zo_95 : zeroOf EE.P 95 = some (Value.agg #[Value.bool false, Value.string { data := #[] }, Value.int IntKind.u64 0, Value.int IntKind.i64 0]) := by kernel_rfl
theorem zs_105_105 : zerosV EE.P #[105, 105] = some false := by kernel_rfl
theorem zs_128_128 : zerosV EE.P #[128, 128] = some false := by kernel_rfl
theorem zs_129_129 : zerosV EE.P #[129, 129] = some false := by kernel_rfl
theorem zs_159_159 : zerosV EE.P #[159, 159] = some false := by kernel_rfl
theorem zs_29_29 : zerosV EE.P #[29, 29] = some false := by kernel_rfl
theorem fs_36_0 {a : Addr} (h : a.spot = none ∨ a.spot = some 1) : fieldAddrV EE 36 (.pointer (some a)) 0 = some (.pointer (some ⟨a.block, a.off + 0, a.spot⟩)) := by
 obtain ⟨b, o, s⟩ := a
 rcases h with h | h
 ·
  cases h; kernel_rfl
 ·
  cases h; kernel_rfl
theorem fs_36_1 {a : Addr} (h : a.spot = none ∨ a.spot = some 1) : fieldAddrV EE 36 (.pointer (some a)) 1 = some (.pointer (some ⟨a.block, a.off + 1, a.spot⟩)) := by
 obtain ⟨b, o, s⟩ := a
 rcases h with h | h
 ·
  cases h; kernel_rfl
 ·
  cases h; kernel_rfl
theorem fs_36_2 {a : Addr} (h : a.spot = none ∨ a.spot = some 1) : fieldAddrV EE 36 (.pointer (some a)) 2 = some (.pointer (some ⟨a.block, a.off + 2, a.spot⟩)) := by
 obtain ⟨b, o, s⟩ := a
 rcases h with h | h
 ·
  cases h; kernel_rfl
 ·
  cases h; kernel_rfl
theorem fs_36_3 {a : Addr} (h : a.spot = none ∨ a.spot = some 1) : fieldAddrV EE 36 (.pointer (some a)) 3 = some (.pointer (some ⟨a.block, a.off + 3, a.spot⟩)) := by
 obtain ⟨b, o, s⟩ := a
 rcases h with h | h
 ·
  cases h; kernel_rfl
 ·
  cases h; kernel_rfl
theorem me_108_Step : EE.meth 108 "Step" = some 176 := by kernel_rfl
theorem me_85_Step : EE.meth 85 "Step" = some 65 := by kernel_rfl
end Go.Proofs.YtndhbaidibioeaaGreat.V
