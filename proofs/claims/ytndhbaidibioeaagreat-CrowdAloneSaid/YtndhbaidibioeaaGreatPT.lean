/- What the types of this seat are.
   No condition: these are laws of the clean machine and of this program. -/
import Derived.Test.YtndhbaidibioeaaGreatSa
import Derived.Test.YtndhbaidibioeaaGreatPF
namespace Go.Proofs.YtndhbaidibioeaaGreat.V
open Go
set_option linter.unusedVariables false
set_option linter.unusedSimpArgs false
set_option maxRecDepth 100000
theorem ag_105 : isAggT EE.P 105 = some false := by kernel_rfl
theorem ag_120 : isAggT EE.P 120 = some false := by kernel_rfl
theorem ag_125 : isAggT EE.P 125 = some false := by kernel_rfl
theorem ag_127 : isAggT EE.P 127 = some true := by kernel_rfl
theorem ag_128 : isAggT EE.P 128 = some false := by kernel_rfl
theorem ag_129 : isAggT EE.P 129 = some false := by kernel_rfl
theorem ag_134 : isAggT EE.P 134 = some false := by kernel_rfl
theorem ag_135 : isAggT EE.P 135 = some false := by kernel_rfl
theorem ag_138 : isAggT EE.P 138 = some true := by kernel_rfl
theorem ag_141 : isAggT EE.P 141 = some false := by kernel_rfl
theorem ag_155 : isAggT EE.P 155 = some true := by kernel_rfl
theorem ag_201 : isAggT EE.P 201 = some false := by kernel_rfl
theorem ag_210 : isAggT EE.P 210 = some false := by kernel_rfl
theorem ag_3 : isAggT EE.P 3 = some false := by kernel_rfl
theorem ag_4 : isAggT EE.P 4 = some false := by kernel_rfl
theorem ag_45 : isAggT EE.P 45 = some false := by kernel_rfl
theorem ag_51 : isAggT EE.P 51 = some false := by kernel_rfl
theorem ag_61 : isAggT EE.P 61 = some false := by kernel_rfl
theorem ag_65 : isAggT EE.P 65 = some false := by kernel_rfl
theorem ag_67 : isAggT EE.P 67 = some true := by kernel_rfl
theorem ag_74 : isAggT EE.P 74 = some false := by kernel_rfl
theorem ag_85 : isAggT EE.P 85 = some false := by kernel_rfl
theorem ag_9 : isAggT EE.P 9 = some false := by kernel_rfl
theorem ag_93 : isAggT EE.P 93 = some false := by kernel_rfl
theorem ag_95 : isAggT EE.P 95 = some true := by kernel_rfl
theorem at_103 : EE.P.funcs[103]? = some Tryz.f103 := by kernel_rfl
theorem at_104 : EE.P.funcs[104]? = some Tryz.f104 := by kernel_rfl
theorem at_105 : EE.P.funcs[105]? = some Tryz.f105 := by kernel_rfl
theorem at_106 : EE.P.funcs[106]? = some Tryz.f106 := by kernel_rfl
theorem at_107 : EE.P.funcs[107]? = some Tryz.f107 := by kernel_rfl
theorem at_111 : EE.P.funcs[111]? = some Tryz.f111 := by kernel_rfl
theorem at_114 : EE.P.funcs[114]? = some Tryz.f114 := by kernel_rfl
theorem at_115 : EE.P.funcs[115]? = some Tryz.f115 := by kernel_rfl
theorem at_116 : EE.P.funcs[116]? = some Tryz.f116 := by kernel_rfl
theorem at_117 : EE.P.funcs[117]? = some Tryz.f117 := by kernel_rfl
theorem at_118 : EE.P.funcs[118]? = some Tryz.f118 := by kernel_rfl
theorem at_119 : EE.P.funcs[119]? = some Tryz.f119 := by kernel_rfl
theorem at_120 : EE.P.funcs[120]? = some Tryz.f120 := by kernel_rfl
theorem at_121 : EE.P.funcs[121]? = some Tryz.f121 := by kernel_rfl
theorem at_126 : EE.P.funcs[126]? = some Tryz.f126 := by kernel_rfl
theorem at_127 : EE.P.funcs[127]? = some Tryz.f127 := by kernel_rfl
theorem at_128 : EE.P.funcs[128]? = some Tryz.f128 := by kernel_rfl
theorem at_129 : EE.P.funcs[129]? = some Tryz.f129 := by kernel_rfl
theorem at_130 : EE.P.funcs[130]? = some Tryz.f130 := by kernel_rfl
theorem at_131 : EE.P.funcs[131]? = some Tryz.f131 := by kernel_rfl
theorem at_132 : EE.P.funcs[132]? = some Tryz.f132 := by kernel_rfl
theorem at_133 : EE.P.funcs[133]? = some Tryz.f133 := by kernel_rfl
theorem at_134 : EE.P.funcs[134]? = some Tryz.f134 := by kernel_rfl
theorem at_135 : EE.P.funcs[135]? = some Tryz.f135 := by kernel_rfl
theorem at_138 : EE.P.funcs[138]? = some Tryz.f138 := by kernel_rfl
theorem at_139 : EE.P.funcs[139]? = some Tryz.f139 := by kernel_rfl
theorem at_140 : EE.P.funcs[140]? = some Tryz.f140 := by kernel_rfl
theorem at_141 : EE.P.funcs[141]? = some Tryz.f141 := by kernel_rfl
theorem at_142 : EE.P.funcs[142]? = some Tryz.f142 := by kernel_rfl
theorem at_143 : EE.P.funcs[143]? = some Tryz.f143 := by kernel_rfl
theorem at_144 : EE.P.funcs[144]? = some Tryz.f144 := by kernel_rfl
theorem at_145 : EE.P.funcs[145]? = some Tryz.f145 := by kernel_rfl
theorem at_146 : EE.P.funcs[146]? = some Tryz.f146 := by kernel_rfl
theorem at_147 : EE.P.funcs[147]? = some Tryz.f147 := by kernel_rfl
theorem at_148 : EE.P.funcs[148]? = some Tryz.f148 := by kernel_rfl
theorem at_149 : EE.P.funcs[149]? = some Tryz.f149 := by kernel_rfl
theorem at_150 : EE.P.funcs[150]? = some Tryz.f150 := by kernel_rfl
theorem at_151 : EE.P.funcs[151]? = some Tryz.f151 := by kernel_rfl
theorem at_152 : EE.P.funcs[152]? = some Tryz.f152 := by kernel_rfl
theorem at_153 : EE.P.funcs[153]? = some Tryz.f153 := by kernel_rfl
theorem at_154 : EE.P.funcs[154]? = some Tryz.f154 := by kernel_rfl
theorem at_155 : EE.P.funcs[155]? = some Tryz.f155 := by kernel_rfl
theorem at_156 : EE.P.funcs[156]? = some Tryz.f156 := by kernel_rfl
theorem at_157 : EE.P.funcs[157]? = some Tryz.f157 := by kernel_rfl
theorem at_158 : EE.P.funcs[158]? = some Tryz.f158 := by kernel_rfl
theorem at_159 : EE.P.funcs[159]? = some Tryz.f159 := by kernel_rfl
theorem at_160 : EE.P.funcs[160]? = some Tryz.f160 := by kernel_rfl
theorem at_24 : EE.P.funcs[24]? = some Tryz.f24 := by kernel_rfl
theorem at_28 : EE.P.funcs[28]? = some Tryz.f28 := by kernel_rfl
theorem at_29 : EE.P.funcs[29]? = some Tryz.f29 := by kernel_rfl
theorem at_30 : EE.P.funcs[30]? = some Tryz.f30 := by kernel_rfl
theorem at_31 : EE.P.funcs[31]? = some Tryz.f31 := by kernel_rfl
theorem at_32 : EE.P.funcs[32]? = some Tryz.f32 := by kernel_rfl
theorem at_33 : EE.P.funcs[33]? = some Tryz.f33 := by kernel_rfl
theorem at_34 : EE.P.funcs[34]? = some Tryz.f34 := by kernel_rfl
theorem at_35 : EE.P.funcs[35]? = some Tryz.f35 := by kernel_rfl
theorem at_36 : EE.P.funcs[36]? = some Tryz.f36 := by kernel_rfl
theorem at_41 : EE.P.funcs[41]? = some Tryz.f41 := by kernel_rfl
theorem at_44 : EE.P.funcs[44]? = some Tryz.f44 := by kernel_rfl
theorem at_52 : EE.P.funcs[52]? = some Tryz.f52 := by kernel_rfl
theorem at_57 : EE.P.funcs[57]? = some Tryz.f57 := by kernel_rfl
theorem at_58 : EE.P.funcs[58]? = some Tryz.f58 := by kernel_rfl
theorem at_59 : EE.P.funcs[59]? = some Tryz.f59 := by kernel_rfl
theorem at_62 : EE.P.funcs[62]? = some Tryz.f62 := by kernel_rfl
theorem at_63 : EE.P.funcs[63]? = some Tryz.f63 := by kernel_rfl
theorem at_64 : EE.P.funcs[64]? = some Tryz.f64 := by kernel_rfl
theorem at_65 : EE.P.funcs[65]? = some Tryz.f65 := by kernel_rfl
theorem at_66 : EE.P.funcs[66]? = some Tryz.f66 := by kernel_rfl
theorem at_68 : EE.P.funcs[68]? = some Tryz.f68 := by kernel_rfl
theorem at_69 : EE.P.funcs[69]? = some Tryz.f69 := by kernel_rfl
theorem at_70 : EE.P.funcs[70]? = some Tryz.f70 := by kernel_rfl
theorem at_71 : EE.P.funcs[71]? = some Tryz.f71 := by kernel_rfl
theorem at_72 : EE.P.funcs[72]? = some Tryz.f72 := by kernel_rfl
theorem at_73 : EE.P.funcs[73]? = some Tryz.f73 := by kernel_rfl
theorem at_74 : EE.P.funcs[74]? = some Tryz.f74 := by kernel_rfl
theorem at_75 : EE.P.funcs[75]? = some Tryz.f75 := by kernel_rfl
theorem at_76 : EE.P.funcs[76]? = some Tryz.f76 := by kernel_rfl
theorem at_79 : EE.P.funcs[79]? = some Tryz.f79 := by kernel_rfl
theorem at_8 : EE.P.funcs[8]? = some Tryz.f8 := by kernel_rfl
theorem at_89 : EE.P.funcs[89]? = some Tryz.f89 := by kernel_rfl
theorem at_90 : EE.P.funcs[90]? = some Tryz.f90 := by kernel_rfl
theorem at_91 : EE.P.funcs[91]? = some Tryz.f91 := by kernel_rfl
theorem at_92 : EE.P.funcs[92]? = some Tryz.f92 := by kernel_rfl
theorem at_93 : EE.P.funcs[93]? = some Tryz.f93 := by kernel_rfl
theorem at_94 : EE.P.funcs[94]? = some Tryz.f94 := by kernel_rfl
theorem at_95 : EE.P.funcs[95]? = some Tryz.f95 := by kernel_rfl
theorem at_96 : EE.P.funcs[96]? = some Tryz.f96 := by kernel_rfl
theorem at_97 : EE.P.funcs[97]? = some Tryz.f97 := by kernel_rfl
theorem bu_4 {x y : Bool} : binV EE .neq 4 (.bool x) (.bool y) = some (.bool (!(x == y))) := by kernel_rfl
theorem by_118 : bytesOf EE.P 118 = some 16 := by kernel_rfl
theorem by_127 : bytesOf EE.P 127 = some 40 := by kernel_rfl
theorem by_155 : bytesOf EE.P 155 = some 40 := by kernel_rfl
theorem by_76 : bytesOf EE.P 76 = some 48 := by kernel_rfl
theorem by_9 : bytesOf EE.P 9 = some 16 := by kernel_rfl
theorem by_93 : bytesOf EE.P 93 = some 8 := by kernel_rfl
theorem fa_107_0 (b o : Nat) : fieldAddrV EE 107 (.pointer (some ⟨b, o, none⟩)) 0 = some (.pointer (some ⟨b, o, none⟩)) := by kernel_rfl
theorem fa_107_1 (b o : Nat) : fieldAddrV EE 107 (.pointer (some ⟨b, o, none⟩)) 1 = some (.pointer (some ⟨b, o + 1, none⟩)) := by kernel_rfl
theorem fa_118_0 (b o : Nat) : fieldAddrV EE 118 (.pointer (some ⟨b, o, none⟩)) 0 = some (.pointer (some ⟨b, o, none⟩)) := by kernel_rfl
theorem fa_118_1 (b o : Nat) : fieldAddrV EE 118 (.pointer (some ⟨b, o, none⟩)) 1 = some (.pointer (some ⟨b, o + 1, none⟩)) := by kernel_rfl
theorem fa_122_0 (b o : Nat) : fieldAddrV EE 122 (.pointer (some ⟨b, o, none⟩)) 0 = some (.pointer (some ⟨b, o, none⟩)) := by kernel_rfl
theorem fa_122_1 (b o : Nat) : fieldAddrV EE 122 (.pointer (some ⟨b, o, none⟩)) 1 = some (.pointer (some ⟨b, o + 1, none⟩)) := by kernel_rfl
theorem fa_122_2 (b o : Nat) : fieldAddrV EE 122 (.pointer (some ⟨b, o, none⟩)) 2 = some (.pointer (some ⟨b, o + 2, none⟩)) := by kernel_rfl
theorem fa_127_0 (b o : Nat) : fieldAddrV EE 127 (.pointer (some ⟨b, o, none⟩)) 0 = some (.pointer (some ⟨b, o, none⟩)) := by kernel_rfl
theorem fa_127_1 (b o : Nat) : fieldAddrV EE 127 (.pointer (some ⟨b, o, none⟩)) 1 = some (.pointer (some ⟨b, o + 1, none⟩)) := by kernel_rfl
theorem fa_127_2 (b o : Nat) : fieldAddrV EE 127 (.pointer (some ⟨b, o, none⟩)) 2 = some (.pointer (some ⟨b, o + 2, none⟩)) := by kernel_rfl
theorem fa_127_3 (b o : Nat) : fieldAddrV EE 127 (.pointer (some ⟨b, o, none⟩)) 3 = some (.pointer (some ⟨b, o + 3, none⟩)) := by kernel_rfl
theorem fa_131_0 (b o : Nat) : fieldAddrV EE 131 (.pointer (some ⟨b, o, none⟩)) 0 = some (.pointer (some ⟨b, o, none⟩)) := by kernel_rfl
theorem fa_131_1 (b o : Nat) : fieldAddrV EE 131 (.pointer (some ⟨b, o, none⟩)) 1 = some (.pointer (some ⟨b, o + 1, none⟩)) := by kernel_rfl
theorem fa_131_2 (b o : Nat) : fieldAddrV EE 131 (.pointer (some ⟨b, o, none⟩)) 2 = some (.pointer (some ⟨b, o + 2, none⟩)) := by kernel_rfl
theorem fa_138_0 (b o : Nat) : fieldAddrV EE 138 (.pointer (some ⟨b, o, none⟩)) 0 = some (.pointer (some ⟨b, o, none⟩)) := by kernel_rfl
theorem fa_138_1 (b o : Nat) : fieldAddrV EE 138 (.pointer (some ⟨b, o, none⟩)) 1 = some (.pointer (some ⟨b, o + 1, none⟩)) := by kernel_rfl
theorem fa_138_2 (b o : Nat) : fieldAddrV EE 138 (.pointer (some ⟨b, o, none⟩)) 2 = some (.pointer (some ⟨b, o + 2, none⟩)) := by kernel_rfl
theorem fa_138_3 (b o : Nat) : fieldAddrV EE 138 (.pointer (some ⟨b, o, none⟩)) 3 = some (.pointer (some ⟨b, o + 3, none⟩)) := by kernel_rfl
theorem fa_138_4 (b o : Nat) : fieldAddrV EE 138 (.pointer (some ⟨b, o, none⟩)) 4 = some (.pointer (some ⟨b, o + 4, none⟩)) := by kernel_rfl
theorem fa_138_5 (b o : Nat) : fieldAddrV EE 138 (.pointer (some ⟨b, o, none⟩)) 5 = some (.pointer (some ⟨b, o + 5, none⟩)) := by kernel_rfl
theorem fa_146_0 (b o : Nat) : fieldAddrV EE 146 (.pointer (some ⟨b, o, none⟩)) 0 = some (.pointer (some ⟨b, o, none⟩)) := by kernel_rfl
theorem fa_146_1 (b o : Nat) : fieldAddrV EE 146 (.pointer (some ⟨b, o, none⟩)) 1 = some (.pointer (some ⟨b, o + 4, none⟩)) := by kernel_rfl
theorem fa_155_0 (b o : Nat) : fieldAddrV EE 155 (.pointer (some ⟨b, o, none⟩)) 0 = some (.pointer (some ⟨b, o, none⟩)) := by kernel_rfl
theorem fa_155_1 (b o : Nat) : fieldAddrV EE 155 (.pointer (some ⟨b, o, none⟩)) 1 = some (.pointer (some ⟨b, o + 1, none⟩)) := by kernel_rfl
theorem fa_155_2 (b o : Nat) : fieldAddrV EE 155 (.pointer (some ⟨b, o, none⟩)) 2 = some (.pointer (some ⟨b, o + 2, none⟩)) := by kernel_rfl
theorem fa_155_3 (b o : Nat) : fieldAddrV EE 155 (.pointer (some ⟨b, o, none⟩)) 3 = some (.pointer (some ⟨b, o + 3, none⟩)) := by kernel_rfl
theorem fa_155_4 (b o : Nat) : fieldAddrV EE 155 (.pointer (some ⟨b, o, none⟩)) 4 = some (.pointer (some ⟨b, o + 4, none⟩)) := by kernel_rfl
theorem fa_67_0 (b o : Nat) : fieldAddrV EE 67 (.pointer (some ⟨b, o, none⟩)) 0 = some (.pointer (some ⟨b, o, none⟩)) := by kernel_rfl
theorem fa_67_1 (b o : Nat) : fieldAddrV EE 67 (.pointer (some ⟨b, o, none⟩)) 1 = some (.pointer (some ⟨b, o + 1, none⟩)) := by kernel_rfl
theorem fa_67_2 (b o : Nat) : fieldAddrV EE 67 (.pointer (some ⟨b, o, none⟩)) 2 = some (.pointer (some ⟨b, o + 2, none⟩)) := by kernel_rfl
theorem fa_73_0 (b o : Nat) : fieldAddrV EE 73 (.pointer (some ⟨b, o, none⟩)) 0 = some (.pointer (some ⟨b, o, none⟩)) := by kernel_rfl
theorem fa_73_1 (b o : Nat) : fieldAddrV EE 73 (.pointer (some ⟨b, o, none⟩)) 1 = some (.pointer (some ⟨b, o + 1, none⟩)) := by kernel_rfl
theorem fa_76_2 (b o : Nat) : fieldAddrV EE 76 (.pointer (some ⟨b, o, none⟩)) 2 = some (.pointer (some ⟨b, o + 2, none⟩)) := by kernel_rfl
theorem fa_76_4 (b o : Nat) : fieldAddrV EE 76 (.pointer (some ⟨b, o, none⟩)) 4 = some (.pointer (some ⟨b, o + 4, none⟩)) := by kernel_rfl
theorem fa_95_0 (b o : Nat) : fieldAddrV EE 95 (.pointer (some ⟨b, o, none⟩)) 0 = some (.pointer (some ⟨b, o, none⟩)) := by kernel_rfl
theorem fa_95_2 (b o : Nat) : fieldAddrV EE 95 (.pointer (some ⟨b, o, none⟩)) 2 = some (.pointer (some ⟨b, o + 2, none⟩)) := by kernel_rfl
theorem fa_95_3 (b o : Nat) : fieldAddrV EE 95 (.pointer (some ⟨b, o, none⟩)) 3 = some (.pointer (some ⟨b, o + 3, none⟩)) := by kernel_rfl
theorem hb_103 : hasBody EE.P 103 = true := by kernel_rfl
theorem hb_104 : hasBody EE.P 104 = true := by kernel_rfl
theorem hb_105 : hasBody EE.P 105 = true := by kernel_rfl
theorem hb_106 : hasBody EE.P 106 = true := by kernel_rfl
theorem hb_107 : hasBody EE.P 107 = true := by kernel_rfl
theorem hb_111 : hasBody EE.P 111 = true := by kernel_rfl
theorem hb_114 : hasBody EE.P 114 = true := by kernel_rfl
theorem hb_115 : hasBody EE.P 115 = true := by kernel_rfl
theorem hb_116 : hasBody EE.P 116 = true := by kernel_rfl
theorem hb_117 : hasBody EE.P 117 = true := by kernel_rfl
theorem hb_118 : hasBody EE.P 118 = true := by kernel_rfl
theorem hb_119 : hasBody EE.P 119 = true := by kernel_rfl
theorem hb_120 : hasBody EE.P 120 = true := by kernel_rfl
theorem hb_121 : hasBody EE.P 121 = true := by kernel_rfl
theorem hb_126 : hasBody EE.P 126 = true := by kernel_rfl
theorem hb_127 : hasBody EE.P 127 = true := by kernel_rfl
theorem hb_128 : hasBody EE.P 128 = true := by kernel_rfl
theorem hb_129 : hasBody EE.P 129 = true := by kernel_rfl
theorem hb_130 : hasBody EE.P 130 = true := by kernel_rfl
theorem hb_131 : hasBody EE.P 131 = true := by kernel_rfl
theorem hb_132 : hasBody EE.P 132 = true := by kernel_rfl
theorem hb_133 : hasBody EE.P 133 = true := by kernel_rfl
theorem hb_134 : hasBody EE.P 134 = true := by kernel_rfl
theorem hb_135 : hasBody EE.P 135 = true := by kernel_rfl
theorem hb_138 : hasBody EE.P 138 = true := by kernel_rfl
theorem hb_139 : hasBody EE.P 139 = true := by kernel_rfl
theorem hb_140 : hasBody EE.P 140 = true := by kernel_rfl
theorem hb_141 : hasBody EE.P 141 = true := by kernel_rfl
theorem hb_142 : hasBody EE.P 142 = true := by kernel_rfl
theorem hb_143 : hasBody EE.P 143 = true := by kernel_rfl
theorem hb_144 : hasBody EE.P 144 = true := by kernel_rfl
theorem hb_145 : hasBody EE.P 145 = true := by kernel_rfl
theorem hb_146 : hasBody EE.P 146 = true := by kernel_rfl
theorem hb_147 : hasBody EE.P 147 = true := by kernel_rfl
theorem hb_148 : hasBody EE.P 148 = true := by kernel_rfl
theorem hb_149 : hasBody EE.P 149 = true := by kernel_rfl
theorem hb_150 : hasBody EE.P 150 = true := by kernel_rfl
theorem hb_151 : hasBody EE.P 151 = true := by kernel_rfl
theorem hb_152 : hasBody EE.P 152 = true := by kernel_rfl
theorem hb_153 : hasBody EE.P 153 = true := by kernel_rfl
theorem hb_154 : hasBody EE.P 154 = true := by kernel_rfl
theorem hb_155 : hasBody EE.P 155 = true := by kernel_rfl
theorem hb_156 : hasBody EE.P 156 = true := by kernel_rfl
theorem hb_157 : hasBody EE.P 157 = true := by kernel_rfl
theorem hb_158 : hasBody EE.P 158 = true := by kernel_rfl
theorem hb_159 : hasBody EE.P 159 = true := by kernel_rfl
theorem hb_160 : hasBody EE.P 160 = true := by kernel_rfl
theorem hb_24 : hasBody EE.P 24 = true := by kernel_rfl
theorem hb_27 : hasBody EE.P 27 = true := by kernel_rfl
theorem hb_28 : hasBody EE.P 28 = true := by kernel_rfl
theorem hb_29 : hasBody EE.P 29 = true := by kernel_rfl
theorem hb_30 : hasBody EE.P 30 = true := by kernel_rfl
theorem hb_31 : hasBody EE.P 31 = true := by kernel_rfl
theorem hb_32 : hasBody EE.P 32 = true := by kernel_rfl
theorem hb_33 : hasBody EE.P 33 = true := by kernel_rfl
theorem hb_34 : hasBody EE.P 34 = true := by kernel_rfl
theorem hb_35 : hasBody EE.P 35 = true := by kernel_rfl
theorem hb_36 : hasBody EE.P 36 = true := by kernel_rfl
theorem hb_41 : hasBody EE.P 41 = true := by kernel_rfl
theorem hb_44 : hasBody EE.P 44 = true := by kernel_rfl
theorem hb_52 : hasBody EE.P 52 = true := by kernel_rfl
theorem hb_57 : hasBody EE.P 57 = true := by kernel_rfl
theorem hb_58 : hasBody EE.P 58 = true := by kernel_rfl
theorem hb_59 : hasBody EE.P 59 = true := by kernel_rfl
theorem hb_62 : hasBody EE.P 62 = true := by kernel_rfl
theorem hb_63 : hasBody EE.P 63 = true := by kernel_rfl
theorem hb_64 : hasBody EE.P 64 = true := by kernel_rfl
theorem hb_65 : hasBody EE.P 65 = true := by kernel_rfl
theorem hb_66 : hasBody EE.P 66 = true := by kernel_rfl
theorem hb_67 : hasBody EE.P 67 = true := by kernel_rfl
theorem hb_68 : hasBody EE.P 68 = true := by kernel_rfl
theorem hb_69 : hasBody EE.P 69 = true := by kernel_rfl
theorem hb_70 : hasBody EE.P 70 = true := by kernel_rfl
theorem hb_71 : hasBody EE.P 71 = true := by kernel_rfl
theorem hb_72 : hasBody EE.P 72 = true := by kernel_rfl
theorem hb_73 : hasBody EE.P 73 = true := by kernel_rfl
theorem hb_74 : hasBody EE.P 74 = true := by kernel_rfl
theorem hb_75 : hasBody EE.P 75 = true := by kernel_rfl
theorem hb_76 : hasBody EE.P 76 = true := by kernel_rfl
theorem hb_79 : hasBody EE.P 79 = true := by kernel_rfl
theorem hb_89 : hasBody EE.P 89 = true := by kernel_rfl
theorem hb_90 : hasBody EE.P 90 = true := by kernel_rfl
theorem hb_91 : hasBody EE.P 91 = true := by kernel_rfl
theorem hb_92 : hasBody EE.P 92 = true := by kernel_rfl
theorem hb_93 : hasBody EE.P 93 = true := by kernel_rfl
theorem hb_94 : hasBody EE.P 94 = true := by kernel_rfl
theorem hb_95 : hasBody EE.P 95 = true := by kernel_rfl
theorem hb_96 : hasBody EE.P 96 = true := by kernel_rfl
theorem hb_97 : hasBody EE.P 97 = true := by kernel_rfl
theorem ln_105 {h : Heap} {a : Option Addr} {n c : Nat} : lenV EE h 105 (.slice a n c) = some (.int .i64 n) := by kernel_rfl
theorem ln_120 {h : Heap} {a : Option Addr} {n c : Nat} : lenV EE h 120 (.slice a n c) = some (.int .i64 n) := by kernel_rfl
theorem ln_128 {h : Heap} {a : Option Addr} {n c : Nat} : lenV EE h 128 (.slice a n c) = some (.int .i64 n) := by kernel_rfl
theorem ln_129 {h : Heap} {a : Option Addr} {n c : Nat} : lenV EE h 129 (.slice a n c) = some (.int .i64 n) := by kernel_rfl
theorem ln_60 {h : Heap} {a : Option Addr} {n c : Nat} : lenV EE h 60 (.slice a n c) = some (.int .i64 n) := by kernel_rfl
theorem ln_65 {h : Heap} {a : Option Addr} {n c : Nat} : lenV EE h 65 (.slice a n c) = some (.int .i64 n) := by kernel_rfl
theorem ln_74 {h : Heap} {a : Option Addr} {n c : Nat} : lenV EE h 74 (.slice a n c) = some (.int .i64 n) := by kernel_rfl
theorem sz_105 : sz EE.P 105 = some 1 := by kernel_rfl
theorem sz_118 : sz EE.P 118 = some 2 := by kernel_rfl
theorem sz_125 : sz EE.P 125 = some 1 := by kernel_rfl
theorem sz_127 : sz EE.P 127 = some 4 := by kernel_rfl
theorem sz_128 : sz EE.P 128 = some 1 := by kernel_rfl
theorem sz_129 : sz EE.P 129 = some 1 := by kernel_rfl
theorem sz_134 : sz EE.P 134 = some 1 := by kernel_rfl
theorem sz_135 : sz EE.P 135 = some 1 := by kernel_rfl
theorem sz_138 : sz EE.P 138 = some 6 := by kernel_rfl
theorem sz_155 : sz EE.P 155 = some 5 := by kernel_rfl
theorem sz_210 : sz EE.P 210 = some 1 := by kernel_rfl
theorem sz_3 : sz EE.P 3 = some 1 := by kernel_rfl
theorem sz_4 : sz EE.P 4 = some 1 := by kernel_rfl
theorem sz_65 : sz EE.P 65 = some 1 := by kernel_rfl
theorem sz_67 : sz EE.P 67 = some 3 := by kernel_rfl
theorem sz_74 : sz EE.P 74 = some 1 := by kernel_rfl
theorem sz_76 : sz EE.P 76 = some 5 := by kernel_rfl
theorem sz_9 : sz EE.P 9 = some 1 := by kernel_rfl
theorem sz_93 : sz EE.P 93 = some 1 := by kernel_rfl
theorem sz_95 : sz EE.P 95 = some 4 := by kernel_rfl
theorem ut_105 : EE.P.underlying 105 = some (.slice 93) := by kernel_rfl
theorem ut_120 : EE.P.underlying 120 = some (.slice 118) := by kernel_rfl
theorem ut_128 : EE.P.underlying 128 = some (.slice 127) := by kernel_rfl
theorem ut_129 : EE.P.underlying 129 = some (.slice 155) := by kernel_rfl
theorem ut_60 : EE.P.underlying 60 = some (.slice 67) := by kernel_rfl
theorem ut_65 : EE.P.underlying 65 = some (.slice 9) := by kernel_rfl
theorem ut_74 : EE.P.underlying 74 = some (.slice 76) := by kernel_rfl
theorem zo_118 : zeroOf EE.P 118 = some (Value.agg #[Value.pointer none, Value.int IntKind.i64 0]) := by kernel_rfl
theorem zo_125 : zeroOf EE.P 125 = some (Value.nilFunc) := by kernel_rfl
theorem zo_127 : zeroOf EE.P 127 = some (Value.agg #[Value.string { data := #[] }, Value.int IntKind.i64 0, Value.int IntKind.u64 0, Value.int IntKind.i64 0]) := by kernel_rfl
theorem zo_134 : zeroOf EE.P 134 = some (Value.nilFunc) := by kernel_rfl
theorem zo_155 : zeroOf EE.P 155 = some (Value.agg #[Value.int IntKind.i64 0, Value.int IntKind.i64 0, Value.int IntKind.i64 0, Value.int IntKind.i64 0, Value.int IntKind.u64 0]) := by kernel_rfl
theorem zo_210 : zeroOf EE.P 210 = some (Value.nilFunc) := by kernel_rfl
theorem zo_3 : zeroOf EE.P 3 = some (Value.int IntKind.i64 0) := by kernel_rfl
theorem zo_65 : zeroOf EE.P 65 = some (Value.slice none 0 0) := by kernel_rfl
theorem zo_67 : zeroOf EE.P 67 = some (Value.agg #[Value.int IntKind.i64 0, Value.int IntKind.i64 0, Value.string { data := #[] }]) := by kernel_rfl
theorem zo_76 : zeroOf EE.P 76 = some (Value.agg #[Value.int IntKind.i64 0, Value.string { data := #[] }, Value.bool false, Value.int IntKind.i64 0, Value.int IntKind.i64 0]) := by kernel_rfl
theorem zo_9 : zeroOf EE.P 9 = some (Value.string { data := #[] }) := by kernel_rfl
theorem zo_93 : zeroOf EE.P 93 = some (Value.int IntKind.u64 0) := by kernel_rfl
theorem zo_95 : zeroOf EE.P 95 = some (Value.agg #[Value.bool false, Value.string { data := #[] }, Value.int IntKind.u64 0, Value.int IntKind.i64 0]) := by kernel_rfl
theorem zs_105_105 : zerosV EE.P #[105, 105] = some false := by kernel_rfl
theorem zs_128_128 : zerosV EE.P #[128, 128] = some false := by kernel_rfl
theorem zs_129_129 : zerosV EE.P #[129, 129] = some false := by kernel_rfl
theorem zs_65_65 : zerosV EE.P #[65, 65] = some false := by kernel_rfl
theorem zs_74_74 : zerosV EE.P #[74, 74] = some false := by kernel_rfl
theorem fs_76_2 {a : Addr} (h : a.spot = none ∨ a.spot = some 1) : fieldAddrV EE 76 (.pointer (some a)) 2 = some (.pointer (some ⟨a.block, a.off + 2, a.spot⟩)) := by
 obtain ⟨b, o, s⟩ := a
 rcases h with h | h
 ·
  cases h; kernel_rfl
 ·
  cases h; kernel_rfl
theorem fs_76_4 {a : Addr} (h : a.spot = none ∨ a.spot = some 1) : fieldAddrV EE 76 (.pointer (some a)) 4 = some (.pointer (some ⟨a.block, a.off + 4, a.spot⟩)) := by
 obtain ⟨b, o, s⟩ := a
 rcases h with h | h
 ·
  cases h; kernel_rfl
 ·
  cases h; kernel_rfl
theorem evo_cloneA_67 {h : Heap} (hw : Wf h) {q : Option Addr} {tl : List Blk} {xs ys : List Torder_Call} (f0 : AccR R_Torder_Call 76 h tl (.slice q xs.length xs.length) xs) (hy : cloneL 48 xs = some ys) :
 EvO EE 67 [.slice q xs.length xs.length] [tl] h (fun v S h1 => ∃ q2 t2, v = .slice q2 ys.length ys.length ∧ S = [t2, tl] ∧ AccR R_Torder_Call 76 h1 t2 (.slice q2 ys.length ys.length) ys ∧ AccR R_Torder_Call 76 h1 tl (.slice q xs.length xs.length) xs) := by
 obtain ⟨hr, rfl⟩ := cloneL_some hy
 cases q with
 | none =>
  have e0 : ys = [] ∧ tl = [] := by
   obtain ⟨_, ⟨h1, _, h3⟩ | ⟨b, rows, h2, _⟩⟩ := f0
   ·
    exact ⟨h1, h3⟩
   ·
    simp at h2
  obtain ⟨e0, e1⟩ := e0
  subst e0 e1
  refine evo_of rfl (show EE.P.funcs[67]? = some Tryz.f67 by kernel_rfl) rfl rfl ?_
  refine go_seq ?_
  refine go_region ?_
  refine gAc rfl rfl ?_
  refine go_nil ?_
  refine go_seq ?_
  refine go_seq ?_
  refine go_region ?_
  refine gM rfl rfl ?_
  refine gr rfl (r_bin (v := .bool true) (ot rfl) (oc rfl) (by kernel_rfl)) ?_
  refine go_nil ?_
  refine g_cond (b := true) (ot rfl) (fun _ => ?_) (fun h => by cases h)
  refine go_seq ?_
  refine go_region ?_
  refine gAc rfl rfl ?_
  refine go_nil ?_
  exact g_ret (rst rfl rs0) (fun h1 hf hs => ⟨[[], []], _, hf, HExt.refl _, hw, hs, nde (nde nd0), none, [], rfl, rfl, AccR.nil _ _ _, f0⟩)
 | some a =>
  obtain ⟨rw1, hw1, hq1⟩ := AccR.first f0 (by decide)
  refine evo_of rfl (show EE.P.funcs[67]? = some Tryz.f67 by kernel_rfl) rfl rfl ?_
  refine go_seq ?_
  refine go_region ?_
  refine gAc rfl rfl ?_
  refine go_nil ?_
  refine go_seq ?_
  refine go_seq ?_
  refine go_region ?_
  refine gM rfl rfl ?_
  refine gr rfl (r_bin (v := .bool false) (ot rfl) (oc rfl) (by kernel_rfl)) ?_
  refine go_nil ?_
  refine g_cond (b := false) (ot rfl) (fun h => by cases h) (fun _ => ?_)
  refine go_skip ?_
  refine go_seq ?_
  refine go_region ?_
  refine gs_bslice (cs := []) rfl op0 ut_74 sz_76 zo_76 rfl rfl ?_; intro b5
  refine gM rfl rfl ?_
  refine gs_app0 (rows2 := rw1) (R := R_Torder_Call) rfl (os1 (ot rfl) (os1 (ot rfl) os0)) rfl ut_74 sz_76 rfl (by decide) by_76 zo_76 rfl (by kernel_rfl) rfl rfl (fun h' hf hs => hq1 _ h' hf (fun e he => by simp [he]) hs) hw1 (AccR.lit _ _ _ _) hr (fun p1 tl1 f1 => ?_)
  refine gA rfl rfl ?_
  refine go_nil ?_
  refine gs_sub (.cons_cons _ (.cons _ (.refl _))) ?_
  exact g_ret (rst rfl rs0) (fun h1 hf hs => ⟨[tl1, tl], _, hf, HExt.refl _, hw, hs, ndt f1 (ndt f0 nd0), _, _, rfl, rfl, f1, f0⟩)
end Go.Proofs.YtndhbaidibioeaaGreat.V
