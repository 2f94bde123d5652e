/- The environment of this seat, with what the library tells of its own calls.
   No condition. -/
import Derived.Test.YtpfdandpmpmbiaaSg
import Derived.Test.YtpfdandpmpmbiaaSh
import Derived.Test.YtpfdandpmpmbiaaChecked
namespace Go.Proofs.Ytpfdandpmpmbiaa.V
open Go
set_option maxRecDepth 100000
set_option linter.unusedVariables false
def lay190_ren : Go.Shelf.Ren := ⟨fun | 125 => 103 | 128 => 122 | 129 => 123 | 190 => 79 | 258 => 102 | 302 => 113 | 303 => 114 | 304 => 115 | 305 => 116 | 306 => 117 | 307 => 118 | 308 => 119 | 309 => 120 | 310 => 121 | 329 => 128 | 330 => 129 | 333 => 127 | 334 => 130 | 335 => 131 | 336 => 105 | 344 => 133 | n => n, fun | 0 => 0 | 3 => 3 | 4 => 4 | 5 => 5 | 9 => 9 | 31 => 102 | 46 => 161 | 51 => 177 | 53 => 179 | 131 => 142 | 182 => 169 | 183 => 170 | 218 => 181 | 222 => 185 | 228 => 188 | 229 => 189 | n => n, fun n => n⟩
theorem lay190 : Lays.n190 Go.Proofs.Try.prog lay190_ren := {
  mixed := by kernel_rfl
  f125 := Go.Proofs.Try.func103.trans (congrArg some (by kernel_rfl))
  f128 := Go.Proofs.Try.func122.trans (congrArg some (by kernel_rfl))
  f129 := Go.Proofs.Try.func123.trans (congrArg some (by kernel_rfl))
  f190 := Go.Proofs.Try.func79.trans (congrArg some (by kernel_rfl))
  f258 := Go.Proofs.Try.func102.trans (congrArg some (by kernel_rfl))
  f302 := Go.Proofs.Try.func113.trans (congrArg some (by kernel_rfl))
  f303 := Go.Proofs.Try.func114.trans (congrArg some (by kernel_rfl))
  f304 := Go.Proofs.Try.func115.trans (congrArg some (by kernel_rfl))
  f305 := Go.Proofs.Try.func116.trans (congrArg some (by kernel_rfl))
  f306 := Go.Proofs.Try.func117.trans (congrArg some (by kernel_rfl))
  f307 := Go.Proofs.Try.func118.trans (congrArg some (by kernel_rfl))
  f308 := Go.Proofs.Try.func119.trans (congrArg some (by kernel_rfl))
  f309 := Go.Proofs.Try.func120.trans (congrArg some (by kernel_rfl))
  f310 := Go.Proofs.Try.func121.trans (congrArg some (by kernel_rfl))
  f329 := Go.Proofs.Try.func128.trans (congrArg some (by kernel_rfl))
  f330 := Go.Proofs.Try.func129.trans (congrArg some (by kernel_rfl))
  f333 := Go.Proofs.Try.func127.trans (congrArg some (by kernel_rfl))
  f334 := Go.Proofs.Try.func130.trans (congrArg some (by kernel_rfl))
  f335 := Go.Proofs.Try.func131.trans (congrArg some (by kernel_rfl))
  f336 := Go.Proofs.Try.func105.trans (congrArg some (by kernel_rfl))
  f344 := Go.Proofs.Try.func133.trans (congrArg some (by kernel_rfl))
  t0 := Go.Proofs.Try.underlying0
  a0 := Go.Proofs.Try.isAgg0
  z0 := Go.Proofs.Try.sizeOf0
  v0 := Go.Proofs.Try.zeroValue0
  t3 := Go.Proofs.Try.underlying3
  a3 := Go.Proofs.Try.isAgg3
  z3 := Go.Proofs.Try.sizeOf3
  v3 := Go.Proofs.Try.zeroValue3
  t4 := Go.Proofs.Try.underlying4
  a4 := Go.Proofs.Try.isAgg4
  z4 := Go.Proofs.Try.sizeOf4
  v4 := Go.Proofs.Try.zeroValue4
  t5 := Go.Proofs.Try.underlying5
  a5 := Go.Proofs.Try.isAgg5
  z5 := Go.Proofs.Try.sizeOf5
  v5 := Go.Proofs.Try.zeroValue5
  t9 := Go.Proofs.Try.underlying9
  a9 := Go.Proofs.Try.isAgg9
  z9 := Go.Proofs.Try.sizeOf9
  v9 := Go.Proofs.Try.zeroValue9
  t31 := Go.Proofs.Try.underlying102
  a31 := Go.Proofs.Try.isAgg102
  z31 := Go.Proofs.Try.sizeOf102
  v31 := Go.Proofs.Try.zeroValue102
  t46 := Go.Proofs.Try.underlying161
  a46 := Go.Proofs.Try.isAgg161
  z46 := Go.Proofs.Try.sizeOf161
  v46 := Go.Proofs.Try.zeroValue161
  t51 := Go.Proofs.Try.underlying177
  a51 := Go.Proofs.Try.isAgg177
  z51 := Go.Proofs.Try.sizeOf177
  v51 := Go.Proofs.Try.zeroValue177
  t53 := Go.Proofs.Try.underlying179
  a53 := Go.Proofs.Try.isAgg179
  z53 := Go.Proofs.Try.sizeOf179
  v53 := Go.Proofs.Try.zeroValue179
  t131 := Go.Proofs.Try.underlying142
  a131 := Go.Proofs.Try.isAgg142
  z131 := Go.Proofs.Try.sizeOf142
  v131 := Go.Proofs.Try.zeroValue142
  t182 := Go.Proofs.Try.underlying169
  a182 := Go.Proofs.Try.isAgg169
  z182 := Go.Proofs.Try.sizeOf169
  v182 := Go.Proofs.Try.zeroValue169
  t183 := Go.Proofs.Try.underlying170
  a183 := Go.Proofs.Try.isAgg170
  z183 := Go.Proofs.Try.sizeOf170
  v183 := Go.Proofs.Try.zeroValue170
  t218 := Go.Proofs.Try.underlying181
  a218 := Go.Proofs.Try.isAgg181
  z218 := Go.Proofs.Try.sizeOf181
  v218 := Go.Proofs.Try.zeroValue181
  t222 := Go.Proofs.Try.underlying185
  a222 := Go.Proofs.Try.isAgg185
  z222 := Go.Proofs.Try.sizeOf185
  v222 := Go.Proofs.Try.zeroValue185
  t228 := Go.Proofs.Try.underlying188
  a228 := Go.Proofs.Try.isAgg188
  z228 := Go.Proofs.Try.sizeOf188
  v228 := Go.Proofs.Try.zeroValue188
  t229 := Go.Proofs.Try.underlying189
  a229 := Go.Proofs.Try.isAgg189
  z229 := Go.Proofs.Try.sizeOf189
  v229 := Go.Proofs.Try.zeroValue189 }
def lay194_ren : Go.Shelf.Ren := ⟨fun | 194 => 110 | n => n, fun | 0 => 0 | 3 => 3 | 4 => 4 | 9 => 9 | 31 => 102 | n => n, fun n => n⟩
theorem lay194 : Lays.n194 Go.Proofs.Try.prog lay194_ren := {
  mixed := by kernel_rfl
  f194 := Go.Proofs.Try.func110.trans (congrArg some (by kernel_rfl))
  t0 := Go.Proofs.Try.underlying0
  a0 := Go.Proofs.Try.isAgg0
  z0 := Go.Proofs.Try.sizeOf0
  v0 := Go.Proofs.Try.zeroValue0
  t3 := Go.Proofs.Try.underlying3
  a3 := Go.Proofs.Try.isAgg3
  z3 := Go.Proofs.Try.sizeOf3
  v3 := Go.Proofs.Try.zeroValue3
  t4 := Go.Proofs.Try.underlying4
  a4 := Go.Proofs.Try.isAgg4
  z4 := Go.Proofs.Try.sizeOf4
  v4 := Go.Proofs.Try.zeroValue4
  t9 := Go.Proofs.Try.underlying9
  a9 := Go.Proofs.Try.isAgg9
  z9 := Go.Proofs.Try.sizeOf9
  v9 := Go.Proofs.Try.zeroValue9
  t31 := Go.Proofs.Try.underlying102
  a31 := Go.Proofs.Try.isAgg102
  z31 := Go.Proofs.Try.sizeOf102
  v31 := Go.Proofs.Try.zeroValue102 }
noncomputable def EE : Env := envP EK [(79, rowP encStr decS sortL), (110, partP encStr decS [] Lib.compact), (109, shrinkP 3 EK 109), (86, shrinkP 3 EK 86), (87, insP 3 40 47 EK 87)]
theorem EE_prs : ∀ p ∈ [((79, rowP encStr decS sortL) : Nat × (List Value → Heap → Option (Value × Heap))), ((110, partP encStr decS [] Lib.compact) : Nat × (List Value → Heap → Option (Value × Heap))), ((109, shrinkP 3 EK 109) : Nat × (List Value → Heap → Option (Value × Heap))), ((86, shrinkP 3 EK 86) : Nat × (List Value → Heap → Option (Value × Heap))), ((87, insP 3 40 47 EK 87) : Nat × (List Value → Heap → Option (Value × Heap)))], Framed (fun _ => p.2) := by
  intro p hp
  simp only [List.mem_cons, List.not_mem_nil, or_false] at hp
  rcases hp with rfl | rfl | rfl | rfl | rfl
  · exact rowP_framed _ _ _
  · exact partP_framed _ _ _ _
  · exact shrinkP_framed _ EK_fr _
  · exact shrinkP_framed _ EK_fr _
  · exact insP_framed EK_fr _
theorem EE_fr : FramedE EE := envP_framed EK_fr EE_prs
theorem EE_ok : SideOK EE := envP_ok EK_ok EE_prs (by
  intro p hp
  simp only [List.mem_cons, List.not_mem_nil, or_false] at hp
  rcases hp with rfl | rfl | rfl | rfl | rfl
  · exact sortS_ok lay190
  · exact compactS_ok lay194
  · exact shrinkP_ok _ EK_ok _
  · exact shrinkP_ok _ EK_ok _
  · exact insP_ok EK_ok insRun_87)
end Go.Proofs.Ytpfdandpmpmbiaa.V
