/- The environment of this seat, with what the library tells of its own calls.
   No condition. -/
import Derived.Test.YtadfhabapgipbaaVs
import Derived.Test.YtadfhabapgipbaaSa
import Derived.Test.YtadfhabapgipbaaChecked
namespace Go.Proofs.Ytadfhabapgipbaa.V
open Go
set_option maxRecDepth 100000
set_option linter.unusedVariables false
def lay190_ren : Go.Shelf.Ren := ⟨fun | 125 => 79 | 128 => 95 | 129 => 96 | 190 => 60 | 258 => 78 | 302 => 86 | 303 => 87 | 304 => 88 | 305 => 89 | 306 => 90 | 307 => 91 | 308 => 92 | 309 => 93 | 310 => 94 | 329 => 100 | 330 => 101 | 333 => 99 | 334 => 102 | 335 => 103 | 336 => 80 | 344 => 105 | n => n, fun | 0 => 0 | 3 => 3 | 4 => 4 | 5 => 5 | 9 => 9 | 31 => 49 | 46 => 134 | 51 => 147 | 53 => 149 | 131 => 116 | 182 => 139 | 183 => 140 | 218 => 150 | 222 => 154 | 228 => 157 | 229 => 158 | n => n, fun n => n⟩
theorem lay190 : Lays.n190 Go.Proofs.Try.prog lay190_ren := {
  mixed := by kernel_rfl
  f125 := Go.Proofs.Try.func79.trans (congrArg some (by kernel_rfl))
  f128 := Go.Proofs.Try.func95.trans (congrArg some (by kernel_rfl))
  f129 := Go.Proofs.Try.func96.trans (congrArg some (by kernel_rfl))
  f190 := Go.Proofs.Try.func60.trans (congrArg some (by kernel_rfl))
  f258 := Go.Proofs.Try.func78.trans (congrArg some (by kernel_rfl))
  f302 := Go.Proofs.Try.func86.trans (congrArg some (by kernel_rfl))
  f303 := Go.Proofs.Try.func87.trans (congrArg some (by kernel_rfl))
  f304 := Go.Proofs.Try.func88.trans (congrArg some (by kernel_rfl))
  f305 := Go.Proofs.Try.func89.trans (congrArg some (by kernel_rfl))
  f306 := Go.Proofs.Try.func90.trans (congrArg some (by kernel_rfl))
  f307 := Go.Proofs.Try.func91.trans (congrArg some (by kernel_rfl))
  f308 := Go.Proofs.Try.func92.trans (congrArg some (by kernel_rfl))
  f309 := Go.Proofs.Try.func93.trans (congrArg some (by kernel_rfl))
  f310 := Go.Proofs.Try.func94.trans (congrArg some (by kernel_rfl))
  f329 := Go.Proofs.Try.func100.trans (congrArg some (by kernel_rfl))
  f330 := Go.Proofs.Try.func101.trans (congrArg some (by kernel_rfl))
  f333 := Go.Proofs.Try.func99.trans (congrArg some (by kernel_rfl))
  f334 := Go.Proofs.Try.func102.trans (congrArg some (by kernel_rfl))
  f335 := Go.Proofs.Try.func103.trans (congrArg some (by kernel_rfl))
  f336 := Go.Proofs.Try.func80.trans (congrArg some (by kernel_rfl))
  f344 := Go.Proofs.Try.func105.trans (congrArg some (by kernel_rfl))
  t0 := Go.Proofs.Try.underlying0
  a0 := Go.Proofs.Try.isAgg0
  z0 := Go.Proofs.Try.sizeOf0
  v0 := Go.Proofs.Try.zeroValue0
  t3 := Go.Proofs.Try.underlying3
  a3 := Go.Proofs.Try.isAgg3
  z3 := Go.Proofs.Try.sizeOf3
  v3 := Go.Proofs.Try.zeroValue3
  t4 := Go.Proofs.Try.underlying4
  a4 := Go.Proofs.Try.isAgg4
  z4 := Go.Proofs.Try.sizeOf4
  v4 := Go.Proofs.Try.zeroValue4
  t5 := Go.Proofs.Try.underlying5
  a5 := Go.Proofs.Try.isAgg5
  z5 := Go.Proofs.Try.sizeOf5
  v5 := Go.Proofs.Try.zeroValue5
  t9 := Go.Proofs.Try.underlying9
  a9 := Go.Proofs.Try.isAgg9
  z9 := Go.Proofs.Try.sizeOf9
  v9 := Go.Proofs.Try.zeroValue9
  t31 := Go.Proofs.Try.underlying49
  a31 := Go.Proofs.Try.isAgg49
  z31 := Go.Proofs.Try.sizeOf49
  v31 := Go.Proofs.Try.zeroValue49
  t46 := Go.Proofs.Try.underlying134
  a46 := Go.Proofs.Try.isAgg134
  z46 := Go.Proofs.Try.sizeOf134
  v46 := Go.Proofs.Try.zeroValue134
  t51 := Go.Proofs.Try.underlying147
  a51 := Go.Proofs.Try.isAgg147
  z51 := Go.Proofs.Try.sizeOf147
  v51 := Go.Proofs.Try.zeroValue147
  t53 := Go.Proofs.Try.underlying149
  a53 := Go.Proofs.Try.isAgg149
  z53 := Go.Proofs.Try.sizeOf149
  v53 := Go.Proofs.Try.zeroValue149
  t131 := Go.Proofs.Try.underlying116
  a131 := Go.Proofs.Try.isAgg116
  z131 := Go.Proofs.Try.sizeOf116
  v131 := Go.Proofs.Try.zeroValue116
  t182 := Go.Proofs.Try.underlying139
  a182 := Go.Proofs.Try.isAgg139
  z182 := Go.Proofs.Try.sizeOf139
  v182 := Go.Proofs.Try.zeroValue139
  t183 := Go.Proofs.Try.underlying140
  a183 := Go.Proofs.Try.isAgg140
  z183 := Go.Proofs.Try.sizeOf140
  v183 := Go.Proofs.Try.zeroValue140
  t218 := Go.Proofs.Try.underlying150
  a218 := Go.Proofs.Try.isAgg150
  z218 := Go.Proofs.Try.sizeOf150
  v218 := Go.Proofs.Try.zeroValue150
  t222 := Go.Proofs.Try.underlying154
  a222 := Go.Proofs.Try.isAgg154
  z222 := Go.Proofs.Try.sizeOf154
  v222 := Go.Proofs.Try.zeroValue154
  t228 := Go.Proofs.Try.underlying157
  a228 := Go.Proofs.Try.isAgg157
  z228 := Go.Proofs.Try.sizeOf157
  v228 := Go.Proofs.Try.zeroValue157
  t229 := Go.Proofs.Try.underlying158
  a229 := Go.Proofs.Try.isAgg158
  z229 := Go.Proofs.Try.sizeOf158
  v229 := Go.Proofs.Try.zeroValue158 }
def lay194_ren : Go.Shelf.Ren := ⟨fun | 194 => 61 | n => n, fun | 0 => 0 | 3 => 3 | 4 => 4 | 9 => 9 | 31 => 49 | n => n, fun n => n⟩
theorem lay194 : Lays.n194 Go.Proofs.Try.prog lay194_ren := {
  mixed := by kernel_rfl
  f194 := Go.Proofs.Try.func61.trans (congrArg some (by kernel_rfl))
  t0 := Go.Proofs.Try.underlying0
  a0 := Go.Proofs.Try.isAgg0
  z0 := Go.Proofs.Try.sizeOf0
  v0 := Go.Proofs.Try.zeroValue0
  t3 := Go.Proofs.Try.underlying3
  a3 := Go.Proofs.Try.isAgg3
  z3 := Go.Proofs.Try.sizeOf3
  v3 := Go.Proofs.Try.zeroValue3
  t4 := Go.Proofs.Try.underlying4
  a4 := Go.Proofs.Try.isAgg4
  z4 := Go.Proofs.Try.sizeOf4
  v4 := Go.Proofs.Try.zeroValue4
  t9 := Go.Proofs.Try.underlying9
  a9 := Go.Proofs.Try.isAgg9
  z9 := Go.Proofs.Try.sizeOf9
  v9 := Go.Proofs.Try.zeroValue9
  t31 := Go.Proofs.Try.underlying49
  a31 := Go.Proofs.Try.isAgg49
  z31 := Go.Proofs.Try.sizeOf49
  v31 := Go.Proofs.Try.zeroValue49 }
noncomputable def EE : Env := envP EK [(60, rowP encStr decS sortL), (61, partP encStr decS [] Lib.compact), (59, shrinkP 3 EK 59)]
theorem EE_prs : ∀ p ∈ [((60, rowP encStr decS sortL) : Nat × (List Value → Heap → Option (Value × Heap))), ((61, partP encStr decS [] Lib.compact) : Nat × (List Value → Heap → Option (Value × Heap))), ((59, shrinkP 3 EK 59) : Nat × (List Value → Heap → Option (Value × Heap)))], Framed (fun _ => p.2) := by
  intro p hp
  simp only [List.mem_cons, List.not_mem_nil, or_false] at hp
  rcases hp with rfl | rfl | rfl
  · exact rowP_framed _ _ _
  · exact partP_framed _ _ _ _
  · exact shrinkP_framed _ EK_fr _
theorem EE_fr : FramedE EE := envP_framed EK_fr EE_prs
theorem EE_ok : SideOK EE := envP_ok EK_ok EE_prs (by
  intro p hp
  simp only [List.mem_cons, List.not_mem_nil, or_false] at hp
  rcases hp with rfl | rfl | rfl
  · exact sortS_ok lay190
  · exact compactS_ok lay194
  · exact shrinkP_ok _ EK_ok _)
end Go.Proofs.Ytadfhabapgipbaa.V
