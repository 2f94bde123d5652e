/- The environment of this seat, with what the library tells of its own calls.
   No condition. -/
import Derived.Test.YthgcmcifhhkebaaSg
import Derived.Test.YthgcmcifhhkebaaSh
import Derived.Test.YthgcmcifhhkebaaChecked
namespace Go.Proofs.Ythgcmcifhhkebaa.V
open Go
set_option maxRecDepth 100000
set_option linter.unusedVariables false
def lay189_ren : Go.Shelf.Ren := ⟨fun | 125 => 43 | 128 => 57 | 129 => 58 | 189 => 31 | 215 => 46 | 216 => 54 | 257 => 42 | 294 => 48 | 295 => 49 | 296 => 50 | 297 => 51 | 298 => 52 | 299 => 53 | 300 => 55 | 301 => 56 | 328 => 60 | 329 => 61 | 330 => 62 | 331 => 63 | 332 => 64 | 343 => 65 | n => n, fun | 0 => 0 | 3 => 3 | 4 => 4 | 5 => 5 | 9 => 9 | 28 => 38 | 46 => 73 | 51 => 94 | 53 => 96 | 131 => 59 | 182 => 86 | 183 => 87 | 218 => 98 | 222 => 102 | 228 => 104 | 229 => 105 | n => n, fun n => n⟩
theorem lay189 : Lays.n189 Go.Proofs.Try.prog lay189_ren := {
  mixed := by kernel_rfl
  f125 := Go.Proofs.Try.func43.trans (congrArg some (by kernel_rfl))
  f128 := Go.Proofs.Try.func57.trans (congrArg some (by kernel_rfl))
  f129 := Go.Proofs.Try.func58.trans (congrArg some (by kernel_rfl))
  f189 := Go.Proofs.Try.func31.trans (congrArg some (by kernel_rfl))
  f215 := Go.Proofs.Try.func46.trans (congrArg some (by kernel_rfl))
  f216 := Go.Proofs.Try.func54.trans (congrArg some (by kernel_rfl))
  f257 := Go.Proofs.Try.func42.trans (congrArg some (by kernel_rfl))
  f294 := Go.Proofs.Try.func48.trans (congrArg some (by kernel_rfl))
  f295 := Go.Proofs.Try.func49.trans (congrArg some (by kernel_rfl))
  f296 := Go.Proofs.Try.func50.trans (congrArg some (by kernel_rfl))
  f297 := Go.Proofs.Try.func51.trans (congrArg some (by kernel_rfl))
  f298 := Go.Proofs.Try.func52.trans (congrArg some (by kernel_rfl))
  f299 := Go.Proofs.Try.func53.trans (congrArg some (by kernel_rfl))
  f300 := Go.Proofs.Try.func55.trans (congrArg some (by kernel_rfl))
  f301 := Go.Proofs.Try.func56.trans (congrArg some (by kernel_rfl))
  f328 := Go.Proofs.Try.func60.trans (congrArg some (by kernel_rfl))
  f329 := Go.Proofs.Try.func61.trans (congrArg some (by kernel_rfl))
  f330 := Go.Proofs.Try.func62.trans (congrArg some (by kernel_rfl))
  f331 := Go.Proofs.Try.func63.trans (congrArg some (by kernel_rfl))
  f332 := Go.Proofs.Try.func64.trans (congrArg some (by kernel_rfl))
  f343 := Go.Proofs.Try.func65.trans (congrArg some (by kernel_rfl))
  t0 := Go.Proofs.Try.underlying0
  a0 := Go.Proofs.Try.isAgg0
  z0 := Go.Proofs.Try.sizeOf0
  v0 := Go.Proofs.Try.zeroValue0
  t3 := Go.Proofs.Try.underlying3
  a3 := Go.Proofs.Try.isAgg3
  z3 := Go.Proofs.Try.sizeOf3
  v3 := Go.Proofs.Try.zeroValue3
  t4 := Go.Proofs.Try.underlying4
  a4 := Go.Proofs.Try.isAgg4
  z4 := Go.Proofs.Try.sizeOf4
  v4 := Go.Proofs.Try.zeroValue4
  t5 := Go.Proofs.Try.underlying5
  a5 := Go.Proofs.Try.isAgg5
  z5 := Go.Proofs.Try.sizeOf5
  v5 := Go.Proofs.Try.zeroValue5
  t9 := Go.Proofs.Try.underlying9
  a9 := Go.Proofs.Try.isAgg9
  z9 := Go.Proofs.Try.sizeOf9
  v9 := Go.Proofs.Try.zeroValue9
  t28 := Go.Proofs.Try.underlying38
  a28 := Go.Proofs.Try.isAgg38
  z28 := Go.Proofs.Try.sizeOf38
  v28 := Go.Proofs.Try.zeroValue38
  t46 := Go.Proofs.Try.underlying73
  a46 := Go.Proofs.Try.isAgg73
  z46 := Go.Proofs.Try.sizeOf73
  v46 := Go.Proofs.Try.zeroValue73
  t51 := Go.Proofs.Try.underlying94
  a51 := Go.Proofs.Try.isAgg94
  z51 := Go.Proofs.Try.sizeOf94
  v51 := Go.Proofs.Try.zeroValue94
  t53 := Go.Proofs.Try.underlying96
  a53 := Go.Proofs.Try.isAgg96
  z53 := Go.Proofs.Try.sizeOf96
  v53 := Go.Proofs.Try.zeroValue96
  t131 := Go.Proofs.Try.underlying59
  a131 := Go.Proofs.Try.isAgg59
  z131 := Go.Proofs.Try.sizeOf59
  v131 := Go.Proofs.Try.zeroValue59
  t182 := Go.Proofs.Try.underlying86
  a182 := Go.Proofs.Try.isAgg86
  z182 := Go.Proofs.Try.sizeOf86
  v182 := Go.Proofs.Try.zeroValue86
  t183 := Go.Proofs.Try.underlying87
  a183 := Go.Proofs.Try.isAgg87
  z183 := Go.Proofs.Try.sizeOf87
  v183 := Go.Proofs.Try.zeroValue87
  t218 := Go.Proofs.Try.underlying98
  a218 := Go.Proofs.Try.isAgg98
  z218 := Go.Proofs.Try.sizeOf98
  v218 := Go.Proofs.Try.zeroValue98
  t222 := Go.Proofs.Try.underlying102
  a222 := Go.Proofs.Try.isAgg102
  z222 := Go.Proofs.Try.sizeOf102
  v222 := Go.Proofs.Try.zeroValue102
  t228 := Go.Proofs.Try.underlying104
  a228 := Go.Proofs.Try.isAgg104
  z228 := Go.Proofs.Try.sizeOf104
  v228 := Go.Proofs.Try.zeroValue104
  t229 := Go.Proofs.Try.underlying105
  a229 := Go.Proofs.Try.isAgg105
  z229 := Go.Proofs.Try.sizeOf105
  v229 := Go.Proofs.Try.zeroValue105 }
noncomputable def EE : Env := envP EK [(31, rowP encI decI sortI), (34, shrinkP 6 EK 34), (26, insP 6 72 58 EK 26)]
theorem EE_prs : ∀ p ∈ [((31, rowP encI decI sortI) : Nat × (List Value → Heap → Option (Value × Heap))), ((34, shrinkP 6 EK 34) : Nat × (List Value → Heap → Option (Value × Heap))), ((26, insP 6 72 58 EK 26) : Nat × (List Value → Heap → Option (Value × Heap)))], Framed (fun _ => p.2) := by
  intro p hp
  simp only [List.mem_cons, List.not_mem_nil, or_false] at hp
  rcases hp with rfl | rfl | rfl
  · exact rowP_framed _ _ _
  · exact shrinkP_framed _ EK_fr _
  · exact insP_framed EK_fr _
theorem EE_fr : FramedE EE := envP_framed EK_fr EE_prs
theorem EE_ok : SideOK EE := envP_ok EK_ok EE_prs (by
  intro p hp
  simp only [List.mem_cons, List.not_mem_nil, or_false] at hp
  rcases hp with rfl | rfl | rfl
  · exact sortI_ok lay189
  · exact shrinkP_ok _ EK_ok _
  · exact insP_ok EK_ok insRun_26)
end Go.Proofs.Ythgcmcifhhkebaa.V
