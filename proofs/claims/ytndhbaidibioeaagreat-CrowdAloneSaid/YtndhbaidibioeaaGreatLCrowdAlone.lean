/- CrowdAlone holds for every input.
   No condition. -/
import Derived.Test.YtndhbaidibioeaaGreatRows
import Derived.Test.YtndhbaidibioeaaGreatOq
import Derived.Test.YtndhbaidibioeaaGreatYc
import Derived.Test.YtndhbaidibioeaaGreatQB
import Derived.WalkKit
import Derived.ProofKit
import Derived.OpenShut
import Derived.ShutString
import Derived.ChangeOld
import Derived.Below
import Derived.SizedLaws
namespace Go.Proofs.YtndhbaidibioeaaGreat
open Go Go.ChangeShapes Go.WideShapes Go.ChangeAt Go.RowKit Go.Proofs.YtndhbaidibioeaaGreat.V
set_option linter.unusedVariables false
namespace crowdAlone
theorem own : ownKnob Tryz.prog.godebug = none := by kernel_rfl
theorem laidOut : laidOutB Tryz.prog = true := by kernel_rfl
set_option maxRecDepth 100000 in
theorem lifted (os : Os) (started : os.Started) (H : Type) (enc : TypeId × Value → H) :
 ReturnsInHanded {} Tryz.checked os 8 .any (Rows.crowdAloneSpec.pre6 enc Tryz.prog Tryz.f8 Rows.crowdAloneRow.domain false) (Rows.crowdAloneSpec.post enc Tryz.prog Tryz.f8 false true false false) := by
 refine returnsInHanded_of_change_sized (C := Tryz.checked) own started (by kernel_rfl) Tryz.func8
  (ChangeSpec.witness6 (enc := enc) (C := Tryz.checked) false ⟨#[], #[Value.slice none 0 0], []⟩ 8 (by kernel_rfl) (by kernel_rfl) (by kernel_rfl) (by kernel_rfl)) ?_
 intro W base args ds gs before hval0 hW hcnd hsz0 _
 have hsz : (DataW.weightsEach Tryz.prog (Tryz.f8.params.toList ++ Rows.crowdAloneSpec.plain.varTypes Tryz.prog) (ds ++ gs)).all (· ≤ reachBytes) = true := hsz0
 have hval : ∀ (j : Nat) t v, Tryz.f8.params[j]? = some t → args[j]? = some v → Value.okWide Tryz.prog W .any base t v := hval0
 have hW' := hW
 obtain ⟨p, q, hA0, hV, rfl, hfz, hnd⟩ := hW
 have hA : DataW.TrodAll enc Tryz.prog W 0 (fun _ => true) true Tryz.f8.params.toList args.toList ds p := hA0
 rw [Tryz.params8] at hA hval hsz
 obtain ⟨v0, vs0, d0, ds0, p0, q0, hargs, rfl, rfl, h0, r0⟩ := trodAll_cons hA
 obtain ⟨rfl, rfl, rfl⟩ := trodAll_nil r0
 obtain rfl : args = #[v0] := by cases args; simp_all
 obtain ⟨rfl, rfl⟩ := trodVars_none hV
 have hv0 := (hval 0 60 v0 rfl rfl)
 have k0 := h0
 have lt0 : ∀ x ∈ p0, x.block < W.heap.size := by obtain ⟨m, hm⟩ := k0; exact DataW.trod_lt m _ _ _ hm
 have main : Calls Tryz.prog 8 #[v0] W (fun e w' => e = .returned (.bool true) ∧ RowKit.Below W.heap.size W w') := by
  clear hA0 hval0 hsz0 hcnd hnd hfz hW' hval
  obtain ⟨a0, l0, c0, rfl⟩ := okWide_slice u_60 hv0
  obtain ⟨n0, h0⟩ := h0
  obtain ⟨x0, r0, o0, wf0⟩ := (open_RL (T := 0) u_60 co_67 (by decide) og_67) _ _ _ h0
  obtain ⟨a0_, q0, e0, f0⟩ := r0
  have e0 : flagS (.slice a0 l0 c0) = .slice a0_ x0.length q0 := by simpa [Value.cells] using e0
  have z0 : ∀ β, VR β (.slice a0_ x0.length q0) (.slice a0 l0 c0) := fun β => by rw [← e0]; exact flagS_ok rfl β
  obtain ⟨n, hF⟩ := plain_CrowdAlone x0 wf0
  refine law_ok EE_ok (args := [.slice a0_ x0.length q0]) (fun β => ?_) (s_law16_CrowdAlone n (bWT := 0) (heap0_wf W) x0 f0 hF)
  exact .cons (z0 β) .nil
 clear hA0 hval0 hsz0 hsz
 refine main.mono fun e W' ⟨he, bel⟩ => ?_
 subst he
 exact ⟨_, rfl, _, _, _, [], _, [], hW', trodAll_mk1 (shut_bool u_4 _), (trodAll_cons_mk (Below.trod laidOut (by kernel_rfl) (of_decide_eq_true (by kernel_rfl)) k0 bel lt0) trodAll_mk0), rfl, bel.frame _, fun h => by cases h⟩
theorem over : Rows.crowdAloneRow.holds Tryz.pinned (OpenSpec.ofChange Rows.crowdAloneSpec) :=
 OpenClaim.holds_of_wide 8 Tryz.f8 rfl rfl rfl rfl rfl rfl rfl ⟨rfl, rfl, rfl, rfl, rfl⟩ rfl rfl rfl rfl rfl (by kernel_rfl) Tryz.func8 (by kernel_rfl)
  (of_decide_eq_true (by kernel_rfl)) (by unfold Func.isWrapper; first | (rw [if_pos (by decide +kernel)]; kernel_rfl) | (rw [if_neg (by decide +kernel)]; exact ⟨rfl, rfl⟩))
  (fun os started H enc _ => lifted os started H enc)
theorem proved : Rows.CrowdAloneSaid := over
end crowdAlone
theorem crowdAlone_holds : Rows.CrowdAloneSaid := crowdAlone.proved
end Go.Proofs.YtndhbaidibioeaaGreat
