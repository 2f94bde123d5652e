/- BstSteps holds for every input.
   No condition. -/
import Derived.Test.YtndhbaidibioeaaRows
import Derived.Test.YtndhbaidibioeaaOq
import Derived.Test.YtndhbaidibioeaaXf
import Derived.Test.YtndhbaidibioeaaBr
import Derived.WalkKit
import Derived.ProofKit
import Derived.OpenShut
import Derived.ShutString
import Derived.ChangeOld
import Derived.Below
import Derived.SizedLaws
namespace Go.Proofs.Ytndhbaidibioeaa
open Go Go.ChangeShapes Go.WideShapes Go.ChangeAt Go.RowKit Go.Proofs.Ytndhbaidibioeaa.V
set_option linter.unusedVariables false
namespace bstSteps
theorem own : ownKnob Try.prog.godebug = none := by kernel_rfl
theorem laidOut : laidOutB Try.prog = true := by kernel_rfl
set_option maxRecDepth 100000 in
theorem lifted (os : Os) (started : os.Started) (H : Type) (enc : TypeId × Value → H) :
    ReturnsInHanded {} Try.checked os 5 .any (Rows.bstStepsSpec.pre6 enc Try.prog Try.f5 Rows.bstStepsRow.domain false) (Rows.bstStepsSpec.post enc Try.prog Try.f5 false true false false) := by
  refine returnsInHanded_of_change_sized (C := Try.checked) own started (by kernel_rfl) Try.func5
    (ChangeSpec.witness6 (enc := enc) (C := Try.checked) false ⟨#[], #[Value.slice none 0 0, Value.agg #[Value.int IntKind.i64 0, Value.string ByteArray.empty, Value.int IntKind.u64 0, Value.int IntKind.i64 0, Value.string ByteArray.empty, Value.int IntKind.u64 0], Value.slice none 0 0], []⟩ 8 (by kernel_rfl) (by kernel_rfl) (by kernel_rfl) (by kernel_rfl)) ?_
  intro W base args ds gs before hval0 hW hcnd hsz0 _
  have hsz : (DataW.weightsEach Try.prog (Try.f5.params.toList ++ Rows.bstStepsSpec.plain.varTypes Try.prog) (ds ++ gs)).all (· ≤ reachBytes) = true := hsz0
  have hval : ∀ (j : Nat) t v, Try.f5.params[j]? = some t → args[j]? = some v → Value.okWide Try.prog W .any base t v := hval0
  have hW' := hW
  obtain ⟨p, q, hA0, hV, rfl, hfz, hnd⟩ := hW
  have hA : DataW.TrodAll enc Try.prog W 0 (fun _ => true) true Try.f5.params.toList args.toList ds p := hA0
  rw [Try.params5] at hA hval hsz
  obtain ⟨v0, vs0, d0, ds0, p0, q0, hargs, rfl, rfl, h0, r0⟩ := trodAll_cons hA
  obtain ⟨v1, vs1, d1, ds1, p1, q1, rfl, rfl, rfl, h1, r1⟩ := trodAll_cons r0
  obtain ⟨v2, vs2, d2, ds2, p2, q2, rfl, rfl, rfl, h2, r2⟩ := trodAll_cons r1
  obtain ⟨rfl, rfl, rfl⟩ := trodAll_nil r2
  obtain rfl : args = #[v0, v1, v2] := by cases args; simp_all
  obtain ⟨rfl, rfl⟩ := trodVars_none hV
  have hv0 := (hval 0 22 v0 rfl rfl)
  have k0 := h0
  have lt0 : ∀ x ∈ p0, x.block < W.heap.size := by obtain ⟨m, hm⟩ := k0; exact DataW.trod_lt m _ _ _ hm
  have hv1 := (hval 1 54 v1 rfl rfl)
  have k1 := h1
  have lt1 : ∀ x ∈ p1, x.block < W.heap.size := by obtain ⟨m, hm⟩ := k1; exact DataW.trod_lt m _ _ _ hm
  have hv2 := (hval 2 55 v2 rfl rfl)
  have k2 := h2
  have lt2 : ∀ x ∈ p2, x.block < W.heap.size := by obtain ⟨m, hm⟩ := k2; exact DataW.trod_lt m _ _ _ hm
  have main : Calls Try.prog 5 #[v0, v1, v2] W (fun e w' => e = .returned (.bool true) ∧ RowKit.Below W.heap.size W w') := by
    clear hA0 hval0 hsz0 hcnd hnd hfz hW' hval
    obtain ⟨a0, l0, c0, rfl⟩ := okWide_slice u_22 hv0
    obtain ⟨n0, h0⟩ := h0
    obtain ⟨x0, r0, o0, wf0⟩ := (open_RL (T := 0) u_22 co_37 (by decide) og_37) _ _ _ h0
    obtain ⟨a0_, q0, e0, f0⟩ := r0
    have e0 : flagS (.slice a0 l0 c0) = .slice a0_ x0.length q0 := by simpa [Value.cells] using e0
    have z0 : ∀ β, VR β (.slice a0_ x0.length q0) (.slice a0 l0 c0) := fun β => by rw [← e0]; exact flagS_ok rfl β
    obtain ⟨cs1, rfl⟩ := okWide_arr u_54 hv1
    obtain ⟨n1, h1⟩ := h1
    obtain ⟨x1, r1, o1, wf1⟩ := og_54 _ _ _ h1
    have e1 := r1
    have z1 : ∀ β, VRs β [.int .i64 x1.x0.Kind, .string x1.x0.Key, .int .u64 x1.x0.Val, .int .i64 x1.x1.Kind, .string x1.x1.Key, .int .u64 x1.x1.Val] cs1.toList := fun β => by have q := flagS_oks o1 β; rw [show List.map flagS (Value.agg cs1).cells.toList = [.int .i64 x1.x0.Kind, .string x1.x0.Key, .int .u64 x1.x0.Val, .int .i64 x1.x1.Kind, .string x1.x1.Key, .int .u64 x1.x1.Val] from e1] at q; exact q
    obtain ⟨a2, l2, c2, rfl⟩ := okWide_slice u_55 hv2
    obtain ⟨n2, h2⟩ := h2
    obtain ⟨x2, r2, o2, wf2⟩ := (open_RL (T := 0) u_55 co_4 (by decide) (open_bool (T := 4) u_4)) _ _ _ h2
    obtain ⟨a2_, q2, e2, f2⟩ := r2
    have e2 : flagS (.slice a2 l2 c2) = .slice a2_ x2.length q2 := by simpa [Value.cells] using e2
    have z2 : ∀ β, VR β (.slice a2_ x2.length q2) (.slice a2 l2 c2) := fun β => by rw [← e2]; exact flagS_ok rfl β
    obtain ⟨n, hF⟩ := plain_BstSteps x0 x1 x2 wf0 wf1 wf2
    refine law_ok EE_ok (args := [.slice a0_ x0.length q0, .agg #[.int .i64 x1.x0.Kind, .string x1.x0.Key, .int .u64 x1.x0.Val, .int .i64 x1.x1.Kind, .string x1.x1.Key, .int .u64 x1.x1.Val], .slice a2_ x2.length q2]) (fun β => ?_) (s_law15_BstSteps n (heap0_wf W) x0 x1 x2 f0 f2 hF)
    exact .cons (z0 β) (.cons (.agg (z1 β)) (.cons (z2 β) .nil))
  clear hA0 hval0 hsz0 hsz
  refine main.mono fun e W' ⟨he, bel⟩ => ?_
  subst he
  exact ⟨_, rfl, _, _, _, [], _, [], hW', trodAll_mk1 (shut_bool u_4 _), (trodAll_cons_mk (Below.trod laidOut (by kernel_rfl) (of_decide_eq_true (by kernel_rfl)) k0 bel lt0) (trodAll_cons_mk (Below.trod laidOut (by kernel_rfl) (of_decide_eq_true (by kernel_rfl)) k1 bel lt1) (trodAll_cons_mk (Below.trod laidOut (by kernel_rfl) (of_decide_eq_true (by kernel_rfl)) k2 bel lt2) trodAll_mk0))), rfl, bel.frame _, fun h => by cases h⟩
theorem over : Rows.bstStepsRow.holds Try.pinned (OpenSpec.ofChange Rows.bstStepsSpec) :=
  OpenClaim.holds_of_wide 5 Try.f5 rfl rfl rfl rfl rfl rfl rfl ⟨rfl, rfl, rfl, rfl, rfl⟩ rfl rfl rfl rfl rfl (by kernel_rfl) Try.func5 (by kernel_rfl)
    (of_decide_eq_true (by kernel_rfl)) (by unfold Func.isWrapper; first | (rw [if_pos (by decide +kernel)]; kernel_rfl) | (rw [if_neg (by decide +kernel)]; exact ⟨rfl, rfl⟩))
    (fun os started H enc _ => lifted os started H enc)
theorem proved : Rows.BstStepsSaid := over
end bstSteps
/-- The row, under a short name. -/
theorem bstSteps_holds : Rows.BstStepsSaid := bstSteps.proved
end Go.Proofs.Ytndhbaidibioeaa
