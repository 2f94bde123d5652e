/- IndexMany holds for every input.
   No condition. -/
import Derived.Test.YtndhbaidibioeaaGreatRows
import Derived.Test.YtndhbaidibioeaaGreatOq
import Derived.Test.YtndhbaidibioeaaGreatJQ
import Derived.Test.YtndhbaidibioeaaGreatQR
import Derived.WalkKit
import Derived.ProofKit
import Derived.OpenShut
import Derived.ShutString
import Derived.ChangeOld
import Derived.Below
import Derived.SizedLaws
namespace Go.Proofs.YtndhbaidibioeaaGreat
open Go Go.ChangeShapes Go.WideShapes Go.ChangeAt Go.RowKit Go.Proofs.YtndhbaidibioeaaGreat.V
set_option linter.unusedVariables false
namespace indexMany
theorem own : ownKnob Tryz.prog.godebug = none := by kernel_rfl
theorem laidOut : laidOutB Tryz.prog = true := by kernel_rfl
set_option maxRecDepth 100000 in
theorem lifted (os : Os) (started : os.Started) (H : Type) (enc : TypeId × Value → H) :
 ReturnsInHanded {} Tryz.checked os 5 .any (Rows.indexManySpec.pre6 enc Tryz.prog Tryz.f5 Rows.indexManyRow.domain false) (Rows.indexManySpec.post enc Tryz.prog Tryz.f5 false true false false) := by
 refine returnsInHanded_of_change_sized (C := Tryz.checked) own started (by kernel_rfl) Tryz.func5
  (ChangeSpec.witness6 (enc := enc) (C := Tryz.checked) false ⟨#[], #[Value.slice none 0 0, Value.int IntKind.u8 0, Value.slice none 0 0], []⟩ 8 (by kernel_rfl) (by kernel_rfl) (by kernel_rfl) (by kernel_rfl)) ?_
 intro W base args ds gs before hval0 hW hcnd hsz0 _
 have hsz : (DataW.weightsEach Tryz.prog (Tryz.f5.params.toList ++ Rows.indexManySpec.plain.varTypes Tryz.prog) (ds ++ gs)).all (· ≤ reachBytes) = true := hsz0
 have hval : ∀ (j : Nat) t v, Tryz.f5.params[j]? = some t → args[j]? = some v → Value.okWide Tryz.prog W .any base t v := hval0
 have hW' := hW
 obtain ⟨p, q, hA0, hV, rfl, hfz, hnd⟩ := hW
 have hA : DataW.TrodAll enc Tryz.prog W 0 (fun _ => true) true Tryz.f5.params.toList args.toList ds p := hA0
 rw [Tryz.params5] at hA hval hsz
 obtain ⟨v0, vs0, d0, ds0, p0, q0, hargs, rfl, rfl, h0, r0⟩ := trodAll_cons hA
 obtain ⟨v1, vs1, d1, ds1, p1, q1, rfl, rfl, rfl, h1, r1⟩ := trodAll_cons r0
 obtain ⟨v2, vs2, d2, ds2, p2, q2, rfl, rfl, rfl, h2, r2⟩ := trodAll_cons r1
 obtain ⟨rfl, rfl, rfl⟩ := trodAll_nil r2
 obtain rfl : args = #[v0, v1, v2] := by cases args; simp_all
 obtain ⟨rfl, rfl⟩ := trodVars_none hV
 have hv0 := (hval 0 22 v0 rfl rfl)
 have k0 := h0
 have lt0 : ∀ x ∈ p0, x.block < W.heap.size := by obtain ⟨m, hm⟩ := k0; exact DataW.trod_lt m _ _ _ hm
 have hv1 := (hval 1 5 v1 rfl rfl)
 have k1 := h1
 have lt1 : ∀ x ∈ p1, x.block < W.heap.size := by obtain ⟨m, hm⟩ := k1; exact DataW.trod_lt m _ _ _ hm
 have hv2 := (hval 2 49 v2 rfl rfl)
 have k2 := h2
 have lt2 : ∀ x ∈ p2, x.block < W.heap.size := by obtain ⟨m, hm⟩ := k2; exact DataW.trod_lt m _ _ _ hm
 have main : Calls Tryz.prog 5 #[v0, v1, v2] W (fun e w' => e = .returned (.bool true) ∧ RowKit.Below W.heap.size W w') := by
  clear hA0 hval0 hsz0 hcnd hnd hfz hW' hval
  obtain ⟨a0, l0, c0, rfl⟩ := okWide_slice u_22 hv0
  obtain ⟨n0, h0⟩ := h0
  obtain ⟨x0, r0, o0, wf0⟩ := (open_RLW (T := 0) u_22 co_36 (by decide) ow_36) _ _ _ h0 (fun n hn => of_decide_eq_true (List.all_eq_true.1 hsz n (DataW.weights_mem_each (j := 0) rfl rfl n hn)))
  obtain ⟨a0_, q0, e0, f0⟩ := r0
  have e0 : flagS (.slice a0 l0 c0) = .slice a0_ x0.length q0 := by simpa [Value.cells] using e0
  have z0 : ∀ β, VR β (.slice a0_ x0.length q0) (.slice a0 l0 c0) := fun β => by rw [← e0]; exact flagS_ok rfl β
  obtain ⟨v1, rfl⟩ := okWide_int u_5 hv1
  obtain ⟨n1, h1⟩ := h1
  obtain ⟨x1, r1, o1, wf1⟩ := (open_int (T := 0) u_5) _ _ _ h1
  obtain rfl : x1 = v1 := by simpa [RI_, Rep.flat, flagS, Value.cells, eq_comm] using r1
  obtain ⟨a2, l2, c2, rfl⟩ := okWide_slice u_49 hv2
  obtain ⟨n2, h2⟩ := h2
  obtain ⟨x2, r2, o2, wf2⟩ := (open_RL (T := 0) u_49 co_4 (by decide) (open_bool (T := 4) u_4)) _ _ _ h2
  obtain ⟨a2_, q2, e2, f2⟩ := r2
  have e2 : flagS (.slice a2 l2 c2) = .slice a2_ x2.length q2 := by simpa [Value.cells] using e2
  have z2 : ∀ β, VR β (.slice a2_ x2.length q2) (.slice a2 l2 c2) := fun β => by rw [← e2]; exact flagS_ok rfl β
  obtain ⟨n, hF⟩ := plain_IndexMany x0 x1 x2 wf0 wf1 wf2
  refine law_ok EE_ok (args := [.slice a0_ x0.length q0, .int .u8 x1, .slice a2_ x2.length q2]) (fun β => ?_) (s_law19_IndexMany n (heap0_wf W) x0 x1 x2 f0 f2 hF)
  exact .cons (z0 β) (.cons (.int _ _) (.cons (z2 β) .nil))
 clear hA0 hval0 hsz0 hsz
 refine main.mono fun e W' ⟨he, bel⟩ => ?_
 subst he
 exact ⟨_, rfl, _, _, _, [], _, [], hW', trodAll_mk1 (shut_bool u_4 _), (trodAll_cons_mk (Below.trod laidOut (by kernel_rfl) (of_decide_eq_true (by kernel_rfl)) k0 bel lt0) (trodAll_cons_mk (Below.trod laidOut (by kernel_rfl) (of_decide_eq_true (by kernel_rfl)) k1 bel lt1) (trodAll_cons_mk (Below.trod laidOut (by kernel_rfl) (of_decide_eq_true (by kernel_rfl)) k2 bel lt2) trodAll_mk0))), rfl, bel.frame _, fun h => by cases h⟩
theorem over : Rows.indexManyRow.holds Tryz.pinned (OpenSpec.ofChange Rows.indexManySpec) :=
 OpenClaim.holds_of_wide 5 Tryz.f5 rfl rfl rfl rfl rfl rfl rfl ⟨rfl, rfl, rfl, rfl, rfl⟩ rfl rfl rfl rfl rfl (by kernel_rfl) Tryz.func5 (by kernel_rfl)
  (of_decide_eq_true (by kernel_rfl)) (by unfold Func.isWrapper; first | (rw [if_pos (by decide +kernel)]; kernel_rfl) | (rw [if_neg (by decide +kernel)]; exact ⟨rfl, rfl⟩))
  (fun os started H enc _ => lifted os started H enc)
theorem proved : Rows.IndexManySaid := over
end indexMany
theorem indexMany_holds : Rows.IndexManySaid := indexMany.proved
end Go.Proofs.YtndhbaidibioeaaGreat
