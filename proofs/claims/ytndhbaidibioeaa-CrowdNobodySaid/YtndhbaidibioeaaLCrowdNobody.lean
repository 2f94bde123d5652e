/- CrowdNobody holds for every input.
   No condition. -/
import Derived.Test.YtndhbaidibioeaaRows
import Derived.Test.YtndhbaidibioeaaLb
import Derived.WalkKit
import Derived.ProofKit
import Derived.OpenShut
import Derived.ShutString
import Derived.ChangeOld
import Derived.Below
import Derived.SizedLaws
namespace Go.Proofs.Ytndhbaidibioeaa
open Go Go.ChangeShapes Go.WideShapes Go.ChangeAt Go.RowKit Go.Proofs.Ytndhbaidibioeaa.V
set_option linter.unusedVariables false
namespace crowdNobody
theorem own : ownKnob Try.prog.godebug = none := by kernel_rfl
theorem laidOut : laidOutB Try.prog = true := by kernel_rfl
set_option maxRecDepth 100000 in
theorem lifted (os : Os) (started : os.Started) (H : Type) (enc : TypeId × Value → H) :
    ReturnsInHanded {} Try.checked os 6 .any (Rows.crowdNobodySpec.pre6 enc Try.prog Try.f6 Rows.crowdNobodyRow.domain false) (Rows.crowdNobodySpec.post enc Try.prog Try.f6 false true false false) := by
  refine returnsInHanded_of_change_sized (C := Try.checked) own started (by kernel_rfl) Try.func6
    (ChangeSpec.witness6 (enc := enc) (C := Try.checked) false ⟨#[], #[Value.int IntKind.i64 0, Value.int IntKind.i64 0], []⟩ 8 (by kernel_rfl) (by kernel_rfl) (by kernel_rfl) (by kernel_rfl)) ?_
  intro W base args ds gs before hval0 hW hcnd hsz0 _
  have hsz : (DataW.weightsEach Try.prog (Try.f6.params.toList ++ Rows.crowdNobodySpec.plain.varTypes Try.prog) (ds ++ gs)).all (· ≤ reachBytes) = true := hsz0
  have hval : ∀ (j : Nat) t v, Try.f6.params[j]? = some t → args[j]? = some v → Value.okWide Try.prog W .any base t v := hval0
  have hW' := hW
  obtain ⟨p, q, hA0, hV, rfl, hfz, hnd⟩ := hW
  have hA : DataW.TrodAll enc Try.prog W 0 (fun _ => true) true Try.f6.params.toList args.toList ds p := hA0
  rw [Try.params6] at hA hval hsz
  obtain ⟨v0, vs0, d0, ds0, p0, q0, hargs, rfl, rfl, h0, r0⟩ := trodAll_cons hA
  obtain ⟨v1, vs1, d1, ds1, p1, q1, rfl, rfl, rfl, h1, r1⟩ := trodAll_cons r0
  obtain ⟨rfl, rfl, rfl⟩ := trodAll_nil r1
  obtain rfl : args = #[v0, v1] := by cases args; simp_all
  obtain ⟨rfl, rfl⟩ := trodVars_none hV
  have hv0 := (hval 0 3 v0 rfl rfl)
  have k0 := h0
  have lt0 : ∀ x ∈ p0, x.block < W.heap.size := by obtain ⟨m, hm⟩ := k0; exact DataW.trod_lt m _ _ _ hm
  have hv1 := (hval 1 3 v1 rfl rfl)
  have k1 := h1
  have lt1 : ∀ x ∈ p1, x.block < W.heap.size := by obtain ⟨m, hm⟩ := k1; exact DataW.trod_lt m _ _ _ hm
  have main : Calls Try.prog 6 #[v0, v1] W (fun e w' => e = .returned (.bool true) ∧ RowKit.Below W.heap.size W w') := by
    clear hA0 hval0 hsz0 hcnd hnd hfz hW' hval
    obtain ⟨v0, rfl⟩ := okWide_int u_3 hv0
    obtain ⟨n0, h0⟩ := h0
    obtain ⟨x0, r0, o0, wf0⟩ := (open_int (T := 0) u_3) _ _ _ h0
    obtain rfl : x0 = v0 := by simpa [RI_, Rep.flat, flagS, Value.cells, eq_comm] using r0
    obtain ⟨v1, rfl⟩ := okWide_int u_3 hv1
    obtain ⟨n1, h1⟩ := h1
    obtain ⟨x1, r1, o1, wf1⟩ := (open_int (T := 0) u_3) _ _ _ h1
    obtain rfl : x1 = v1 := by simpa [RI_, Rep.flat, flagS, Value.cells, eq_comm] using r1
    refine law_run EE_ok (args := [.int .i64 x0, .int .i64 x1]) (fun β => ?_) (run_CrowdNobody W x0 x1)
    exact .cons (.int _ _) (.cons (.int _ _) .nil)
  clear hA0 hval0 hsz0 hsz
  refine main.mono fun e W' ⟨he, bel⟩ => ?_
  subst he
  exact ⟨_, rfl, _, _, _, [], _, [], hW', trodAll_mk1 (shut_bool u_4 _), (trodAll_cons_mk (Below.trod laidOut (by kernel_rfl) (of_decide_eq_true (by kernel_rfl)) k0 bel lt0) (trodAll_cons_mk (Below.trod laidOut (by kernel_rfl) (of_decide_eq_true (by kernel_rfl)) k1 bel lt1) trodAll_mk0)), rfl, bel.frame _, fun h => by cases h⟩
theorem over : Rows.crowdNobodyRow.holds Try.pinned (OpenSpec.ofChange Rows.crowdNobodySpec) :=
  OpenClaim.holds_of_wide 6 Try.f6 rfl rfl rfl rfl rfl rfl rfl ⟨rfl, rfl, rfl, rfl, rfl⟩ rfl rfl rfl rfl rfl (by kernel_rfl) Try.func6 (by kernel_rfl)
    (of_decide_eq_true (by kernel_rfl)) (by unfold Func.isWrapper; first | (rw [if_pos (by decide +kernel)]; kernel_rfl) | (rw [if_neg (by decide +kernel)]; exact ⟨rfl, rfl⟩))
    (fun os started H enc _ => lifted os started H enc)
theorem proved : Rows.CrowdNobodySaid := over
end crowdNobody
/-- The row, under a short name. -/
theorem crowdNobody_holds : Rows.CrowdNobodySaid := crowdNobody.proved
end Go.Proofs.Ytndhbaidibioeaa
