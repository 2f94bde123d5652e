/- FrontSteps holds for every input.
   No condition. -/
import Derived.Test.YtadfhabapgipbaaRows
import Derived.Test.YtadfhabapgipbaaOp
import Derived.Test.YtadfhabapgipbaaRh
import Derived.WalkKit
import Derived.ProofKit
import Derived.OpenShut
import Derived.ShutString
import Derived.ChangeOld
import Derived.Below
import Derived.SizedLaws
namespace Go.Proofs.Ytadfhabapgipbaa
open Go Go.ChangeShapes Go.WideShapes Go.ChangeAt Go.RowKit Go.Proofs.Ytadfhabapgipbaa.V
set_option linter.unusedVariables false
namespace frontSteps
theorem own : ownKnob Try.prog.godebug = none := by kernel_rfl
theorem laidOut : laidOutB Try.prog = true := by kernel_rfl
set_option maxRecDepth 100000 in
theorem lifted (os : Os) (started : os.Started) (H : Type) (enc : TypeId × Value → H) :
    ReturnsInHanded {} Try.checked os 3 .any (Rows.frontStepsSpec.pre6 enc Try.prog Try.f3 Rows.frontStepsRow.domain false) (Rows.frontStepsSpec.post enc Try.prog Try.f3 false true false false) := by
  refine returnsInHanded_of_change_sized (C := Try.checked) own started (by kernel_rfl) Try.func3
    (ChangeSpec.witness6 (enc := enc) (C := Try.checked) false ⟨#[], #[Value.agg #[Value.int IntKind.i64 0, Value.string ByteArray.empty, Value.string ByteArray.empty, Value.int IntKind.i64 0, Value.slice none 0 0, Value.slice none 0 0, Value.slice none 0 0], Value.slice none 0 0, Value.agg #[Value.int IntKind.i64 0, Value.int IntKind.i64 0, Value.int IntKind.i64 0]], []⟩ 8 (by kernel_rfl) (by kernel_rfl) (by kernel_rfl) (by kernel_rfl)) ?_
  intro W base args ds gs before hval0 hW hcnd hsz0 _
  have hsz : (DataW.weightsEach Try.prog (Try.f3.params.toList ++ Rows.frontStepsSpec.plain.varTypes Try.prog) (ds ++ gs)).all (· ≤ reachBytes) = true := hsz0
  have hval : ∀ (j : Nat) t v, Try.f3.params[j]? = some t → args[j]? = some v → Value.okWide Try.prog W .any base t v := hval0
  have hW' := hW
  obtain ⟨p, q, hA0, hV, rfl, hfz, hnd⟩ := hW
  have hA : DataW.TrodAll enc Try.prog W 0 (fun _ => true) true Try.f3.params.toList args.toList ds p := hA0
  rw [Try.params3] at hA hval hsz
  obtain ⟨v0, vs0, d0, ds0, p0, q0, hargs, rfl, rfl, h0, r0⟩ := trodAll_cons hA
  obtain ⟨v1, vs1, d1, ds1, p1, q1, rfl, rfl, rfl, h1, r1⟩ := trodAll_cons r0
  obtain ⟨v2, vs2, d2, ds2, p2, q2, rfl, rfl, rfl, h2, r2⟩ := trodAll_cons r1
  obtain ⟨rfl, rfl, rfl⟩ := trodAll_nil r2
  obtain rfl : args = #[v0, v1, v2] := by cases args; simp_all
  obtain ⟨rfl, rfl⟩ := trodVars_none hV
  have hv0 := (hval 0 27 v0 rfl rfl)
  have k0 := h0
  have lt0 : ∀ x ∈ p0, x.block < W.heap.size := by obtain ⟨m, hm⟩ := k0; exact DataW.trod_lt m _ _ _ hm
  have hv1 := (hval 1 28 v1 rfl rfl)
  have k1 := h1
  have lt1 : ∀ x ∈ p1, x.block < W.heap.size := by obtain ⟨m, hm⟩ := k1; exact DataW.trod_lt m _ _ _ hm
  have hv2 := (hval 2 30 v2 rfl rfl)
  have k2 := h2
  have lt2 : ∀ x ∈ p2, x.block < W.heap.size := by obtain ⟨m, hm⟩ := k2; exact DataW.trod_lt m _ _ _ hm
  have main : Calls Try.prog 3 #[v0, v1, v2] W (fun e w' => e = .returned (.bool true) ∧ RowKit.Below W.heap.size W w') := by
    clear hA0 hval0 hsz0 hcnd hnd hfz hW' hval
    obtain ⟨cs0, rfl, _⟩ := okWide_struct u_27 hv0
    obtain ⟨a1, l1, c1, rfl⟩ := okWide_slice u_28 hv1
    obtain ⟨cs2, rfl, _⟩ := okWide_struct u_30 hv2
    obtain ⟨n0, h0⟩ := h0
    obtain ⟨n1, h1⟩ := h1
    obtain ⟨n2, h2⟩ := h2
    obtain ⟨k, f, t, r, b1, b2, b3, e0, _, _, _, _, ⟨o1, m1, y1, d1⟩, ⟨o2, m2, y2, d2⟩, ⟨o3, m3, y3, d3⟩⟩ := op_27 h0
    obtain ⟨s, hr, z, e2, _, w2, _⟩ := op_30 h2
    obtain ⟨l, hl, _, _, o⟩ := open_kvs (h := heap0 W) rfl h1
    obtain ⟨lc, hlc, _⟩ := open_cmps (h := heap0 W) rfl d1
    obtain ⟨lt, hlt, _⟩ := open_ops (h := heap0 W) rfl d2
    obtain ⟨le, hle, _⟩ := open_ops (h := heap0 W) rfl d3
    obtain rfl : cs0 = #[.int .i64 k, .string f, .string t, .int .i64 r, b1, b2, b3] := Array.ext' e0
    obtain rfl : cs2 = #[.int .i64 s, .int .i64 hr, .int .i64 z] := Array.ext' e2
    refine law_ok EE_ok (args := [.agg #[.int .i64 k, .string f, .string t, .int .i64 r, flagS b1, flagS b2, flagS b3], flagS (.slice a1 l1 c1), .agg #[.int .i64 s, .int .i64 hr, .int .i64 z]]) (fun β => ?_) (s3 (heap0_wf W) hl hlc hlt hle k r f t s hr z (wf_lo w2).1)
    exact .cons (.agg (.cons (.int _ _) (.cons (.string _) (.cons (.string _) (.cons (.int _ _) (.cons (flagS_ok o1 β) (.cons (flagS_ok o2 β) (.cons (flagS_ok o3 β) .nil)))))))) (.cons (flagS_ok o β) (.cons (.agg (.cons (.int _ _) (.cons (.int _ _) (.cons (.int _ _) .nil)))) .nil))
  clear hA0 hval0 hsz0 hsz
  refine main.mono fun e W' ⟨he, bel⟩ => ?_
  subst he
  exact ⟨_, rfl, _, _, _, [], _, [], hW', trodAll_mk1 (shut_bool u_4 _), (trodAll_cons_mk (Below.trod laidOut (by kernel_rfl) (of_decide_eq_true (by kernel_rfl)) k0 bel lt0) (trodAll_cons_mk (Below.trod laidOut (by kernel_rfl) (of_decide_eq_true (by kernel_rfl)) k1 bel lt1) (trodAll_cons_mk (Below.trod laidOut (by kernel_rfl) (of_decide_eq_true (by kernel_rfl)) k2 bel lt2) trodAll_mk0))), rfl, bel.frame _, fun h => by cases h⟩
theorem over : Rows.frontStepsRow.holds Try.pinned (OpenSpec.ofChange Rows.frontStepsSpec) :=
  OpenClaim.holds_of_wide 3 Try.f3 rfl rfl rfl rfl rfl rfl rfl ⟨rfl, rfl, rfl, rfl, rfl⟩ rfl rfl rfl rfl rfl (by kernel_rfl) Try.func3 (by kernel_rfl)
    (of_decide_eq_true (by kernel_rfl)) (by unfold Func.isWrapper; first | (rw [if_pos (by decide +kernel)]; kernel_rfl) | (rw [if_neg (by decide +kernel)]; exact ⟨rfl, rfl⟩))
    (fun os started H enc _ => lifted os started H enc)
theorem proved : Rows.FrontStepsSaid := over
end frontSteps
/-- The row, under a short name. -/
theorem frontSteps_holds : Rows.FrontStepsSaid := frontSteps.proved
end Go.Proofs.Ytadfhabapgipbaa
