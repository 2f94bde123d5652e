/- CoreNobody holds for every input.
   No condition. -/
import Derived.Test.YtmogkmckjgeoiaaGreatRows
import Derived.Test.YtmogkmckjgeoiaaGreatOq
import Derived.Test.YtmogkmckjgeoiaaGreatLb
import Derived.WalkKit
import Derived.ProofKit
import Derived.OpenShut
import Derived.ShutString
import Derived.ChangeOld
import Derived.Below
import Derived.SizedLaws
namespace Go.Proofs.YtmogkmckjgeoiaaGreat
open Go Go.ChangeShapes Go.WideShapes Go.ChangeAt Go.RowKit Go.Proofs.YtmogkmckjgeoiaaGreat.V
set_option linter.unusedVariables false
namespace coreNobody
theorem own : ownKnob Tryz.prog.godebug = none := by kernel_rfl
theorem laidOut : laidOutB Tryz.prog = true := by kernel_rfl
set_option maxRecDepth 100000 in
theorem lifted (os : Os) (started : os.Started) (H : Type) (enc : TypeId × Value → H) :
 ReturnsInHanded {} Tryz.checked os 3 .any (Rows.coreNobodySpec.pre6 enc Tryz.prog Tryz.f3 Rows.coreNobodyRow.domain false) (Rows.coreNobodySpec.post enc Tryz.prog Tryz.f3 false true false false) := by
 refine returnsInHanded_of_change_sized (C := Tryz.checked) own started (by kernel_rfl) Tryz.func3
  (ChangeSpec.witness6 (enc := enc) (C := Tryz.checked) false ⟨#[], #[Value.agg #[Value.int IntKind.i64 0, Value.string ByteArray.empty, Value.string ByteArray.empty, Value.int IntKind.i64 0, Value.slice none 0 0, Value.slice none 0 0, Value.slice none 0 0], Value.agg #[Value.string ByteArray.empty, Value.string ByteArray.empty, Value.int IntKind.i64 0, Value.bool false, Value.bool false]], []⟩ 8 (by kernel_rfl) (by kernel_rfl) (by kernel_rfl) (by kernel_rfl)) ?_
 intro W base args ds gs before hval0 hW hcnd hsz0 _
 have hsz : (DataW.weightsEach Tryz.prog (Tryz.f3.params.toList ++ Rows.coreNobodySpec.plain.varTypes Tryz.prog) (ds ++ gs)).all (· ≤ reachBytes) = true := hsz0
 have hval : ∀ (j : Nat) t v, Tryz.f3.params[j]? = some t → args[j]? = some v → Value.okWide Tryz.prog W .any base t v := hval0
 have hW' := hW
 obtain ⟨p, q, hA0, hV, rfl, hfz, hnd⟩ := hW
 have hA : DataW.TrodAll enc Tryz.prog W 0 (fun _ => true) true Tryz.f3.params.toList args.toList ds p := hA0
 rw [Tryz.params3] at hA hval hsz
 obtain ⟨v0, vs0, d0, ds0, p0, q0, hargs, rfl, rfl, h0, r0⟩ := trodAll_cons hA
 obtain ⟨v1, vs1, d1, ds1, p1, q1, rfl, rfl, rfl, h1, r1⟩ := trodAll_cons r0
 obtain ⟨rfl, rfl, rfl⟩ := trodAll_nil r1
 obtain rfl : args = #[v0, v1] := by cases args; simp_all
 obtain ⟨rfl, rfl⟩ := trodVars_none hV
 have hv0 := (hval 0 27 v0 rfl rfl)
 have k0 := h0
 have lt0 : ∀ x ∈ p0, x.block < W.heap.size := by obtain ⟨m, hm⟩ := k0; exact DataW.trod_lt m _ _ _ hm
 have hv1 := (hval 1 29 v1 rfl rfl)
 have k1 := h1
 have lt1 : ∀ x ∈ p1, x.block < W.heap.size := by obtain ⟨m, hm⟩ := k1; exact DataW.trod_lt m _ _ _ hm
 have main : Calls Tryz.prog 3 #[v0, v1] W (fun e w' => e = .returned (.bool true) ∧ RowKit.Below W.heap.size W w') := by
  clear hA0 hval0 hsz0 hcnd hnd hfz hW' hval
  obtain ⟨cs0, rfl, _⟩ := okWide_struct u_27 hv0
  obtain ⟨n0, h0⟩ := h0
  obtain ⟨x0, r0, o0, wf0⟩ := og_27 _ _ _ h0
  obtain ⟨a0_0, q0_0, a0_1, q0_1, a0_2, q0_2, e0, f0_0, f0_1, f0_2⟩ := r0
  have z0 : ∀ β, VRs β [.int .i64 x0.Kind, .string x0.R.From, .string x0.R.To, .int .i64 x0.Rev, .slice a0_0 x0.Cmps.length q0_0, .slice a0_1 x0.Then.length q0_1, .slice a0_2 x0.Else.length q0_2] cs0.toList := fun β => by have q := flagS_oks o0 β; rw [show List.map flagS (Value.agg cs0).cells.toList = [.int .i64 x0.Kind, .string x0.R.From, .string x0.R.To, .int .i64 x0.Rev, .slice a0_0 x0.Cmps.length q0_0, .slice a0_1 x0.Then.length q0_1, .slice a0_2 x0.Else.length q0_2] from e0] at q; exact q
  obtain ⟨cs1, rfl, _⟩ := okWide_struct u_29 hv1
  obtain ⟨n1, h1⟩ := h1
  obtain ⟨x1, r1, o1, wf1⟩ := og_29 _ _ _ h1
  have e1 := r1
  have z1 : ∀ β, VRs β [.string x1.R.From, .string x1.R.To, .int .i64 x1.Next, .bool x1.Once, .bool x1.Dead] cs1.toList := fun β => by have q := flagS_oks o1 β; rw [show List.map flagS (Value.agg cs1).cells.toList = [.string x1.R.From, .string x1.R.To, .int .i64 x1.Next, .bool x1.Once, .bool x1.Dead] from e1] at q; exact q
  refine core_law x0 x1 f0_0 f0_1 f0_2 wf0 o0 e0 (fun β => ?_)
  exact .cons (.agg (z0 β)) (.cons (.agg (z1 β)) .nil)
 clear hA0 hval0 hsz0 hsz
 refine main.mono fun e W' ⟨he, bel⟩ => ?_
 subst he
 exact ⟨_, rfl, _, _, _, [], _, [], hW', trodAll_mk1 (shut_bool u_4 _), (trodAll_cons_mk (Below.trod laidOut (by kernel_rfl) (of_decide_eq_true (by kernel_rfl)) k0 bel lt0) (trodAll_cons_mk (Below.trod laidOut (by kernel_rfl) (of_decide_eq_true (by kernel_rfl)) k1 bel lt1) trodAll_mk0)), rfl, bel.frame _, fun h => by cases h⟩
theorem over : Rows.coreNobodyRow.holds Tryz.pinned (OpenSpec.ofChange Rows.coreNobodySpec) :=
 OpenClaim.holds_of_wide 3 Tryz.f3 rfl rfl rfl rfl rfl rfl rfl ⟨rfl, rfl, rfl, rfl, rfl⟩ rfl rfl rfl rfl rfl (by kernel_rfl) Tryz.func3 (by kernel_rfl)
  (of_decide_eq_true (by kernel_rfl)) (by unfold Func.isWrapper; first | (rw [if_pos (by decide +kernel)]; kernel_rfl) | (rw [if_neg (by decide +kernel)]; exact ⟨rfl, rfl⟩))
  (fun os started H enc _ => lifted os started H enc)
theorem proved : Rows.CoreNobodySaid := over
end coreNobody
theorem coreNobody_holds : Rows.CoreNobodySaid := coreNobody.proved
end Go.Proofs.YtmogkmckjgeoiaaGreat
