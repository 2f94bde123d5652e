/- SubidxNobody holds for every input.
   No condition. -/
import Derived.Test.YthgcmcifhhkebaaRows
import Derived.Test.YthgcmcifhhkebaaLa
import Derived.WalkKit
import Derived.ProofKit
import Derived.OpenShut
import Derived.ShutString
import Derived.ChangeOld
import Derived.Below
import Derived.SizedLaws
namespace Go.Proofs.Ythgcmcifhhkebaa
open Go Go.ChangeShapes Go.WideShapes Go.ChangeAt Go.RowKit Go.Proofs.Ythgcmcifhhkebaa.V
set_option linter.unusedVariables false
namespace subidxNobody
theorem own : ownKnob Try.prog.godebug = none := by kernel_rfl
theorem laidOut : laidOutB Try.prog = true := by kernel_rfl
set_option maxRecDepth 100000 in
theorem lifted (os : Os) (started : os.Started) (H : Type) (enc : TypeId × Value → H) :
    ReturnsInHanded {} Try.checked os 8 .any (Rows.subidxNobodySpec.pre6 enc Try.prog Try.f8 Rows.subidxNobodyRow.domain false) (Rows.subidxNobodySpec.post enc Try.prog Try.f8 false true false false) := by
  refine returnsInHanded_of_change_sized (C := Try.checked) own started (by kernel_rfl) Try.func8
    (ChangeSpec.witness6 (enc := enc) (C := Try.checked) false ⟨#[], #[Value.agg #[Value.int IntKind.i64 0, Value.int IntKind.i64 0, Value.string ByteArray.empty, Value.string ByteArray.empty], Value.string ByteArray.empty], []⟩ 8 (by kernel_rfl) (by kernel_rfl) (by kernel_rfl) (by kernel_rfl)) ?_
  intro W base args ds gs before hval0 hW hcnd hsz0 _
  have hsz : (DataW.weightsEach Try.prog (Try.f8.params.toList ++ Rows.subidxNobodySpec.plain.varTypes Try.prog) (ds ++ gs)).all (· ≤ reachBytes) = true := hsz0
  have hval : ∀ (j : Nat) t v, Try.f8.params[j]? = some t → args[j]? = some v → Value.okWide Try.prog W .any base t v := hval0
  have hW' := hW
  obtain ⟨p, q, hA0, hV, rfl, hfz, hnd⟩ := hW
  have hA : DataW.TrodAll enc Try.prog W 0 (fun _ => true) true Try.f8.params.toList args.toList ds p := hA0
  rw [Try.params8] at hA hval hsz
  obtain ⟨v0, vs0, d0, ds0, p0, q0, hargs, rfl, rfl, h0, r0⟩ := trodAll_cons hA
  obtain ⟨v1, vs1, d1, ds1, p1, q1, rfl, rfl, rfl, h1, r1⟩ := trodAll_cons r0
  obtain ⟨rfl, rfl, rfl⟩ := trodAll_nil r1
  obtain rfl : args = #[v0, v1] := by cases args; simp_all
  obtain ⟨rfl, rfl⟩ := trodVars_none hV
  have hv0 := (hval 0 27 v0 rfl rfl)
  have k0 := h0
  have lt0 : ∀ x ∈ p0, x.block < W.heap.size := by obtain ⟨m, hm⟩ := k0; exact DataW.trod_lt m _ _ _ hm
  have hv1 := (hval 1 9 v1 rfl rfl)
  have k1 := h1
  have lt1 : ∀ x ∈ p1, x.block < W.heap.size := by obtain ⟨m, hm⟩ := k1; exact DataW.trod_lt m _ _ _ hm
  have main : Calls Try.prog 8 #[v0, v1] W (fun e w' => e = .returned (.bool true) ∧ RowKit.Below W.heap.size W w') := by
    clear hA0 hval0 hsz0 hcnd hnd hfz hW' hval
    obtain ⟨cs0, rfl, _⟩ := okWide_struct u_27 hv0
    obtain ⟨n0, h0⟩ := h0
    obtain ⟨x0, r0, o0, wf0⟩ := og_27 _ _ _ h0
    have e0 := r0
    have z0 : ∀ β, VRs β [.int .i64 x0.Id, .int .i64 x0.Rev, .string x0.R.From, .string x0.R.To] cs0.toList := fun β => by have q := flagS_oks o0 β; rw [show List.map flagS (Value.agg cs0).cells.toList = [.int .i64 x0.Id, .int .i64 x0.Rev, .string x0.R.From, .string x0.R.To] from e0] at q; exact q
    obtain ⟨v1, rfl⟩ := okWide_string u_9 hv1
    obtain ⟨n1, h1⟩ := h1
    obtain ⟨x1, r1, o1, wf1⟩ := (open_str (T := 0) u_9) _ _ _ h1
    obtain rfl : x1 = v1 := by simpa [RS_, Rep.flat, flagS, Value.cells, eq_comm] using r1
    refine law_run EE_ok (args := [.agg #[.int .i64 x0.Id, .int .i64 x0.Rev, .string x0.R.From, .string x0.R.To], .string x1]) (fun β => ?_) (run_SubidxNobody W x0 x1)
    exact .cons (.agg (z0 β)) (.cons (.string _) .nil)
  clear hA0 hval0 hsz0 hsz
  refine main.mono fun e W' ⟨he, bel⟩ => ?_
  subst he
  exact ⟨_, rfl, _, _, _, [], _, [], hW', trodAll_mk1 (shut_bool u_4 _), (trodAll_cons_mk (Below.trod laidOut (by kernel_rfl) (of_decide_eq_true (by kernel_rfl)) k0 bel lt0) (trodAll_cons_mk (Below.trod laidOut (by kernel_rfl) (of_decide_eq_true (by kernel_rfl)) k1 bel lt1) trodAll_mk0)), rfl, bel.frame _, fun h => by cases h⟩
theorem over : Rows.subidxNobodyRow.holds Try.pinned (OpenSpec.ofChange Rows.subidxNobodySpec) :=
  OpenClaim.holds_of_wide 8 Try.f8 rfl rfl rfl rfl rfl rfl rfl ⟨rfl, rfl, rfl, rfl, rfl⟩ rfl rfl rfl rfl rfl (by kernel_rfl) Try.func8 (by kernel_rfl)
    (of_decide_eq_true (by kernel_rfl)) (by unfold Func.isWrapper; first | (rw [if_pos (by decide +kernel)]; kernel_rfl) | (rw [if_neg (by decide +kernel)]; exact ⟨rfl, rfl⟩))
    (fun os started H enc _ => lifted os started H enc)
theorem proved : Rows.SubidxNobodySaid := over
end subidxNobody
/-- The row, under a short name. -/
theorem subidxNobody_holds : Rows.SubidxNobodySaid := subidxNobody.proved
end Go.Proofs.Ythgcmcifhhkebaa
