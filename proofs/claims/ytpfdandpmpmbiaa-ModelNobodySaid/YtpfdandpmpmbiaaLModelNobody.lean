/- ModelNobody holds for every input.
   No condition. -/
import Derived.Test.YtpfdandpmpmbiaaRows
import Derived.Test.YtpfdandpmpmbiaaOq
import Derived.Test.YtpfdandpmpmbiaaWk
import Derived.Test.YtpfdandpmpmbiaaLi
import Derived.WalkKit
import Derived.ProofKit
import Derived.OpenShut
import Derived.ShutString
import Derived.ChangeOld
import Derived.Below
import Derived.SizedLaws
namespace Go.Proofs.Ytpfdandpmpmbiaa
open Go Go.ChangeShapes Go.WideShapes Go.ChangeAt Go.RowKit Go.Proofs.Ytpfdandpmpmbiaa.V
set_option linter.unusedVariables false
namespace modelNobody
theorem own : ownKnob Try.prog.godebug = none := by kernel_rfl
theorem laidOut : laidOutB Try.prog = true := by kernel_rfl
set_option maxRecDepth 100000 in
theorem lifted (os : Os) (started : os.Started) (H : Type) (enc : TypeId × Value → H) :
    ReturnsInHanded {} Try.checked os 11 .any (Rows.modelNobodySpec.pre6 enc Try.prog Try.f11 Rows.modelNobodyRow.domain false) (Rows.modelNobodySpec.post enc Try.prog Try.f11 false true false false) := by
  refine returnsInHanded_of_change_sized (C := Try.checked) own started (by kernel_rfl) Try.func11
    (ChangeSpec.witness6 (enc := enc) (C := Try.checked) false ⟨#[], #[Value.agg #[Value.int IntKind.i64 0, Value.string ByteArray.empty, Value.string ByteArray.empty, Value.int IntKind.i64 0, Value.slice none 0 0, Value.slice none 0 0, Value.slice none 0 0], Value.slice none 0 0], []⟩ 8 (by kernel_rfl) (by kernel_rfl) (by kernel_rfl) (by kernel_rfl)) ?_
  intro W base args ds gs before hval0 hW hcnd hsz0 _
  have hsz : (DataW.weightsEach Try.prog (Try.f11.params.toList ++ Rows.modelNobodySpec.plain.varTypes Try.prog) (ds ++ gs)).all (· ≤ reachBytes) = true := hsz0
  have hval : ∀ (j : Nat) t v, Try.f11.params[j]? = some t → args[j]? = some v → Value.okWide Try.prog W .any base t v := hval0
  have hW' := hW
  obtain ⟨p, q, hA0, hV, rfl, hfz, hnd⟩ := hW
  have hA : DataW.TrodAll enc Try.prog W 0 (fun _ => true) true Try.f11.params.toList args.toList ds p := hA0
  rw [Try.params11] at hA hval hsz
  obtain ⟨v0, vs0, d0, ds0, p0, q0, hargs, rfl, rfl, h0, r0⟩ := trodAll_cons hA
  obtain ⟨v1, vs1, d1, ds1, p1, q1, rfl, rfl, rfl, h1, r1⟩ := trodAll_cons r0
  obtain ⟨rfl, rfl, rfl⟩ := trodAll_nil r1
  obtain rfl : args = #[v0, v1] := by cases args; simp_all
  obtain ⟨rfl, rfl⟩ := trodVars_none hV
  have hv0 := (hval 0 61 v0 rfl rfl)
  have k0 := h0
  have lt0 : ∀ x ∈ p0, x.block < W.heap.size := by obtain ⟨m, hm⟩ := k0; exact DataW.trod_lt m _ _ _ hm
  have hv1 := (hval 1 39 v1 rfl rfl)
  have k1 := h1
  have lt1 : ∀ x ∈ p1, x.block < W.heap.size := by obtain ⟨m, hm⟩ := k1; exact DataW.trod_lt m _ _ _ hm
  have main : Calls Try.prog 11 #[v0, v1] W (fun e w' => e = .returned (.bool true) ∧ RowKit.Below W.heap.size W w') := by
    clear hA0 hval0 hsz0 hcnd hnd hfz hW' hval
    obtain ⟨cs0, rfl, _⟩ := okWide_struct u_61 hv0
    obtain ⟨n0, h0⟩ := h0
    obtain ⟨x0, r0, o0, wf0⟩ := og_61 _ _ _ h0
    obtain ⟨a0_0, q0_0, a0_1, q0_1, a0_2, q0_2, e0, f0_0, f0_1, f0_2⟩ := r0
    have z0 : ∀ β, VRs β [.int .i64 x0.Kind, .string x0.R.From, .string x0.R.To, .int .i64 x0.Rev, .slice a0_0 x0.Cmps.length q0_0, .slice a0_1 x0.Then.length q0_1, .slice a0_2 x0.Else.length q0_2] cs0.toList := fun β => by have q := flagS_oks o0 β; rw [show List.map flagS (Value.agg cs0).cells.toList = [.int .i64 x0.Kind, .string x0.R.From, .string x0.R.To, .int .i64 x0.Rev, .slice a0_0 x0.Cmps.length q0_0, .slice a0_1 x0.Then.length q0_1, .slice a0_2 x0.Else.length q0_2] from e0] at q; exact q
    obtain ⟨a1, l1, c1, rfl⟩ := okWide_slice u_39 hv1
    obtain ⟨n1, h1⟩ := h1
    obtain ⟨x1, r1, o1, wf1⟩ := (open_RL (T := 0) u_39 co_45 (by decide) og_45) _ _ _ h1
    obtain ⟨a1_, q1, e1, f1⟩ := r1
    have e1 : flagS (.slice a1 l1 c1) = .slice a1_ x1.length q1 := by simpa [Value.cells] using e1
    have z1 : ∀ β, VR β (.slice a1_ x1.length q1) (.slice a1 l1 c1) := fun β => by rw [← e1]; exact flagS_ok rfl β
    have sl1 : x1.length ≤ 4000000000000 := by
      have hq : l1 = x1.length := by have e_ := e1; cases a1 <;> (simp [flagS] at e_; exact e_.2.1)
      rcases DataW.trod_slice u_39 h1 with ⟨hc, _⟩ | ⟨_, len, _, elems, rest, _, _, hc, hx, _, _, _, hl, _⟩
      · have hc_ : l1 = 0 := by simp [Value.cells] at hc; exact hc.2.1
        omega
      · have hc_ : l1 = len := by simp [Value.cells] at hc; exact hc.2.1
        have ed := (Prod.mk.inj hx).1
        subst ed
        have hz := sized_slice hsz (j := 1) rfl rfl u_39
        have hb : Try.prog.bytesOf 45 = 40 := by kernel_rfl
        rw [hb, List.length_map, List.length_map] at hz
        have := reachBytes_lt
        omega
    have hF := plain_ModelNobody x0 x1 wf0 wf1 sl1
    refine law_ok EE_ok (args := [.agg #[.int .i64 x0.Kind, .string x0.R.From, .string x0.R.To, .int .i64 x0.Rev, .slice a0_0 x0.Cmps.length q0_0, .slice a0_1 x0.Then.length q0_1, .slice a0_2 x0.Else.length q0_2], .slice a1_ x1.length q1]) (fun β => ?_) (s_law08_ModelNobody (heap0_wf W) x0 x1 f0_0 f0_1 f0_2 f1 hF)
    exact .cons (.agg (z0 β)) (.cons (z1 β) .nil)
  clear hA0 hval0 hsz0 hsz
  refine main.mono fun e W' ⟨he, bel⟩ => ?_
  subst he
  exact ⟨_, rfl, _, _, _, [], _, [], hW', trodAll_mk1 (shut_bool u_4 _), (trodAll_cons_mk (Below.trod laidOut (by kernel_rfl) (of_decide_eq_true (by kernel_rfl)) k0 bel lt0) (trodAll_cons_mk (Below.trod laidOut (by kernel_rfl) (of_decide_eq_true (by kernel_rfl)) k1 bel lt1) trodAll_mk0)), rfl, bel.frame _, fun h => by cases h⟩
theorem over : Rows.modelNobodyRow.holds Try.pinned (OpenSpec.ofChange Rows.modelNobodySpec) :=
  OpenClaim.holds_of_wide 11 Try.f11 rfl rfl rfl rfl rfl rfl rfl ⟨rfl, rfl, rfl, rfl, rfl⟩ rfl rfl rfl rfl rfl (by kernel_rfl) Try.func11 (by kernel_rfl)
    (of_decide_eq_true (by kernel_rfl)) (by unfold Func.isWrapper; first | (rw [if_pos (by decide +kernel)]; kernel_rfl) | (rw [if_neg (by decide +kernel)]; exact ⟨rfl, rfl⟩))
    (fun os started H enc _ => lifted os started H enc)
theorem proved : Rows.ModelNobodySaid := over
end modelNobody
/-- The row, under a short name. -/
theorem modelNobody_holds : Rows.ModelNobodySaid := modelNobody.proved
end Go.Proofs.Ytpfdandpmpmbiaa
