/- FeedNobody holds for every input.
   No condition. -/
import Derived.Test.YtaieciabjlegkaaGreatRows
import Derived.Test.YtaieciabjlegkaaGreatLb
import Derived.WalkKit
import Derived.ProofKit
import Derived.OpenShut
import Derived.ShutString
import Derived.ChangeOld
import Derived.Below
import Derived.SizedLaws
namespace Go.Proofs.YtaieciabjlegkaaGreat
open Go Go.ChangeShapes Go.WideShapes Go.ChangeAt Go.RowKit Go.Proofs.YtaieciabjlegkaaGreat.V
set_option linter.unusedVariables false
namespace feedNobody
theorem own : ownKnob Tryz.prog.godebug = none := by kernel_rfl
theorem laidOut : laidOutB Tryz.prog = true := by kernel_rfl
set_option maxRecDepth 100000 in
theorem lifted (os : Os) (started : os.Started) (H : Type) (enc : TypeId × Value → H) :
    ReturnsInHanded {} Tryz.checked os 14 .any (Rows.feedNobodySpec.pre6 enc Tryz.prog Tryz.f14 Rows.feedNobodyRow.domain false) (Rows.feedNobodySpec.post enc Tryz.prog Tryz.f14 false true false false) := by
  refine returnsInHanded_of_change_sized (C := Tryz.checked) own started (by kernel_rfl) Tryz.func14
    (ChangeSpec.witness6 (enc := enc) (C := Tryz.checked) false ⟨#[], #[Value.int IntKind.i64 0, Value.int IntKind.i64 0], []⟩ 8 (by kernel_rfl) (by kernel_rfl) (by kernel_rfl) (by kernel_rfl)) ?_
  intro W base args ds gs before hval0 hW hcnd hsz0 _
  have hsz : (DataW.weightsEach Tryz.prog (Tryz.f14.params.toList ++ Rows.feedNobodySpec.plain.varTypes Tryz.prog) (ds ++ gs)).all (· ≤ reachBytes) = true := hsz0
  have hval : ∀ (j : Nat) t v, Tryz.f14.params[j]? = some t → args[j]? = some v → Value.okWide Tryz.prog W .any base t v := hval0
  have hW' := hW
  obtain ⟨p, q, hA0, hV, rfl, hfz, hnd⟩ := hW
  have hA : DataW.TrodAll enc Tryz.prog W 0 (fun _ => true) true Tryz.f14.params.toList args.toList ds p := hA0
  rw [Tryz.params14] at hA hval hsz
  obtain ⟨v0, vs0, d0, ds0, p0, q0, hargs, rfl, rfl, h0, r0⟩ := trodAll_cons hA
  obtain ⟨v1, vs1, d1, ds1, p1, q1, rfl, rfl, rfl, h1, r1⟩ := trodAll_cons r0
  obtain ⟨rfl, rfl, rfl⟩ := trodAll_nil r1
  obtain rfl : args = #[v0, v1] := by cases args; simp_all
  obtain ⟨rfl, rfl⟩ := trodVars_none hV
  have hv0 := (hval 0 3 v0 rfl rfl)
  have k0 := h0
  have lt0 : ∀ x ∈ p0, x.block < W.heap.size := by obtain ⟨m, hm⟩ := k0; exact DataW.trod_lt m _ _ _ hm
  have hv1 := (hval 1 3 v1 rfl rfl)
  have k1 := h1
  have lt1 : ∀ x ∈ p1, x.block < W.heap.size := by obtain ⟨m, hm⟩ := k1; exact DataW.trod_lt m _ _ _ hm
  have main : Calls Tryz.prog 14 #[v0, v1] W (fun e w' => e = .returned (.bool true) ∧ RowKit.Below W.heap.size W w') := by
    clear hA0 hval0 hsz0 hcnd hnd hfz hW' hval
    obtain ⟨v0, rfl⟩ := okWide_int u_3 hv0
    obtain ⟨n0, h0⟩ := h0
    obtain ⟨x0, r0, o0, wf0⟩ := (open_int (T := 0) u_3) _ _ _ h0
    obtain rfl : x0 = v0 := by simpa [RI_, Rep.flat, flagS, Value.cells, eq_comm] using r0
    obtain ⟨v1, rfl⟩ := okWide_int u_3 hv1
    obtain ⟨n1, h1⟩ := h1
    obtain ⟨x1, r1, o1, wf1⟩ := (open_int (T := 0) u_3) _ _ _ h1
    obtain rfl : x1 = v1 := by simpa [RI_, Rep.flat, flagS, Value.cells, eq_comm] using r1
    refine law_run EE_ok (args := [.int .i64 x0, .int .i64 x1]) (fun β => ?_) (run_FeedNobody W x0 x1)
    exact .cons (.int _ _) (.cons (.int _ _) .nil)
  clear hA0 hval0 hsz0 hsz
  refine main.mono fun e W' ⟨he, bel⟩ => ?_
  subst he
  exact ⟨_, rfl, _, _, _, [], _, [], hW', trodAll_mk1 (shut_bool u_4 _), (trodAll_cons_mk (Below.trod laidOut (by kernel_rfl) (of_decide_eq_true (by kernel_rfl)) k0 bel lt0) (trodAll_cons_mk (Below.trod laidOut (by kernel_rfl) (of_decide_eq_true (by kernel_rfl)) k1 bel lt1) trodAll_mk0)), rfl, bel.frame _, fun h => by cases h⟩
theorem and_t {a b : Bool} (ha : a = true) (hb : b = true) : (a && b) = true := by rw [ha, hb]; rfl
set_option maxHeartbeats 40000000 in
set_option maxRecDepth 1000000 in
theorem nm : Tryz.checked.prog.funcNamed Rows.feedNobodyRow.func = some 14 := by kernel_rfl
set_option maxHeartbeats 40000000 in
set_option maxRecDepth 1000000 in
theorem jf : joinedFacts Tryz.checked.prog 14 Tryz.f14 Rows.feedNobodySpec Rows.feedNobodyRow = true := by
  unfold joinedFacts
  repeat' (with_reducible refine and_t ?_ ?_)
  all_goals as_aux_lemma => kernel_rfl
theorem over : Rows.feedNobodyRow.holds Tryz.pinned (OpenSpec.ofChange Rows.feedNobodySpec) :=
  OpenClaim.holds_of_wide 14 Tryz.f14 rfl rfl rfl rfl rfl rfl rfl ⟨rfl, rfl, rfl, rfl, rfl⟩ rfl rfl rfl rfl rfl nm Tryz.func14 jf
    (of_decide_eq_true (by kernel_rfl)) (by unfold Func.isWrapper; first | (rw [if_pos (by decide +kernel)]; kernel_rfl) | (rw [if_neg (by decide +kernel)]; exact ⟨rfl, rfl⟩))
    (fun os started H enc _ => lifted os started H enc)
theorem proved : Rows.FeedNobodySaid := over
end feedNobody
/-- The row, under a short name. -/
theorem feedNobody_holds : Rows.FeedNobodySaid := feedNobody.proved
end Go.Proofs.YtaieciabjlegkaaGreat
