/- CallsNobody holds for every input.
   No condition. -/
import Derived.Test.YtaieciabjlegkaaGreatRows
import Derived.Test.YtaieciabjlegkaaGreatLa
import Derived.WalkKit
import Derived.ProofKit
import Derived.OpenShut
import Derived.ShutString
import Derived.ChangeOld
import Derived.Below
import Derived.SizedLaws
namespace Go.Proofs.YtaieciabjlegkaaGreat
open Go Go.ChangeShapes Go.WideShapes Go.ChangeAt Go.RowKit Go.Proofs.YtaieciabjlegkaaGreat.V
set_option linter.unusedVariables false
namespace callsNobody
theorem own : ownKnob Tryz.prog.godebug = none := by kernel_rfl
theorem laidOut : laidOutB Tryz.prog = true := by kernel_rfl
set_option maxRecDepth 100000 in
theorem lifted (os : Os) (started : os.Started) (H : Type) (enc : TypeId × Value → H) :
    ReturnsInHanded {} Tryz.checked os 6 .any (Rows.callsNobodySpec.pre6 enc Tryz.prog Tryz.f6 Rows.callsNobodyRow.domain false) (Rows.callsNobodySpec.post enc Tryz.prog Tryz.f6 false true false false) := by
  refine returnsInHanded_of_change_sized (C := Tryz.checked) own started (by kernel_rfl) Tryz.func6
    (ChangeSpec.witness6 (enc := enc) (C := Tryz.checked) false ⟨#[], #[Value.int IntKind.i64 0, Value.int IntKind.i64 0, Value.agg #[Value.int IntKind.i64 0, Value.string ByteArray.empty, Value.string ByteArray.empty, Value.int IntKind.i64 0, Value.slice none 0 0, Value.slice none 0 0, Value.slice none 0 0]], []⟩ 8 (by kernel_rfl) (by kernel_rfl) (by kernel_rfl) (by kernel_rfl)) ?_
  intro W base args ds gs before hval0 hW hcnd hsz0 _
  have hsz : (DataW.weightsEach Tryz.prog (Tryz.f6.params.toList ++ Rows.callsNobodySpec.plain.varTypes Tryz.prog) (ds ++ gs)).all (· ≤ reachBytes) = true := hsz0
  have hval : ∀ (j : Nat) t v, Tryz.f6.params[j]? = some t → args[j]? = some v → Value.okWide Tryz.prog W .any base t v := hval0
  have hW' := hW
  obtain ⟨p, q, hA0, hV, rfl, hfz, hnd⟩ := hW
  have hA : DataW.TrodAll enc Tryz.prog W 0 (fun _ => true) true Tryz.f6.params.toList args.toList ds p := hA0
  rw [Tryz.params6] at hA hval hsz
  obtain ⟨v0, vs0, d0, ds0, p0, q0, hargs, rfl, rfl, h0, r0⟩ := trodAll_cons hA
  obtain ⟨v1, vs1, d1, ds1, p1, q1, rfl, rfl, rfl, h1, r1⟩ := trodAll_cons r0
  obtain ⟨v2, vs2, d2, ds2, p2, q2, rfl, rfl, rfl, h2, r2⟩ := trodAll_cons r1
  obtain ⟨rfl, rfl, rfl⟩ := trodAll_nil r2
  obtain rfl : args = #[v0, v1, v2] := by cases args; simp_all
  obtain ⟨rfl, rfl⟩ := trodVars_none hV
  have hv0 := (hval 0 3 v0 rfl rfl)
  have k0 := h0
  have lt0 : ∀ x ∈ p0, x.block < W.heap.size := by obtain ⟨m, hm⟩ := k0; exact DataW.trod_lt m _ _ _ hm
  have hv1 := (hval 1 3 v1 rfl rfl)
  have k1 := h1
  have lt1 : ∀ x ∈ p1, x.block < W.heap.size := by obtain ⟨m, hm⟩ := k1; exact DataW.trod_lt m _ _ _ hm
  have hv2 := (hval 2 46 v2 rfl rfl)
  have k2 := h2
  have lt2 : ∀ x ∈ p2, x.block < W.heap.size := by obtain ⟨m, hm⟩ := k2; exact DataW.trod_lt m _ _ _ hm
  have main : Calls Tryz.prog 6 #[v0, v1, v2] W (fun e w' => e = .returned (.bool true) ∧ RowKit.Below W.heap.size W w') := by
    clear hA0 hval0 hsz0 hcnd hnd hfz hW' hval
    obtain ⟨v0, rfl⟩ := okWide_int u_3 hv0
    obtain ⟨n0, h0⟩ := h0
    obtain ⟨x0, r0, o0, wf0⟩ := (open_int (T := 0) u_3) _ _ _ h0
    obtain rfl : x0 = v0 := by simpa [RI_, Rep.flat, flagS, Value.cells, eq_comm] using r0
    obtain ⟨v1, rfl⟩ := okWide_int u_3 hv1
    obtain ⟨n1, h1⟩ := h1
    obtain ⟨x1, r1, o1, wf1⟩ := (open_int (T := 0) u_3) _ _ _ h1
    obtain rfl : x1 = v1 := by simpa [RI_, Rep.flat, flagS, Value.cells, eq_comm] using r1
    obtain ⟨cs2, rfl, _⟩ := okWide_struct u_46 hv2
    obtain ⟨n2, h2⟩ := h2
    obtain ⟨x2, r2, o2, wf2⟩ := og_46 _ _ _ h2
    obtain ⟨a2_0, q2_0, a2_1, q2_1, a2_2, q2_2, e2, f2_0, f2_1, f2_2⟩ := r2
    have z2 : ∀ β, VRs β [.int .i64 x2.Kind, .string x2.R.From, .string x2.R.To, .int .i64 x2.Rev, .slice a2_0 x2.Cmps.length q2_0, .slice a2_1 x2.Then.length q2_1, .slice a2_2 x2.Else.length q2_2] cs2.toList := fun β => by have q := flagS_oks o2 β; rw [show List.map flagS (Value.agg cs2).cells.toList = [.int .i64 x2.Kind, .string x2.R.From, .string x2.R.To, .int .i64 x2.Rev, .slice a2_0 x2.Cmps.length q2_0, .slice a2_1 x2.Then.length q2_1, .slice a2_2 x2.Else.length q2_2] from e2] at q; exact q
    refine law_run EE_ok (args := [.int .i64 x0, .int .i64 x1, .agg #[.int .i64 x2.Kind, .string x2.R.From, .string x2.R.To, .int .i64 x2.Rev, .slice a2_0 x2.Cmps.length q2_0, .slice a2_1 x2.Then.length q2_1, .slice a2_2 x2.Else.length q2_2]]) (fun β => ?_) (run_CallsNobody W x0 x1 x2 _ _ _ _ _ _)
    exact .cons (.int _ _) (.cons (.int _ _) (.cons (.agg (z2 β)) .nil))
  clear hA0 hval0 hsz0 hsz
  refine main.mono fun e W' ⟨he, bel⟩ => ?_
  subst he
  exact ⟨_, rfl, _, _, _, [], _, [], hW', trodAll_mk1 (shut_bool u_4 _), (trodAll_cons_mk (Below.trod laidOut (by kernel_rfl) (of_decide_eq_true (by kernel_rfl)) k0 bel lt0) (trodAll_cons_mk (Below.trod laidOut (by kernel_rfl) (of_decide_eq_true (by kernel_rfl)) k1 bel lt1) (trodAll_cons_mk (Below.trod laidOut (by kernel_rfl) (of_decide_eq_true (by kernel_rfl)) k2 bel lt2) trodAll_mk0))), rfl, bel.frame _, fun h => by cases h⟩
theorem and_t {a b : Bool} (ha : a = true) (hb : b = true) : (a && b) = true := by rw [ha, hb]; rfl
set_option maxHeartbeats 40000000 in
set_option maxRecDepth 1000000 in
theorem nm : Tryz.checked.prog.funcNamed Rows.callsNobodyRow.func = some 6 := by kernel_rfl
set_option maxHeartbeats 40000000 in
set_option maxRecDepth 1000000 in
theorem jf : joinedFacts Tryz.checked.prog 6 Tryz.f6 Rows.callsNobodySpec Rows.callsNobodyRow = true := by
  unfold joinedFacts
  repeat' (with_reducible refine and_t ?_ ?_)
  all_goals as_aux_lemma => kernel_rfl
theorem over : Rows.callsNobodyRow.holds Tryz.pinned (OpenSpec.ofChange Rows.callsNobodySpec) :=
  OpenClaim.holds_of_wide 6 Tryz.f6 rfl rfl rfl rfl rfl rfl rfl ⟨rfl, rfl, rfl, rfl, rfl⟩ rfl rfl rfl rfl rfl nm Tryz.func6 jf
    (of_decide_eq_true (by kernel_rfl)) (by unfold Func.isWrapper; first | (rw [if_pos (by decide +kernel)]; kernel_rfl) | (rw [if_neg (by decide +kernel)]; exact ⟨rfl, rfl⟩))
    (fun os started H enc _ => lifted os started H enc)
theorem proved : Rows.CallsNobodySaid := over
end callsNobody
/-- The row, under a short name. -/
theorem callsNobody_holds : Rows.CallsNobodySaid := callsNobody.proved
end Go.Proofs.YtaieciabjlegkaaGreat
