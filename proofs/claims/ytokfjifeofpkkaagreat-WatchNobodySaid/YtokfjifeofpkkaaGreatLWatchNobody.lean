/- WatchNobody holds for every input.
   No condition. -/
import Derived.Test.YtokfjifeofpkkaaGreatRows
import Derived.Test.YtokfjifeofpkkaaGreatOq
import Derived.Test.YtokfjifeofpkkaaGreatLb
import Derived.WalkKit
import Derived.ProofKit
import Derived.OpenShut
import Derived.ShutString
import Derived.ChangeOld
import Derived.Below
import Derived.SizedLaws
namespace Go.Proofs.YtokfjifeofpkkaaGreat
open Go Go.ChangeShapes Go.WideShapes Go.ChangeAt Go.RowKit Go.Proofs.YtokfjifeofpkkaaGreat.V
set_option linter.unusedVariables false
namespace watchNobody
theorem own : ownKnob Tryz.prog.godebug = none := by kernel_rfl
theorem laidOut : laidOutB Tryz.prog = true := by kernel_rfl
set_option maxRecDepth 100000 in
theorem lifted (os : Os) (started : os.Started) (H : Type) (enc : TypeId × Value → H) :
 ReturnsInHanded {} Tryz.checked os 3 .any (Rows.watchNobodySpec.pre6 enc Tryz.prog Tryz.f3 Rows.watchNobodyRow.domain false) (Rows.watchNobodySpec.post enc Tryz.prog Tryz.f3 false true false false) := by
 refine returnsInHanded_of_change_sized (C := Tryz.checked) own started (by kernel_rfl) Tryz.func3
  (ChangeSpec.witness6 (enc := enc) (C := Tryz.checked) false ⟨#[], #[Value.agg #[Value.string ByteArray.empty, Value.string ByteArray.empty], Value.int IntKind.i64 0, Value.string ByteArray.empty], []⟩ 8 (by kernel_rfl) (by kernel_rfl) (by kernel_rfl) (by kernel_rfl)) ?_
 intro W base args ds gs before hval0 hW hcnd hsz0 _
 have hsz : (DataW.weightsEach Tryz.prog (Tryz.f3.params.toList ++ Rows.watchNobodySpec.plain.varTypes Tryz.prog) (ds ++ gs)).all (· ≤ reachBytes) = true := hsz0
 have hval : ∀ (j : Nat) t v, Tryz.f3.params[j]? = some t → args[j]? = some v → Value.okWide Tryz.prog W .any base t v := hval0
 have hW' := hW
 obtain ⟨p, q, hA0, hV, rfl, hfz, hnd⟩ := hW
 have hA : DataW.TrodAll enc Tryz.prog W 0 (fun _ => true) true Tryz.f3.params.toList args.toList ds p := hA0
 rw [Tryz.params3] at hA hval hsz
 obtain ⟨v0, vs0, d0, ds0, p0, q0, hargs, rfl, rfl, h0, r0⟩ := trodAll_cons hA
 obtain ⟨v1, vs1, d1, ds1, p1, q1, rfl, rfl, rfl, h1, r1⟩ := trodAll_cons r0
 obtain ⟨v2, vs2, d2, ds2, p2, q2, rfl, rfl, rfl, h2, r2⟩ := trodAll_cons r1
 obtain ⟨rfl, rfl, rfl⟩ := trodAll_nil r2
 obtain rfl : args = #[v0, v1, v2] := by cases args; simp_all
 obtain ⟨rfl, rfl⟩ := trodVars_none hV
 have hv0 := (hval 0 23 v0 rfl rfl)
 have k0 := h0
 have lt0 : ∀ x ∈ p0, x.block < W.heap.size := by obtain ⟨m, hm⟩ := k0; exact DataW.trod_lt m _ _ _ hm
 have hv1 := (hval 1 3 v1 rfl rfl)
 have k1 := h1
 have lt1 : ∀ x ∈ p1, x.block < W.heap.size := by obtain ⟨m, hm⟩ := k1; exact DataW.trod_lt m _ _ _ hm
 have hv2 := (hval 2 9 v2 rfl rfl)
 have k2 := h2
 have lt2 : ∀ x ∈ p2, x.block < W.heap.size := by obtain ⟨m, hm⟩ := k2; exact DataW.trod_lt m _ _ _ hm
 have main : Calls Tryz.prog 3 #[v0, v1, v2] W (fun e w' => e = .returned (.bool true) ∧ RowKit.Below W.heap.size W w') := by
  clear hA0 hval0 hsz0 hcnd hnd hfz hW' hval
  obtain ⟨cs0, rfl, _⟩ := okWide_struct u_23 hv0
  obtain ⟨n0, h0⟩ := h0
  obtain ⟨x0, r0, o0, wf0⟩ := ow_23 _ _ _ h0 (fun n hn => of_decide_eq_true (List.all_eq_true.1 hsz n (DataW.weights_mem_each (j := 0) rfl rfl n hn)))
  have e0 := r0
  have z0 : ∀ β, VRs β [.string x0.From, .string x0.To] cs0.toList := fun β => by have q := flagS_oks o0 β; rw [show List.map flagS (Value.agg cs0).cells.toList = [.string x0.From, .string x0.To] from e0] at q; exact q
  obtain ⟨v1, rfl⟩ := okWide_int u_3 hv1
  obtain ⟨n1, h1⟩ := h1
  obtain ⟨x1, r1, o1, wf1⟩ := (open_int (T := 0) u_3) _ _ _ h1
  obtain rfl : x1 = v1 := by simpa [RI_, Rep.flat, flagS, Value.cells, eq_comm] using r1
  obtain ⟨v2, rfl⟩ := okWide_string u_9 hv2
  obtain ⟨n2, h2⟩ := h2
  obtain ⟨x2, r2, o2, wf2⟩ := (open_strW (T := 0) u_9) _ _ _ h2 (fun n hn => of_decide_eq_true (List.all_eq_true.1 hsz n (DataW.weights_mem_each (j := 2) rfl rfl n hn)))
  obtain rfl : x2 = v2 := by simpa [RS_, Rep.flat, flagS, Value.cells, eq_comm] using r2
  refine watch_law x0 x1 x2 wf2 (fun β => ?_)
  exact .cons (.agg (z0 β)) (.cons (.int _ _) (.cons (.string _) .nil))
 clear hA0 hval0 hsz0 hsz
 refine main.mono fun e W' ⟨he, bel⟩ => ?_
 subst he
 exact ⟨_, rfl, _, _, _, [], _, [], hW', trodAll_mk1 (shut_bool u_4 _), (trodAll_cons_mk (Below.trod laidOut (by kernel_rfl) (of_decide_eq_true (by kernel_rfl)) k0 bel lt0) (trodAll_cons_mk (Below.trod laidOut (by kernel_rfl) (of_decide_eq_true (by kernel_rfl)) k1 bel lt1) (trodAll_cons_mk (Below.trod laidOut (by kernel_rfl) (of_decide_eq_true (by kernel_rfl)) k2 bel lt2) trodAll_mk0))), rfl, bel.frame _, fun h => by cases h⟩
theorem over : Rows.watchNobodyRow.holds Tryz.pinned (OpenSpec.ofChange Rows.watchNobodySpec) :=
 OpenClaim.holds_of_wide 3 Tryz.f3 rfl rfl rfl rfl rfl rfl rfl ⟨rfl, rfl, rfl, rfl, rfl⟩ rfl rfl rfl rfl rfl (by kernel_rfl) Tryz.func3 (by kernel_rfl)
  (of_decide_eq_true (by kernel_rfl)) (by unfold Func.isWrapper; first | (rw [if_pos (by decide +kernel)]; kernel_rfl) | (rw [if_neg (by decide +kernel)]; exact ⟨rfl, rfl⟩))
  (fun os started H enc _ => lifted os started H enc)
theorem proved : Rows.WatchNobodySaid := over
end watchNobody
theorem watchNobody_holds : Rows.WatchNobodySaid := watchNobody.proved
end Go.Proofs.YtokfjifeofpkkaaGreat
