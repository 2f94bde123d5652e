/- Calls that make room.
   No condition: these are laws of the clean machine and of this program. -/
import Derived.Test.YtadfhabapgipbaaVu
import Derived.Test.YtadfhabapgipbaaSp
namespace Go.Proofs.Ytadfhabapgipbaa.V
open Go
set_option linter.unusedVariables false
set_option linter.unusedSimpArgs false
set_option maxRecDepth 100000
theorem growK_59 {h : Heap} {n : Int} (hg : growN 40 n = some ()) : EvO EK 59 [.slice none 0 0, .int .i64 n] [] h (fun v S h1 => (v = .slice none 0 0 ∧ S = []) ∨ ∃ b cs c, v = .slice (some ⟨b, 0, some 0⟩) 0 c ∧ S = [[⟨b, .cells cs 69⟩]]) := by
  obtain ⟨⟨q1, q2, q3, q4⟩, _⟩ := ite_some' hg
  have w0 : IntKind.i64.wrap (0 - 0) = 0 := by kernel_rfl
  have w1 : IntKind.i64.wrap (n - IntKind.i64.wrap (0 - 0)) = n := by rw [w0, wrap_id (by omega) (by omega)]; omega
  refine evo_of rfl (show EK.P.funcs[59]? = some Go.Proofs.Try.f59 by kernel_rfl) rfl rfl ?_
  repeat refine go_seq ?_
  refine go_region ?_
  refine gAc rfl rfl ?_
  refine go_nil ?_
  repeat refine go_seq ?_
  refine go_region ?_
  refine gM rfl rfl ?_
  refine gr rfl (r_bin (ot rfl) (oc rfl) rfl) ?_
  refine go_nil ?_
  repeat refine go_seq ?_
  refine g_cond (b := decide (n < 0)) (ot rfl) (fun hc => absurd (of_decide_eq_true hc) (by omega)) (fun _ => ?_)
  refine go_skip ?_
  repeat refine go_seq ?_
  refine go_region ?_
  refine gM rfl rfl ?_
  refine gM rfl rfl ?_
  refine gr (v := .int .i64 0) rfl (r_capn rfl (os1 (ot rfl) os0) (by kernel_rfl)) ?_
  refine gM rfl rfl ?_
  refine gr (v := .int .i64 0) rfl (r_len rfl (os1 (ot rfl) os0) (fun _ _ => by kernel_rfl)) ?_
  refine gr rfl (r_bin (ot rfl) (ot rfl) rfl) ?_
  refine gr rfl (r_bin (ot rfl) (ot rfl) rfl) ?_
  refine go_cast (.int .i64 n) (congrArg (Value.int .i64) w1) ?_
  refine gA rfl rfl ?_
  refine go_nil ?_
  repeat refine go_seq ?_
  refine go_region ?_
  refine gM rfl rfl ?_
  refine gr rfl (r_bin (ot rfl) (oc rfl) rfl) ?_
  refine go_nil ?_
  repeat refine go_seq ?_
  refine g_cond (b := decide (n > 0)) (ot rfl) (fun hc => ?_) (fun hc => ?_)
  · have h0n : 0 < n := of_decide_eq_true hc
    refine go_region ?_
    refine gM rfl rfl ?_
    refine gM rfl rfl ?_
    refine gr (v := .int .i64 0) rfl (r_capn rfl (os1 (ot rfl) os0) (by kernel_rfl)) ?_
    refine gr (v := .slice none 0 0) rfl (r_slice (ot rfl) on (oo (ot rfl)) on (fun hf kn => by kernel_rfl)) ?_
    refine gM rfl rfl ?_
    refine g_appn (k := 3) (bytes := 40) (elem := 69) (z := (Value.agg #[Value.string { data := #[] }, Value.string { data := #[] }, Value.bool false])) rfl (os1 (ot rfl) (os1 (ot rfl) os0)) rfl (by kernel_rfl) (by kernel_rfl) (by kernel_rfl) (by kernel_rfl) rfl (by kernel_rfl) h0n hg (fun b => ?_)
    refine gM rfl rfl ?_
    refine gr (v := .int .i64 0) rfl (r_len rfl (os1 (ot rfl) os0) (fun _ _ => by kernel_rfl)) ?_
    refine gr rfl (r_sliceh (ot rfl) on (oo (ot rfl)) on (fun h' hf hs => sl_own0 (k := 3) (hs.blk _ List.mem_cons_self).1 (by kernel_rfl) (by kernel_rfl) (by omega))) ?_
    refine gA rfl rfl ?_
    refine go_nil ?_
    repeat refine go_seq ?_
    refine go_region ?_
    refine gM rfl rfl ?_
    refine gA rfl rfl ?_
    refine go_nil ?_
    exact g_ret (rst rfl rs0) (fun h1 hf hs => ⟨[[⟨b, _⟩]], _, hf, hs.ext, hs.wf, hs.rebase, ndb (by intro q; cases q) nd0, .inr ⟨b, _, _, rfl, rfl⟩⟩)
  · refine go_skip ?_
    repeat refine go_seq ?_
    refine go_region ?_
    refine gM rfl rfl ?_
    refine gA rfl rfl ?_
    refine go_nil ?_
    exact g_ret (rst rfl rs0) (fun h1 hf hs => ⟨[], _, hf, hs.ext, hs.wf, hs.rebase, nd0, .inl ⟨rfl, rfl⟩⟩)
theorem evo_grow_59 {α : Type} (R : Rep α) {h : Heap} {n : Int} {x : Unit} (hg : growN 40 n = some x) : EvO EE 59 [.slice none 0 0, .int .i64 n] [] h (fun v S h1 => ∃ q t, v = .slice q 0 0 ∧ S = [t] ∧ AccR R 69 h1 t (.slice q ([] : List α).length ([] : List α).length) ([] : List α)) := evo_growP R (growK_59 hg) rfl
end Go.Proofs.Ytadfhabapgipbaa.V
