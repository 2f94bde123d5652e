/- The walk of Get.
   Conditions: what each theorem says of its arguments and of the heap. -/
import Derived.Test.YtadfhabapgipbaaRg
namespace Go.Proofs.Ytadfhabapgipbaa.V
open Go
set_option maxRecDepth 100000
set_option maxHeartbeats 4000000
set_option linter.unusedVariables false
set_option linter.unusedSimpArgs false
theorem s24 {h : Heap} (hw : Wf h) {vm : Value} {m : List KV} (hm : SLv h 3 vm (m.map KV.c)) (bm : m.length < 4611686018427387904) (k : ByteArray) :
    Ev EE 24 [vm, .string k] h (fun v _ => v = .tuple #[.agg #[.string (kvOr (getK m k)).key, .string (kvOr (getK m k)).val, .int .i64 (kvOr (getK m k)).rev], .bool (getK m k).isSome]) := by
  obtain ⟨am, cap, rfl, hm⟩ := hm
  refine ev_of hw rfl at_24 rfl rfl ?_
  refine go_seq ?_
  refine go_region ?_
  refine g_alloc rfl zo_52 rfl ?_; intro b4
  refine gr rfl (r_assign (oc rfl)) ?_
  refine go_nil ?_
  refine go_seq ?_
  refine go_seq ?_
  refine go_region ?_
  refine gr rfl (r_assign (oc rfl)) ?_
  refine go_nil ?_
  refine go_block ?_
  refine go_loop (α := Nat) (fun i => i ≤ m.length ∧ (m.drop i).find? (fun x => eqB x.key k) = getK m k) (fun i => m.length - i) (fun i => [(6, true, .int .i64 i), (0, true, .slice am (m.map KV.c).length cap), (1, true, .string k), (4, true, .pointer (some ⟨b4, 0, none⟩))]) (fun _ => [⟨b4, [.string ByteArray.empty, .string ByteArray.empty, .int .i64 0], 52⟩]) (fun _ => h) (fun i hI ih => ?_) 0 ⟨Nat.zero_le _, rfl⟩ (Sub.cons (Sub.cons (Sub.cons (Sub.cons (Sub.nil _) rfl) rfl) rfl) rfl) rfl rfl
  refine go_seq ?_
  refine go_seq ?_
  refine go_region ?_
  refine gr rfl (r_move (ot rfl)) ?_
  refine gr rfl (r_move (ot rfl)) ?_
  refine gr rfl (r_len rfl (os1 (ot rfl) os0) (fun _ _ => ln_28)) ?_
  refine gr rfl (r_bin (ot rfl) (ot rfl) rfl) ?_
  refine go_nil ?_
  refine g_cond (ot rfl) (fun hc1 => ?_) (fun hc1 => ?_)
  ·
    refine go_skip ?_
    refine go_seq ?_
    refine go_block ?_
    refine go_seq ?_
    have hi : i < m.length := by simpa using hc1
    have hx_hi : (m.map KV.c)[i]? = some (m[i].c) := by simp [hi]
    obtain ⟨p_hi, q_hi, e_hi, hp_hi, hq_hi, _⟩ := row_at hm hx_hi
    subst e_hi
    refine go_region ?_
    refine gr rfl (r_move (ot rfl)) ?_
    refine gr rfl (r_move (ot rfl)) ?_
    refine gr rfl (r_ia (ot rfl) (ot rfl) (ia_of ut_28 sz_52 (by simpa using hi) hp_hi)) ?_
    refine gr rfl (r_fa (ot rfl) (fe_52_0 hp_hi)) ?_
    refine gr rfl (r_load (ot rfl) (v := .string m[i].key) (lo_e (fun hf k => ld_field ag_9 (k.cellsAt hq_hi) rfl))) ?_
    refine gr rfl (r_move (ot rfl)) ?_
    refine gr rfl (r_bin (ot rfl) (ot rfl) rfl) ?_
    refine go_nil ?_
    refine g_cond (ot rfl) (fun hc2 => ?_) (fun hc2 => ?_)
    ·
      refine go_seq ?_
      refine go_region ?_
      refine gr rfl (r_move (ot rfl)) ?_
      refine gr rfl (r_move (ot rfl)) ?_
      refine gr rfl (r_ia (ot rfl) (ot rfl) (ia_of ut_28 sz_52 (by simpa using hi) hp_hi)) ?_
      refine gr rfl (r_load (ot rfl) (v := .agg #[.string m[i].key, .string m[i].val, .int .i64 m[i].rev]) (lo_e (fun hf k => ld_of ag_52 sz_52 (k.cellsAt hq_hi)))) ?_
      refine g_store 0 (ot rfl) (ot rfl) rfl sz_52 rfl rfl rfl rfl rfl ?_
      refine gr rfl (r_assign (oc rfl)) ?_
      refine go_nil ?_
      refine g_ret (rsc rfl (lo_w 0 rfl ag_52 sz_52 rfl) (rst rfl rs0)) (fun h1 hf hs => ⟨hs.hext, ?_⟩)
      have hg : getK m k = some m[i] := by rw [← hI.2, find_cons hi, if_pos (by unfold eqB; simpa using hc2)]
      rw [hg]; rfl
    ·
      refine go_skip ?_
      refine go_endb ?_
      refine go_region ?_
      refine gr rfl (r_move (ot rfl)) ?_
      refine gr rfl (r_bin (ot rfl) (oc rfl) rfl) ?_
      refine gr rfl (r_assign (ot rfl)) ?_
      refine go_nil ?_
      refine Goes.weak (ih (i + 1) ⟨hi, by rw [← hI.2, find_cons hi, if_neg (by unfold eqB; simpa using hc2)]⟩ (by omega)) (Sub.cons (Sub.cons (Sub.cons (Sub.cons (Sub.nil _) rfl) rfl) rfl) ?_)
      show some (true, Value.int .i64 (IntKind.wrap .i64 ((i : Int) + 1))) = _
      rw [wrap_id (by omega) (by omega)]; rfl
  ·
    refine go_exit rfl ?_
    refine go_seq ?_
    refine go_region ?_
    refine gr rfl (r_build op0 rfl) ?_
    refine g_store 0 (ot rfl) (ot rfl) rfl sz_52 rfl rfl rfl rfl rfl ?_
    refine gr rfl (r_assign (oc rfl)) ?_
    refine go_nil ?_
    refine g_ret (rsc rfl (lo_w 0 rfl ag_52 sz_52 rfl) (rst rfl rs0)) (fun h1 hf hs => ⟨hs.hext, ?_⟩)
    have hi : m.length ≤ i := by simpa using hc1
    have hg : getK m k = none := by rw [← hI.2, List.drop_eq_nil_of_le hi]; rfl
    rw [hg]; rfl
end Go.Proofs.Ytadfhabapgipbaa.V
