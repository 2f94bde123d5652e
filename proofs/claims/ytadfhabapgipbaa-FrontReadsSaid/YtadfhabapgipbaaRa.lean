/- The walks of reads.
   Conditions: what each theorem says of its arguments and of the heap. -/
import Derived.Test.YtadfhabapgipbaaTa
namespace Go.Proofs.Ytadfhabapgipbaa.V
open Go
set_option maxRecDepth 100000
set_option linter.unusedVariables false
set_option linter.unusedSimpArgs false
theorem s16 {h : Heap} (hw : Wf h) (k r s hr z : Int) (f t : ByteArray) (c1 c2 c3 : Value) : Ev EE 16 [.agg #[.int .i64 k, .string f, .string t, .int .i64 r, c1, c2, c3], .agg #[.int .i64 s, .int .i64 hr, .int .i64 z]] h (fun v _ => v = .tuple #[.int .i64 (atF r hr z), .int .i64 (atE r hr z)]) := by
  refine ev_of hw rfl at_16 rfl rfl ?_
  refine go_seq ?_
  refine go_region ?_
  refine g_box rfl (ot rfl) rfl ?_; intro b2
  refine g_box rfl (ot rfl) rfl ?_; intro b3
  refine gr rfl (r_assign (oc rfl)) ?_
  refine gr rfl (r_assign (oc rfl)) ?_
  refine go_nil ?_
  refine go_seq ?_
  refine go_region ?_
  refine gr rfl (r_fa (ot rfl) (fa_27_2 _ _)) ?_
  refine gr rfl (r_load (ot rfl) (lo_s 0 rfl ag_3 rfl)) ?_
  refine gr rfl (r_assign (ot rfl)) ?_
  refine go_nil ?_
  refine go_seq ?_
  refine go_seq ?_
  refine go_region ?_
  refine gr rfl (r_move (ot rfl)) ?_
  refine gr rfl (r_bin (ot rfl) (oc rfl) rfl) ?_
  refine go_nil ?_
  refine g_cond (ot rfl) (fun hc1 => ?_) (fun hc1 => ?_)
  ·
    refine go_region ?_
    refine gr rfl (r_fa (ot rfl) (fa_30_1 _ _)) ?_
    refine gr rfl (r_load (ot rfl) (lo_s 1 rfl ag_3 rfl)) ?_
    refine gr rfl (r_assign (ot rfl)) ?_
    refine go_nil ?_
    refine go_seq ?_
    refine go_block ?_
    refine go_seq ?_
    refine go_region ?_
    refine gr rfl (r_move (ot rfl)) ?_
    refine gr rfl (r_fa (ot rfl) (fa_30_2 _ _)) ?_
    refine gr rfl (r_load (ot rfl) (lo_s 1 rfl ag_3 rfl)) ?_
    refine gr rfl (r_bin (ot rfl) (ot rfl) rfl) ?_
    refine gr rfl (r_assign (ot rfl)) ?_
    refine go_nil ?_
    refine g_cond (ot rfl) (fun hc2 => ?_) (fun hc2 => ?_)
    ·
      refine go_seq ?_
      refine go_region ?_
      refine gr rfl (r_assign (oc rfl)) ?_
      refine gr rfl (r_assign (oc rfl)) ?_
      refine go_nil ?_
      refine g_ret (rst rfl (rst rfl rs0)) (fun h1 hf hs => ⟨hs.hext, ?_⟩)
      simp only [packV, atF, atE]; (repeat' split) <;> simp_all <;> omega
    ·
      refine go_seq ?_
      refine go_region ?_
      refine gr rfl (r_move (ot rfl)) ?_
      refine gr rfl (r_fa (ot rfl) (fa_30_1 _ _)) ?_
      refine gr rfl (r_load (ot rfl) (lo_s 1 rfl ag_3 rfl)) ?_
      refine gr rfl (r_bin (ot rfl) (ot rfl) rfl) ?_
      refine gr rfl (r_assign (ot rfl)) ?_
      refine go_nil ?_
      refine g_cond (ot rfl) (fun hc3 => ?_) (fun hc3 => ?_)
      ·
        refine go_seq ?_
        refine go_region ?_
        refine gr rfl (r_assign (oc rfl)) ?_
        refine gr rfl (r_assign (oc rfl)) ?_
        refine go_nil ?_
        refine g_ret (rst rfl (rst rfl rs0)) (fun h1 hf hs => ⟨hs.hext, ?_⟩)
        simp only [packV, atF, atE]; (repeat' split) <;> simp_all <;> omega
      ·
        refine go_skip ?_
        refine go_endb ?_
        refine go_seq ?_
        refine go_region ?_
        refine gr rfl (r_move (ot rfl)) ?_
        refine gr rfl (r_assign (ot rfl)) ?_
        refine gr rfl (r_assign (oc rfl)) ?_
        refine go_nil ?_
        refine g_ret (rst rfl (rst rfl rs0)) (fun h1 hf hs => ⟨hs.hext, ?_⟩)
        simp only [packV, atF, atE]; (repeat' split) <;> simp_all <;> omega
  ·
    refine go_skip ?_
    refine go_seq ?_
    refine go_block ?_
    refine go_seq ?_
    refine go_region ?_
    refine gr rfl (r_move (ot rfl)) ?_
    refine gr rfl (r_fa (ot rfl) (fa_30_2 _ _)) ?_
    refine gr rfl (r_load (ot rfl) (lo_s 1 rfl ag_3 rfl)) ?_
    refine gr rfl (r_bin (ot rfl) (ot rfl) rfl) ?_
    refine gr rfl (r_assign (ot rfl)) ?_
    refine go_nil ?_
    refine g_cond (ot rfl) (fun hc4 => ?_) (fun hc4 => ?_)
    ·
      refine go_seq ?_
      refine go_region ?_
      refine gr rfl (r_assign (oc rfl)) ?_
      refine gr rfl (r_assign (oc rfl)) ?_
      refine go_nil ?_
      refine g_ret (rst rfl (rst rfl rs0)) (fun h1 hf hs => ⟨hs.hext, ?_⟩)
      simp only [packV, atF, atE]; (repeat' split) <;> simp_all <;> omega
    ·
      refine go_seq ?_
      refine go_region ?_
      refine gr rfl (r_move (ot rfl)) ?_
      refine gr rfl (r_fa (ot rfl) (fa_30_1 _ _)) ?_
      refine gr rfl (r_load (ot rfl) (lo_s 1 rfl ag_3 rfl)) ?_
      refine gr rfl (r_bin (ot rfl) (ot rfl) rfl) ?_
      refine gr rfl (r_assign (ot rfl)) ?_
      refine go_nil ?_
      refine g_cond (ot rfl) (fun hc5 => ?_) (fun hc5 => ?_)
      ·
        refine go_seq ?_
        refine go_region ?_
        refine gr rfl (r_assign (oc rfl)) ?_
        refine gr rfl (r_assign (oc rfl)) ?_
        refine go_nil ?_
        refine g_ret (rst rfl (rst rfl rs0)) (fun h1 hf hs => ⟨hs.hext, ?_⟩)
        simp only [packV, atF, atE]; (repeat' split) <;> simp_all <;> omega
      ·
        refine go_skip ?_
        refine go_endb ?_
        refine go_seq ?_
        refine go_region ?_
        refine gr rfl (r_move (ot rfl)) ?_
        refine gr rfl (r_assign (ot rfl)) ?_
        refine gr rfl (r_assign (oc rfl)) ?_
        refine go_nil ?_
        refine g_ret (rst rfl (rst rfl rs0)) (fun h1 hf hs => ⟨hs.hext, ?_⟩)
        simp only [packV, atF, atE]; (repeat' split) <;> simp_all <;> omega

theorem s17 {h : Heap} (hw : Wf h) (k r s hr z : Int) (f t : ByteArray) (c1 c2 c3 : Value) (a : Option Addr) (n c : Nat) : Ev EE 17 [.agg #[.int .i64 k, .string f, .string t, .int .i64 r, c1, c2, c3], .slice a n c, .agg #[.int .i64 s, .int .i64 hr, .int .i64 z]] h (fun v _ => v = .agg #[.int .i64 s, .int .i64 hr, .int .i64 z, .int .i64 (atE r hr z), .bool false, .slice (if atE r hr z = 0 then a else none) (if atE r hr z = 0 then n else 0) (if atE r hr z = 0 then c else 0)]) := by
  refine ev_of hw rfl at_17 rfl rfl ?_
  refine go_seq ?_
  refine go_region ?_
  refine g_box rfl (ot rfl) rfl ?_; intro b3
  refine g_box rfl (ot rfl) rfl ?_; intro b5
  refine g_alloc rfl zo_46 rfl ?_; intro b6
  refine go_nil ?_
  refine go_seq ?_
  refine go_seq ?_
  refine go_region ?_
  refine gr rfl (r_load (ot rfl) (lo_w 0 rfl ag_27 sz_27 rfl)) ?_
  refine gr rfl (r_load (ot rfl) (lo_w 1 rfl ag_30 sz_30 rfl)) ?_
  refine g_callp EE_fr rfl of (os1 (ot rfl) (os1 (ot rfl) os0)) hb_16 (fun q => by cases q) (fun hf kn w => s16 w k r s hr z f t c1 c2 c3) ?_
  refine gr rfl (r_move (ot rfl)) ?_
  refine gr rfl (r_extract (ot rfl) rfl) ?_
  refine gr rfl (r_extract (ot rfl) rfl) ?_
  refine gr rfl (r_assign (ot rfl)) ?_
  refine gr rfl (r_assign (ot rfl)) ?_
  refine go_nil ?_
  refine go_seq ?_
  refine go_region ?_
  refine gr rfl (r_move (ot rfl)) ?_
  refine gr rfl (r_bin (ot rfl) (oc rfl) rfl) ?_
  refine go_nil ?_
  refine g_cond (ot rfl) (fun hc1 => ?_) (fun hc1 => ?_)
  ·
    refine go_seq ?_
    refine go_region ?_
    refine gr rfl (r_load (ot rfl) (lo_w 1 rfl ag_30 sz_30 rfl)) ?_
    refine gr rfl (r_move (ot rfl)) ?_
    refine gr rfl (r_build (op1 (ot rfl) (op1 (ot rfl) op0)) rfl) ?_
    refine g_store 2 (ot rfl) (ot rfl) rfl sz_46 rfl rfl rfl rfl rfl ?_
    refine go_nil ?_
    refine g_ret (rsc rfl (lo_w 2 rfl ag_46 sz_46 rfl) rs0) (fun h1 hf hs => ⟨hs.hext, ?_⟩)
    simp_all [packV, splice, Value.cells]
  ·
    refine go_skip ?_
    refine go_seq ?_
    refine go_region ?_
    refine gr rfl (r_load (ot rfl) (lo_w 1 rfl ag_30 sz_30 rfl)) ?_
    refine gr rfl (r_move (ot rfl)) ?_
    refine gr rfl (r_build (op1 (ot rfl) (op1 (ot rfl) op0)) rfl) ?_
    refine g_store 2 (ot rfl) (ot rfl) rfl sz_46 rfl rfl rfl rfl rfl ?_
    refine go_nil ?_
    refine g_ret (rsc rfl (lo_w 2 rfl ag_46 sz_46 rfl) rs0) (fun h1 hf hs => ⟨hs.hext, ?_⟩)
    simp_all [packV, splice, Value.cells]

theorem s18 {h : Heap} (hw : Wf h) {v1 v2 : Value} {l1 l2 : List KV} (h1 : SLv h 3 v1 (l1.map KV.c)) (h2 : SLv h 3 v2 (l2.map KV.c)) (b1 : l1.length < 9223372036854775807) :
    Ev EE 18 [v1, v2] h (fun v _ => v = .bool (same18 l1 l2)) := by
  obtain ⟨a1, cap1, rfl, h1⟩ := h1
  obtain ⟨a2, cap2, rfl, h2⟩ := h2
  refine ev_of hw rfl at_18 rfl rfl ?_
  refine go_seq ?_
  refine go_region ?_
  refine gr rfl (r_assign (oc rfl)) ?_
  refine go_nil ?_
  refine go_seq ?_
  refine go_seq ?_
  refine go_region ?_
  refine gr rfl (r_move (ot rfl)) ?_
  refine gr rfl (r_len rfl (os1 (ot rfl) os0) (fun _ _ => ln_28)) ?_
  refine gr rfl (r_move (ot rfl)) ?_
  refine gr rfl (r_len rfl (os1 (ot rfl) os0) (fun _ _ => ln_28)) ?_
  refine gr rfl (r_bin (ot rfl) (ot rfl) rfl) ?_
  refine go_nil ?_
  refine g_cond (ot rfl) (fun hc1 => ?_) (fun hc1 => ?_)
  ·
    refine go_seq ?_
    refine go_region ?_
    refine gr rfl (r_assign (oc rfl)) ?_
    refine go_nil ?_
    refine g_ret (rst rfl rs0) (fun h1 hf hs => ⟨hs.hext, ?_⟩)
    show _ = Value.bool (same18 l1 l2)
    have q : same18 l1 l2 = false := by unfold same18; rw [decide_eq_false_iff_not]; intro e; subst e; simp at hc1
    rw [q]; rfl
  ·
    refine go_skip ?_
    refine go_seq ?_
    refine go_seq ?_
    refine go_region ?_
    refine gr rfl (r_assign (oc rfl)) ?_
    refine go_nil ?_
    refine go_block ?_
    refine go_loop (α := Nat) (fun i => i ≤ l1.length ∧ ∀ j, j < i → l1[j]? = l2[j]?) (fun i => l1.length - i) (fun i => [(5, true, .int .i64 i), (0, true, .slice a1 (l1.map KV.c).length cap1), (1, true, .slice a2 (l2.map KV.c).length cap2)]) (fun _ => []) (fun _ => h) (fun i hI ih => ?_) 0 ⟨Nat.zero_le _, fun j hj => absurd hj (Nat.not_lt_zero j)⟩ (Sub.cons (Sub.cons (Sub.cons (Sub.nil _) rfl) rfl) rfl) rfl rfl
    refine go_seq ?_
    refine go_seq ?_
    refine go_region ?_
    refine gr rfl (r_move (ot rfl)) ?_
    refine gr rfl (r_move (ot rfl)) ?_
    refine gr rfl (r_len rfl (os1 (ot rfl) os0) (fun _ _ => ln_28)) ?_
    refine gr rfl (r_bin (ot rfl) (ot rfl) rfl) ?_
    refine go_nil ?_
    refine g_cond (ot rfl) (fun hc2 => ?_) (fun hc2 => ?_)
    ·
      refine go_skip ?_
      refine go_seq ?_
      refine go_block ?_
      refine go_seq ?_
      have hi1 : i < l1.length := by simpa [List.length_map] using hc2
      have hx1 : (l1.map KV.c)[i]? = some (l1[i].c) := by simp [hi1]
      have hl : l1.length = l2.length := by have := hc1; simp at this; omega
      have hi2 : i < l2.length := by omega
      have hx2 : (l2.map KV.c)[i]? = some (l2[i].c) := by simp [hi2]
      obtain ⟨p1, q1, rfl, hp1, hq1, _⟩ := row_at h1 hx1
      obtain ⟨p2, q2, rfl, hp2, hq2, _⟩ := row_at h2 hx2
      refine go_region ?_
      refine gr rfl (r_move (ot rfl)) ?_
      refine gr rfl (r_move (ot rfl)) ?_
      refine gr rfl (r_ia (ot rfl) (ot rfl) (ia_of ut_28 sz_52 (by simpa using hi1) hp1)) ?_
      refine gr rfl (r_load (ot rfl) (v := .agg #[.string l1[i].key, .string l1[i].val, .int .i64 l1[i].rev]) (lo_e (fun hf k => ld_of ag_52 sz_52 (k.cellsAt hq1)))) ?_
      refine gr rfl (r_move (ot rfl)) ?_
      refine gr rfl (r_move (ot rfl)) ?_
      refine gr rfl (r_ia (ot rfl) (ot rfl) (ia_of ut_28 sz_52 (by simpa using hi2) hp2)) ?_
      refine gr rfl (r_load (ot rfl) (v := .agg #[.string l2[i].key, .string l2[i].val, .int .i64 l2[i].rev]) (lo_e (fun hf k => ld_of ag_52 sz_52 (k.cellsAt hq2)))) ?_
      refine gr rfl (r_bin (ot rfl) (ot rfl) bn_52) ?_
      refine go_nil ?_
      refine g_cond (ot rfl) (fun hc3 => ?_) (fun hc3 => ?_)
      ·
        refine go_seq ?_
        refine go_region ?_
        refine gr rfl (r_assign (oc rfl)) ?_
        refine go_nil ?_
        refine g_ret (rst rfl rs0) (fun h1 hf hs => ⟨hs.hext, ?_⟩)
        show _ = Value.bool (same18 l1 l2)
        rw [same_ne (List.getElem?_eq_getElem hi1) (List.getElem?_eq_getElem hi2) (kv_ne hc3)]; rfl
      ·
        refine go_skip ?_
        refine go_endb ?_
        refine go_region ?_
        refine gr rfl (r_move (ot rfl)) ?_
        refine gr rfl (r_bin (ot rfl) (oc rfl) rfl) ?_
        refine gr rfl (r_assign (ot rfl)) ?_
        refine go_nil ?_
        refine Goes.weak (ih (i + 1) ⟨hi1, fun j hj => ?_⟩ (by omega)) (Sub.cons (Sub.cons (Sub.cons (Sub.nil _) rfl) rfl) ?_)
        · rcases Nat.lt_succ_iff_lt_or_eq.mp hj with q | q
          · exact hI.2 j q
          · rw [q, List.getElem?_eq_getElem hi1, List.getElem?_eq_getElem hi2, kv_eq (x := l1[i]) (y := l2[i]) (by simpa using hc3)]
        · show some (true, Value.int .i64 (IntKind.wrap .i64 ((i : Int) + 1))) = _
          rw [wrap_id (by omega) (by omega)]; rfl
    ·
      refine go_exit rfl ?_
      refine go_seq ?_
      refine go_region ?_
      refine gr rfl (r_assign (oc rfl)) ?_
      refine go_nil ?_
      refine g_ret (rst rfl rs0) (fun h1 hf hs => ⟨hs.hext, ?_⟩)
      show _ = Value.bool (same18 l1 l2)
      rw [list_same (by have := hc1; simp at this; omega) (by simpa using hc2) hI.2]; rfl
end Go.Proofs.Ytadfhabapgipbaa.V
