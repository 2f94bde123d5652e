/- The walk of FrontReads.
   Conditions: what each theorem says of its arguments and of the heap. -/
import Derived.Test.YtadfhabapgipbaaRa
namespace Go.Proofs.Ytadfhabapgipbaa.V
open Go
set_option maxRecDepth 100000
set_option linter.unusedVariables false
set_option linter.unusedSimpArgs false
theorem s4 {h : Heap} (hw : Wf h) (k r s hr z : Int) (f t : ByteArray) (c1 c2 c3 : Value) {vm : Value} {l : List KV} (hm : SLv h 3 vm (l.map KV.c)) :
    Ev EE 4 [.agg #[.int .i64 k, .string f, .string t, .int .i64 r, c1, c2, c3], vm, .agg #[.int .i64 s, .int .i64 hr, .int .i64 z]] h (fun v _ => v = .bool true) := by
  have hm1 := hm
  obtain ⟨a, cap, rfl, _⟩ := hm1
  refine ev_of hw rfl at_4 rfl rfl ?_
  refine go_seq ?_
  refine go_region ?_
  refine g_box rfl (ot rfl) rfl ?_; intro b3
  refine g_box rfl (ot rfl) rfl ?_; intro b5
  refine gr rfl (r_assign (oc rfl)) ?_
  refine go_nil ?_
  refine go_seq ?_
  refine go_region ?_
  refine g_callp EE_fr rfl of os0 hb_11 (fun q => by cases q) (fun hf kn w => known_ev (E := E1) (ks := [(11, .bool true)]) rfl hf w) ?_
  refine gr rfl (r_assign (ot rfl)) ?_
  refine go_nil ?_
  refine go_seq ?_
  refine go_seq ?_
  refine go_region ?_
  refine gr rfl (r_move (ot rfl)) ?_
  refine gr rfl (r_len rfl (os1 (ot rfl) os0) (fun _ _ => ln_28)) ?_
  refine gr rfl (r_bin (ot rfl) (oc rfl) rfl) ?_
  refine go_nil ?_
  refine g_cond (ot rfl) (fun hc1 => ?_) (fun hc1 => ?_)
  ·
    refine go_seq ?_
    refine go_region ?_
    refine gr rfl (r_move (ot rfl)) ?_
    refine gr rfl (r_assign (ot rfl)) ?_
    refine go_nil ?_
    refine g_ret (rst rfl rs0) (fun h1 hf hs => ⟨hs.hext, ?_⟩)
    rfl
  ·
    refine go_skip ?_
    refine go_seq ?_
    refine go_region ?_
    refine gr rfl (r_load (ot rfl) (lo_w 0 rfl ag_27 sz_27 rfl)) ?_
    refine gr rfl (r_load (ot rfl) (lo_w 1 rfl ag_30 sz_30 rfl)) ?_
    refine g_callp EE_fr rfl of (os1 (ot rfl) (os1 (ot rfl) os0)) hb_16 (fun q => by cases q) (fun hf kn w => s16 w k r s hr z f t c1 c2 c3) ?_
    refine gr rfl (r_move (ot rfl)) ?_
    refine gr rfl (r_extract (ot rfl) rfl) ?_
    refine gr rfl (r_extract (ot rfl) rfl) ?_
    refine gr rfl (r_assign (ot rfl)) ?_
    refine gr rfl (r_assign (ot rfl)) ?_
    refine go_nil ?_
    refine go_seq ?_
    refine go_region ?_
    refine gr rfl (r_load (ot rfl) (lo_w 0 rfl ag_27 sz_27 rfl)) ?_
    refine gr rfl (r_move (ot rfl)) ?_
    refine gr rfl (r_load (ot rfl) (lo_w 1 rfl ag_30 sz_30 rfl)) ?_
    refine g_callp EE_fr rfl of (os1 (ot rfl) (os1 (ot rfl) (os1 (ot rfl) os0))) hb_17 (fun q => by cases q) (fun hf kn w => s17 w k r s hr z f t c1 c2 c3 a _ cap) ?_
    refine g_alloc rfl zo_46 rfl ?_; intro b10
    refine g_store 2 (ot rfl) (ot rfl) rfl sz_46 rfl rfl rfl rfl rfl ?_
    refine go_nil ?_
    refine go_seq ?_
    refine go_seq ?_
    refine go_region ?_
    refine gr rfl (r_move (ot rfl)) ?_
    refine gr rfl (r_bin (ot rfl) (oc rfl) rfl) ?_
    refine go_nil ?_
    refine g_cond (ot rfl) (fun hc2 => ?_) (fun hc2 => ?_)
    ·
      refine go_seq ?_
      refine go_region ?_
      refine gr rfl (r_move (ot rfl)) ?_
      refine gr rfl (r_move (ot rfl)) ?_
      refine grt rfl rfl rfl rfl (r_move (ot rfl)) ?_
      refine grt rfl rfl rfl rfl (r_bin (og rfl id) (oc rfl) rfl) ?_
      refine gr rfl (r_pickb (ot rfl) (og rfl id) (oc rfl)) ?_
      refine gr rfl (r_move (ot rfl)) ?_
      refine grt rfl rfl rfl rfl (r_fa (ot rfl) (fa_46_1 _ _)) ?_
      refine grt rfl rfl rfl rfl (r_load (og rfl id) (lo_s 2 rfl ag_35 rfl)) ?_
      refine grt rfl rfl rfl rfl (r_move (ot rfl)) ?_
      refine grt rfl rfl rfl rfl (r_bin (og rfl id) (og rfl id) rfl) ?_
      refine gr rfl (r_pickb (ot rfl) (og rfl id) (oc rfl)) ?_
      refine gr rfl (r_move (ot rfl)) ?_
      refine grt rfl rfl rfl rfl (r_fa (ot rfl) (fa_46_3 _ _)) ?_
      refine grt rfl rfl rfl rfl (r_load (og rfl id) (lo_s 2 rfl ag_28 rfl)) ?_
      refine grt rfl rfl rfl rfl (r_len rfl (os1 (og rfl id) os0) (fun _ _ => ln_28)) ?_
      refine grt rfl rfl rfl rfl (r_bin (og rfl id) (oc rfl) rfl) ?_
      refine gr rfl (r_pickb (ot rfl) (og rfl id) (oc rfl)) ?_
      refine gr rfl (r_move (ot rfl)) ?_
      refine grt rfl rfl rfl rfl (r_fa (ot rfl) (fa_46_2 _ _)) ?_
      refine grt rfl rfl rfl rfl (r_load (og rfl id) (lo_s 2 rfl ag_4 rfl)) ?_
      refine grt rfl rfl rfl rfl (r_un (og rfl id) rfl) ?_
      refine gr rfl (r_pickb (ot rfl) (og rfl id) (oc rfl)) ?_
      refine gr rfl (r_move (ot rfl)) ?_
      refine grt rfl rfl rfl rfl (r_fa (ot rfl) (fa_46_0 _ _)) ?_
      refine grt rfl rfl rfl rfl (r_load (og rfl id) (lo_a 2 (vs := [_, _, _]) rfl ag_30 sz_30 rfl rfl)) ?_
      refine grt rfl rfl rfl rfl (r_load (ot rfl) (lo_w 1 rfl ag_30 sz_30 rfl)) ?_
      refine grt rfl rfl rfl rfl (r_bin (og rfl id) (og rfl id) bq_30) ?_
      refine gr rfl (r_pickb (ot rfl) (og rfl id) (oc rfl)) ?_
      refine gr rfl (r_move (ot rfl)) ?_
      refine grt rfl rfl rfl rfl (r_move (ot rfl)) ?_
      refine grt rfl rfl rfl rfl (r_bin (og rfl id) (oc rfl) rfl) ?_
      refine grt rfl rfl rfl rfl (r_move (og rfl id)) ?_
      refine grf' rfl rfl rfl rfl (r_move (ot rfl)) ?_
      refine grf' rfl rfl rfl rfl (r_bin (og rfl id) (oc rfl) rfl) ?_
      refine grt rfl rfl rfl rfl (r_pickb (og rfl id) (oc rfl) (og rfl id)) ?_
      refine gr rfl (r_pickb (ot rfl) (og rfl id) (oc rfl)) ?_
      refine gr rfl (r_assign (ot rfl)) ?_
      refine go_nil ?_
      refine g_ret (rst rfl rs0) (fun h1 hf hs => ⟨hs.hext, ?_⟩)
      have he : ¬ atE r hr z = 0 := by simpa using hc2
      have q := atE_ne he
      simp [packV, he, q.1, q.2]
    ·
      refine go_skip ?_
      refine go_seq ?_
      have he : atE r hr z = 0 := by simpa using hc2
      refine go_region ?_
      refine gr rfl (r_move (ot rfl)) ?_
      refine gr rfl (r_move (ot rfl)) ?_
      refine grt rfl rfl rfl rfl (r_move (ot rfl)) ?_
      refine grt rfl rfl rfl rfl (r_fa (ot rfl) (fa_30_2 _ _)) ?_
      refine grt rfl rfl rfl rfl (r_load (og rfl id) (lo_s 1 rfl ag_3 rfl)) ?_
      refine grt rfl rfl rfl rfl (r_bin (og rfl id) (og rfl id) rfl) ?_
      refine gr rfl (r_pickb (ot rfl) (og rfl id) (oc rfl)) ?_
      refine gr rfl (r_move (ot rfl)) ?_
      refine grt rfl rfl rfl rfl (r_move (ot rfl)) ?_
      refine grt rfl rfl rfl rfl (r_fa (ot rfl) (fa_30_1 _ _)) ?_
      refine grt rfl rfl rfl rfl (r_load (og rfl id) (lo_s 1 rfl ag_3 rfl)) ?_
      refine grt rfl rfl rfl rfl (r_bin (og rfl id) (og rfl id) rfl) ?_
      refine gr rfl (r_pickb (ot rfl) (og rfl id) (oc rfl)) ?_
      refine gr rfl (r_move (ot rfl)) ?_
      refine grt rfl rfl rfl rfl (r_move (ot rfl)) ?_
      refine grt rfl rfl rfl rfl (r_fa (ot rfl) (fa_27_2 _ _)) ?_
      refine grt rfl rfl rfl rfl (r_load (og rfl id) (lo_s 0 rfl ag_3 rfl)) ?_
      refine grt rfl rfl rfl rfl (r_bin (og rfl id) (og rfl id) rfl) ?_
      refine grt rfl rfl rfl rfl (r_move (og rfl id)) ?_
      refine grf' rfl rfl rfl rfl (r_fa (ot rfl) (fa_27_2 _ _)) ?_
      refine grf' rfl rfl rfl rfl (r_load (og rfl id) (lo_s 0 rfl ag_3 rfl)) ?_
      refine grf' rfl rfl rfl rfl (r_bin (og rfl id) (oc rfl) rfl) ?_
      refine grf' rfl rfl rfl rfl (r_move (og rfl id)) ?_
      refine grt' rfl rfl rfl rfl (r_move (ot rfl)) ?_
      refine grt' rfl rfl rfl rfl (r_fa (ot rfl) (fa_30_1 _ _)) ?_
      refine grt' rfl rfl rfl rfl (r_load (og rfl id) (lo_s 1 rfl ag_3 rfl)) ?_
      refine grt' rfl rfl rfl rfl (r_bin (og rfl id) (og rfl id) rfl) ?_
      refine grf' rfl rfl rfl rfl (r_pickb (og rfl id) (og rfl id) (oc rfl)) ?_
      refine grt rfl rfl rfl rfl (r_pickb (og rfl id) (oc rfl) (og rfl id)) ?_
      refine gr rfl (r_pickb (ot rfl) (og rfl id) (oc rfl)) ?_
      refine gr rfl (r_move (ot rfl)) ?_
      refine grt rfl rfl rfl rfl (r_fa (ot rfl) (fa_46_1 _ _)) ?_
      refine grt rfl rfl rfl rfl (r_load (og rfl id) (lo_s 2 rfl ag_35 rfl)) ?_
      refine grt rfl rfl rfl rfl (r_bin (og rfl id) (oc rfl) rfl) ?_
      refine gr rfl (r_pickb (ot rfl) (og rfl id) (oc rfl)) ?_
      refine gr rfl (r_move (ot rfl)) ?_
      refine grt rfl rfl rfl rfl (r_fa (ot rfl) (fa_46_3 _ _)) ?_
      refine grt rfl rfl rfl rfl (r_load (og rfl id) (lo_s 2 rfl ag_28 rfl)) ?_
      refine grt rfl rfl rfl rfl (r_move (ot rfl)) ?_
      refine g_callt EE_fr rfl rfl rfl rfl of (os1 (og rfl id) (os1 (og rfl id) os0)) hb_18 (fun q => by cases q) (fun hf kn w hg => s18 w (l1 := l) (l2 := l) (by rw [if_pos he, if_pos he, if_pos he]; exact hm.ext kn) (hm.ext kn) (by have := hc1; simp at this; omega)) ?_
      refine gr rfl (r_pickb (ot rfl) (og rfl id) (oc rfl)) ?_
      refine gr rfl (r_move (ot rfl)) ?_
      refine grt rfl rfl rfl rfl (r_fa (ot rfl) (fa_46_0 _ _)) ?_
      refine grt rfl rfl rfl rfl (r_load (og rfl id) (lo_a 2 (vs := [_, _, _]) rfl ag_30 sz_30 rfl rfl)) ?_
      refine grt rfl rfl rfl rfl (r_load (ot rfl) (lo_w 1 rfl ag_30 sz_30 rfl)) ?_
      refine grt rfl rfl rfl rfl (r_bin (og rfl id) (og rfl id) bq_30) ?_
      refine gr rfl (r_pickb (ot rfl) (og rfl id) (oc rfl)) ?_
      refine gr rfl (r_assign (ot rfl)) ?_
      refine go_nil ?_
      refine g_ret (rst rfl rs0) (fun h1 hf hs => ⟨hs.hext, ?_⟩)
      have q := atE_eq he
      simp [packV, he, q, same18]
end Go.Proofs.Ytadfhabapgipbaa.V
