/- Walks.
   No condition: these are laws of the clean machine and of this program. -/
import Derived.Test.YtndhbaidibioeaaXb
namespace Go.Proofs.Ytndhbaidibioeaa.V
open Go
set_option linter.unusedVariables false
set_option linter.unusedSimpArgs false
set_option maxRecDepth 100000
set_option maxHeartbeats 4000000
theorem s_mem_New_nil {h : Heap} (hw : Wf h)    {r : Omem_Mem} (hF : F_mem_New_nil  = some r) :
    EvO EE 11 [.int .i64 0] [] h (fun v S h1 => ∃ bw0 qw0_0 tw0_0, v = .pointer (some ⟨bw0, 0, none⟩) ∧ S = [[⟨bw0, .cells [.slice qw0_0 r.cells.length r.cells.length, .int .i64 r.count] 94⟩], tw0_0] ∧ AccR (RI_ .u64 29) 29 h1 tw0_0 (.slice qw0_0 r.cells.length r.cells.length) r.cells) := by
  unfold F_mem_New_nil at hF
  refine evo_of rfl at_11 rfl rfl ?_
  refine go_seq ?_
  refine go_region ?_
  refine gAc rfl rfl ?_
  refine go_nil ?_
  refine go_seq ?_
  refine go_seq ?_
  refine go_region ?_
  refine gM rfl rfl ?_
  refine gr rfl (r_bin (ot rfl) (oc rfl) rfl) ?_
  refine gM rfl rfl ?_
  refine g_do rfl rfl rfl ?_
  refine gM rfl rfl ?_
  refine g_do rfl rfl rfl ?_
  refine gr rfl (r_bin (ot rfl) (oc rfl) rfl) ?_
  refine gr rfl (r_pkF (ot rfl) (ot rfl)) ?_
  refine go_nil ?_
  refine g_cond (b := false) (ot rfl) (fun hc2 => ?_) (fun hc2 => ?_)
  · cases hc2
  refine go_skip ?_
  refine go_seq ?_
  refine go_region ?_
  refine gM rfl rfl ?_
  refine gs_mslice (cs := []) rfl (ot rfl) (ot rfl) ut_92 sz_29 by_29 zo_29 rfl rfl ?_; intro b10_3
  refine gr rfl (r_build (op1 (ot rfl) op0) rfl) ?_
  refine gs_box rfl (ot rfl) rfl ?_; intro b12_4
  refine gA rfl rfl ?_
  refine go_nil ?_
  obtain rfl := someI hF
  refine gs_sub (.cons_cons _ (.cons _ (.refl _))) ?_
  exact g_ret (rst rfl rs0) (fun h1 hf hs => ⟨[[⟨b12_4, .cells [.slice (some ⟨b10_3, 0, none⟩) 0 0, .int .i64 0] 94⟩], []], _, hf, (HExt.refl _), hw, hs, (ndb (by intro e; cases e) (nde nd0)), ⟨_, _, _, rfl, rfl, (AccR.lit _ _ _ _)⟩⟩)
theorem s_bst_New {h : Heap} (hw : Wf h) (p0 : Omem_Mem) {bp0 : Nat} {q0_0 : Option Addr} {t0_0 : List Blk} (f0_0 : AccR (RI_ .u64 29) 29 h t0_0 (.slice q0_0 p0.cells.length p0.cells.length) p0.cells) {r : Obst_Tree × Omem_Mem} (hF : F_bst_New p0 = some r) :
    EvO EE 10 [.pointer (some ⟨bp0, 0, none⟩)] [[⟨bp0, .cells [.slice q0_0 p0.cells.length p0.cells.length, .int .i64 p0.count] 94⟩], t0_0] h (fun v S h1 => ∃ bw0 qw0_1 tw0_1 qw0_2 tw0_2 qw0o0_0 tw0o0_0, v = .pointer (some ⟨bw0, 0, none⟩) ∧ S = [[⟨bw0, .cells [.pointer (some ⟨bp0, 0, none⟩), .slice qw0_1 r.1.nodes.length r.1.nodes.length, .slice qw0_2 r.1.infos.length r.1.infos.length] 83⟩], tw0_1, tw0_2, [⟨bp0, .cells [.slice qw0o0_0 r.2.cells.length r.2.cells.length, .int .i64 r.2.count] 94⟩], tw0o0_0] ∧ AccR R_Tbst_node 89 h1 tw0_1 (.slice qw0_1 r.1.nodes.length r.1.nodes.length) r.1.nodes ∧ AccR R_Tbst_info 86 h1 tw0_2 (.slice qw0_2 r.1.infos.length r.1.infos.length) r.1.infos ∧ AccR (RI_ .u64 29) 29 h1 tw0o0_0 (.slice qw0o0_0 r.2.cells.length r.2.cells.length) r.2.cells) := by
  unfold F_bst_New at hF
  refine evo_of rfl at_10 rfl rfl ?_
  refine go_seq ?_
  refine go_region ?_
  refine gAc rfl rfl ?_
  refine go_nil ?_
  refine go_seq ?_
  refine go_region ?_
  refine gM rfl rfl ?_
  replace hF := obind hF
  obtain ⟨x2, hx2, hF⟩ := hF
  refine gs_call EE_fr hw (.cons .z (.cons .z .nil)) (fun _ h => by cases h; rfl) of (os1 (ot rfl) (os1 (oc rfl) os0)) hb_38 (by exact s_mem_Mem_Grow hw p0 3 f0_0 hx2) ?_
  rintro v2 S2 h2 e2 w2 ⟨q2_y0_0, t2_y0_0, rfl, rfl, f2_0⟩
  simp only [List.cons_append, List.nil_append]
  refine gM rfl rfl ?_
  refine gE rfl rfl rfl ?_
  refine gE rfl rfl rfl ?_
  refine gA rfl rfl ?_
  refine gA rfl rfl ?_
  refine go_nil ?_
  refine go_seq ?_
  refine go_seq ?_
  refine go_region ?_
  refine gM rfl rfl ?_
  refine gr rfl (r_bin (ot rfl) (oc rfl) rfl) ?_
  refine go_nil ?_
  refine g_cond (b := (x2.2.1 != 0)) (ot rfl) (fun hc3 => ?_) (fun hc3 => ?_)
  ·
    replace hF := ifT hc3 hF
    refine go_seq ?_
    refine go_region ?_
    refine gAc rfl rfl ?_
    refine go_nil ?_
    cases hF
  ·
    replace hF := ifF hc3 hF
    refine go_skip ?_
    refine go_seq ?_
    refine go_region ?_
    refine gM rfl rfl ?_
    refine gr rfl (r_build (op1 (ot rfl) op0) rfl) ?_
    refine gs_box rfl (ot rfl) rfl ?_; intro b15_4
    refine gA rfl rfl ?_
    refine go_nil ?_
    refine go_seq ?_
    refine go_region ?_
    refine gM rfl rfl ?_
    refine gr rfl (r_build op0 rfl) ?_
    replace hF := obind hF
    obtain ⟨x5, hx5, hF⟩ := hF
    refine gs_call EE_fr w2 (.cons .z (.emp (.emp (.cons .z (.cons .z .nil))))) (fun _ h => by cases h; rfl) of (os1 (ot rfl) (os1 (ot rfl) os0)) hb_39 (by exact s_bst_Tree_info w2 (⟨([] : List Tbst_node), ([] : List Tbst_info)⟩ : Obst_Tree) (⟨x2.2.2.cells, x2.2.2.count⟩ : Omem_Mem) (⟨0, 0, 0, 0, 0⟩ : Tbst_info) (AccR.nil _ _ _) (AccR.nil _ _ _) f2_0 hx5) ?_
    rintro v5 S5 h5 e5 w5 ⟨q5_y0_1, t5_y0_1, q5_y0_2, t5_y0_2, q5_y0o0_0, t5_y0o0_0, rfl, rfl, f5_0, f5_1, f5_2⟩
    simp only [List.cons_append, List.nil_append]
    refine go_nil ?_
    refine go_seq ?_
    refine go_region ?_
    refine gM rfl rfl ?_
    refine gM rfl rfl ?_
    refine gr rfl (r_build (op1 (oc rfl) (op1 (ot rfl) op0)) rfl) ?_
    replace hF := obind hF
    obtain ⟨x6, hx6, hF⟩ := hF
    refine gs_call EE_fr w5 (.cons .z (.cons .z (.cons .z (.cons .z (.cons .z .nil))))) (fun _ h => by cases h; rfl) of (os1 (ot rfl) (os1 (ot rfl) os0)) hb_40 (by exact s_bst_Tree_node w5 (⟨x5.2.1.nodes, x5.2.1.infos⟩ : Obst_Tree) (⟨x5.2.2.cells, x5.2.2.count⟩ : Omem_Mem) (⟨ByteArray.empty, 2, 0, x2.1⟩ : Tbst_node) f5_0 f5_1 f5_2 hx6) ?_
    rintro v6 S6 h6 e6 w6 ⟨q6_y0_1, t6_y0_1, q6_y0_2, t6_y0_2, q6_y0o0_0, t6_y0o0_0, rfl, rfl, f6_0, f6_1, f6_2⟩
    simp only [List.cons_append, List.nil_append]
    refine go_nil ?_
    refine go_seq ?_
    refine go_regions (L := [(0, []), (1, []), (2, []), (3, []), (4, []), (5, []), (6, []), (7, [3]), (8, []), (9, [])]) (by kernel_rfl) (by kernel_rfl) (fun _ => rfl) ?_
    refine go_sop rfl rfl ?_
    refine gM rfl rfl ?_
    refine go_nil ?_
    refine go_sop rfl rfl ?_
    refine gr rfl (r_nilck (ot rfl)) ?_
    refine go_nil ?_
    refine go_sop rfl rfl ?_
    refine gr rfl (r_fa (ot rfl) (fa_83_0 _ _)) ?_
    refine go_nil ?_
    refine go_sop rfl rfl ?_
    refine gr rfl (r_load (ot rfl) (lm_s (mem_seg 0 rfl) ag_26 rfl)) ?_
    refine go_nil ?_
    refine go_sop rfl rfl ?_
    refine gM rfl rfl ?_
    refine go_nil ?_
    refine go_sop rfl rfl ?_
    refine gr rfl (r_bin (ot rfl) (oc rfl) rfl) ?_
    refine go_nil ?_
    refine go_sop rfl rfl ?_
    refine gM rfl rfl ?_
    refine go_nil ?_
    refine go_sopc [(3, .pointer (some ⟨bp0, 0, none⟩))] rfl rfl rfl (rc1 rfl (r_load (ot rfl) (lm_s (mem_seg 0 rfl) ag_26 rfl)) rc0) (vq1 (veq_ptr _ _) vq0) rfl ?_
    replace hF := obind hF
    obtain ⟨x7, hx7, hF⟩ := hF
    refine gs_call EE_fr w6 (.cons .z (.cons .z (.cons .z (.cons .z (.cons .z .nil))))) (fun _ h => by cases h; rfl) of (os1 (ot rfl) (os1 (oc rfl) (os1 (oc rfl) (os1 (oc rfl) os0)))) hb_42 (by exact s_bst_Tree_leaf w6 (⟨x6.2.1.nodes, x6.2.1.infos⟩ : Obst_Tree) (⟨x6.2.2.cells, x6.2.2.count⟩ : Omem_Mem) ByteArray.empty 1 0 f6_0 f6_1 f6_2 hx7) ?_
    rintro v7 S7 h7 e7 w7 ⟨q7_y0_1, t7_y0_1, q7_y0_2, t7_y0_2, q7_y0o0_0, t7_y0o0_0, rfl, rfl, f7_0, f7_1, f7_2⟩
    simp only [List.cons_append, List.nil_append]
    refine go_nil ?_
    refine go_rck (rc1 rfl (r_load (ot rfl) (lm_s (mem_seg 0 rfl) ag_26 rfl)) rc0) ?_
    refine go_sop rfl rfl ?_
    refine gr rfl (r_conv (ot rfl) rfl) ?_
    refine go_nil ?_
    refine go_sop rfl rfl ?_
    replace hF := obind hF
    obtain ⟨x8, hx8, hF⟩ := hF
    refine gs_call EE_fr w7 (.cons (.s (.s (.s (.z)))) (.cons (.s (.s (.s (.z)))) .nil)) (fun _ h => by cases h; rfl) of (os1 (ot rfl) (os1 (ot rfl) (os1 (ot rfl) os0))) hb_41 (by exact s_mem_Mem_Store w7 (⟨x7.2.2.cells, x7.2.2.count⟩ : Omem_Mem) (IntKind.i64.wrap (x2.1 + 1)) (IntKind.u64.wrap x7.1) f7_2 hx8) ?_
    rintro v8 S8 h8 e8 w8 ⟨q8_y0_0, t8_y0_0, rfl, rfl, f8_0⟩
    simp only [List.cons_append, List.nil_append]
    refine go_nil ?_
    refine go_snil ?_
    refine go_seq ?_
    refine go_regions (L := [(0, []), (1, []), (2, []), (3, []), (4, []), (5, []), (6, []), (7, [3]), (8, []), (9, [])]) (by kernel_rfl) (by kernel_rfl) (fun _ => rfl) ?_
    refine go_sop rfl rfl ?_
    refine gM rfl rfl ?_
    refine go_nil ?_
    refine go_sop rfl rfl ?_
    refine gr rfl (r_nilck (ot rfl)) ?_
    refine go_nil ?_
    refine go_sop rfl rfl ?_
    refine gr rfl (r_fa (ot rfl) (fa_83_0 _ _)) ?_
    refine go_nil ?_
    refine go_sop rfl rfl ?_
    refine gr rfl (r_load (ot rfl) (lm_s (mem_seg 2 rfl) ag_26 rfl)) ?_
    refine go_nil ?_
    refine go_sop rfl rfl ?_
    refine gM rfl rfl ?_
    refine go_nil ?_
    refine go_sop rfl rfl ?_
    refine gr rfl (r_bin (ot rfl) (oc rfl) rfl) ?_
    refine go_nil ?_
    refine go_sop rfl rfl ?_
    refine gM rfl rfl ?_
    refine go_nil ?_
    refine go_sopc [(3, .pointer (some ⟨bp0, 0, none⟩))] rfl rfl rfl (rc1 rfl (r_load (ot rfl) (lm_s (mem_seg 2 rfl) ag_26 rfl)) rc0) (vq1 (veq_ptr _ _) vq0) rfl ?_
    replace hF := obind hF
    obtain ⟨x9, hx9, hF⟩ := hF
    refine gs_call EE_fr w8 (.cons (.s (.s (.z))) (.cons (.s (.s (.z))) (.cons (.s (.s (.z))) (.cons .z (.cons .z .nil))))) (fun _ h => by cases h; rfl) of (os1 (ot rfl) (os1 (oc rfl) (os1 (oc rfl) (os1 (oc rfl) os0)))) hb_42 (by exact s_bst_Tree_leaf w8 (⟨x7.2.1.nodes, x7.2.1.infos⟩ : Obst_Tree) (⟨x8.2.cells, x8.2.count⟩ : Omem_Mem) ByteArray.empty 2 0 (f7_0.ext e8.kn) (f7_1.ext e8.kn) f8_0 hx9) ?_
    rintro v9 S9 h9 e9 w9 ⟨q9_y0_1, t9_y0_1, q9_y0_2, t9_y0_2, q9_y0o0_0, t9_y0o0_0, rfl, rfl, f9_0, f9_1, f9_2⟩
    simp only [List.cons_append, List.nil_append]
    refine go_nil ?_
    refine go_rck (rc1 rfl (r_load (ot rfl) (lm_s (mem_seg 0 rfl) ag_26 rfl)) rc0) ?_
    refine go_sop rfl rfl ?_
    refine gr rfl (r_conv (ot rfl) rfl) ?_
    refine go_nil ?_
    refine go_sop rfl rfl ?_
    replace hF := obind hF
    obtain ⟨x10, hx10, hF⟩ := hF
    refine gs_call EE_fr w9 (.cons (.s (.s (.s (.z)))) (.cons (.s (.s (.s (.z)))) .nil)) (fun _ h => by cases h; rfl) of (os1 (ot rfl) (os1 (ot rfl) (os1 (ot rfl) os0))) hb_41 (by exact s_mem_Mem_Store w9 (⟨x9.2.2.cells, x9.2.2.count⟩ : Omem_Mem) (IntKind.i64.wrap (x2.1 + 2)) (IntKind.u64.wrap x9.1) f9_2 hx10) ?_
    rintro v10 S10 h10 e10 w10 ⟨q10_y0_0, t10_y0_0, rfl, rfl, f10_0⟩
    simp only [List.cons_append, List.nil_append]
    refine go_nil ?_
    refine go_snil ?_
    refine go_seq ?_
    refine go_region ?_
    refine gM rfl rfl ?_
    refine gA rfl rfl ?_
    refine go_nil ?_
    obtain rfl := someI hF
    refine gs_perm (perm_of (d := []) _ [2, 3, 4, 0, 1] rfl) ?_
    exact g_ret (rst rfl rs0) (fun h1 hf hs => ⟨[[⟨b15_4, .cells [.pointer (some ⟨bp0, 0, none⟩), .slice q9_y0_1 x9.2.1.nodes.length x9.2.1.nodes.length, .slice q9_y0_2 x9.2.1.infos.length x9.2.1.infos.length] 83⟩], t9_y0_1, t9_y0_2, [⟨bp0, .cells [.slice q10_y0_0 x10.2.cells.length x10.2.cells.length, .int .i64 x10.2.count] 94⟩], t10_y0_0], _, hf, (e2.trans (e5.trans (e6.trans (e7.trans (e8.trans (e9.trans e10)))))), w10, hs, (ndb (by intro e; cases e) (ndt (f9_0.ext e10.kn) (ndt (f9_1.ext e10.kn) (ndb (by intro e; cases e) (ndt f10_0 nd0))))), ⟨_, _, _, _, _, _, _, rfl, rfl, (f9_0.ext e10.kn), (f9_1.ext e10.kn), f10_0⟩⟩)
theorem s_mem_Mem_Peek {h : Heap} (hw : Wf h) (p0 : Omem_Mem) (p1 : Int) {bp0 : Nat} {q0_0 : Option Addr} {t0_0 : List Blk} (f0_0 : AccR (RI_ .u64 29) 29 h t0_0 (.slice q0_0 p0.cells.length p0.cells.length) p0.cells) {r : Int × Int × Omem_Mem} (hF : F_mem_Mem_Peek p0 p1 = some r) :
    EvO EE 70 [.pointer (some ⟨bp0, 0, none⟩), .int .i64 p1] [[⟨bp0, .cells [.slice q0_0 p0.cells.length p0.cells.length, .int .i64 p0.count] 94⟩], t0_0] h (fun v S h1 => ∃ qy0_0 ty0_0, v = .tuple #[.int .u64 r.1, .int .i64 r.2.1] ∧ S = [[⟨bp0, .cells [.slice qy0_0 r.2.2.cells.length r.2.2.cells.length, .int .i64 r.2.2.count] 94⟩], ty0_0] ∧ AccR (RI_ .u64 29) 29 h1 ty0_0 (.slice qy0_0 r.2.2.cells.length r.2.2.cells.length) r.2.2.cells) := by
  unfold F_mem_Mem_Peek at hF
  refine evo_of rfl at_70 rfl rfl ?_
  refine go_seq ?_
  refine go_region ?_
  refine gAc rfl rfl ?_
  refine gAc rfl rfl ?_
  refine go_nil ?_
  refine go_seq ?_
  refine go_region ?_
  refine gM rfl rfl ?_
  refine gM rfl rfl ?_
  cases hx3 : getI p0.cells p1 with
  | none =>
    rw [hx3] at hF
    dsimp only at hF
    refine gs_call EE_fr hw (.cons .z .nil) (fun _ h => by cases h; rfl) of (os1 (ot rfl) (os1 (ot rfl) os0)) hb_69 (by exact s_mem_at_bad hw (getI_bad hx3)) ?_
    rintro v3 S3 h3 e3 w3 ⟨rfl, rfl⟩
    simp only [List.cons_append, List.nil_append]
    refine gA rfl rfl ?_
    refine go_nil ?_
    refine go_seq ?_
    refine go_seq ?_
    refine go_region ?_
    refine gM rfl rfl ?_
    refine gr rfl (r_bin (v := .bool true) (ot rfl) (oc rfl) (by first | rfl | kernel_rfl)) ?_
    refine go_nil ?_
    refine g_cond (b := true) (ot rfl) (fun hc4 => ?_) (fun hc4 => ?_)
    rotate_left
    · cases hc4
    refine go_seq ?_
    refine go_region ?_
    refine gAc rfl rfl ?_
    refine gAc rfl rfl ?_
    refine go_nil ?_
    obtain rfl := someI hF
    exact g_ret (rst rfl (rst rfl rs0)) (fun h1 hf hs => ⟨[[⟨bp0, .cells [.slice q0_0 p0.cells.length p0.cells.length, .int .i64 p0.count] 94⟩], t0_0], _, hf, e3, w3, hs, (ndb (by intro e; cases e) (ndt (f0_0.ext e3.kn) nd0)), ⟨_, _, rfl, rfl, (f0_0.ext e3.kn)⟩⟩)
  | some x3 =>
    rw [hx3] at hF
    dsimp only at hF
    obtain ⟨bb3, rw3, row3, hp3, ht3, hR3, hw3, rc3, hz3, hi3, hd3, hb3, hl3⟩ := AccR.at_ f0_0 hx3
    have hF3_ := hF
    subst hp3; subst ht3
    replace hF := hF3_
    obtain rfl := rc3
    refine gs_call EE_fr hw (.cons .z .nil) (fun _ h => by cases h; rfl) of (os1 (ot rfl) (os1 (ot rfl) os0)) hb_69 (by exact s_mem_at_ok hw hz3 hi3) ?_
    rintro v3 S3 h3 e3 w3 ⟨rfl, rfl⟩
    simp only [List.cons_append, List.nil_append]
    refine gA rfl rfl ?_
    refine go_nil ?_
    refine go_seq ?_
    refine go_seq ?_
    refine go_region ?_
    refine gM rfl rfl ?_
    refine gr rfl (r_bin (v := .bool false) (ot rfl) (oc rfl) (by first | rfl | kernel_rfl)) ?_
    refine go_nil ?_
    refine g_cond (b := false) (ot rfl) (fun hc5 => ?_) (fun hc5 => ?_)
    · cases hc5
    refine go_skip ?_
    refine go_seq ?_
    refine go_region ?_
    refine gM rfl rfl ?_
    refine gr rfl (r_nilck (ot rfl)) ?_
    refine gr rfl (r_fa (ot rfl) (fa_94_1 _ _)) ?_
    refine gr rfl (r_load (ot rfl) (lm_s (mem_seg 0 rfl) ag_3 rfl)) ?_
    refine gr rfl (r_bin (ot rfl) (oc rfl) rfl) ?_
    refine gr rfl (r_nilck (ot rfl)) ?_
    refine gr rfl (r_fa (ot rfl) (fa_94_1 _ _)) ?_
    refine gs_store (ot rfl) (ot rfl) sz_3 rfl rfl rfl rfl rfl .z ?_
    refine go_nil ?_
    refine go_seq ?_
    refine go_region ?_
    refine gM rfl rfl ?_
    refine gr rfl (r_nilck (ot rfl)) ?_
    refine gr rfl (r_load (ot rfl) (lm_s (mem_seg 1 rfl) ag_29 (acc_cell (j := 0) hd3 rfl))) ?_
    refine gA rfl rfl ?_
    refine gAc rfl rfl ?_
    refine go_nil ?_
    obtain rfl := someI hF
    exact g_ret (rst rfl (rst rfl rs0)) (fun h1 hf hs => ⟨[[⟨bp0, .cells [.slice (some ⟨bb3, 0, some 0⟩) p0.cells.length p0.cells.length, .int .i64 (IntKind.i64.wrap ((IntKind.i64.wrap (p0.count + 1)) - 1))] 94⟩], [⟨bb3, .cells rw3.flatten 29⟩]], _, hf, e3, w3, hs, (ndb (by intro e; cases e) (ndt (f0_0.ext e3.kn) nd0)), ⟨_, _, rfl, rfl, (f0_0.ext e3.kn)⟩⟩)
theorem s_bst_Tree_peek {h : Heap} (hw : Wf h) (p0 : Obst_Tree) (p0o0 : Omem_Mem) (p1 : Int) {bp0 : Nat} {q0_1 : Option Addr} {t0_1 : List Blk} {q0_2 : Option Addr} {t0_2 : List Blk} {bp0o0 : Nat} {q0o0_0 : Option Addr} {t0o0_0 : List Blk} (f0_1 : AccR R_Tbst_node 89 h t0_1 (.slice q0_1 p0.nodes.length p0.nodes.length) p0.nodes) (f0_2 : AccR R_Tbst_info 86 h t0_2 (.slice q0_2 p0.infos.length p0.infos.length) p0.infos) (f0o0_0 : AccR (RI_ .u64 29) 29 h t0o0_0 (.slice q0o0_0 p0o0.cells.length p0o0.cells.length) p0o0.cells) {r : Int × Obst_Tree × Omem_Mem} (hF : F_bst_Tree_peek p0 p0o0 p1 = some r) :
    EvO EE 45 [.pointer (some ⟨bp0, 0, none⟩), .int .i64 p1] [[⟨bp0, .cells [.pointer (some ⟨bp0o0, 0, none⟩), .slice q0_1 p0.nodes.length p0.nodes.length, .slice q0_2 p0.infos.length p0.infos.length] 83⟩], t0_1, t0_2, [⟨bp0o0, .cells [.slice q0o0_0 p0o0.cells.length p0o0.cells.length, .int .i64 p0o0.count] 94⟩], t0o0_0] h (fun v S h1 => ∃ qy0_1 ty0_1 qy0_2 ty0_2 qy0o0_0 ty0o0_0, v = .int .i64 r.1 ∧ S = [[⟨bp0, .cells [.pointer (some ⟨bp0o0, 0, none⟩), .slice qy0_1 r.2.1.nodes.length r.2.1.nodes.length, .slice qy0_2 r.2.1.infos.length r.2.1.infos.length] 83⟩], ty0_1, ty0_2, [⟨bp0o0, .cells [.slice qy0o0_0 r.2.2.cells.length r.2.2.cells.length, .int .i64 r.2.2.count] 94⟩], ty0o0_0] ∧ AccR R_Tbst_node 89 h1 ty0_1 (.slice qy0_1 r.2.1.nodes.length r.2.1.nodes.length) r.2.1.nodes ∧ AccR R_Tbst_info 86 h1 ty0_2 (.slice qy0_2 r.2.1.infos.length r.2.1.infos.length) r.2.1.infos ∧ AccR (RI_ .u64 29) 29 h1 ty0o0_0 (.slice qy0o0_0 r.2.2.cells.length r.2.2.cells.length) r.2.2.cells) := by
  unfold F_bst_Tree_peek at hF
  refine evo_of rfl at_45 rfl rfl ?_
  refine go_seq ?_
  refine go_region ?_
  refine gAc rfl rfl ?_
  refine go_nil ?_
  refine go_seq ?_
  refine go_region ?_
  refine gM rfl rfl ?_
  refine gr rfl (r_nilck (ot rfl)) ?_
  refine gr rfl (r_fa (ot rfl) (fa_83_0 _ _)) ?_
  refine gr rfl (r_load (ot rfl) (lm_s (mem_seg 0 rfl) ag_26 rfl)) ?_
  refine gM rfl rfl ?_
  replace hF := obind hF
  obtain ⟨x3, hx3, hF⟩ := hF
  refine gs_call EE_fr hw (.cons (.s (.s (.s (.z)))) (.cons (.s (.s (.s (.z)))) .nil)) (fun _ h => by cases h; rfl) of (os1 (ot rfl) (os1 (ot rfl) os0)) hb_70 (by exact s_mem_Mem_Peek hw p0o0 p1 f0o0_0 hx3) ?_
  rintro v3 S3 h3 e3 w3 ⟨q3_y0_0, t3_y0_0, rfl, rfl, f3_0⟩
  simp only [List.cons_append, List.nil_append]
  refine gM rfl rfl ?_
  refine gE rfl rfl rfl ?_
  refine gE rfl rfl rfl ?_
  refine gA rfl rfl ?_
  refine gA rfl rfl ?_
  refine go_nil ?_
  refine go_seq ?_
  refine go_region ?_
  refine gM rfl rfl ?_
  refine gr rfl (r_conv (ot rfl) rfl) ?_
  refine gA rfl rfl ?_
  refine go_nil ?_
  obtain rfl := someI hF
  refine gs_perm (perm_of (d := []) _ [2, 3, 4, 0, 1] rfl) ?_
  exact g_ret (rst rfl rs0) (fun h1 hf hs => ⟨[[⟨bp0, .cells [.pointer (some ⟨bp0o0, 0, none⟩), .slice q0_1 p0.nodes.length p0.nodes.length, .slice q0_2 p0.infos.length p0.infos.length] 83⟩], t0_1, t0_2, [⟨bp0o0, .cells [.slice q3_y0_0 x3.2.2.cells.length x3.2.2.cells.length, .int .i64 x3.2.2.count] 94⟩], t3_y0_0], _, hf, e3, w3, hs, (ndb (by intro e; cases e) (ndt (f0_1.ext e3.kn) (ndt (f0_2.ext e3.kn) (ndb (by intro e; cases e) (ndt f3_0 nd0))))), ⟨_, _, _, _, _, _, rfl, rfl, (f0_1.ext e3.kn), (f0_2.ext e3.kn), f3_0⟩⟩)
theorem s_bst_Tree_Keys_1 (n : Nat) : ∀ (h : Heap) (hw : Wf h) (p0 : Obst_Tree) (p0o0 : Omem_Mem) (p1 : Int) (p4 : O_string) {bp0 : Nat} {q0_1 : Option Addr} {t0_1 : List Blk} {q0_2 : Option Addr} {t0_2 : List Blk} {bp0o0 : Nat} {q0o0_0 : Option Addr} {t0o0_0 : List Blk} {b2 : Nat} {b3 : Nat} {bp4 : Nat} {q4_0 : Option Addr} {t4_0 : List Blk} (f0_1 : AccR R_Tbst_node 89 h t0_1 (.slice q0_1 p0.nodes.length p0.nodes.length) p0.nodes) (f0_2 : AccR R_Tbst_info 86 h t0_2 (.slice q0_2 p0.infos.length p0.infos.length) p0.infos) (f0o0_0 : AccR (RI_ .u64 29) 29 h t0o0_0 (.slice q0o0_0 p0o0.cells.length p0o0.cells.length) p0o0.cells) (g2 : BK h b2 [.pointer (some ⟨bp0, 0, none⟩)] 24) (g3 : BK h b3 [.func (.func 43) #[] #[.pointer (some ⟨b2, 0, none⟩), .pointer (some ⟨b3, 0, none⟩), .pointer (some ⟨bp4, 0, none⟩)]] 97) (f4_0 : AccR (RS_ 9) 9 h t4_0 (.slice q4_0 p4.v.length p4.v.length) p4.v) {r : Obst_Tree × Omem_Mem × O_string} (hF : F_bst_Tree_Keys_1 n p0 p0o0 p1 p4 = some r),
    EvO EE 43 [.int .i64 p1, .pointer (some ⟨b2, 0, none⟩), .pointer (some ⟨b3, 0, none⟩), .pointer (some ⟨bp4, 0, none⟩)] [[⟨bp0, .cells [.pointer (some ⟨bp0o0, 0, none⟩), .slice q0_1 p0.nodes.length p0.nodes.length, .slice q0_2 p0.infos.length p0.infos.length] 83⟩], t0_1, t0_2, [⟨bp0o0, .cells [.slice q0o0_0 p0o0.cells.length p0o0.cells.length, .int .i64 p0o0.count] 94⟩], t0o0_0, [⟨bp4, .cells [.slice q4_0 p4.v.length p4.v.length] 44⟩], t4_0] h (fun v S h1 => ∃ qy0_1 ty0_1 qy0_2 ty0_2 qy0o0_0 ty0o0_0 qy1_0 ty1_0, v = .tuple #[] ∧ S = [[⟨bp0, .cells [.pointer (some ⟨bp0o0, 0, none⟩), .slice qy0_1 r.1.nodes.length r.1.nodes.length, .slice qy0_2 r.1.infos.length r.1.infos.length] 83⟩], ty0_1, ty0_2, [⟨bp0o0, .cells [.slice qy0o0_0 r.2.1.cells.length r.2.1.cells.length, .int .i64 r.2.1.count] 94⟩], ty0o0_0, [⟨bp4, .cells [.slice qy1_0 r.2.2.v.length r.2.2.v.length] 44⟩], ty1_0] ∧ AccR R_Tbst_node 89 h1 ty0_1 (.slice qy0_1 r.1.nodes.length r.1.nodes.length) r.1.nodes ∧ AccR R_Tbst_info 86 h1 ty0_2 (.slice qy0_2 r.1.infos.length r.1.infos.length) r.1.infos ∧ AccR (RI_ .u64 29) 29 h1 ty0o0_0 (.slice qy0o0_0 r.2.1.cells.length r.2.1.cells.length) r.2.1.cells ∧ AccR (RS_ 9) 9 h1 ty1_0 (.slice qy1_0 r.2.2.v.length r.2.2.v.length) r.2.2.v) := by
  induction n with
  | zero => intro h hw p0 p0o0 p1 p4 bp0 q0_1 t0_1 q0_2 t0_2 bp0o0 q0o0_0 t0o0_0 b2 b3 bp4 q4_0 t4_0 f0_1 f0_2 f0o0_0 g2 g3 f4_0 r hF; rw [F_bst_Tree_Keys_1] at hF; cases hF
  | succ n ih =>
    intro h hw p0 p0o0 p1 p4 bp0 q0_1 t0_1 q0_2 t0_2 bp0o0 q0o0_0 t0o0_0 b2 b3 bp4 q4_0 t4_0 f0_1 f0_2 f0o0_0 g2 g3 f4_0 r hF
    rw [F_bst_Tree_Keys_1] at hF
    refine evo_of rfl at_43 rfl rfl ?_
    refine go_seq ?_
    refine go_region ?_
    refine gr rfl (r_load (ot rfl) (v := .pointer (some ⟨bp0, 0, none⟩)) (lo_e (fun hf kn => ld_cell ag_24 (g2.ext kn) rfl))) ?_
    refine gr rfl (r_nilck (ot rfl)) ?_
    refine gr rfl (r_fa (ot rfl) (fa_83_1 _ _)) ?_
    refine gr rfl (r_load (ot rfl) (lm_s (mem_seg 0 rfl) ag_80 rfl)) ?_
    refine gM rfl rfl ?_
    replace hF := obind hF
    obtain ⟨x6, hx6, hF⟩ := hF
    obtain ⟨bb6, rw6, row6, hp6, ht6, hR6, hw6, rc6, hz6, hi6, hd6, hb6, hl6⟩ := AccR.at_ f0_1 hx6
    have hF6_ := hF
    subst hp6; subst ht6
    replace hF := hF6_
    obtain rfl := rc6
    refine gr rfl (r_ia (ot rfl) (ot rfl) (ia_acc (k := 4) ut_80 sz_89 hz6 hi6)) ?_
    refine gr rfl (r_load (ot rfl) (lm_a (vs := [.string x6.key, .int .i64 x6.top, .int .u64 x6.val, .int .i64 x6.cell]) (mem_seg 1 rfl) ag_89 sz_89 (Nat.ble_eq_true_of_le hb6) hd6)) ?_
    refine gs_alloc rfl zo_89 rfl ?_; intro b5_7
    refine gs_store (ot rfl) (ot rfl) sz_89 rfl rfl rfl rfl rfl .z ?_
    refine go_nil ?_
    refine go_block ?_
    refine go_seq ?_
    refine go_region ?_
    refine gr rfl (r_load (ot rfl) (lm_w (mem_seg 0 rfl) ag_89 sz_89 rfl)) ?_
    replace hF := obind hF
    obtain ⟨x8, hx8, hF⟩ := hF
    refine g_callp (v := .bool x8) EE_fr rfl of (os1 (ot rfl) os0) hb_44 (fun _ => rfl) (fun hf kn w => by exact s_bst_node_leaf w x6  hx8) ?_
    refine gr rfl (r_un (ot rfl) rfl) ?_
    refine gA rfl rfl ?_
    refine go_nil ?_
    refine g_cond (b := (!x8)) (ot rfl) (fun hc9 => ?_) (fun hc9 => ?_)
    ·
      replace hF := ifT hc9 hF
      refine go_seq ?_
      refine go_regions (L := [(0, []), (1, []), (2, []), (3, []), (4, []), (5, [0]), (6, [])]) (by kernel_rfl) (by kernel_rfl) (fun _ => rfl) ?_
      refine go_sop rfl rfl ?_
      refine gr rfl (r_load (ot rfl) (v := .func (.func 43) #[] #[.pointer (some ⟨b2, 0, none⟩), .pointer (some ⟨b3, 0, none⟩), .pointer (some ⟨bp4, 0, none⟩)]) (lo_e (fun hf kn => ld_cell ag_97 (g3.ext kn) rfl))) ?_
      refine go_nil ?_
      refine go_sop rfl rfl ?_
      refine gr rfl (r_load (ot rfl) (v := .pointer (some ⟨bp0, 0, none⟩)) (lo_e (fun hf kn => ld_cell ag_24 (g2.ext kn) rfl))) ?_
      refine go_nil ?_
      refine go_sop rfl rfl ?_
      refine gr rfl (r_fa (ot rfl) (fa_89_3 _ _)) ?_
      refine go_nil ?_
      refine go_sop rfl rfl ?_
      refine gr rfl (r_load (ot rfl) (lm_s (mem_seg 0 rfl) ag_3 rfl)) ?_
      refine go_nil ?_
      refine go_sop rfl rfl ?_
      refine gr rfl (r_bin (ot rfl) (oc rfl) rfl) ?_
      refine go_nil ?_
      refine go_sopc [(0, .func (.func 43) #[] #[.pointer (some ⟨b2, 0, none⟩), .pointer (some ⟨b3, 0, none⟩), .pointer (some ⟨bp4, 0, none⟩)])] rfl rfl rfl (rc1 rfl (r_load (ot rfl) (v := .func (.func 43) #[] #[.pointer (some ⟨b2, 0, none⟩), .pointer (some ⟨b3, 0, none⟩), .pointer (some ⟨bp4, 0, none⟩)]) (lo_e (fun hf kn => ld_cell ag_97 (g3.ext kn) rfl))) rc0) (vq1 (veq_fn _ _ _ (va1 (veq_ptr _ _) (va1 (veq_ptr _ _) (va1 (veq_ptr _ _) (va0 _))))) vq0) rfl ?_
      replace hF := obind hF
      obtain ⟨x10, hx10, hF⟩ := hF
      refine gs_call EE_fr hw (.cons (.s (.z)) (.cons (.s (.z)) (.cons (.s (.z)) (.cons (.s (.z)) (.cons (.s (.z)) .nil))))) (fun _ h => by cases h; rfl) of (os1 (ot rfl) (os1 (ot rfl) os0)) hb_45 (by exact s_bst_Tree_peek hw p0 p0o0 (IntKind.i64.wrap (x6.cell + 1)) f0_1 f0_2 f0o0_0 hx10) ?_
      rintro v10 S10 h10 e10 w10 ⟨q10_y0_1, t10_y0_1, q10_y0_2, t10_y0_2, q10_y0o0_0, t10_y0o0_0, rfl, rfl, f10_0, f10_1, f10_2⟩
      simp only [List.cons_append, List.nil_append]
      refine go_nil ?_
      refine go_rck (rc1 rfl (r_load (ot rfl) (v := .func (.func 43) #[] #[.pointer (some ⟨b2, 0, none⟩), .pointer (some ⟨b3, 0, none⟩), .pointer (some ⟨bp4, 0, none⟩)]) (lo_e (fun hf kn => ld_cell ag_97 ((g3.ext e10.kn).ext kn) rfl))) rc0) ?_
      refine go_sop rfl rfl ?_
      replace hF := obind hF
      obtain ⟨x11, hx11, hF⟩ := hF
      refine gs_call EE_fr w10 (.cons .z (.cons .z (.cons .z (.cons .z (.cons .z (.cons (.s (.z)) (.cons (.s (.z)) .nil))))))) (fun _ h => by cases h; rfl) (ot rfl) (os1 (ot rfl) os0) hb_43 (by exact ih _ w10 (⟨x10.2.1.nodes, x10.2.1.infos⟩ : Obst_Tree) (⟨x10.2.2.cells, x10.2.2.count⟩ : Omem_Mem) x10.1 p4 f10_0 f10_1 f10_2 (g2.ext e10.kn) (g3.ext e10.kn) (f4_0.ext e10.kn) hx11) ?_
      rintro v11 S11 h11 e11 w11 ⟨q11_y0_1, t11_y0_1, q11_y0_2, t11_y0_2, q11_y0o0_0, t11_y0o0_0, q11_y1_0, t11_y1_0, rfl, rfl, f11_0, f11_1, f11_2, f11_3⟩
      simp only [List.cons_append, List.nil_append]
      refine go_nil ?_
      refine go_snil ?_
      refine go_regions (L := [(0, []), (1, []), (2, []), (3, []), (4, []), (5, [0]), (6, [])]) (by kernel_rfl) (by kernel_rfl) (fun _ => rfl) ?_
      refine go_sop rfl rfl ?_
      refine gr rfl (r_load (ot rfl) (v := .func (.func 43) #[] #[.pointer (some ⟨b2, 0, none⟩), .pointer (some ⟨b3, 0, none⟩), .pointer (some ⟨bp4, 0, none⟩)]) (lo_e (fun hf kn => ld_cell ag_97 (((g3.ext e10.kn).ext e11.kn).ext kn) rfl))) ?_
      refine go_nil ?_
      refine go_sop rfl rfl ?_
      refine gr rfl (r_load (ot rfl) (v := .pointer (some ⟨bp0, 0, none⟩)) (lo_e (fun hf kn => ld_cell ag_24 (((g2.ext e10.kn).ext e11.kn).ext kn) rfl))) ?_
      refine go_nil ?_
      refine go_sop rfl rfl ?_
      refine gr rfl (r_fa (ot rfl) (fa_89_3 _ _)) ?_
      refine go_nil ?_
      refine go_sop rfl rfl ?_
      refine gr rfl (r_load (ot rfl) (lm_s (mem_seg 7 rfl) ag_3 rfl)) ?_
      refine go_nil ?_
      refine go_sop rfl rfl ?_
      refine gr rfl (r_bin (ot rfl) (oc rfl) rfl) ?_
      refine go_nil ?_
      refine go_sopc [(0, .func (.func 43) #[] #[.pointer (some ⟨b2, 0, none⟩), .pointer (some ⟨b3, 0, none⟩), .pointer (some ⟨bp4, 0, none⟩)])] rfl rfl rfl (rc1 rfl (r_load (ot rfl) (v := .func (.func 43) #[] #[.pointer (some ⟨b2, 0, none⟩), .pointer (some ⟨b3, 0, none⟩), .pointer (some ⟨bp4, 0, none⟩)]) (lo_e (fun hf kn => ld_cell ag_97 (((g3.ext e10.kn).ext e11.kn).ext kn) rfl))) rc0) (vq1 (veq_fn _ _ _ (va1 (veq_ptr _ _) (va1 (veq_ptr _ _) (va1 (veq_ptr _ _) (va0 _))))) vq0) rfl ?_
      replace hF := obind hF
      obtain ⟨x12, hx12, hF⟩ := hF
      refine gs_call EE_fr w11 (.cons .z (.cons .z (.cons .z (.cons .z (.cons .z .nil))))) (fun _ h => by cases h; rfl) of (os1 (ot rfl) (os1 (ot rfl) os0)) hb_45 (by exact s_bst_Tree_peek w11 (⟨x11.1.nodes, x11.1.infos⟩ : Obst_Tree) (⟨x11.2.1.cells, x11.2.1.count⟩ : Omem_Mem) (IntKind.i64.wrap (x6.cell + 2)) f11_0 f11_1 f11_2 hx12) ?_
      rintro v12 S12 h12 e12 w12 ⟨q12_y0_1, t12_y0_1, q12_y0_2, t12_y0_2, q12_y0o0_0, t12_y0o0_0, rfl, rfl, f12_0, f12_1, f12_2⟩
      simp only [List.cons_append, List.nil_append]
      refine go_nil ?_
      refine go_rck (rc1 rfl (r_load (ot rfl) (v := .func (.func 43) #[] #[.pointer (some ⟨b2, 0, none⟩), .pointer (some ⟨b3, 0, none⟩), .pointer (some ⟨bp4, 0, none⟩)]) (lo_e (fun hf kn => ld_cell ag_97 ((((g3.ext e10.kn).ext e11.kn).ext e12.kn).ext kn) rfl))) rc0) ?_
      refine go_sop rfl rfl ?_
      replace hF := obind hF
      obtain ⟨x13, hx13, hF⟩ := hF
      refine gs_call EE_fr w12 (.cons .z (.cons .z (.cons .z (.cons .z (.cons .z (.cons .z (.cons .z .nil))))))) (fun _ h => by cases h; rfl) (ot rfl) (os1 (ot rfl) os0) hb_43 (by exact ih _ w12 (⟨x12.2.1.nodes, x12.2.1.infos⟩ : Obst_Tree) (⟨x12.2.2.cells, x12.2.2.count⟩ : Omem_Mem) x12.1 (⟨x11.2.2.v⟩ : O_string) f12_0 f12_1 f12_2 (((g2.ext e10.kn).ext e11.kn).ext e12.kn) (((g3.ext e10.kn).ext e11.kn).ext e12.kn) (f11_3.ext e12.kn) hx13) ?_
      rintro v13 S13 h13 e13 w13 ⟨q13_y0_1, t13_y0_1, q13_y0_2, t13_y0_2, q13_y0o0_0, t13_y0o0_0, q13_y1_0, t13_y1_0, rfl, rfl, f13_0, f13_1, f13_2, f13_3⟩
      simp only [List.cons_append, List.nil_append]
      refine go_nil ?_
      refine go_snil ?_
      refine go_endb ?_
      obtain rfl := someI hF
      refine gs_sub (.cons_cons _ (.cons_cons _ (.cons_cons _ (.cons_cons _ (.cons_cons _ (.cons_cons _ (.cons_cons _ (.cons _ (.refl _))))))))) ?_
      exact g_end rs0 (fun h1 hf hs => ⟨[[⟨bp0, .cells [.pointer (some ⟨bp0o0, 0, none⟩), .slice q13_y0_1 x13.1.nodes.length x13.1.nodes.length, .slice q13_y0_2 x13.1.infos.length x13.1.infos.length] 83⟩], t13_y0_1, t13_y0_2, [⟨bp0o0, .cells [.slice q13_y0o0_0 x13.2.1.cells.length x13.2.1.cells.length, .int .i64 x13.2.1.count] 94⟩], t13_y0o0_0, [⟨bp4, .cells [.slice q13_y1_0 x13.2.2.v.length x13.2.2.v.length] 44⟩], t13_y1_0], _, hf, (e10.trans (e11.trans (e12.trans e13))), w13, hs, (ndb (by intro e; cases e) (ndt f13_0 (ndt f13_1 (ndb (by intro e; cases e) (ndt f13_2 (ndb (by intro e; cases e) (ndt f13_3 nd0))))))), ⟨_, _, _, _, _, _, _, _, rfl, rfl, f13_0, f13_1, f13_2, f13_3⟩⟩)
    ·
      replace hF := ifF hc9 hF
      refine go_seq ?_
      refine go_region ?_
      refine gr rfl (r_fa (ot rfl) (fa_89_1 _ _)) ?_
      refine gr rfl (r_load (ot rfl) (lm_s (mem_seg 0 rfl) ag_3 rfl)) ?_
      refine gr rfl (r_bin (ot rfl) (oc rfl) rfl) ?_
      refine gA rfl rfl ?_
      refine go_nil ?_
      refine g_cond (b := (x6.top == 0)) (ot rfl) (fun hc14 => ?_) (fun hc14 => ?_)
      ·
        replace hF := ifT hc14 hF
        refine go_region ?_
        refine gr rfl (r_load (ot rfl) (lm_s (mem_seg 6 rfl) ag_44 rfl)) ?_
        refine gr rfl (r_fa (ot rfl) (fa_89_0 _ _)) ?_
        refine gr rfl (r_load (ot rfl) (lm_s (mem_seg 0 rfl) ag_9 rfl)) ?_
        refine gs_bslice (cs := [.string x6.key]) rfl (op1 (ot rfl) op0) ut_44 sz_9 zo_9 rfl rfl ?_; intro b38_15
        replace hF := obind hF
        obtain ⟨x16, hx16, hF⟩ := hF
        obtain ⟨hr16, hz16_⟩ := appL_some hx16; subst x16
        refine gs_front (.s (.s (.s (.s (.s (.s (.s (.s (.z))))))))) ?_
        refine gs_app (rows2 := [[.string x6.key]]) (R := (RS_ 9)) rfl (os1 (ot rfl) (os1 (ot rfl) os0)) rfl ut_44 sz_9 rfl (by decide) by_9 zo_9 rfl zs_44_44 rfl rfl (first_m (mem_seg 1 rfl) rfl (by decide)) (Rws.one (x := x6.key) rfl) f4_0 hr16 (fun p16_ tl16 f16_ => ?_)
        refine gs_store (ot rfl) (ot rfl) sz_44 rfl rfl rfl rfl rfl (.s (.s (.s (.s (.s (.s (.s (.s (.z))))))))) ?_
        refine go_nil ?_
        refine go_endb ?_
        obtain rfl := someI hF
        refine gs_sub (.cons_cons _ (.cons _ (.cons _ (.cons_cons _ (.cons_cons _ (.cons_cons _ (.cons_cons _ (.cons_cons _ (.cons_cons _ (.refl _)))))))))) ?_
        refine gs_perm (perm_of (d := []) _ [1, 2, 3, 4, 5, 6, 0] rfl) ?_
        exact g_end rs0 (fun h1 hf hs => ⟨[[⟨bp0, .cells [.pointer (some ⟨bp0o0, 0, none⟩), .slice (some ⟨bb6, 0, some 0⟩) p0.nodes.length p0.nodes.length, .slice q0_2 p0.infos.length p0.infos.length] 83⟩], [⟨bb6, .cells rw6.flatten 89⟩], t0_2, [⟨bp0o0, .cells [.slice q0o0_0 p0o0.cells.length p0o0.cells.length, .int .i64 p0o0.count] 94⟩], t0o0_0, [⟨bp4, .cells [.slice p16_ (p4.v ++ ([x6.key] : List ByteArray)).length (p4.v ++ ([x6.key] : List ByteArray)).length] 44⟩], tl16], _, hf, (HExt.refl _), hw, hs, (ndb (by intro e; cases e) (ndt f0_1 (ndt f0_2 (ndb (by intro e; cases e) (ndt f0o0_0 (ndb (by intro e; cases e) (ndt f16_ nd0))))))), ⟨_, _, _, _, _, _, _, _, rfl, rfl, f0_1, f0_2, f0o0_0, f16_⟩⟩)
      ·
        replace hF := ifF hc14 hF
        refine go_skip ?_
        refine go_endb ?_
        obtain rfl := someI hF
        refine gs_sub (.cons _ (.cons_cons _ (.cons_cons _ (.cons_cons _ (.cons_cons _ (.cons_cons _ (.cons_cons _ (.cons_cons _ (.refl _))))))))) ?_
        exact g_end rs0 (fun h1 hf hs => ⟨[[⟨bp0, .cells [.pointer (some ⟨bp0o0, 0, none⟩), .slice (some ⟨bb6, 0, some 0⟩) p0.nodes.length p0.nodes.length, .slice q0_2 p0.infos.length p0.infos.length] 83⟩], [⟨bb6, .cells rw6.flatten 89⟩], t0_2, [⟨bp0o0, .cells [.slice q0o0_0 p0o0.cells.length p0o0.cells.length, .int .i64 p0o0.count] 94⟩], t0o0_0, [⟨bp4, .cells [.slice q4_0 p4.v.length p4.v.length] 44⟩], t4_0], _, hf, (HExt.refl _), hw, hs, (ndb (by intro e; cases e) (ndt f0_1 (ndt f0_2 (ndb (by intro e; cases e) (ndt f0o0_0 (ndb (by intro e; cases e) (ndt f4_0 nd0))))))), ⟨_, _, _, _, _, _, _, _, rfl, rfl, f0_1, f0_2, f0o0_0, f4_0⟩⟩)
theorem s_bst_Tree_Keys (n : Nat) {h : Heap} (hw : Wf h) (p0 : Obst_Tree) (p0o0 : Omem_Mem) {bp0 : Nat} {q0_1 : Option Addr} {t0_1 : List Blk} {q0_2 : Option Addr} {t0_2 : List Blk} {bp0o0 : Nat} {q0o0_0 : Option Addr} {t0o0_0 : List Blk} (f0_1 : AccR R_Tbst_node 89 h t0_1 (.slice q0_1 p0.nodes.length p0.nodes.length) p0.nodes) (f0_2 : AccR R_Tbst_info 86 h t0_2 (.slice q0_2 p0.infos.length p0.infos.length) p0.infos) (f0o0_0 : AccR (RI_ .u64 29) 29 h t0o0_0 (.slice q0o0_0 p0o0.cells.length p0o0.cells.length) p0o0.cells) {r : (List ByteArray) × Obst_Tree × Omem_Mem} (hF : F_bst_Tree_Keys n p0 p0o0 = some r) :
    EvO EE 17 [.pointer (some ⟨bp0, 0, none⟩)] [[⟨bp0, .cells [.pointer (some ⟨bp0o0, 0, none⟩), .slice q0_1 p0.nodes.length p0.nodes.length, .slice q0_2 p0.infos.length p0.infos.length] 83⟩], t0_1, t0_2, [⟨bp0o0, .cells [.slice q0o0_0 p0o0.cells.length p0o0.cells.length, .int .i64 p0o0.count] 94⟩], t0o0_0] h (fun v S h1 => ∃ qy0_1 ty0_1 qy0_2 ty0_2 qy0o0_0 ty0o0_0 a0 c0, v = .slice a0 r.1.length c0 ∧ S = [[⟨bp0, .cells [.pointer (some ⟨bp0o0, 0, none⟩), .slice qy0_1 r.2.1.nodes.length r.2.1.nodes.length, .slice qy0_2 r.2.1.infos.length r.2.1.infos.length] 83⟩], ty0_1, ty0_2, [⟨bp0o0, .cells [.slice qy0o0_0 r.2.2.cells.length r.2.2.cells.length, .int .i64 r.2.2.count] 94⟩], ty0o0_0] ∧ AccR R_Tbst_node 89 h1 ty0_1 (.slice qy0_1 r.2.1.nodes.length r.2.1.nodes.length) r.2.1.nodes ∧ AccR R_Tbst_info 86 h1 ty0_2 (.slice qy0_2 r.2.1.infos.length r.2.1.infos.length) r.2.1.infos ∧ AccR (RI_ .u64 29) 29 h1 ty0o0_0 (.slice qy0o0_0 r.2.2.cells.length r.2.2.cells.length) r.2.2.cells ∧ RL (RS_ 9) h1 a0 c0 r.1) := by
  unfold F_bst_Tree_Keys at hF
  refine evo_of rfl at_17 rfl rfl ?_
  refine go_seq ?_
  refine go_region ?_
  refine gs_box rfl (ot rfl) rfl ?_; intro b1_2
  refine gAc rfl rfl ?_
  refine go_nil ?_
  refine go_seq ?_
  refine go_seq ?_
  refine go_region ?_
  refine gr rfl (r_load (ot rfl) (lm_s (mem_seg 0 rfl) ag_24 rfl)) ?_
  refine gr rfl (r_bin (v := .bool false) (ot rfl) (oc rfl) (by first | rfl | kernel_rfl)) ?_
  refine go_nil ?_
  refine g_cond (b := false) (ot rfl) (fun hc3 => ?_) (fun hc3 => ?_)
  · cases hc3
  refine go_skip ?_
  refine go_seq ?_
  refine go_region ?_
  refine gs_alloc rfl zo_44 rfl ?_; intro b3_4
  refine go_nil ?_
  refine go_seq ?_
  refine go_region ?_
  refine gs_alloc rfl zo_97 rfl ?_; intro b4_5
  refine go_nil ?_
  refine go_seq ?_
  refine go_region ?_
  refine gr rfl (r_func os0 (os1 (ot rfl) (os1 (ot rfl) (os1 (ot rfl) os0)))) ?_
  refine gs_store (ot rfl) (ot rfl) sz_97 rfl rfl rfl rfl rfl .z ?_
  refine go_nil ?_
  refine go_seq ?_
  refine go_region ?_
  refine gr rfl (r_load (ot rfl) (lm_s (mem_seg 0 rfl) ag_97 rfl)) ?_
  refine gs_pub (.s (.s (.z))) (fun h7 e7 w7 hb7 => ?_)
  have g7_ : BK h7 b1_2 [.pointer (some ⟨bp0, 0, none⟩)] 24 := hb7
  refine gs_pub .z (fun h8 e8 w8 hb8 => ?_)
  have g8_ : BK h8 b4_5 [.func (.func 43) #[] #[.pointer (some ⟨b1_2, 0, none⟩), .pointer (some ⟨b4_5, 0, none⟩), .pointer (some ⟨b3_4, 0, none⟩)]] 97 := hb8
  replace hF := obind hF
  obtain ⟨x6, hx6, hF⟩ := hF
  refine gs_call EE_fr w8 (.cons (.s (.z)) (.cons (.s (.z)) (.cons (.s (.z)) (.cons (.s (.z)) (.cons (.s (.z)) (.cons .z (.emp .nil))))))) (fun _ h => by cases h; rfl) (ot rfl) (os1 (oc rfl) os0) hb_43 (by exact s_bst_Tree_Keys_1 n _ w8 p0 p0o0 0 (⟨([] : List ByteArray)⟩ : O_string) ((f0_1.ext e7.kn).ext e8.kn) ((f0_2.ext e7.kn).ext e8.kn) ((f0o0_0.ext e7.kn).ext e8.kn) (g7_.ext e8.kn) g8_ (AccR.nil _ _ _) hx6) ?_
  rintro v6 S6 h6 e6 w6 ⟨q6_y0_1, t6_y0_1, q6_y0_2, t6_y0_2, q6_y0o0_0, t6_y0o0_0, q6_y1_0, t6_y1_0, rfl, rfl, f6_0, f6_1, f6_2, f6_3⟩
  simp only [List.cons_append, List.nil_append]
  refine go_nil ?_
  refine go_seq ?_
  refine go_region ?_
  refine gr rfl (r_load (ot rfl) (lm_s (mem_seg 5 rfl) ag_44 rfl)) ?_
  refine gA rfl rfl ?_
  refine go_nil ?_
  refine gs_accpub (.s (.s (.s (.s (.s (.s (.z))))))) f6_3 (fun h9 e9 w9 f9_ => ?_) rfl
  obtain rfl := someI hF
  refine gs_sub (.cons_cons _ (.cons_cons _ (.cons_cons _ (.cons_cons _ (.cons_cons _ (.cons _ (.refl _))))))) ?_
  exact g_ret (rst rfl rs0) (fun h1 hf hs => ⟨[[⟨bp0, .cells [.pointer (some ⟨bp0o0, 0, none⟩), .slice q6_y0_1 x6.1.nodes.length x6.1.nodes.length, .slice q6_y0_2 x6.1.infos.length x6.1.infos.length] 83⟩], t6_y0_1, t6_y0_2, [⟨bp0o0, .cells [.slice q6_y0o0_0 x6.2.1.cells.length x6.2.1.cells.length, .int .i64 x6.2.1.count] 94⟩], t6_y0o0_0], _, hf, (e7.trans (e8.trans (e6.trans e9))), w9, hs, (ndb (by intro e; cases e) (ndt (f6_0.ext e9.kn) (ndt (f6_1.ext e9.kn) (ndb (by intro e; cases e) (ndt (f6_2.ext e9.kn) nd0))))), ⟨_, _, _, _, _, _, _, _, rfl, rfl, (f6_0.ext e9.kn), (f6_1.ext e9.kn), (f6_2.ext e9.kn), f9_⟩⟩)
end Go.Proofs.Ytndhbaidibioeaa.V
