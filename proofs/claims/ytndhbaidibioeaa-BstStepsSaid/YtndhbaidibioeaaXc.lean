/- Walks.
   No condition: these are laws of the clean machine and of this program. -/
import Derived.Test.YtndhbaidibioeaaXb
namespace Go.Proofs.Ytndhbaidibioeaa.V
open Go
set_option linter.unusedVariables false
set_option linter.unusedSimpArgs false
set_option maxRecDepth 100000
set_option maxHeartbeats 4000000
theorem s_mem_New_nil {h : Heap} (hw : Wf h)    {r : Omem_Mem} (hF : F_mem_New_nil  = some r) :
    EvO EE 11 [.int .i64 0] [] h (fun v S h1 => ∃ bw0 qw0_0 tw0_0, v = .pointer (some ⟨bw0, 0, none⟩) ∧ S = [[⟨bw0, .cells [.slice qw0_0 r.cells.length r.cells.length, .int .i64 r.count] 94⟩], tw0_0] ∧ AccR (RI_ .u64 29) 29 h1 tw0_0 (.slice qw0_0 r.cells.length r.cells.length) r.cells) := by
  unfold F_mem_New_nil at hF
  refine evo_of rfl at_11 rfl rfl ?_
  refine go_seq ?_
  refine go_region ?_
  refine gAc rfl rfl ?_
  refine go_nil ?_
  refine go_seq ?_
  refine go_seq ?_
  refine go_region ?_
  refine gM rfl rfl ?_
  refine gr rfl (r_bin (ot rfl) (oc rfl) rfl) ?_
  refine gM rfl rfl ?_
  refine g_do rfl rfl rfl ?_
  refine gM rfl rfl ?_
  refine g_do rfl rfl rfl ?_
  refine gr rfl (r_bin (ot rfl) (oc rfl) rfl) ?_
  refine gr rfl (r_pkF (ot rfl) (ot rfl)) ?_
  refine go_nil ?_
  refine g_cond (b := false) (ot rfl) (fun hc2 => ?_) (fun hc2 => ?_)
  · cases hc2
  refine go_skip ?_
  refine go_seq ?_
  refine go_region ?_
  refine gM rfl rfl ?_
  refine gs_mslice (cs := []) rfl (ot rfl) (ot rfl) ut_92 sz_29 by_29 zo_29 rfl rfl ?_; intro b10_3
  refine gr rfl (r_build (op1 (ot rfl) op0) rfl) ?_
  refine gs_box rfl (ot rfl) rfl ?_; intro b12_4
  refine gA rfl rfl ?_
  refine go_nil ?_
  obtain rfl := someI hF
  refine gs_sub (.cons_cons _ (.cons _ (.refl _))) ?_
  exact g_ret (rst rfl rs0) (fun h1 hf hs => ⟨[[⟨b12_4, .cells [.slice (some ⟨b10_3, 0, none⟩) 0 0, .int .i64 0] 94⟩], []], _, hf, (HExt.refl _), hw, hs, (ndb (by intro e; cases e) (nde nd0)), ⟨_, _, _, rfl, rfl, (AccR.lit _ _ _ _)⟩⟩)
theorem s_bst_New {h : Heap} (hw : Wf h) (p0 : Omem_Mem) {bp0 : Nat} {q0_0 : Option Addr} {t0_0 : List Blk} (f0_0 : AccR (RI_ .u64 29) 29 h t0_0 (.slice q0_0 p0.cells.length p0.cells.length) p0.cells) {r : Obst_Tree × Omem_Mem} (hF : F_bst_New p0 = some r) :
    EvO EE 10 [.pointer (some ⟨bp0, 0, none⟩)] [[⟨bp0, .cells [.slice q0_0 p0.cells.length p0.cells.length, .int .i64 p0.count] 94⟩], t0_0] h (fun v S h1 => ∃ bw0 qw0_1 tw0_1 qw0_2 tw0_2 qw0o0_0 tw0o0_0, v = .pointer (some ⟨bw0, 0, none⟩) ∧ S = [[⟨bw0, .cells [.pointer (some ⟨bp0, 0, none⟩), .slice qw0_1 r.1.nodes.length r.1.nodes.length, .slice qw0_2 r.1.infos.length r.1.infos.length] 83⟩], tw0_1, tw0_2, [⟨bp0, .cells [.slice qw0o0_0 r.2.cells.length r.2.cells.length, .int .i64 r.2.count] 94⟩], tw0o0_0] ∧ AccR R_Tbst_node 89 h1 tw0_1 (.slice qw0_1 r.1.nodes.length r.1.nodes.length) r.1.nodes ∧ AccR R_Tbst_info 86 h1 tw0_2 (.slice qw0_2 r.1.infos.length r.1.infos.length) r.1.infos ∧ AccR (RI_ .u64 29) 29 h1 tw0o0_0 (.slice qw0o0_0 r.2.cells.length r.2.cells.length) r.2.cells) := by
  unfold F_bst_New at hF
  refine evo_of rfl at_10 rfl rfl ?_
  refine go_seq ?_
  refine go_region ?_
  refine gAc rfl rfl ?_
  refine go_nil ?_
  refine go_seq ?_
  refine go_region ?_
  refine gM rfl rfl ?_
  replace hF := obind hF
  obtain ⟨x2, hx2, hF⟩ := hF
  refine gs_call EE_fr hw (.cons .z (.cons .z .nil)) (fun _ h => by cases h; rfl) of (os1 (ot rfl) (os1 (oc rfl) os0)) hb_38 (by exact s_mem_Mem_Grow hw p0 3 f0_0 hx2) ?_
  rintro v2 S2 h2 e2 w2 ⟨q2_y0_0, t2_y0_0, rfl, rfl, f2_0⟩
  simp only [List.cons_append, List.nil_append]
  refine gM rfl rfl ?_
  refine gE rfl rfl rfl ?_
  refine gE rfl rfl rfl ?_
  refine gA rfl rfl ?_
  refine gA rfl rfl ?_
  refine go_nil ?_
  refine go_seq ?_
  refine go_seq ?_
  refine go_region ?_
  refine gM rfl rfl ?_
  refine gr rfl (r_bin (ot rfl) (oc rfl) rfl) ?_
  refine go_nil ?_
  refine g_cond (b := (x2.2.1 != 0)) (ot rfl) (fun hc3 => ?_) (fun hc3 => ?_)
  ·
    replace hF := ifT hc3 hF
    refine go_seq ?_
    refine go_region ?_
    refine gAc rfl rfl ?_
    refine go_nil ?_
    cases hF
  ·
    replace hF := ifF hc3 hF
    refine go_skip ?_
    refine go_seq ?_
    refine go_region ?_
    refine gM rfl rfl ?_
    refine gr rfl (r_build (op1 (ot rfl) op0) rfl) ?_
    refine gs_box rfl (ot rfl) rfl ?_; intro b15_4
    refine gA rfl rfl ?_
    refine go_nil ?_
    refine go_seq ?_
    refine go_region ?_
    refine gM rfl rfl ?_
    refine gr rfl (r_build op0 rfl) ?_
    replace hF := obind hF
    obtain ⟨x5, hx5, hF⟩ := hF
    refine gs_call EE_fr w2 (.cons .z (.emp (.emp (.cons .z (.cons .z .nil))))) (fun _ h => by cases h; rfl) of (os1 (ot rfl) (os1 (ot rfl) os0)) hb_39 (by exact s_bst_Tree_info w2 (⟨([] : List Tbst_node), ([] : List Tbst_info)⟩ : Obst_Tree) (⟨x2.2.2.cells, x2.2.2.count⟩ : Omem_Mem) (⟨0, 0, 0, 0, 0⟩ : Tbst_info) (AccR.nil _ _ _) (AccR.nil _ _ _) f2_0 hx5) ?_
    rintro v5 S5 h5 e5 w5 ⟨q5_y0_1, t5_y0_1, q5_y0_2, t5_y0_2, q5_y0o0_0, t5_y0o0_0, rfl, rfl, f5_0, f5_1, f5_2⟩
    simp only [List.cons_append, List.nil_append]
    refine go_nil ?_
    refine go_seq ?_
    refine go_region ?_
    refine gM rfl rfl ?_
    refine gM rfl rfl ?_
    refine gr rfl (r_build (op1 (oc rfl) (op1 (ot rfl) op0)) rfl) ?_
    replace hF := obind hF
    obtain ⟨x6, hx6, hF⟩ := hF
    refine gs_call EE_fr w5 (.cons .z (.cons .z (.cons .z (.cons .z (.cons .z .nil))))) (fun _ h => by cases h; rfl) of (os1 (ot rfl) (os1 (ot rfl) os0)) hb_40 (by exact s_bst_Tree_node w5 (⟨x5.2.1.nodes, x5.2.1.infos⟩ : Obst_Tree) (⟨x5.2.2.cells, x5.2.2.count⟩ : Omem_Mem) (⟨ByteArray.empty, 2, 0, x2.1⟩ : Tbst_node) f5_0 f5_1 f5_2 hx6) ?_
    rintro v6 S6 h6 e6 w6 ⟨q6_y0_1, t6_y0_1, q6_y0_2, t6_y0_2, q6_y0o0_0, t6_y0o0_0, rfl, rfl, f6_0, f6_1, f6_2⟩
    simp only [List.cons_append, List.nil_append]
    refine go_nil ?_
    refine go_seq ?_
    refine go_regions (L := [(0, []), (1, []), (2, []), (3, []), (4, []), (5, []), (6, []), (7, [3]), (8, []), (9, [])]) (by kernel_rfl) (by kernel_rfl) (fun _ => rfl) ?_
    refine go_sop rfl rfl ?_
    refine gM rfl rfl ?_
    refine go_nil ?_
    refine go_sop rfl rfl ?_
    refine gr rfl (r_nilck (ot rfl)) ?_
    refine go_nil ?_
    refine go_sop rfl rfl ?_
    refine gr rfl (r_fa (ot rfl) (fa_83_0 _ _)) ?_
    refine go_nil ?_
    refine go_sop rfl rfl ?_
    refine gr rfl (r_load (ot rfl) (lm_s (mem_seg 0 rfl) ag_26 rfl)) ?_
    refine go_nil ?_
    refine go_sop rfl rfl ?_
    refine gM rfl rfl ?_
    refine go_nil ?_
    refine go_sop rfl rfl ?_
    refine gr rfl (r_bin (ot rfl) (oc rfl) rfl) ?_
    refine go_nil ?_
    refine go_sop rfl rfl ?_
    refine gM rfl rfl ?_
    refine go_nil ?_
    refine go_sopc [(3, .pointer (some ⟨bp0, 0, none⟩))] rfl rfl rfl (rc1 rfl (r_load (ot rfl) (lm_s (mem_seg 0 rfl) ag_26 rfl)) rc0) (vq1 (veq_ptr _ _) vq0) rfl ?_
    replace hF := obind hF
    obtain ⟨x7, hx7, hF⟩ := hF
    refine gs_call EE_fr w6 (.cons .z (.cons .z (.cons .z (.cons .z (.cons .z .nil))))) (fun _ h => by cases h; rfl) of (os1 (ot rfl) (os1 (oc rfl) (os1 (oc rfl) (os1 (oc rfl) os0)))) hb_42 (by exact s_bst_Tree_leaf w6 (⟨x6.2.1.nodes, x6.2.1.infos⟩ : Obst_Tree) (⟨x6.2.2.cells, x6.2.2.count⟩ : Omem_Mem) ByteArray.empty 1 0 f6_0 f6_1 f6_2 hx7) ?_
    rintro v7 S7 h7 e7 w7 ⟨q7_y0_1, t7_y0_1, q7_y0_2, t7_y0_2, q7_y0o0_0, t7_y0o0_0, rfl, rfl, f7_0, f7_1, f7_2⟩
    simp only [List.cons_append, List.nil_append]
    refine go_nil ?_
    refine go_rck (rc1 rfl (r_load (ot rfl) (lm_s (mem_seg 0 rfl) ag_26 rfl)) rc0) ?_
    refine go_sop rfl rfl ?_
    refine gr rfl (r_conv (ot rfl) rfl) ?_
    refine go_nil ?_
    refine go_sop rfl rfl ?_
    replace hF := obind hF
    obtain ⟨x8, hx8, hF⟩ := hF
    refine gs_call EE_fr w7 (.cons (.s (.s (.s (.z)))) (.cons (.s (.s (.s (.z)))) .nil)) (fun _ h => by cases h; rfl) of (os1 (ot rfl) (os1 (ot rfl) (os1 (ot rfl) os0))) hb_41 (by exact s_mem_Mem_Store w7 (⟨x7.2.2.cells, x7.2.2.count⟩ : Omem_Mem) (IntKind.i64.wrap (x2.1 + 1)) (IntKind.u64.wrap x7.1) f7_2 hx8) ?_
    rintro v8 S8 h8 e8 w8 ⟨q8_y0_0, t8_y0_0, rfl, rfl, f8_0⟩
    simp only [List.cons_append, List.nil_append]
    refine go_nil ?_
    refine go_snil ?_
    refine go_seq ?_
    refine go_regions (L := [(0, []), (1, []), (2, []), (3, []), (4, []), (5, []), (6, []), (7, [3]), (8, []), (9, [])]) (by kernel_rfl) (by kernel_rfl) (fun _ => rfl) ?_
    refine go_sop rfl rfl ?_
    refine gM rfl rfl ?_
    refine go_nil ?_
    refine go_sop rfl rfl ?_
    refine gr rfl (r_nilck (ot rfl)) ?_
    refine go_nil ?_
    refine go_sop rfl rfl ?_
    refine gr rfl (r_fa (ot rfl) (fa_83_0 _ _)) ?_
    refine go_nil ?_
    refine go_sop rfl rfl ?_
    refine gr rfl (r_load (ot rfl) (lm_s (mem_seg 2 rfl) ag_26 rfl)) ?_
    refine go_nil ?_
    refine go_sop rfl rfl ?_
    refine gM rfl rfl ?_
    refine go_nil ?_
    refine go_sop rfl rfl ?_
    refine gr rfl (r_bin (ot rfl) (oc rfl) rfl) ?_
    refine go_nil ?_
    refine go_sop rfl rfl ?_
    refine gM rfl rfl ?_
    refine go_nil ?_
    refine go_sopc [(3, .pointer (some ⟨bp0, 0, none⟩))] rfl rfl rfl (rc1 rfl (r_load (ot rfl) (lm_s (mem_seg 2 rfl) ag_26 rfl)) rc0) (vq1 (veq_ptr _ _) vq0) rfl ?_
    replace hF := obind hF
    obtain ⟨x9, hx9, hF⟩ := hF
    refine gs_call EE_fr w8 (.cons (.s (.s (.z))) (.cons (.s (.s (.z))) (.cons (.s (.s (.z))) (.cons .z (.cons .z .nil))))) (fun _ h => by cases h; rfl) of (os1 (ot rfl) (os1 (oc rfl) (os1 (oc rfl) (os1 (oc rfl) os0)))) hb_42 (by exact s_bst_Tree_leaf w8 (⟨x7.2.1.nodes, x7.2.1.infos⟩ : Obst_Tree) (⟨x8.2.cells, x8.2.count⟩ : Omem_Mem) ByteArray.empty 2 0 (f7_0.ext e8.kn) (f7_1.ext e8.kn) f8_0 hx9) ?_
    rintro v9 S9 h9 e9 w9 ⟨q9_y0_1, t9_y0_1, q9_y0_2, t9_y0_2, q9_y0o0_0, t9_y0o0_0, rfl, rfl, f9_0, f9_1, f9_2⟩
    simp only [List.cons_append, List.nil_append]
    refine go_nil ?_
    refine go_rck (rc1 rfl (r_load (ot rfl) (lm_s (mem_seg 0 rfl) ag_26 rfl)) rc0) ?_
    refine go_sop rfl rfl ?_
    refine gr rfl (r_conv (ot rfl) rfl) ?_
    refine go_nil ?_
    refine go_sop rfl rfl ?_
    replace hF := obind hF
    obtain ⟨x10, hx10, hF⟩ := hF
    refine gs_call EE_fr w9 (.cons (.s (.s (.s (.z)))) (.cons (.s (.s (.s (.z)))) .nil)) (fun _ h => by cases h; rfl) of (os1 (ot rfl) (os1 (ot rfl) (os1 (ot rfl) os0))) hb_41 (by exact s_mem_Mem_Store w9 (⟨x9.2.2.cells, x9.2.2.count⟩ : Omem_Mem) (IntKind.i64.wrap (x2.1 + 2)) (IntKind.u64.wrap x9.1) f9_2 hx10) ?_
    rintro v10 S10 h10 e10 w10 ⟨q10_y0_0, t10_y0_0, rfl, rfl, f10_0⟩
    simp only [List.cons_append, List.nil_append]
    refine go_nil ?_
    refine go_snil ?_
    refine go_seq ?_
    refine go_region ?_
    refine gM rfl rfl ?_
    refine gA rfl rfl ?_
    refine go_nil ?_
    obtain rfl := someI hF
    refine gs_perm (perm_of (d := []) _ [2, 3, 4, 0, 1] rfl) ?_
    exact g_ret (rst rfl rs0) (fun h1 hf hs => ⟨[[⟨b15_4, .cells [.pointer (some ⟨bp0, 0, none⟩), .slice q9_y0_1 x9.2.1.nodes.length x9.2.1.nodes.length, .slice q9_y0_2 x9.2.1.infos.length x9.2.1.infos.length] 83⟩], t9_y0_1, t9_y0_2, [⟨bp0, .cells [.slice q10_y0_0 x10.2.cells.length x10.2.cells.length, .int .i64 x10.2.count] 94⟩], t10_y0_0], _, hf, (e2.trans (e5.trans (e6.trans (e7.trans (e8.trans (e9.trans e10)))))), w10, hs, (ndb (by intro e; cases e) (ndt (f9_0.ext e10.kn) (ndt (f9_1.ext e10.kn) (ndb (by intro e; cases e) (ndt f10_0 nd0))))), ⟨_, _, _, _, _, _, _, rfl, rfl, (f9_0.ext e10.kn), (f9_1.ext e10.kn), f10_0⟩⟩)
end Go.Proofs.Ytndhbaidibioeaa.V
