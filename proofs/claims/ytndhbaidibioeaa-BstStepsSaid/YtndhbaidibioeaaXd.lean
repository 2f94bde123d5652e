/- Walks.
   No condition: these are laws of the clean machine and of this program. -/
import Derived.Test.YtndhbaidibioeaaXc
namespace Go.Proofs.Ytndhbaidibioeaa.V
open Go
set_option linter.unusedVariables false
set_option linter.unusedSimpArgs false
set_option maxRecDepth 100000
set_option maxHeartbeats 4000000
theorem s_law15_begun (n : Nat) {h : Heap} (hw : Wf h) (p0 : Obst_Tree) (p0o0 : Omem_Mem) (p1 : Timpostlaw15_Deed) {bp0 : Nat} {q0_1 : Option Addr} {t0_1 : List Blk} {q0_2 : Option Addr} {t0_2 : List Blk} {bp0o0 : Nat} {q0o0_0 : Option Addr} {t0o0_0 : List Blk} (f0_1 : AccR R_Tbst_node 89 h t0_1 (.slice q0_1 p0.nodes.length p0.nodes.length) p0.nodes) (f0_2 : AccR R_Tbst_info 86 h t0_2 (.slice q0_2 p0.infos.length p0.infos.length) p0.infos) (f0o0_0 : AccR (RI_ .u64 29) 29 h t0o0_0 (.slice q0o0_0 p0o0.cells.length p0o0.cells.length) p0o0.cells) {r : Obst_Call_2 × Obst_Tree × Omem_Mem} (hF : F_law15_begun n p0 p0o0 p1 = some r) :
    EvO EE 13 [.pointer (some ⟨bp0, 0, none⟩), .agg #[.int .i64 p1.Kind, .string p1.Key, .int .u64 p1.Val]] [[⟨bp0, .cells [.pointer (some ⟨bp0o0, 0, none⟩), .slice q0_1 p0.nodes.length p0.nodes.length, .slice q0_2 p0.infos.length p0.infos.length] 83⟩], t0_1, t0_2, [⟨bp0o0, .cells [.slice q0o0_0 p0o0.cells.length p0o0.cells.length, .int .i64 p0o0.count] 94⟩], t0o0_0] h (fun v S h1 => ∃ qy0_1 ty0_1 qy0_2 ty0_2 qy0o0_0 ty0o0_0 bw0 vw0_4 tw0_4, v = .pointer (some ⟨bw0, 0, none⟩) ∧ S = [[⟨bp0, .cells [.pointer (some ⟨bp0o0, 0, none⟩), .slice qy0_1 r.2.1.nodes.length r.2.1.nodes.length, .slice qy0_2 r.2.1.infos.length r.2.1.infos.length] 83⟩], ty0_1, ty0_2, [⟨bp0o0, .cells [.slice qy0o0_0 r.2.2.cells.length r.2.2.cells.length, .int .i64 r.2.2.count] 94⟩], ty0o0_0, [⟨bw0, .cells [.bool r.1.told_Ok, .string r.1.told_Key, .int .u64 r.1.told_Val, .int .i64 r.1.told_Err, vw0_4] 114⟩], tw0_4] ∧ AccR R_Tbst_node 89 h1 ty0_1 (.slice qy0_1 r.2.1.nodes.length r.2.1.nodes.length) r.2.1.nodes ∧ AccR R_Tbst_info 86 h1 ty0_2 (.slice qy0_2 r.2.1.infos.length r.2.1.infos.length) r.2.1.infos ∧ AccR (RI_ .u64 29) 29 h1 ty0o0_0 (.slice qy0o0_0 r.2.2.cells.length r.2.2.cells.length) r.2.2.cells ∧ OC h1 bp0 bw0 tw0_4 r.1.next vw0_4) := by
  unfold F_law15_begun at hF
  refine evo_of rfl at_13 rfl rfl ?_
  refine go_seq ?_
  refine go_region ?_
  refine gs_box rfl (ot rfl) rfl ?_; intro b3_3
  refine gAc rfl rfl ?_
  refine go_nil ?_
  refine go_seq ?_
  refine go_seq ?_
  refine go_region ?_
  refine gr rfl (r_fa (ot rfl) (fa_37_0 _ _)) ?_
  refine gr rfl (r_load (ot rfl) (lm_s (mem_seg 0 rfl) ag_3 rfl)) ?_
  refine go_nil ?_
  refine go_block ?_
  refine go_seq ?_
  refine go_region ?_
  refine gr rfl (r_bin (ot rfl) (oc rfl) rfl) ?_
  refine gA rfl rfl ?_
  refine go_nil ?_
  refine g_cond (b := (p1.Kind == 1)) (ot rfl) (fun hc4 => ?_) (fun hc4 => ?_)
  ·
    replace hF := ifT hc4 hF
    refine go_seq ?_
    refine go_region ?_
    refine gM rfl rfl ?_
    refine gr rfl (r_fa (ot rfl) (fa_37_1 _ _)) ?_
    refine gr rfl (r_load (ot rfl) (lm_s (mem_seg 0 rfl) ag_9 rfl)) ?_
    refine gr rfl (r_fa (ot rfl) (fa_37_2 _ _)) ?_
    refine gr rfl (r_load (ot rfl) (lm_s (mem_seg 0 rfl) ag_29 rfl)) ?_
    replace hF := obind hF
    obtain ⟨x5, hx5, hF⟩ := hF
    refine gs_call EE_fr hw (.cons (.s (.z)) (.cons (.s (.z)) (.cons (.s (.z)) (.cons (.s (.z)) (.cons (.s (.z)) .nil))))) (fun _ h => by cases h; rfl) of (os1 (ot rfl) (os1 (ot rfl) (os1 (ot rfl) os0))) hb_22 (by exact s_bst_Tree_Insert n hw p0 p0o0 p1.Key p1.Val f0_1 f0_2 f0o0_0 hx5) ?_
    rintro v5 S5 h5 e5 w5 ⟨q5_y0_1, t5_y0_1, q5_y0_2, t5_y0_2, q5_y0o0_0, t5_y0o0_0, b5_w0, v5_w0_4, t5_w0_4, rfl, rfl, f5_0, f5_1, f5_2, f5_3⟩
    simp only [List.cons_append, List.nil_append]
    refine gA rfl rfl ?_
    refine go_nil ?_
    obtain rfl := someI hF
    refine gs_sub (.cons_cons _ (.cons_cons _ (.cons_cons _ (.cons_cons _ (.cons_cons _ (.cons_cons _ (.cons_cons _ (.cons _ (.refl _))))))))) ?_
    exact g_ret (rst rfl rs0) (fun h1 hf hs => ⟨[[⟨bp0, .cells [.pointer (some ⟨bp0o0, 0, none⟩), .slice q5_y0_1 x5.2.1.nodes.length x5.2.1.nodes.length, .slice q5_y0_2 x5.2.1.infos.length x5.2.1.infos.length] 83⟩], t5_y0_1, t5_y0_2, [⟨bp0o0, .cells [.slice q5_y0o0_0 x5.2.2.cells.length x5.2.2.cells.length, .int .i64 x5.2.2.count] 94⟩], t5_y0o0_0, [⟨b5_w0, .cells [.bool x5.1.told_Ok, .string x5.1.told_Key, .int .u64 x5.1.told_Val, .int .i64 x5.1.told_Err, v5_w0_4] 114⟩], t5_w0_4], _, hf, e5, w5, hs, (ndb (by intro e; cases e) (ndt f5_0 (ndt f5_1 (ndb (by intro e; cases e) (ndt f5_2 (ndb (by intro e; cases e) (ndc f5_3 nd0))))))), ⟨_, _, _, _, _, _, _, _, _, rfl, rfl, f5_0, f5_1, f5_2, f5_3⟩⟩)
  ·
    replace hF := ifF hc4 hF
    refine go_seq ?_
    refine go_region ?_
    refine gr rfl (r_bin (ot rfl) (oc rfl) rfl) ?_
    refine gA rfl rfl ?_
    refine go_nil ?_
    refine g_cond (b := (p1.Kind == 2)) (ot rfl) (fun hc6 => ?_) (fun hc6 => ?_)
    ·
      replace hF := ifT hc6 hF
      refine go_seq ?_
      refine go_region ?_
      refine gM rfl rfl ?_
      refine gr rfl (r_fa (ot rfl) (fa_37_1 _ _)) ?_
      refine gr rfl (r_load (ot rfl) (lm_s (mem_seg 0 rfl) ag_9 rfl)) ?_
      replace hF := obind hF
      obtain ⟨x7, hx7, hF⟩ := hF
      refine gs_call EE_fr hw (.cons (.s (.z)) (.cons (.s (.z)) (.cons (.s (.z)) (.cons (.s (.z)) (.cons (.s (.z)) .nil))))) (fun _ h => by cases h; rfl) of (os1 (ot rfl) (os1 (ot rfl) os0)) hb_37 (by exact s_bst_Tree_Delete n hw p0 p0o0 p1.Key f0_1 f0_2 f0o0_0 hx7) ?_
      rintro v7 S7 h7 e7 w7 ⟨q7_y0_1, t7_y0_1, q7_y0_2, t7_y0_2, q7_y0o0_0, t7_y0o0_0, b7_w0, v7_w0_4, t7_w0_4, rfl, rfl, f7_0, f7_1, f7_2, f7_3⟩
      simp only [List.cons_append, List.nil_append]
      refine gA rfl rfl ?_
      refine go_nil ?_
      obtain rfl := someI hF
      refine gs_sub (.cons_cons _ (.cons_cons _ (.cons_cons _ (.cons_cons _ (.cons_cons _ (.cons_cons _ (.cons_cons _ (.cons _ (.refl _))))))))) ?_
      exact g_ret (rst rfl rs0) (fun h1 hf hs => ⟨[[⟨bp0, .cells [.pointer (some ⟨bp0o0, 0, none⟩), .slice q7_y0_1 x7.2.1.nodes.length x7.2.1.nodes.length, .slice q7_y0_2 x7.2.1.infos.length x7.2.1.infos.length] 83⟩], t7_y0_1, t7_y0_2, [⟨bp0o0, .cells [.slice q7_y0o0_0 x7.2.2.cells.length x7.2.2.cells.length, .int .i64 x7.2.2.count] 94⟩], t7_y0o0_0, [⟨b7_w0, .cells [.bool x7.1.told_Ok, .string x7.1.told_Key, .int .u64 x7.1.told_Val, .int .i64 x7.1.told_Err, v7_w0_4] 114⟩], t7_w0_4], _, hf, e7, w7, hs, (ndb (by intro e; cases e) (ndt f7_0 (ndt f7_1 (ndb (by intro e; cases e) (ndt f7_2 (ndb (by intro e; cases e) (ndc f7_3 nd0))))))), ⟨_, _, _, _, _, _, _, _, _, rfl, rfl, f7_0, f7_1, f7_2, f7_3⟩⟩)
    ·
      replace hF := ifF hc6 hF
      refine go_skip ?_
      refine go_endb ?_
      refine go_seq ?_
      refine go_region ?_
      refine gM rfl rfl ?_
      refine gr rfl (r_fa (ot rfl) (fa_37_1 _ _)) ?_
      refine gr rfl (r_load (ot rfl) (lm_s (mem_seg 0 rfl) ag_9 rfl)) ?_
      replace hF := obind hF
      obtain ⟨x8, hx8, hF⟩ := hF
      refine gs_call EE_fr hw (.cons (.s (.z)) (.cons (.s (.z)) (.cons (.s (.z)) (.cons (.s (.z)) (.cons (.s (.z)) .nil))))) (fun _ h => by cases h; rfl) of (os1 (ot rfl) (os1 (ot rfl) os0)) hb_27 (by exact s_bst_Tree_Find n hw p0 p0o0 p1.Key f0_1 f0_2 f0o0_0 hx8) ?_
      rintro v8 S8 h8 e8 w8 ⟨q8_y0_1, t8_y0_1, q8_y0_2, t8_y0_2, q8_y0o0_0, t8_y0o0_0, b8_w0, v8_w0_4, t8_w0_4, rfl, rfl, f8_0, f8_1, f8_2, f8_3⟩
      simp only [List.cons_append, List.nil_append]
      refine gA rfl rfl ?_
      refine go_nil ?_
      obtain rfl := someI hF
      refine gs_sub (.cons_cons _ (.cons_cons _ (.cons_cons _ (.cons_cons _ (.cons_cons _ (.cons_cons _ (.cons_cons _ (.cons _ (.refl _))))))))) ?_
      exact g_ret (rst rfl rs0) (fun h1 hf hs => ⟨[[⟨bp0, .cells [.pointer (some ⟨bp0o0, 0, none⟩), .slice q8_y0_1 x8.2.1.nodes.length x8.2.1.nodes.length, .slice q8_y0_2 x8.2.1.infos.length x8.2.1.infos.length] 83⟩], t8_y0_1, t8_y0_2, [⟨bp0o0, .cells [.slice q8_y0o0_0 x8.2.2.cells.length x8.2.2.cells.length, .int .i64 x8.2.2.count] 94⟩], t8_y0o0_0, [⟨b8_w0, .cells [.bool x8.1.told_Ok, .string x8.1.told_Key, .int .u64 x8.1.told_Val, .int .i64 x8.1.told_Err, v8_w0_4] 114⟩], t8_w0_4], _, hf, e8, w8, hs, (ndb (by intro e; cases e) (ndt f8_0 (ndt f8_1 (ndb (by intro e; cases e) (ndt f8_2 (ndb (by intro e; cases e) (ndc f8_3 nd0))))))), ⟨_, _, _, _, _, _, _, _, _, rfl, rfl, f8_0, f8_1, f8_2, f8_3⟩⟩)
end Go.Proofs.Ytndhbaidibioeaa.V
