/- Walks.
   No condition: these are laws of the clean machine and of this program. -/
import Derived.Test.YtndhbaidibioeaaCo
import Derived.Test.YtndhbaidibioeaaMm
namespace Go.Proofs.Ytndhbaidibioeaa.V
open Go
set_option linter.unusedVariables false
set_option linter.unusedSimpArgs false
set_option maxRecDepth 100000
set_option maxHeartbeats 4000000
theorem s_bst_node_less {h : Heap} (hw : Wf h) (p0 : Tbst_node) (p1 : Tbst_node)   {r : Bool} (hF : F_bst_node_less p0 p1 = some r) :
    Ev EE 51 [.agg #[.string p0.key, .int .i64 p0.top, .int .u64 p0.val, .int .i64 p0.cell], .agg #[.string p1.key, .int .i64 p1.top, .int .u64 p1.val, .int .i64 p1.cell]] h (fun v _ => v = .bool r) := by
  unfold F_bst_node_less at hF
  refine ev_of hw rfl at_51 rfl rfl (go_seg0 ?_)
  refine go_seq ?_
  refine go_region ?_
  refine gs_box rfl (ot rfl) rfl ?_; intro b2_3
  refine gs_box rfl (ot rfl) rfl ?_; intro b3_4
  refine gAc rfl rfl ?_
  refine go_nil ?_
  refine go_seq ?_
  refine go_seq ?_
  refine go_region ?_
  refine gr rfl (r_fa (ot rfl) (fa_89_1 _ _)) ?_
  refine gr rfl (r_load (ot rfl) (lm_s (mem_seg 1 rfl) ag_3 rfl)) ?_
  refine gr rfl (r_fa (ot rfl) (fa_89_1 _ _)) ?_
  refine gr rfl (r_load (ot rfl) (lm_s (mem_seg 0 rfl) ag_3 rfl)) ?_
  refine gr rfl (r_bin (ot rfl) (ot rfl) rfl) ?_
  refine go_nil ?_
  refine g_cond (b := (p0.top != p1.top)) (ot rfl) (fun hc5 => ?_) (fun hc5 => ?_)
  ·
    replace hF := ifT hc5 hF
    refine go_seq ?_
    refine go_region ?_
    refine gr rfl (r_fa (ot rfl) (fa_89_1 _ _)) ?_
    refine gr rfl (r_load (ot rfl) (lm_s (mem_seg 1 rfl) ag_3 rfl)) ?_
    refine gr rfl (r_fa (ot rfl) (fa_89_1 _ _)) ?_
    refine gr rfl (r_load (ot rfl) (lm_s (mem_seg 0 rfl) ag_3 rfl)) ?_
    refine gr rfl (r_bin (ot rfl) (ot rfl) rfl) ?_
    refine gA rfl rfl ?_
    refine go_nil ?_
    obtain rfl := someI hF
    exact g_ret (rst rfl rs0) (fun h1 hf hs => ⟨hs.hext, rfl⟩)
  ·
    replace hF := ifF hc5 hF
    refine go_skip ?_
    refine go_seq ?_
    refine go_region ?_
    refine gr rfl (r_fa (ot rfl) (fa_89_0 _ _)) ?_
    refine gr rfl (r_load (ot rfl) (lm_s (mem_seg 1 rfl) ag_9 rfl)) ?_
    refine gr rfl (r_fa (ot rfl) (fa_89_0 _ _)) ?_
    refine gr rfl (r_load (ot rfl) (lm_s (mem_seg 0 rfl) ag_9 rfl)) ?_
    refine gr rfl (r_bin (ot rfl) (ot rfl) rfl) ?_
    refine gA rfl rfl ?_
    refine go_nil ?_
    obtain rfl := someI hF
    exact g_ret (rst rfl rs0) (fun h1 hf hs => ⟨hs.hext, rfl⟩)
theorem s_bst_Call_tell {rc : RC} (hrc : RCok rc) {h : Heap} (hw : Wf h) (p0 : Obst_Tree) (p0o0 : Omem_Mem) (p1 : Obst_Call) (p3 : Bool) (p4 : Int) {bp0 : Nat} {q0_1 : Option Addr} {t0_1 : List Blk} {q0_2 : Option Addr} {t0_2 : List Blk} {bp0o0 : Nat} {q0o0_0 : Option Addr} {t0o0_0 : List Blk} {bp1 : Nat} {v1_4 : Value} (f0_1 : AccR R_Tbst_node 89 h t0_1 (.slice q0_1 p0.nodes.length p0.nodes.length) p0.nodes) (f0_2 : AccR R_Tbst_info 86 h t0_2 (.slice q0_2 p0.infos.length p0.infos.length) p0.infos) (f0o0_0 : AccR (RI_ .u64 29) 29 h t0o0_0 (.slice q0o0_0 p0o0.cells.length p0o0.cells.length) p0o0.cells) {r : (Option Clo) × Obst_Tree × Omem_Mem × Obst_Call} (hF : F_bst_Call_tell rc p0 p0o0 p1 p3 p4 = some r) :
    EvO EE 53 [.pointer (some ⟨bp1, 0, none⟩), .bool p3, .int .u64 p4] [[⟨bp0, .cells [.pointer (some ⟨bp0o0, 0, none⟩), .slice q0_1 p0.nodes.length p0.nodes.length, .slice q0_2 p0.infos.length p0.infos.length] 83⟩], t0_1, t0_2, [⟨bp0o0, .cells [.slice q0o0_0 p0o0.cells.length p0o0.cells.length, .int .i64 p0o0.count] 94⟩], t0o0_0, [⟨bp1, .cells [.bool p1.told_Ok, .string p1.told_Key, .int .u64 p1.told_Val, .int .i64 p1.told_Err, v1_4] 114⟩]] h (fun v S h1 => ∃ qy0_1 ty0_1 qy0_2 ty0_2 qy0o0_0 ty0o0_0 vy1_4 vr tr, v = vr ∧ S = [[⟨bp0, .cells [.pointer (some ⟨bp0o0, 0, none⟩), .slice qy0_1 r.2.1.nodes.length r.2.1.nodes.length, .slice qy0_2 r.2.1.infos.length r.2.1.infos.length] 83⟩], ty0_1, ty0_2, [⟨bp0o0, .cells [.slice qy0o0_0 r.2.2.1.cells.length r.2.2.1.cells.length, .int .i64 r.2.2.1.count] 94⟩], ty0o0_0, [⟨bp1, .cells [.bool r.2.2.2.told_Ok, .string r.2.2.2.told_Key, .int .u64 r.2.2.2.told_Val, .int .i64 r.2.2.2.told_Err, vy1_4] 114⟩], tr] ∧ AccR R_Tbst_node 89 h1 ty0_1 (.slice qy0_1 r.2.1.nodes.length r.2.1.nodes.length) r.2.1.nodes ∧ AccR R_Tbst_info 86 h1 ty0_2 (.slice qy0_2 r.2.1.infos.length r.2.1.infos.length) r.2.1.infos ∧ AccR (RI_ .u64 29) 29 h1 ty0o0_0 (.slice qy0o0_0 r.2.2.1.cells.length r.2.2.1.cells.length) r.2.2.1.cells ∧ OC h1 bp0 bp1 tr r.1 vr) := by
  unfold F_bst_Call_tell at hF
  refine evo_of rfl at_53 rfl rfl ?_
  refine go_seq ?_
  refine go_region ?_
  refine gAc rfl rfl ?_
  refine go_nil ?_
  refine go_seq ?_
  refine go_region ?_
  refine gM rfl rfl ?_
  refine gM rfl rfl ?_
  refine gM rfl rfl ?_
  refine gM rfl rfl ?_
  refine gr rfl (r_nilck (ot rfl)) ?_
  refine gr rfl (r_fa (ot rfl) (fa_114_0 _ _)) ?_
  refine gr rfl (r_fa (ot rfl) (fa_32_0 _ _)) ?_
  refine gs_store (ot rfl) (ot rfl) sz_4 rfl rfl rfl rfl rfl (.s (.s (.s (.s (.s (.z)))))) ?_
  refine gr rfl (r_nilck (ot rfl)) ?_
  refine gr rfl (r_fa (ot rfl) (fa_114_0 _ _)) ?_
  refine gr rfl (r_fa (ot rfl) (fa_32_2 _ _)) ?_
  refine gs_store (ot rfl) (ot rfl) sz_29 rfl rfl rfl rfl rfl (.s (.s (.s (.s (.s (.z)))))) ?_
  refine go_nil ?_
  refine go_seq ?_
  refine go_region ?_
  refine gAc rfl rfl ?_
  refine go_nil ?_
  obtain rfl := someI hF
  exact g_ret (rst rfl rs0) (fun h1 hf hs => ⟨[[⟨bp0, .cells [.pointer (some ⟨bp0o0, 0, none⟩), .slice q0_1 p0.nodes.length p0.nodes.length, .slice q0_2 p0.infos.length p0.infos.length] 83⟩], t0_1, t0_2, [⟨bp0o0, .cells [.slice q0o0_0 p0o0.cells.length p0o0.cells.length, .int .i64 p0o0.count] 94⟩], t0o0_0, [⟨bp1, .cells [.bool p3, .string p1.told_Key, .int .u64 p4, .int .i64 p1.told_Err, v1_4] 114⟩], []], _, hf, (HExt.refl _), hw, hs, (ndb (by intro e; cases e) (ndt f0_1 (ndt f0_2 (ndb (by intro e; cases e) (ndt f0o0_0 (ndb (by intro e; cases e) (nde nd0))))))), ⟨_, _, _, _, _, _, _, _, _, rfl, rfl, f0_1, f0_2, f0o0_0, OC.none⟩⟩)
theorem s_bst_Call_found {rc : RC} (hrc : RCok rc) {h : Heap} (hw : Wf h) (p0 : Obst_Tree) (p0o0 : Omem_Mem) (p1 : Obst_Call) (p3 : Tbst_node) {bp0 : Nat} {q0_1 : Option Addr} {t0_1 : List Blk} {q0_2 : Option Addr} {t0_2 : List Blk} {bp0o0 : Nat} {q0o0_0 : Option Addr} {t0o0_0 : List Blk} {bp1 : Nat} {v1_4 : Value} (f0_1 : AccR R_Tbst_node 89 h t0_1 (.slice q0_1 p0.nodes.length p0.nodes.length) p0.nodes) (f0_2 : AccR R_Tbst_info 86 h t0_2 (.slice q0_2 p0.infos.length p0.infos.length) p0.infos) (f0o0_0 : AccR (RI_ .u64 29) 29 h t0o0_0 (.slice q0o0_0 p0o0.cells.length p0o0.cells.length) p0o0.cells) {r : (Option Clo) × Obst_Tree × Omem_Mem × Obst_Call} (hF : F_bst_Call_found rc p0 p0o0 p1 p3 = some r) :
    EvO EE 52 [.pointer (some ⟨bp1, 0, none⟩), .agg #[.string p3.key, .int .i64 p3.top, .int .u64 p3.val, .int .i64 p3.cell]] [[⟨bp0, .cells [.pointer (some ⟨bp0o0, 0, none⟩), .slice q0_1 p0.nodes.length p0.nodes.length, .slice q0_2 p0.infos.length p0.infos.length] 83⟩], t0_1, t0_2, [⟨bp0o0, .cells [.slice q0o0_0 p0o0.cells.length p0o0.cells.length, .int .i64 p0o0.count] 94⟩], t0o0_0, [⟨bp1, .cells [.bool p1.told_Ok, .string p1.told_Key, .int .u64 p1.told_Val, .int .i64 p1.told_Err, v1_4] 114⟩]] h (fun v S h1 => ∃ qy0_1 ty0_1 qy0_2 ty0_2 qy0o0_0 ty0o0_0 vy1_4 vr tr, v = vr ∧ S = [[⟨bp0, .cells [.pointer (some ⟨bp0o0, 0, none⟩), .slice qy0_1 r.2.1.nodes.length r.2.1.nodes.length, .slice qy0_2 r.2.1.infos.length r.2.1.infos.length] 83⟩], ty0_1, ty0_2, [⟨bp0o0, .cells [.slice qy0o0_0 r.2.2.1.cells.length r.2.2.1.cells.length, .int .i64 r.2.2.1.count] 94⟩], ty0o0_0, [⟨bp1, .cells [.bool r.2.2.2.told_Ok, .string r.2.2.2.told_Key, .int .u64 r.2.2.2.told_Val, .int .i64 r.2.2.2.told_Err, vy1_4] 114⟩], tr] ∧ AccR R_Tbst_node 89 h1 ty0_1 (.slice qy0_1 r.2.1.nodes.length r.2.1.nodes.length) r.2.1.nodes ∧ AccR R_Tbst_info 86 h1 ty0_2 (.slice qy0_2 r.2.1.infos.length r.2.1.infos.length) r.2.1.infos ∧ AccR (RI_ .u64 29) 29 h1 ty0o0_0 (.slice qy0o0_0 r.2.2.1.cells.length r.2.2.1.cells.length) r.2.2.1.cells ∧ OC h1 bp0 bp1 tr r.1 vr) := by
  unfold F_bst_Call_found at hF
  refine evo_of rfl at_52 rfl rfl ?_
  refine go_seq ?_
  refine go_region ?_
  refine gs_box rfl (ot rfl) rfl ?_; intro b3_5
  refine gAc rfl rfl ?_
  refine go_nil ?_
  refine go_seq ?_
  refine go_region ?_
  refine gM rfl rfl ?_
  refine gr rfl (r_fa (ot rfl) (fa_89_0 _ _)) ?_
  refine gr rfl (r_load (ot rfl) (lm_s (mem_seg 0 rfl) ag_9 rfl)) ?_
  refine gr rfl (r_nilck (ot rfl)) ?_
  refine gr rfl (r_fa (ot rfl) (fa_114_0 _ _)) ?_
  refine gr rfl (r_fa (ot rfl) (fa_32_1 _ _)) ?_
  refine gs_store (ot rfl) (ot rfl) sz_9 rfl rfl rfl rfl rfl (.s (.s (.s (.s (.s (.s (.z))))))) ?_
  refine go_nil ?_
  refine go_seq ?_
  refine go_region ?_
  refine gM rfl rfl ?_
  refine gr rfl (r_fa (ot rfl) (fa_89_2 _ _)) ?_
  refine gr rfl (r_load (ot rfl) (lm_s (mem_seg 0 rfl) ag_29 rfl)) ?_
  replace hF := obind hF
  obtain ⟨x6, hx6, hF⟩ := hF
  refine gs_call EE_fr hw (.cons (.s (.z)) (.cons (.s (.z)) (.cons (.s (.z)) (.cons (.s (.z)) (.cons (.s (.z)) (.cons (.s (.z)) .nil)))))) (fun _ h => by cases h; rfl) of (os1 (ot rfl) (os1 (oc rfl) (os1 (ot rfl) os0))) hb_53 (by exact s_bst_Call_tell hrc hw p0 p0o0 (⟨p1.told_Ok, p3.key, p1.told_Val, p1.told_Err⟩ : Obst_Call) true p3.val f0_1 f0_2 f0o0_0 hx6) ?_
  rintro v6 S6 h6 e6 w6 ⟨q6_y0_1, t6_y0_1, q6_y0_2, t6_y0_2, q6_y0o0_0, t6_y0o0_0, v6_y1_4, v6_r, t6_r, rfl, rfl, f6_0, f6_1, f6_2, f6_3⟩
  simp only [List.cons_append, List.nil_append]
  refine gA rfl rfl ?_
  refine go_nil ?_
  obtain rfl := someI hF
  refine gs_sub (.cons_cons _ (.cons_cons _ (.cons_cons _ (.cons_cons _ (.cons_cons _ (.cons_cons _ (.cons_cons _ (.cons _ (.refl _))))))))) ?_
  exact g_ret (rst rfl rs0) (fun h1 hf hs => ⟨[[⟨bp0, .cells [.pointer (some ⟨bp0o0, 0, none⟩), .slice q6_y0_1 x6.2.1.nodes.length x6.2.1.nodes.length, .slice q6_y0_2 x6.2.1.infos.length x6.2.1.infos.length] 83⟩], t6_y0_1, t6_y0_2, [⟨bp0o0, .cells [.slice q6_y0o0_0 x6.2.2.1.cells.length x6.2.2.1.cells.length, .int .i64 x6.2.2.1.count] 94⟩], t6_y0o0_0, [⟨bp1, .cells [.bool x6.2.2.2.told_Ok, .string x6.2.2.2.told_Key, .int .u64 x6.2.2.2.told_Val, .int .i64 x6.2.2.2.told_Err, v6_y1_4] 114⟩], t6_r], _, hf, e6, w6, hs, (ndb (by intro e; cases e) (ndt f6_0 (ndt f6_1 (ndb (by intro e; cases e) (ndt f6_2 (ndb (by intro e; cases e) (ndc f6_3 nd0))))))), ⟨_, _, _, _, _, _, _, _, _, rfl, rfl, f6_0, f6_1, f6_2, f6_3⟩⟩)
theorem s_bst_Tree_cell {h : Heap} (hw : Wf h) (p0 : Obst_Tree) (p0o0 : Omem_Mem) (p1 : Int) (p2 : Int) {bp0 : Nat} {q0_1 : Option Addr} {t0_1 : List Blk} {q0_2 : Option Addr} {t0_2 : List Blk} {bp0o0 : Nat} {q0o0_0 : Option Addr} {t0o0_0 : List Blk} (f0_1 : AccR R_Tbst_node 89 h t0_1 (.slice q0_1 p0.nodes.length p0.nodes.length) p0.nodes) (f0_2 : AccR R_Tbst_info 86 h t0_2 (.slice q0_2 p0.infos.length p0.infos.length) p0.infos) (f0o0_0 : AccR (RI_ .u64 29) 29 h t0o0_0 (.slice q0o0_0 p0o0.cells.length p0o0.cells.length) p0o0.cells) {r : Int × Obst_Tree × Omem_Mem} (hF : F_bst_Tree_cell p0 p0o0 p1 p2 = some r) :
    EvO EE 55 [.pointer (some ⟨bp0, 0, none⟩), .int .i64 p1, .int .i64 p2] [[⟨bp0, .cells [.pointer (some ⟨bp0o0, 0, none⟩), .slice q0_1 p0.nodes.length p0.nodes.length, .slice q0_2 p0.infos.length p0.infos.length] 83⟩], t0_1, t0_2, [⟨bp0o0, .cells [.slice q0o0_0 p0o0.cells.length p0o0.cells.length, .int .i64 p0o0.count] 94⟩], t0o0_0] h (fun v S h1 => ∃ qy0_1 ty0_1 qy0_2 ty0_2 qy0o0_0 ty0o0_0, v = .int .i64 r.1 ∧ S = [[⟨bp0, .cells [.pointer (some ⟨bp0o0, 0, none⟩), .slice qy0_1 r.2.1.nodes.length r.2.1.nodes.length, .slice qy0_2 r.2.1.infos.length r.2.1.infos.length] 83⟩], ty0_1, ty0_2, [⟨bp0o0, .cells [.slice qy0o0_0 r.2.2.cells.length r.2.2.cells.length, .int .i64 r.2.2.count] 94⟩], ty0o0_0] ∧ AccR R_Tbst_node 89 h1 ty0_1 (.slice qy0_1 r.2.1.nodes.length r.2.1.nodes.length) r.2.1.nodes ∧ AccR R_Tbst_info 86 h1 ty0_2 (.slice qy0_2 r.2.1.infos.length r.2.1.infos.length) r.2.1.infos ∧ AccR (RI_ .u64 29) 29 h1 ty0o0_0 (.slice qy0o0_0 r.2.2.cells.length r.2.2.cells.length) r.2.2.cells) := by
  unfold F_bst_Tree_cell at hF
  refine evo_of rfl at_55 rfl rfl ?_
  refine go_seq ?_
  refine go_region ?_
  refine gAc rfl rfl ?_
  refine go_nil ?_
  refine go_seq ?_
  refine go_region ?_
  refine gM rfl rfl ?_
  refine gr rfl (r_nilck (ot rfl)) ?_
  refine gr rfl (r_fa (ot rfl) (fa_83_1 _ _)) ?_
  refine gr rfl (r_load (ot rfl) (lm_s (mem_seg 0 rfl) ag_80 rfl)) ?_
  refine gM rfl rfl ?_
  replace hF := obind hF
  obtain ⟨x4, hx4, hF⟩ := hF
  obtain ⟨bb4, rw4, row4, hp4, ht4, hR4, hw4, rc4, hz4, hi4, hd4, hb4, hl4⟩ := AccR.at_ f0_1 hx4
  have hF4_ := hF
  subst hp4; subst ht4
  replace hF := hF4_
  obtain rfl := rc4
  refine gr rfl (r_ia (ot rfl) (ot rfl) (ia_acc (k := 4) ut_80 sz_89 hz4 hi4)) ?_
  refine gr rfl (r_fa (ot rfl) (fa_89_3 _ _)) ?_
  refine gr rfl (r_load (ot rfl) (lm_s (mem_seg 1 rfl) ag_3 (acc_cell (j := 3) hd4 rfl))) ?_
  refine gM rfl rfl ?_
  refine gr rfl (r_bin (ot rfl) (ot rfl) rfl) ?_
  refine gA rfl rfl ?_
  refine go_nil ?_
  obtain rfl := someI hF
  exact g_ret (rst rfl rs0) (fun h1 hf hs => ⟨[[⟨bp0, .cells [.pointer (some ⟨bp0o0, 0, none⟩), .slice (some ⟨bb4, 0, some 0⟩) p0.nodes.length p0.nodes.length, .slice q0_2 p0.infos.length p0.infos.length] 83⟩], [⟨bb4, .cells rw4.flatten 89⟩], t0_2, [⟨bp0o0, .cells [.slice q0o0_0 p0o0.cells.length p0o0.cells.length, .int .i64 p0o0.count] 94⟩], t0o0_0], _, hf, (HExt.refl _), hw, hs, (ndb (by intro e; cases e) (ndt f0_1 (ndt f0_2 (ndb (by intro e; cases e) (ndt f0o0_0 nd0))))), ⟨_, _, _, _, _, _, rfl, rfl, f0_1, f0_2, f0o0_0⟩⟩)
theorem s_bst_Tree_least {rc : RC} (hrc : RCok rc) {h : Heap} (hw : Wf h) (p0 : Obst_Tree) (p0o0 : Omem_Mem) (p1 : Obst_Call) (p4 : Int) {bp0 : Nat} {q0_1 : Option Addr} {t0_1 : List Blk} {q0_2 : Option Addr} {t0_2 : List Blk} {bp0o0 : Nat} {q0o0_0 : Option Addr} {t0o0_0 : List Blk} {bp1 : Nat} {v1_4 : Value} (f0_1 : AccR R_Tbst_node 89 h t0_1 (.slice q0_1 p0.nodes.length p0.nodes.length) p0.nodes) (f0_2 : AccR R_Tbst_info 86 h t0_2 (.slice q0_2 p0.infos.length p0.infos.length) p0.infos) (f0o0_0 : AccR (RI_ .u64 29) 29 h t0o0_0 (.slice q0o0_0 p0o0.cells.length p0o0.cells.length) p0o0.cells) {r : (Option Clo) × Obst_Tree × Omem_Mem × Obst_Call} (hF : F_bst_Tree_least rc p0 p0o0 p1 p4 = some r) :
    EvO EE 54 [.pointer (some ⟨bp0, 0, none⟩), .pointer (some ⟨bp1, 0, none⟩), .int .i64 p4] [[⟨bp0, .cells [.pointer (some ⟨bp0o0, 0, none⟩), .slice q0_1 p0.nodes.length p0.nodes.length, .slice q0_2 p0.infos.length p0.infos.length] 83⟩], t0_1, t0_2, [⟨bp0o0, .cells [.slice q0o0_0 p0o0.cells.length p0o0.cells.length, .int .i64 p0o0.count] 94⟩], t0o0_0, [⟨bp1, .cells [.bool p1.told_Ok, .string p1.told_Key, .int .u64 p1.told_Val, .int .i64 p1.told_Err, v1_4] 114⟩]] h (fun v S h1 => ∃ qy0_1 ty0_1 qy0_2 ty0_2 qy0o0_0 ty0o0_0 vy1_4 vr tr, v = vr ∧ S = [[⟨bp0, .cells [.pointer (some ⟨bp0o0, 0, none⟩), .slice qy0_1 r.2.1.nodes.length r.2.1.nodes.length, .slice qy0_2 r.2.1.infos.length r.2.1.infos.length] 83⟩], ty0_1, ty0_2, [⟨bp0o0, .cells [.slice qy0o0_0 r.2.2.1.cells.length r.2.2.1.cells.length, .int .i64 r.2.2.1.count] 94⟩], ty0o0_0, [⟨bp1, .cells [.bool r.2.2.2.told_Ok, .string r.2.2.2.told_Key, .int .u64 r.2.2.2.told_Val, .int .i64 r.2.2.2.told_Err, vy1_4] 114⟩], tr] ∧ AccR R_Tbst_node 89 h1 ty0_1 (.slice qy0_1 r.2.1.nodes.length r.2.1.nodes.length) r.2.1.nodes ∧ AccR R_Tbst_info 86 h1 ty0_2 (.slice qy0_2 r.2.1.infos.length r.2.1.infos.length) r.2.1.infos ∧ AccR (RI_ .u64 29) 29 h1 ty0o0_0 (.slice qy0o0_0 r.2.2.1.cells.length r.2.2.1.cells.length) r.2.2.1.cells ∧ OC h1 bp0 bp1 tr r.1 vr) := by
  unfold F_bst_Tree_least at hF
  refine evo_of rfl at_54 rfl rfl ?_
  refine go_seq ?_
  refine go_region ?_
  refine gs_box rfl (ot rfl) rfl ?_; intro b3_6
  refine gs_box rfl (ot rfl) rfl ?_; intro b4_7
  refine gs_box rfl (ot rfl) rfl ?_; intro b5_8
  refine gAc rfl rfl ?_
  refine go_nil ?_
  refine go_seq ?_
  refine go_region ?_
  refine gr rfl (r_func os0 (os1 (ot rfl) (os1 (ot rfl) (os1 (ot rfl) os0)))) ?_
  refine gA rfl rfl ?_
  refine go_nil ?_
  refine gs_pub (.s (.s (.z))) (fun h9 e9 w9 hb9 => ?_)
  have g9_ : BK h9 b3_6 [.pointer (some ⟨bp0, 0, none⟩)] 24 := hb9
  refine gs_pub .z (fun h10 e10 w10 hb10 => ?_)
  have g10_ : BK h10 b5_8 [.int .i64 p4] 3 := hb10
  refine gs_pub .z (fun h11 e11 w11 hb11 => ?_)
  have g11_ : BK h11 b4_7 [.pointer (some ⟨bp1, 0, none⟩)] 34 := hb11
  have co12 : CO h11 bp0 bp1 [] (Clo.c_least_1 p4) (.func (.func 72) #[] #[.pointer (some ⟨b3_6, 0, none⟩), .pointer (some ⟨b5_8, 0, none⟩), .pointer (some ⟨b4_7, 0, none⟩)]) := CO.c_least_1 ((g9_.ext e10.kn).ext e11.kn) (g10_.ext e11.kn) g11_
  obtain rfl := someI hF
  exact g_ret (rst rfl rs0) (fun h1 hf hs => ⟨[[⟨bp0, .cells [.pointer (some ⟨bp0o0, 0, none⟩), .slice q0_1 p0.nodes.length p0.nodes.length, .slice q0_2 p0.infos.length p0.infos.length] 83⟩], t0_1, t0_2, [⟨bp0o0, .cells [.slice q0o0_0 p0o0.cells.length p0o0.cells.length, .int .i64 p0o0.count] 94⟩], t0o0_0, [⟨bp1, .cells [.bool p1.told_Ok, .string p1.told_Key, .int .u64 p1.told_Val, .int .i64 p1.told_Err, v1_4] 114⟩], []], _, hf, (e9.trans (e10.trans e11)), w11, hs, (ndb (by intro e; cases e) (ndt (((f0_1.ext e9.kn).ext e10.kn).ext e11.kn) (ndt (((f0_2.ext e9.kn).ext e10.kn).ext e11.kn) (ndb (by intro e; cases e) (ndt (((f0o0_0.ext e9.kn).ext e10.kn).ext e11.kn) (ndb (by intro e; cases e) (nde nd0))))))), ⟨_, _, _, _, _, _, _, _, _, rfl, rfl, (((f0_1.ext e9.kn).ext e10.kn).ext e11.kn), (((f0_2.ext e9.kn).ext e10.kn).ext e11.kn), (((f0o0_0.ext e9.kn).ext e10.kn).ext e11.kn), (OC.some co12)⟩⟩)
theorem s_bst_Tree_Seek_1_1 {rc : RC} (hrc : RCok rc) {h : Heap} (hw : Wf h) (p0 : Obst_Tree) (p0o0 : Omem_Mem) (p1 : Obst_Call) (p2 : Tbst_seen) (p4 : Tbst_node) {bp0 : Nat} {q0_1 : Option Addr} {t0_1 : List Blk} {q0_2 : Option Addr} {t0_2 : List Blk} {bp0o0 : Nat} {q0o0_0 : Option Addr} {t0o0_0 : List Blk} {bp1 : Nat} {v1_4 : Value} {b3 : Nat} {b4 : Nat} {b5 : Nat} (f0_1 : AccR R_Tbst_node 89 h t0_1 (.slice q0_1 p0.nodes.length p0.nodes.length) p0.nodes) (f0_2 : AccR R_Tbst_info 86 h t0_2 (.slice q0_2 p0.infos.length p0.infos.length) p0.infos) (f0o0_0 : AccR (RI_ .u64 29) 29 h t0o0_0 (.slice q0o0_0 p0o0.cells.length p0o0.cells.length) p0o0.cells) (g3 : BK h b3 [.pointer (some ⟨bp0, 0, none⟩)] 24) (g4 : BK h b4 [.string p4.key, .int .i64 p4.top, .int .u64 p4.val, .int .i64 p4.cell] 89) (g5 : BK h b5 [.pointer (some ⟨bp1, 0, none⟩)] 34) {r : (Option Clo) × Obst_Tree × Omem_Mem × Obst_Call} (hF : F_bst_Tree_Seek_1_1 rc p0 p0o0 p1 p2 p4 = some r) :
    EvO EE 50 [.agg #[.int .i64 p2.grand, .int .i64 p2.parent, .int .i64 p2.leaf, .int .u64 p2.grandWord, .int .u64 p2.parentWord, .int .i64 p2.turn], .pointer (some ⟨b3, 0, none⟩), .pointer (some ⟨b4, 0, none⟩), .pointer (some ⟨b5, 0, none⟩)] [[⟨bp0, .cells [.pointer (some ⟨bp0o0, 0, none⟩), .slice q0_1 p0.nodes.length p0.nodes.length, .slice q0_2 p0.infos.length p0.infos.length] 83⟩], t0_1, t0_2, [⟨bp0o0, .cells [.slice q0o0_0 p0o0.cells.length p0o0.cells.length, .int .i64 p0o0.count] 94⟩], t0o0_0, [⟨bp1, .cells [.bool p1.told_Ok, .string p1.told_Key, .int .u64 p1.told_Val, .int .i64 p1.told_Err, v1_4] 114⟩]] h (fun v S h1 => ∃ qy0_1 ty0_1 qy0_2 ty0_2 qy0o0_0 ty0o0_0 vy1_4 vr tr, v = vr ∧ S = [[⟨bp0, .cells [.pointer (some ⟨bp0o0, 0, none⟩), .slice qy0_1 r.2.1.nodes.length r.2.1.nodes.length, .slice qy0_2 r.2.1.infos.length r.2.1.infos.length] 83⟩], ty0_1, ty0_2, [⟨bp0o0, .cells [.slice qy0o0_0 r.2.2.1.cells.length r.2.2.1.cells.length, .int .i64 r.2.2.1.count] 94⟩], ty0o0_0, [⟨bp1, .cells [.bool r.2.2.2.told_Ok, .string r.2.2.2.told_Key, .int .u64 r.2.2.2.told_Val, .int .i64 r.2.2.2.told_Err, vy1_4] 114⟩], tr] ∧ AccR R_Tbst_node 89 h1 ty0_1 (.slice qy0_1 r.2.1.nodes.length r.2.1.nodes.length) r.2.1.nodes ∧ AccR R_Tbst_info 86 h1 ty0_2 (.slice qy0_2 r.2.1.infos.length r.2.1.infos.length) r.2.1.infos ∧ AccR (RI_ .u64 29) 29 h1 ty0o0_0 (.slice qy0o0_0 r.2.2.1.cells.length r.2.2.1.cells.length) r.2.2.1.cells ∧ OC h1 bp0 bp1 tr r.1 vr) := by
  unfold F_bst_Tree_Seek_1_1 at hF
  refine evo_of rfl at_50 rfl rfl ?_
  refine go_seq ?_
  refine go_region ?_
  refine gs_box rfl (ot rfl) rfl ?_; intro b4_7
  refine gAc rfl rfl ?_
  refine go_nil ?_
  refine go_seq ?_
  refine go_seq ?_
  refine go_regA1 (L := [(0, []), (1, []), (2, []), (3, []), (4, []), (5, []), (6, []), (7, []), (8, []), (9, [])]) (by kernel_rfl) (by kernel_rfl) (fun _ => rfl) ?_; intro b6_8
  refine go_sop rfl rfl ?_
  refine gr rfl (r_load (ot rfl) (v := .pointer (some ⟨bp0, 0, none⟩)) (lo_e (fun hf kn => ld_cell ag_24 (g3.ext kn) rfl))) ?_
  refine go_nil ?_
  refine go_sop rfl rfl ?_
  refine gr rfl (r_nilck (ot rfl)) ?_
  refine go_nil ?_
  refine go_sop rfl rfl ?_
  refine gr rfl (r_fa (ot rfl) (fa_83_1 _ _)) ?_
  refine go_nil ?_
  refine go_sop rfl rfl ?_
  refine gr rfl (r_load (ot rfl) (lm_s (mem_seg 2 rfl) ag_80 rfl)) ?_
  refine go_nil ?_
  refine go_sop rfl rfl ?_
  refine gr rfl (r_fa (ot rfl) (fa_105_2 _ _)) ?_
  refine go_nil ?_
  refine go_sop rfl rfl ?_
  refine gr rfl (r_load (ot rfl) (lm_s (mem_seg 1 rfl) ag_3 rfl)) ?_
  refine go_nil ?_
  refine go_sop rfl rfl ?_
  replace hF := obind hF
  obtain ⟨x9, hx9, hF⟩ := hF
  obtain ⟨bb9, rw9, row9, hp9, ht9, hR9, hw9, rc9, hz9, hi9, hd9, hb9, hl9⟩ := AccR.at_ f0_1 hx9
  have hF9_ := hF
  subst hp9; subst ht9
  replace hF := hF9_
  obtain rfl := rc9
  refine gr rfl (r_ia (ot rfl) (ot rfl) (ia_acc (k := 4) ut_80 sz_89 hz9 hi9)) ?_
  refine go_nil ?_
  refine go_sop rfl rfl ?_
  refine gr rfl (r_load (ot rfl) (lm_a (vs := [.string x9.key, .int .i64 x9.top, .int .u64 x9.val, .int .i64 x9.cell]) (mem_seg 3 rfl) ag_89 sz_89 (Nat.ble_eq_true_of_le hb9) hd9)) ?_
  refine go_nil ?_
  refine go_salloc rfl rfl rfl zo_89 rfl .z ?_
  refine go_sop rfl rfl ?_
  refine gs_store (ot rfl) (ot rfl) sz_89 rfl rfl rfl rfl rfl .z ?_
  refine go_nil ?_
  refine go_snil ?_
  refine go_seq ?_
  refine go_region ?_
  refine gr rfl (r_fa (ot rfl) (fa_89_1 _ _)) ?_
  refine gr rfl (r_load (ot rfl) (lm_s (mem_seg 0 rfl) ag_3 rfl)) ?_
  refine gr rfl (r_bin (ot rfl) (oc rfl) rfl) ?_
  refine gM rfl rfl ?_
  replace hF := obind hF
  obtain ⟨s11, hF, hK11⟩ := hF
  refine go_joinr 5 (β := Unit) (fun s h' => True) (fun s => [(1, true, .pointer (some ⟨b3, 0, none⟩)), (3, true, .pointer (some ⟨b5, 0, none⟩)), (4, true, .pointer (some ⟨b4_7, 0, none⟩)), (5, true, .nilFunc), (6, true, .pointer (some ⟨b6_8, 0, none⟩)), (23, true, .bool s11)]) (fun s => (List.flatten [[⟨b6_8, .cells [.string x9.key, .int .i64 x9.top, .int .u64 x9.val, .int .i64 x9.cell] 89⟩], [⟨b4_7, .cells [.int .i64 p2.grand, .int .i64 p2.parent, .int .i64 p2.leaf, .int .u64 p2.grandWord, .int .u64 p2.parentWord, .int .i64 p2.turn] 105⟩], [⟨bp0, .cells [.pointer (some ⟨bp0o0, 0, none⟩), .slice (some ⟨bb9, 0, some 0⟩) p0.nodes.length p0.nodes.length, .slice q0_2 p0.infos.length p0.infos.length] 83⟩], [⟨bb9, .cells rw9.flatten 89⟩], t0_2, [⟨bp0o0, .cells [.slice q0o0_0 p0o0.cells.length p0o0.cells.length, .int .i64 p0o0.count] 94⟩], t0o0_0, [⟨bp1, .cells [.bool p1.told_Ok, .string p1.told_Key, .int .u64 p1.told_Val, .int .i64 p1.told_Err, v1_4] 114⟩]] : List Blk)) ?_ (fun J11 => ?_)
  ·
    rintro _ h11 e11 w11 _
    replace hF := hK11
    refine go_nil ?_
    refine g_cond (b := s11) (ot rfl) (fun hc12 => ?_) (fun hc12 => ?_)
    ·
      replace hF := ifT hc12 hF
      refine go_seq ?_
      refine go_region ?_
      refine gr rfl (r_load (ot rfl) (v := .pointer (some ⟨bp1, 0, none⟩)) (lo_e (fun hf kn => ld_cell ag_34 ((g5.ext e11.kn).ext kn) rfl))) ?_
      refine gr rfl (r_load (ot rfl) (lm_w (mem_seg 0 rfl) ag_89 sz_89 rfl)) ?_
      replace hF := obind hF
      obtain ⟨x13, hx13, hF⟩ := hF
      refine gs_call EE_fr w11 (.cons (.s (.s (.z))) (.cons (.s (.s (.z))) (.cons (.s (.s (.z))) (.cons (.s (.s (.z))) (.cons (.s (.s (.z))) (.cons (.s (.s (.z))) .nil)))))) (fun _ h => by cases h; rfl) of (os1 (ot rfl) (os1 (ot rfl) os0)) hb_52 (by exact s_bst_Call_found hrc w11 p0 p0o0 p1 x9 (f0_1.ext e11.kn) (f0_2.ext e11.kn) (f0o0_0.ext e11.kn) hx13) ?_
      rintro v13 S13 h13 e13 w13 ⟨q13_y0_1, t13_y0_1, q13_y0_2, t13_y0_2, q13_y0o0_0, t13_y0o0_0, v13_y1_4, v13_r, t13_r, rfl, rfl, f13_0, f13_1, f13_2, f13_3⟩
      simp only [List.cons_append, List.nil_append]
      refine gA rfl rfl ?_
      refine go_nil ?_
      obtain rfl := someI hF
      refine gs_sub (.cons_cons _ (.cons_cons _ (.cons_cons _ (.cons_cons _ (.cons_cons _ (.cons_cons _ (.cons_cons _ (.cons _ (.cons _ (.refl _)))))))))) ?_
      exact g_ret (rst rfl rs0) (fun h1 hf hs => ⟨[[⟨bp0, .cells [.pointer (some ⟨bp0o0, 0, none⟩), .slice q13_y0_1 x13.2.1.nodes.length x13.2.1.nodes.length, .slice q13_y0_2 x13.2.1.infos.length x13.2.1.infos.length] 83⟩], t13_y0_1, t13_y0_2, [⟨bp0o0, .cells [.slice q13_y0o0_0 x13.2.2.1.cells.length x13.2.2.1.cells.length, .int .i64 x13.2.2.1.count] 94⟩], t13_y0o0_0, [⟨bp1, .cells [.bool x13.2.2.2.told_Ok, .string x13.2.2.2.told_Key, .int .u64 x13.2.2.2.told_Val, .int .i64 x13.2.2.2.told_Err, v13_y1_4] 114⟩], t13_r], _, hf, (e11.trans e13), w13, hs, (ndb (by intro e; cases e) (ndt f13_0 (ndt f13_1 (ndb (by intro e; cases e) (ndt f13_2 (ndb (by intro e; cases e) (ndc f13_3 nd0))))))), ⟨_, _, _, _, _, _, _, _, _, rfl, rfl, f13_0, f13_1, f13_2, f13_3⟩⟩)
    ·
      replace hF := ifF hc12 hF
      refine go_skip ?_
      refine go_seq ?_
      refine go_seq ?_
      refine go_region ?_
      refine gr rfl (r_fa (ot rfl) (fa_105_5 _ _)) ?_
      refine gr rfl (r_load (ot rfl) (lm_s (mem_seg 1 rfl) ag_3 rfl)) ?_
      refine gr rfl (r_bin (ot rfl) (oc rfl) rfl) ?_
      refine go_nil ?_
      refine g_cond (b := (decide (p2.turn < 0))) (ot rfl) (fun hc14 => ?_) (fun hc14 => ?_)
      ·
        replace hF := ifT hc14 hF
        refine go_seq ?_
        refine go_region ?_
        refine gr rfl (r_load (ot rfl) (v := .pointer (some ⟨bp1, 0, none⟩)) (lo_e (fun hf kn => ld_cell ag_34 ((g5.ext e11.kn).ext kn) rfl))) ?_
        replace hF := obind hF
        obtain ⟨x15, hx15, hF⟩ := hF
        refine gs_call EE_fr w11 (.cons (.s (.s (.z))) (.cons (.s (.s (.z))) (.cons (.s (.s (.z))) (.cons (.s (.s (.z))) (.cons (.s (.s (.z))) (.cons (.s (.s (.z))) .nil)))))) (fun _ h => by cases h; rfl) of (os1 (ot rfl) (os1 (oc rfl) (os1 (oc rfl) os0))) hb_53 (by exact s_bst_Call_tell hrc w11 p0 p0o0 p1 false 0 (f0_1.ext e11.kn) (f0_2.ext e11.kn) (f0o0_0.ext e11.kn) hx15) ?_
        rintro v15 S15 h15 e15 w15 ⟨q15_y0_1, t15_y0_1, q15_y0_2, t15_y0_2, q15_y0o0_0, t15_y0o0_0, v15_y1_4, v15_r, t15_r, rfl, rfl, f15_0, f15_1, f15_2, f15_3⟩
        simp only [List.cons_append, List.nil_append]
        refine gA rfl rfl ?_
        refine go_nil ?_
        obtain rfl := someI hF
        refine gs_sub (.cons_cons _ (.cons_cons _ (.cons_cons _ (.cons_cons _ (.cons_cons _ (.cons_cons _ (.cons_cons _ (.cons _ (.cons _ (.refl _)))))))))) ?_
        exact g_ret (rst rfl rs0) (fun h1 hf hs => ⟨[[⟨bp0, .cells [.pointer (some ⟨bp0o0, 0, none⟩), .slice q15_y0_1 x15.2.1.nodes.length x15.2.1.nodes.length, .slice q15_y0_2 x15.2.1.infos.length x15.2.1.infos.length] 83⟩], t15_y0_1, t15_y0_2, [⟨bp0o0, .cells [.slice q15_y0o0_0 x15.2.2.1.cells.length x15.2.2.1.cells.length, .int .i64 x15.2.2.1.count] 94⟩], t15_y0o0_0, [⟨bp1, .cells [.bool x15.2.2.2.told_Ok, .string x15.2.2.2.told_Key, .int .u64 x15.2.2.2.told_Val, .int .i64 x15.2.2.2.told_Err, v15_y1_4] 114⟩], t15_r], _, hf, (e11.trans e15), w15, hs, (ndb (by intro e; cases e) (ndt f15_0 (ndt f15_1 (ndb (by intro e; cases e) (ndt f15_2 (ndb (by intro e; cases e) (ndc f15_3 nd0))))))), ⟨_, _, _, _, _, _, _, _, _, rfl, rfl, f15_0, f15_1, f15_2, f15_3⟩⟩)
      ·
        replace hF := ifF hc14 hF
        refine go_skip ?_
        refine go_seq ?_
        refine go_regions (L := [(0, []), (1, []), (2, []), (3, []), (4, []), (5, [0, 1]), (6, []), (7, [])]) (by kernel_rfl) (by kernel_rfl) (fun _ => rfl) ?_
        refine go_sop rfl rfl ?_
        refine gr rfl (r_load (ot rfl) (v := .pointer (some ⟨bp0, 0, none⟩)) (lo_e (fun hf kn => ld_cell ag_24 ((g3.ext e11.kn).ext kn) rfl))) ?_
        refine go_nil ?_
        refine go_sop rfl rfl ?_
        refine gr rfl (r_load (ot rfl) (v := .pointer (some ⟨bp1, 0, none⟩)) (lo_e (fun hf kn => ld_cell ag_34 ((g5.ext e11.kn).ext kn) rfl))) ?_
        refine go_nil ?_
        refine go_sop rfl rfl ?_
        refine gr rfl (r_load (ot rfl) (v := .pointer (some ⟨bp0, 0, none⟩)) (lo_e (fun hf kn => ld_cell ag_24 ((g3.ext e11.kn).ext kn) rfl))) ?_
        refine go_nil ?_
        refine go_sop rfl rfl ?_
        refine gr rfl (r_fa (ot rfl) (fa_105_5 _ _)) ?_
        refine go_nil ?_
        refine go_sop rfl rfl ?_
        refine gr rfl (r_load (ot rfl) (lm_s (mem_seg 1 rfl) ag_3 rfl)) ?_
        refine go_nil ?_
        refine go_sopc [(0, .pointer (some ⟨bp0, 0, none⟩)), (1, .pointer (some ⟨bp1, 0, none⟩))] rfl rfl rfl (rc1 rfl (r_load (ot rfl) (v := .pointer (some ⟨bp0, 0, none⟩)) (lo_e (fun hf kn => ld_cell ag_24 ((g3.ext e11.kn).ext kn) rfl))) (rc1 rfl (r_load (ot rfl) (v := .pointer (some ⟨bp1, 0, none⟩)) (lo_e (fun hf kn => ld_cell ag_34 ((g5.ext e11.kn).ext kn) rfl))) rc0)) (vq1 (veq_ptr _ _) (vq1 (veq_ptr _ _) vq0)) rfl ?_
        replace hF := obind hF
        obtain ⟨x16, hx16, hF⟩ := hF
        refine gs_call EE_fr w11 (.cons (.s (.s (.z))) (.cons (.s (.s (.z))) (.cons (.s (.s (.z))) (.cons (.s (.s (.z))) (.cons (.s (.s (.z))) .nil))))) (fun _ h => by cases h; rfl) of (os1 (ot rfl) (os1 (ot rfl) (os1 (oc rfl) os0))) hb_55 (by exact s_bst_Tree_cell w11 p0 p0o0 p2.turn 2 (f0_1.ext e11.kn) (f0_2.ext e11.kn) (f0o0_0.ext e11.kn) hx16) ?_
        rintro v16 S16 h16 e16 w16 ⟨q16_y0_1, t16_y0_1, q16_y0_2, t16_y0_2, q16_y0o0_0, t16_y0o0_0, rfl, rfl, f16_0, f16_1, f16_2⟩
        simp only [List.cons_append, List.nil_append]
        refine go_nil ?_
        refine go_rck (rc1 rfl (r_load (ot rfl) (v := .pointer (some ⟨bp0, 0, none⟩)) (lo_e (fun hf kn => ld_cell ag_24 (((g3.ext e11.kn).ext e16.kn).ext kn) rfl))) (rc1 rfl (r_load (ot rfl) (v := .pointer (some ⟨bp1, 0, none⟩)) (lo_e (fun hf kn => ld_cell ag_34 (((g5.ext e11.kn).ext e16.kn).ext kn) rfl))) rc0)) ?_
        refine go_sop rfl rfl ?_
        replace hF := obind hF
        obtain ⟨x17, hx17, hF⟩ := hF
        refine gs_call EE_fr w16 (.cons .z (.cons .z (.cons .z (.cons .z (.cons .z (.cons (.s (.s (.z))) .nil)))))) (fun _ h => by cases h; rfl) of (os1 (ot rfl) (os1 (ot rfl) (os1 (ot rfl) os0))) hb_54 (by exact s_bst_Tree_least hrc w16 (⟨x16.2.1.nodes, x16.2.1.infos⟩ : Obst_Tree) (⟨x16.2.2.cells, x16.2.2.count⟩ : Omem_Mem) p1 x16.1 f16_0 f16_1 f16_2 hx17) ?_
        rintro v17 S17 h17 e17 w17 ⟨q17_y0_1, t17_y0_1, q17_y0_2, t17_y0_2, q17_y0o0_0, t17_y0o0_0, v17_y1_4, v17_r, t17_r, rfl, rfl, f17_0, f17_1, f17_2, f17_3⟩
        simp only [List.cons_append, List.nil_append]
        refine go_nil ?_
        refine go_sop rfl rfl ?_
        refine gA rfl rfl ?_
        refine go_nil ?_
        refine go_snil ?_
        obtain rfl := someI hF
        refine gs_sub (.cons_cons _ (.cons_cons _ (.cons_cons _ (.cons_cons _ (.cons_cons _ (.cons_cons _ (.cons_cons _ (.cons _ (.cons _ (.refl _)))))))))) ?_
        exact g_ret (rst rfl rs0) (fun h1 hf hs => ⟨[[⟨bp0, .cells [.pointer (some ⟨bp0o0, 0, none⟩), .slice q17_y0_1 x17.2.1.nodes.length x17.2.1.nodes.length, .slice q17_y0_2 x17.2.1.infos.length x17.2.1.infos.length] 83⟩], t17_y0_1, t17_y0_2, [⟨bp0o0, .cells [.slice q17_y0o0_0 x17.2.2.1.cells.length x17.2.2.1.cells.length, .int .i64 x17.2.2.1.count] 94⟩], t17_y0o0_0, [⟨bp1, .cells [.bool x17.2.2.2.told_Ok, .string x17.2.2.2.told_Key, .int .u64 x17.2.2.2.told_Val, .int .i64 x17.2.2.2.told_Err, v17_y1_4] 114⟩], t17_r], _, hf, (e11.trans (e16.trans e17)), w17, hs, (ndb (by intro e; cases e) (ndt f17_0 (ndt f17_1 (ndb (by intro e; cases e) (ndt f17_2 (ndb (by intro e; cases e) (ndc f17_3 nd0))))))), ⟨_, _, _, _, _, _, _, _, _, rfl, rfl, f17_0, f17_1, f17_2, f17_3⟩⟩)
  ·
    rcases Bool.eq_false_or_eq_true (x9.top == 0) with hb10 | hb10
    ·
      replace hF := ifT hb10 hF
      refine go_re 18 (v2 := .bool true) rfl (congrArg Value.bool hb10) ?_
      refine g_do rfl rfl rfl ?_
      refine gr rfl (r_load (ot rfl) (lm_w (mem_seg 0 rfl) ag_89 sz_89 rfl)) ?_
      refine g_do rfl rfl rfl ?_
      refine gr rfl (r_load (ot rfl) (v := .agg #[.string p4.key, .int .i64 p4.top, .int .u64 p4.val, .int .i64 p4.cell]) (lo_e (fun hf kn => ld_bk ag_89 sz_89 (g4.ext kn) (Nat.le_of_ble_eq_true rfl) rfl))) ?_
      refine g_do rfl rfl rfl ?_
      replace hF := obind hF
      obtain ⟨x18, hx18, hF⟩ := hF
      refine g_callp (v := .bool x18) EE_fr rfl of (os1 (ot rfl) (os1 (ot rfl) os0)) hb_51 (fun _ => rfl) (fun hf kn w => by exact s_bst_node_less w x9 p4  hx18) ?_
      refine g_do rfl rfl rfl ?_
      refine gr rfl (r_un (ot rfl) rfl) ?_
      refine gr rfl (r_pkT (ot rfl) (ot rfl)) ?_
      obtain rfl := someI hF
      exact Goes.weak (J11 () _ (HExt.refl _) hw trivial) (Sub.cons (Sub.cons (Sub.cons (Sub.cons (Sub.cons (Sub.cons (Sub.nil _) rfl) rfl) rfl) rfl) rfl) rfl)
    ·
      replace hF := ifF hb10 hF
      refine go_re 18 (v2 := .bool false) rfl (congrArg Value.bool hb10) ?_
      refine g_no rfl rfl rfl rfl rfl ?_
      refine g_no rfl rfl rfl rfl rfl ?_
      refine g_no rfl rfl rfl rfl rfl ?_
      refine g_no rfl rfl rfl rfl rfl ?_
      refine gr rfl (r_pkF (ot rfl) (oc rfl)) ?_
      obtain rfl := someI hF
      exact Goes.weak (J11 () _ (HExt.refl _) hw trivial) (Sub.cons (Sub.cons (Sub.cons (Sub.cons (Sub.cons (Sub.cons (Sub.nil _) rfl) rfl) rfl) rfl) rfl) rfl)
theorem s_bst_Tree_is {h : Heap} (hw : Wf h) (p0 : Obst_Tree) (p0o0 : Omem_Mem) (p1 : Int) (p2 : Tbst_node) {bp0 : Nat} {q0_1 : Option Addr} {t0_1 : List Blk} {q0_2 : Option Addr} {t0_2 : List Blk} {bp0o0 : Nat} {q0o0_0 : Option Addr} {t0o0_0 : List Blk} (f0_1 : AccR R_Tbst_node 89 h t0_1 (.slice q0_1 p0.nodes.length p0.nodes.length) p0.nodes) (f0_2 : AccR R_Tbst_info 86 h t0_2 (.slice q0_2 p0.infos.length p0.infos.length) p0.infos) (f0o0_0 : AccR (RI_ .u64 29) 29 h t0o0_0 (.slice q0o0_0 p0o0.cells.length p0o0.cells.length) p0o0.cells) {r : Bool × Obst_Tree × Omem_Mem} (hF : F_bst_Tree_is p0 p0o0 p1 p2 = some r) :
    EvO EE 61 [.pointer (some ⟨bp0, 0, none⟩), .int .i64 p1, .agg #[.string p2.key, .int .i64 p2.top, .int .u64 p2.val, .int .i64 p2.cell]] [[⟨bp0, .cells [.pointer (some ⟨bp0o0, 0, none⟩), .slice q0_1 p0.nodes.length p0.nodes.length, .slice q0_2 p0.infos.length p0.infos.length] 83⟩], t0_1, t0_2, [⟨bp0o0, .cells [.slice q0o0_0 p0o0.cells.length p0o0.cells.length, .int .i64 p0o0.count] 94⟩], t0o0_0] h (fun v S h1 => ∃ qy0_1 ty0_1 qy0_2 ty0_2 qy0o0_0 ty0o0_0, v = .bool r.1 ∧ S = [[⟨bp0, .cells [.pointer (some ⟨bp0o0, 0, none⟩), .slice qy0_1 r.2.1.nodes.length r.2.1.nodes.length, .slice qy0_2 r.2.1.infos.length r.2.1.infos.length] 83⟩], ty0_1, ty0_2, [⟨bp0o0, .cells [.slice qy0o0_0 r.2.2.cells.length r.2.2.cells.length, .int .i64 r.2.2.count] 94⟩], ty0o0_0] ∧ AccR R_Tbst_node 89 h1 ty0_1 (.slice qy0_1 r.2.1.nodes.length r.2.1.nodes.length) r.2.1.nodes ∧ AccR R_Tbst_info 86 h1 ty0_2 (.slice qy0_2 r.2.1.infos.length r.2.1.infos.length) r.2.1.infos ∧ AccR (RI_ .u64 29) 29 h1 ty0o0_0 (.slice qy0o0_0 r.2.2.cells.length r.2.2.cells.length) r.2.2.cells) := by
  unfold F_bst_Tree_is at hF
  refine evo_of rfl at_61 rfl rfl ?_
  refine go_seq ?_
  refine go_region ?_
  refine gs_box rfl (ot rfl) rfl ?_; intro b5_4
  refine gAc rfl rfl ?_
  refine go_nil ?_
  refine go_seq ?_
  refine go_region ?_
  refine gM rfl rfl ?_
  refine gr rfl (r_nilck (ot rfl)) ?_
  refine gr rfl (r_fa (ot rfl) (fa_83_1 _ _)) ?_
  refine gr rfl (r_load (ot rfl) (lm_s (mem_seg 1 rfl) ag_80 rfl)) ?_
  refine gM rfl rfl ?_
  replace hF := obind hF
  obtain ⟨x5, hx5, hF⟩ := hF
  obtain ⟨bb5, rw5, row5, hp5, ht5, hR5, hw5, rc5, hz5, hi5, hd5, hb5, hl5⟩ := AccR.at_ f0_1 hx5
  have hF5_ := hF
  subst hp5; subst ht5
  replace hF := hF5_
  obtain rfl := rc5
  refine gr rfl (r_ia (ot rfl) (ot rfl) (ia_acc (k := 4) ut_80 sz_89 hz5 hi5)) ?_
  refine gr rfl (r_load (ot rfl) (lm_a (vs := [.string x5.key, .int .i64 x5.top, .int .u64 x5.val, .int .i64 x5.cell]) (mem_seg 2 rfl) ag_89 sz_89 (Nat.ble_eq_true_of_le hb5) hd5)) ?_
  refine gs_alloc rfl zo_89 rfl ?_; intro b7_6
  refine gs_store (ot rfl) (ot rfl) sz_89 rfl rfl rfl rfl rfl .z ?_
  refine go_nil ?_
  refine go_seq ?_
  refine go_region ?_
  refine gr rfl (r_fa (ot rfl) (fa_89_1 _ _)) ?_
  refine gr rfl (r_load (ot rfl) (lm_s (mem_seg 0 rfl) ag_3 rfl)) ?_
  refine gr rfl (r_bin (ot rfl) (oc rfl) rfl) ?_
  refine gM rfl rfl ?_
  refine grt rfl rfl rfl rfl (r_fa (ot rfl) (fa_89_0 _ _)) ?_
  refine grt rfl rfl rfl rfl (r_load (og rfl id) (lm_s (mem_seg 0 rfl) ag_9 rfl)) ?_
  refine grt rfl rfl rfl rfl (r_fa (ot rfl) (fa_89_0 _ _)) ?_
  refine grt rfl rfl rfl rfl (r_load (og rfl id) (lm_s (mem_seg 1 rfl) ag_9 rfl)) ?_
  refine grt rfl rfl rfl rfl (r_bin (og rfl id) (og rfl id) rfl) ?_
  refine gr rfl (r_pickb (ot rfl) (og rfl id) (oc rfl)) ?_
  refine gA rfl rfl ?_
  refine go_nil ?_
  obtain rfl := someI hF
  refine gs_sub (.cons _ (.cons _ (.cons_cons _ (.cons_cons _ (.cons_cons _ (.cons_cons _ (.cons_cons _ (.refl _)))))))) ?_
  exact g_ret (rst rfl rs0) (fun h1 hf hs => ⟨[[⟨bp0, .cells [.pointer (some ⟨bp0o0, 0, none⟩), .slice (some ⟨bb5, 0, some 0⟩) p0.nodes.length p0.nodes.length, .slice q0_2 p0.infos.length p0.infos.length] 83⟩], [⟨bb5, .cells rw5.flatten 89⟩], t0_2, [⟨bp0o0, .cells [.slice q0o0_0 p0o0.cells.length p0o0.cells.length, .int .i64 p0o0.count] 94⟩], t0o0_0], _, hf, (HExt.refl _), hw, hs, (ndb (by intro e; cases e) (ndt f0_1 (ndt f0_2 (ndb (by intro e; cases e) (ndt f0o0_0 nd0))))), ⟨_, _, _, _, _, _, rfl, rfl, f0_1, f0_2, f0o0_0⟩⟩)
theorem s_bst_Tree_Find_1_1 {rc : RC} (hrc : RCok rc) {h : Heap} (hw : Wf h) (p0 : Obst_Tree) (p0o0 : Omem_Mem) (p1 : Obst_Call) (p2 : Tbst_seen) (p4 : Tbst_node) {bp0 : Nat} {q0_1 : Option Addr} {t0_1 : List Blk} {q0_2 : Option Addr} {t0_2 : List Blk} {bp0o0 : Nat} {q0o0_0 : Option Addr} {t0o0_0 : List Blk} {bp1 : Nat} {v1_4 : Value} {b3 : Nat} {b4 : Nat} {b5 : Nat} (f0_1 : AccR R_Tbst_node 89 h t0_1 (.slice q0_1 p0.nodes.length p0.nodes.length) p0.nodes) (f0_2 : AccR R_Tbst_info 86 h t0_2 (.slice q0_2 p0.infos.length p0.infos.length) p0.infos) (f0o0_0 : AccR (RI_ .u64 29) 29 h t0o0_0 (.slice q0o0_0 p0o0.cells.length p0o0.cells.length) p0o0.cells) (g3 : BK h b3 [.pointer (some ⟨bp0, 0, none⟩)] 24) (g4 : BK h b4 [.string p4.key, .int .i64 p4.top, .int .u64 p4.val, .int .i64 p4.cell] 89) (g5 : BK h b5 [.pointer (some ⟨bp1, 0, none⟩)] 34) {r : (Option Clo) × Obst_Tree × Omem_Mem × Obst_Call} (hF : F_bst_Tree_Find_1_1 rc p0 p0o0 p1 p2 p4 = some r) :
    EvO EE 60 [.agg #[.int .i64 p2.grand, .int .i64 p2.parent, .int .i64 p2.leaf, .int .u64 p2.grandWord, .int .u64 p2.parentWord, .int .i64 p2.turn], .pointer (some ⟨b3, 0, none⟩), .pointer (some ⟨b4, 0, none⟩), .pointer (some ⟨b5, 0, none⟩)] [[⟨bp0, .cells [.pointer (some ⟨bp0o0, 0, none⟩), .slice q0_1 p0.nodes.length p0.nodes.length, .slice q0_2 p0.infos.length p0.infos.length] 83⟩], t0_1, t0_2, [⟨bp0o0, .cells [.slice q0o0_0 p0o0.cells.length p0o0.cells.length, .int .i64 p0o0.count] 94⟩], t0o0_0, [⟨bp1, .cells [.bool p1.told_Ok, .string p1.told_Key, .int .u64 p1.told_Val, .int .i64 p1.told_Err, v1_4] 114⟩]] h (fun v S h1 => ∃ qy0_1 ty0_1 qy0_2 ty0_2 qy0o0_0 ty0o0_0 vy1_4 vr tr, v = vr ∧ S = [[⟨bp0, .cells [.pointer (some ⟨bp0o0, 0, none⟩), .slice qy0_1 r.2.1.nodes.length r.2.1.nodes.length, .slice qy0_2 r.2.1.infos.length r.2.1.infos.length] 83⟩], ty0_1, ty0_2, [⟨bp0o0, .cells [.slice qy0o0_0 r.2.2.1.cells.length r.2.2.1.cells.length, .int .i64 r.2.2.1.count] 94⟩], ty0o0_0, [⟨bp1, .cells [.bool r.2.2.2.told_Ok, .string r.2.2.2.told_Key, .int .u64 r.2.2.2.told_Val, .int .i64 r.2.2.2.told_Err, vy1_4] 114⟩], tr] ∧ AccR R_Tbst_node 89 h1 ty0_1 (.slice qy0_1 r.2.1.nodes.length r.2.1.nodes.length) r.2.1.nodes ∧ AccR R_Tbst_info 86 h1 ty0_2 (.slice qy0_2 r.2.1.infos.length r.2.1.infos.length) r.2.1.infos ∧ AccR (RI_ .u64 29) 29 h1 ty0o0_0 (.slice qy0o0_0 r.2.2.1.cells.length r.2.2.1.cells.length) r.2.2.1.cells ∧ OC h1 bp0 bp1 tr r.1 vr) := by
  unfold F_bst_Tree_Find_1_1 at hF
  refine evo_of rfl at_60 rfl rfl ?_
  refine go_seq ?_
  refine go_region ?_
  refine gs_box rfl (ot rfl) rfl ?_; intro b4_7
  refine gAc rfl rfl ?_
  refine go_nil ?_
  refine go_seq ?_
  refine go_seq ?_
  refine go_region ?_
  refine gr rfl (r_load (ot rfl) (v := .pointer (some ⟨bp0, 0, none⟩)) (lo_e (fun hf kn => ld_cell ag_24 (g3.ext kn) rfl))) ?_
  refine gr rfl (r_fa (ot rfl) (fa_105_2 _ _)) ?_
  refine gr rfl (r_load (ot rfl) (lm_s (mem_seg 0 rfl) ag_3 rfl)) ?_
  refine gr rfl (r_load (ot rfl) (v := .agg #[.string p4.key, .int .i64 p4.top, .int .u64 p4.val, .int .i64 p4.cell]) (lo_e (fun hf kn => ld_bk ag_89 sz_89 (g4.ext kn) (Nat.le_of_ble_eq_true rfl) rfl))) ?_
  replace hF := obind hF
  obtain ⟨x8, hx8, hF⟩ := hF
  refine gs_call EE_fr hw (.cons (.s (.z)) (.cons (.s (.z)) (.cons (.s (.z)) (.cons (.s (.z)) (.cons (.s (.z)) .nil))))) (fun _ h => by cases h; rfl) of (os1 (ot rfl) (os1 (ot rfl) (os1 (ot rfl) os0))) hb_61 (by exact s_bst_Tree_is hw p0 p0o0 p2.leaf p4 f0_1 f0_2 f0o0_0 hx8) ?_
  rintro v8 S8 h8 e8 w8 ⟨q8_y0_1, t8_y0_1, q8_y0_2, t8_y0_2, q8_y0o0_0, t8_y0o0_0, rfl, rfl, f8_0, f8_1, f8_2⟩
  simp only [List.cons_append, List.nil_append]
  refine gr rfl (r_un (ot rfl) rfl) ?_
  refine go_nil ?_
  refine g_cond (b := (!x8.1)) (ot rfl) (fun hc9 => ?_) (fun hc9 => ?_)
  ·
    replace hF := ifT hc9 hF
    refine go_seq ?_
    refine go_region ?_
    refine gr rfl (r_load (ot rfl) (v := .pointer (some ⟨bp1, 0, none⟩)) (lo_e (fun hf kn => ld_cell ag_34 ((g5.ext e8.kn).ext kn) rfl))) ?_
    replace hF := obind hF
    obtain ⟨x10, hx10, hF⟩ := hF
    refine gs_call EE_fr w8 (.cons .z (.cons .z (.cons .z (.cons .z (.cons .z (.cons (.s (.z)) .nil)))))) (fun _ h => by cases h; rfl) of (os1 (ot rfl) (os1 (oc rfl) (os1 (oc rfl) os0))) hb_53 (by exact s_bst_Call_tell hrc w8 (⟨x8.2.1.nodes, x8.2.1.infos⟩ : Obst_Tree) (⟨x8.2.2.cells, x8.2.2.count⟩ : Omem_Mem) p1 false 0 f8_0 f8_1 f8_2 hx10) ?_
    rintro v10 S10 h10 e10 w10 ⟨q10_y0_1, t10_y0_1, q10_y0_2, t10_y0_2, q10_y0o0_0, t10_y0o0_0, v10_y1_4, v10_r, t10_r, rfl, rfl, f10_0, f10_1, f10_2, f10_3⟩
    simp only [List.cons_append, List.nil_append]
    refine gA rfl rfl ?_
    refine go_nil ?_
    obtain rfl := someI hF
    refine gs_sub (.cons_cons _ (.cons_cons _ (.cons_cons _ (.cons_cons _ (.cons_cons _ (.cons_cons _ (.cons_cons _ (.cons _ (.refl _))))))))) ?_
    exact g_ret (rst rfl rs0) (fun h1 hf hs => ⟨[[⟨bp0, .cells [.pointer (some ⟨bp0o0, 0, none⟩), .slice q10_y0_1 x10.2.1.nodes.length x10.2.1.nodes.length, .slice q10_y0_2 x10.2.1.infos.length x10.2.1.infos.length] 83⟩], t10_y0_1, t10_y0_2, [⟨bp0o0, .cells [.slice q10_y0o0_0 x10.2.2.1.cells.length x10.2.2.1.cells.length, .int .i64 x10.2.2.1.count] 94⟩], t10_y0o0_0, [⟨bp1, .cells [.bool x10.2.2.2.told_Ok, .string x10.2.2.2.told_Key, .int .u64 x10.2.2.2.told_Val, .int .i64 x10.2.2.2.told_Err, v10_y1_4] 114⟩], t10_r], _, hf, (e8.trans e10), w10, hs, (ndb (by intro e; cases e) (ndt f10_0 (ndt f10_1 (ndb (by intro e; cases e) (ndt f10_2 (ndb (by intro e; cases e) (ndc f10_3 nd0))))))), ⟨_, _, _, _, _, _, _, _, _, rfl, rfl, f10_0, f10_1, f10_2, f10_3⟩⟩)
  ·
    replace hF := ifF hc9 hF
    refine go_skip ?_
    refine go_seq ?_
    refine go_regions (L := [(0, []), (1, []), (2, []), (3, []), (4, []), (5, []), (6, []), (7, []), (8, []), (9, []), (10, []), (11, [])]) (by kernel_rfl) (by kernel_rfl) (fun _ => rfl) ?_
    refine go_sop rfl rfl ?_
    refine gr rfl (r_load (ot rfl) (v := .pointer (some ⟨bp1, 0, none⟩)) (lo_e (fun hf kn => ld_cell ag_34 ((g5.ext e8.kn).ext kn) rfl))) ?_
    refine go_nil ?_
    refine go_sop rfl rfl ?_
    refine gr rfl (r_load (ot rfl) (v := .pointer (some ⟨bp0, 0, none⟩)) (lo_e (fun hf kn => ld_cell ag_24 ((g3.ext e8.kn).ext kn) rfl))) ?_
    refine go_nil ?_
    refine go_sop rfl rfl ?_
    refine gr rfl (r_nilck (ot rfl)) ?_
    refine go_nil ?_
    refine go_sop rfl rfl ?_
    refine gr rfl (r_fa (ot rfl) (fa_83_1 _ _)) ?_
    refine go_nil ?_
    refine go_sop rfl rfl ?_
    refine gr rfl (r_load (ot rfl) (lm_s (mem_seg 0 rfl) ag_80 rfl)) ?_
    refine go_nil ?_
    refine go_sop rfl rfl ?_
    refine gr rfl (r_fa (ot rfl) (fa_105_2 _ _)) ?_
    refine go_nil ?_
    refine go_sop rfl rfl ?_
    refine gr rfl (r_load (ot rfl) (lm_s (mem_seg 5 rfl) ag_3 rfl)) ?_
    refine go_nil ?_
    refine go_sop rfl rfl ?_
    replace hF := obind hF
    obtain ⟨x11, hx11, hF⟩ := hF
    obtain ⟨bb11, rw11, row11, hp11, ht11, hR11, hw11, rc11, hz11, hi11, hd11, hb11, hl11⟩ := AccR.at_ f8_0 hx11
    have hF11_ := hF
    subst hp11; subst ht11
    replace hF := hF11_
    obtain rfl := rc11
    refine gr rfl (r_ia (ot rfl) (ot rfl) (ia_acc (k := 4) ut_80 sz_89 hz11 hi11)) ?_
    refine go_nil ?_
    refine go_sop rfl rfl ?_
    refine gr rfl (r_fa (ot rfl) (fa_89_2 _ _)) ?_
    refine go_nil ?_
    refine go_sop rfl rfl ?_
    refine gr rfl (r_load (ot rfl) (lm_s (mem_seg 1 rfl) ag_29 (acc_cell (j := 2) hd11 rfl))) ?_
    refine go_nil ?_
    refine go_sop rfl rfl ?_
    replace hF := obind hF
    obtain ⟨x12, hx12, hF⟩ := hF
    refine gs_call EE_fr w8 (.cons .z (.cons .z (.cons .z (.cons .z (.cons .z (.cons (.s (.z)) .nil)))))) (fun _ h => by cases h; rfl) of (os1 (ot rfl) (os1 (oc rfl) (os1 (ot rfl) os0))) hb_53 (by exact s_bst_Call_tell hrc w8 (⟨x8.2.1.nodes, x8.2.1.infos⟩ : Obst_Tree) (⟨x8.2.2.cells, x8.2.2.count⟩ : Omem_Mem) p1 true x11.val f8_0 f8_1 f8_2 hx12) ?_
    rintro v12 S12 h12 e12 w12 ⟨q12_y0_1, t12_y0_1, q12_y0_2, t12_y0_2, q12_y0o0_0, t12_y0o0_0, v12_y1_4, v12_r, t12_r, rfl, rfl, f12_0, f12_1, f12_2, f12_3⟩
    simp only [List.cons_append, List.nil_append]
    refine go_nil ?_
    refine go_sop rfl rfl ?_
    refine gA rfl rfl ?_
    refine go_nil ?_
    refine go_snil ?_
    obtain rfl := someI hF
    refine gs_sub (.cons_cons _ (.cons_cons _ (.cons_cons _ (.cons_cons _ (.cons_cons _ (.cons_cons _ (.cons_cons _ (.cons _ (.refl _))))))))) ?_
    exact g_ret (rst rfl rs0) (fun h1 hf hs => ⟨[[⟨bp0, .cells [.pointer (some ⟨bp0o0, 0, none⟩), .slice q12_y0_1 x12.2.1.nodes.length x12.2.1.nodes.length, .slice q12_y0_2 x12.2.1.infos.length x12.2.1.infos.length] 83⟩], t12_y0_1, t12_y0_2, [⟨bp0o0, .cells [.slice q12_y0o0_0 x12.2.2.1.cells.length x12.2.2.1.cells.length, .int .i64 x12.2.2.1.count] 94⟩], t12_y0o0_0, [⟨bp1, .cells [.bool x12.2.2.2.told_Ok, .string x12.2.2.2.told_Key, .int .u64 x12.2.2.2.told_Val, .int .i64 x12.2.2.2.told_Err, v12_y1_4] 114⟩], t12_r], _, hf, (e8.trans e12), w12, hs, (ndb (by intro e; cases e) (ndt f12_0 (ndt f12_1 (ndb (by intro e; cases e) (ndt f12_2 (ndb (by intro e; cases e) (ndc f12_3 nd0))))))), ⟨_, _, _, _, _, _, _, _, _, rfl, rfl, f12_0, f12_1, f12_2, f12_3⟩⟩)
theorem s_mem_Mem_Load {h : Heap} (hw : Wf h) (p0 : Omem_Mem) (p1 : Int) {bp0 : Nat} {q0_0 : Option Addr} {t0_0 : List Blk} (f0_0 : AccR (RI_ .u64 29) 29 h t0_0 (.slice q0_0 p0.cells.length p0.cells.length) p0.cells) {r : Int × Int × Omem_Mem} (hF : F_mem_Mem_Load p0 p1 = some r) :
    EvO EE 73 [.pointer (some ⟨bp0, 0, none⟩), .int .i64 p1] [[⟨bp0, .cells [.slice q0_0 p0.cells.length p0.cells.length, .int .i64 p0.count] 94⟩], t0_0] h (fun v S h1 => ∃ qy0_0 ty0_0, v = .tuple #[.int .u64 r.1, .int .i64 r.2.1] ∧ S = [[⟨bp0, .cells [.slice qy0_0 r.2.2.cells.length r.2.2.cells.length, .int .i64 r.2.2.count] 94⟩], ty0_0] ∧ AccR (RI_ .u64 29) 29 h1 ty0_0 (.slice qy0_0 r.2.2.cells.length r.2.2.cells.length) r.2.2.cells) := by
  unfold F_mem_Mem_Load at hF
  refine evo_of rfl at_73 rfl rfl ?_
  refine go_seq ?_
  refine go_region ?_
  refine gAc rfl rfl ?_
  refine gAc rfl rfl ?_
  refine go_nil ?_
  refine go_seq ?_
  refine go_region ?_
  refine gM rfl rfl ?_
  refine gM rfl rfl ?_
  cases hx3 : getI p0.cells p1 with
  | none =>
    rw [hx3] at hF
    dsimp only at hF
    refine gs_call EE_fr hw (.cons .z .nil) (fun _ h => by cases h; rfl) of (os1 (ot rfl) (os1 (ot rfl) os0)) hb_69 (by exact s_mem_at_bad hw (getI_bad hx3)) ?_
    rintro v3 S3 h3 e3 w3 ⟨rfl, rfl⟩
    simp only [List.cons_append, List.nil_append]
    refine gA rfl rfl ?_
    refine go_nil ?_
    refine go_seq ?_
    refine go_seq ?_
    refine go_region ?_
    refine gM rfl rfl ?_
    refine gr rfl (r_bin (v := .bool true) (ot rfl) (oc rfl) (by first | rfl | kernel_rfl)) ?_
    refine go_nil ?_
    refine g_cond (b := true) (ot rfl) (fun hc4 => ?_) (fun hc4 => ?_)
    rotate_left
    · cases hc4
    refine go_seq ?_
    refine go_region ?_
    refine gAc rfl rfl ?_
    refine gAc rfl rfl ?_
    refine go_nil ?_
    obtain rfl := someI hF
    exact g_ret (rst rfl (rst rfl rs0)) (fun h1 hf hs => ⟨[[⟨bp0, .cells [.slice q0_0 p0.cells.length p0.cells.length, .int .i64 p0.count] 94⟩], t0_0], _, hf, e3, w3, hs, (ndb (by intro e; cases e) (ndt (f0_0.ext e3.kn) nd0)), ⟨_, _, rfl, rfl, (f0_0.ext e3.kn)⟩⟩)
  | some x3 =>
    rw [hx3] at hF
    dsimp only at hF
    obtain ⟨bb3, rw3, row3, hp3, ht3, hR3, hw3, rc3, hz3, hi3, hd3, hb3, hl3⟩ := AccR.at_ f0_0 hx3
    have hF3_ := hF
    subst hp3; subst ht3
    replace hF := hF3_
    obtain rfl := rc3
    refine gs_call EE_fr hw (.cons .z .nil) (fun _ h => by cases h; rfl) of (os1 (ot rfl) (os1 (ot rfl) os0)) hb_69 (by exact s_mem_at_ok hw hz3 hi3) ?_
    rintro v3 S3 h3 e3 w3 ⟨rfl, rfl⟩
    simp only [List.cons_append, List.nil_append]
    refine gA rfl rfl ?_
    refine go_nil ?_
    refine go_seq ?_
    refine go_seq ?_
    refine go_region ?_
    refine gM rfl rfl ?_
    refine gr rfl (r_bin (v := .bool false) (ot rfl) (oc rfl) (by first | rfl | kernel_rfl)) ?_
    refine go_nil ?_
    refine g_cond (b := false) (ot rfl) (fun hc5 => ?_) (fun hc5 => ?_)
    · cases hc5
    refine go_skip ?_
    refine go_seq ?_
    refine go_region ?_
    refine gM rfl rfl ?_
    refine gr rfl (r_nilck (ot rfl)) ?_
    refine gr rfl (r_load (ot rfl) (lm_s (mem_seg 1 rfl) ag_29 (acc_cell (j := 0) hd3 rfl))) ?_
    refine gA rfl rfl ?_
    refine gAc rfl rfl ?_
    refine go_nil ?_
    obtain rfl := someI hF
    exact g_ret (rst rfl (rst rfl rs0)) (fun h1 hf hs => ⟨[[⟨bp0, .cells [.slice (some ⟨bb3, 0, some 0⟩) p0.cells.length p0.cells.length, .int .i64 (IntKind.i64.wrap (p0.count + 1))] 94⟩], [⟨bb3, .cells rw3.flatten 29⟩]], _, hf, e3, w3, hs, (ndb (by intro e; cases e) (ndt (f0_0.ext e3.kn) nd0)), ⟨_, _, rfl, rfl, (f0_0.ext e3.kn)⟩⟩)
theorem s_bst_node_leaf {h : Heap} (hw : Wf h) (p0 : Tbst_node)   {r : Bool} (hF : F_bst_node_leaf p0 = some r) :
    Ev EE 44 [.agg #[.string p0.key, .int .i64 p0.top, .int .u64 p0.val, .int .i64 p0.cell]] h (fun v _ => v = .bool r) := by
  unfold F_bst_node_leaf at hF
  refine ev_of hw rfl at_44 rfl rfl (go_seg0 ?_)
  refine go_seq ?_
  refine go_region ?_
  refine gs_box rfl (ot rfl) rfl ?_; intro b1_2
  refine gAc rfl rfl ?_
  refine go_nil ?_
  refine go_seq ?_
  refine go_region ?_
  refine gr rfl (r_fa (ot rfl) (fa_89_3 _ _)) ?_
  refine gr rfl (r_load (ot rfl) (lm_s (mem_seg 0 rfl) ag_3 rfl)) ?_
  refine gr rfl (r_bin (ot rfl) (oc rfl) rfl) ?_
  refine gA rfl rfl ?_
  refine go_nil ?_
  obtain rfl := someI hF
  exact g_ret (rst rfl rs0) (fun h1 hf hs => ⟨hs.hext, rfl⟩)
theorem s_bst_Tree_least_1 {rc : RC} (hrc : RCok rc) {h : Heap} (hw : Wf h) (p0 : Obst_Tree) (p0o0 : Omem_Mem) (p1 : Obst_Call) (p3 : Int) {bp0 : Nat} {q0_1 : Option Addr} {t0_1 : List Blk} {q0_2 : Option Addr} {t0_2 : List Blk} {bp0o0 : Nat} {q0o0_0 : Option Addr} {t0o0_0 : List Blk} {bp1 : Nat} {v1_4 : Value} {b2 : Nat} {b3 : Nat} {b4 : Nat} (f0_1 : AccR R_Tbst_node 89 h t0_1 (.slice q0_1 p0.nodes.length p0.nodes.length) p0.nodes) (f0_2 : AccR R_Tbst_info 86 h t0_2 (.slice q0_2 p0.infos.length p0.infos.length) p0.infos) (f0o0_0 : AccR (RI_ .u64 29) 29 h t0o0_0 (.slice q0o0_0 p0o0.cells.length p0o0.cells.length) p0o0.cells) (g2 : BK h b2 [.pointer (some ⟨bp0, 0, none⟩)] 24) (g3 : BK h b3 [.int .i64 p3] 3) (g4 : BK h b4 [.pointer (some ⟨bp1, 0, none⟩)] 34) {r : (Option Clo) × Obst_Tree × Omem_Mem × Obst_Call} (hF : F_bst_Tree_least_1 rc p0 p0o0 p1 p3 = some r) :
    EvO EE 72 [.pointer (some ⟨b2, 0, none⟩), .pointer (some ⟨b3, 0, none⟩), .pointer (some ⟨b4, 0, none⟩)] [[⟨bp0, .cells [.pointer (some ⟨bp0o0, 0, none⟩), .slice q0_1 p0.nodes.length p0.nodes.length, .slice q0_2 p0.infos.length p0.infos.length] 83⟩], t0_1, t0_2, [⟨bp0o0, .cells [.slice q0o0_0 p0o0.cells.length p0o0.cells.length, .int .i64 p0o0.count] 94⟩], t0o0_0, [⟨bp1, .cells [.bool p1.told_Ok, .string p1.told_Key, .int .u64 p1.told_Val, .int .i64 p1.told_Err, v1_4] 114⟩]] h (fun v S h1 => ∃ qy0_1 ty0_1 qy0_2 ty0_2 qy0o0_0 ty0o0_0 vy1_4 vr tr, v = vr ∧ S = [[⟨bp0, .cells [.pointer (some ⟨bp0o0, 0, none⟩), .slice qy0_1 r.2.1.nodes.length r.2.1.nodes.length, .slice qy0_2 r.2.1.infos.length r.2.1.infos.length] 83⟩], ty0_1, ty0_2, [⟨bp0o0, .cells [.slice qy0o0_0 r.2.2.1.cells.length r.2.2.1.cells.length, .int .i64 r.2.2.1.count] 94⟩], ty0o0_0, [⟨bp1, .cells [.bool r.2.2.2.told_Ok, .string r.2.2.2.told_Key, .int .u64 r.2.2.2.told_Val, .int .i64 r.2.2.2.told_Err, vy1_4] 114⟩], tr] ∧ AccR R_Tbst_node 89 h1 ty0_1 (.slice qy0_1 r.2.1.nodes.length r.2.1.nodes.length) r.2.1.nodes ∧ AccR R_Tbst_info 86 h1 ty0_2 (.slice qy0_2 r.2.1.infos.length r.2.1.infos.length) r.2.1.infos ∧ AccR (RI_ .u64 29) 29 h1 ty0o0_0 (.slice qy0o0_0 r.2.2.1.cells.length r.2.2.1.cells.length) r.2.2.1.cells ∧ OC h1 bp0 bp1 tr r.1 vr) := by
  unfold F_bst_Tree_least_1 at hF
  refine evo_of rfl at_72 rfl rfl ?_
  refine go_seq ?_
  refine go_region ?_
  refine gAc rfl rfl ?_
  refine go_nil ?_
  refine go_seq ?_
  refine go_regions (L := [(0, []), (1, []), (2, []), (3, []), (4, []), (5, []), (6, []), (7, []), (8, []), (9, []), (10, [])]) (by kernel_rfl) (by kernel_rfl) (fun _ => rfl) ?_
  refine go_sop rfl rfl ?_
  refine gr rfl (r_load (ot rfl) (v := .pointer (some ⟨bp0, 0, none⟩)) (lo_e (fun hf kn => ld_cell ag_24 (g2.ext kn) rfl))) ?_
  refine go_nil ?_
  refine go_sop rfl rfl ?_
  refine gr rfl (r_nilck (ot rfl)) ?_
  refine go_nil ?_
  refine go_sop rfl rfl ?_
  refine gr rfl (r_fa (ot rfl) (fa_83_0 _ _)) ?_
  refine go_nil ?_
  refine go_sop rfl rfl ?_
  refine gr rfl (r_load (ot rfl) (lm_s (mem_seg 0 rfl) ag_26 rfl)) ?_
  refine go_nil ?_
  refine go_sop rfl rfl ?_
  refine gr rfl (r_load (ot rfl) (v := .int .i64 p3) (lo_e (fun hf kn => ld_cell ag_3 (g3.ext kn) rfl))) ?_
  refine go_nil ?_
  refine go_sop rfl rfl ?_
  replace hF := obind hF
  obtain ⟨x6, hx6, hF⟩ := hF
  refine gs_call EE_fr hw (.cons (.s (.s (.s (.z)))) (.cons (.s (.s (.s (.z)))) .nil)) (fun _ h => by cases h; rfl) of (os1 (ot rfl) (os1 (ot rfl) os0)) hb_73 (by exact s_mem_Mem_Load hw p0o0 p3 f0o0_0 hx6) ?_
  rintro v6 S6 h6 e6 w6 ⟨q6_y0_0, t6_y0_0, rfl, rfl, f6_0⟩
  simp only [List.cons_append, List.nil_append]
  refine go_nil ?_
  refine go_sop rfl rfl ?_
  refine gM rfl rfl ?_
  refine go_nil ?_
  refine go_sop rfl rfl ?_
  refine gE rfl rfl rfl ?_
  refine go_nil ?_
  refine go_sop rfl rfl ?_
  refine gE rfl rfl rfl ?_
  refine go_nil ?_
  refine go_sop rfl rfl ?_
  refine gA rfl rfl ?_
  refine go_nil ?_
  refine go_sop rfl rfl ?_
  refine gA rfl rfl ?_
  refine go_nil ?_
  refine go_snil ?_
  refine go_seq ?_
  refine go_region ?_
  refine gr rfl (r_load (ot rfl) (v := .pointer (some ⟨bp0, 0, none⟩)) (lo_e (fun hf kn => ld_cell ag_24 ((g2.ext e6.kn).ext kn) rfl))) ?_
  refine gr rfl (r_nilck (ot rfl)) ?_
  refine gr rfl (r_fa (ot rfl) (fa_83_1 _ _)) ?_
  refine gr rfl (r_load (ot rfl) (lm_s (mem_seg 2 rfl) ag_80 rfl)) ?_
  refine gM rfl rfl ?_
  replace hF := obind hF
  obtain ⟨x7, hx7, hF⟩ := hF
  obtain ⟨bb7, rw7, row7, hp7, ht7, hR7, hw7, rc7, hz7, hi7, hd7, hb7, hl7⟩ := AccR.at_ (f0_1.ext e6.kn) hx7
  have hF7_ := hF
  subst hp7; subst ht7
  replace hF := hF7_
  obtain rfl := rc7
  refine gr rfl (r_ia (ot rfl) (ot rfl) (ia_acc (k := 4) ut_80 sz_89 hz7 hi7)) ?_
  refine gr rfl (r_load (ot rfl) (lm_a (vs := [.string x7.key, .int .i64 x7.top, .int .u64 x7.val, .int .i64 x7.cell]) (mem_seg 3 rfl) ag_89 sz_89 (Nat.ble_eq_true_of_le hb7) hd7)) ?_
  refine gs_alloc rfl zo_89 rfl ?_; intro b6_8
  refine gs_store (ot rfl) (ot rfl) sz_89 rfl rfl rfl rfl rfl .z ?_
  refine go_nil ?_
  refine go_seq ?_
  refine go_block ?_
  refine go_seq ?_
  refine go_region ?_
  refine gr rfl (r_load (ot rfl) (lm_w (mem_seg 0 rfl) ag_89 sz_89 rfl)) ?_
  replace hF := obind hF
  obtain ⟨x9, hx9, hF⟩ := hF
  refine g_callp (v := .bool x9) EE_fr rfl of (os1 (ot rfl) os0) hb_44 (fun _ => rfl) (fun hf kn w => by exact s_bst_node_leaf w x7  hx9) ?_
  refine gr rfl (r_un (ot rfl) rfl) ?_
  refine gA rfl rfl ?_
  refine go_nil ?_
  refine g_cond (b := (!x9)) (ot rfl) (fun hc10 => ?_) (fun hc10 => ?_)
  ·
    replace hF := ifT hc10 hF
    refine go_seq ?_
    refine go_regions (L := [(0, []), (1, []), (2, []), (3, []), (4, []), (5, [0, 1]), (6, []), (7, [])]) (by kernel_rfl) (by kernel_rfl) (fun _ => rfl) ?_
    refine go_sop rfl rfl ?_
    refine gr rfl (r_load (ot rfl) (v := .pointer (some ⟨bp0, 0, none⟩)) (lo_e (fun hf kn => ld_cell ag_24 ((g2.ext e6.kn).ext kn) rfl))) ?_
    refine go_nil ?_
    refine go_sop rfl rfl ?_
    refine gr rfl (r_load (ot rfl) (v := .pointer (some ⟨bp1, 0, none⟩)) (lo_e (fun hf kn => ld_cell ag_34 ((g4.ext e6.kn).ext kn) rfl))) ?_
    refine go_nil ?_
    refine go_sop rfl rfl ?_
    refine gr rfl (r_load (ot rfl) (v := .pointer (some ⟨bp0, 0, none⟩)) (lo_e (fun hf kn => ld_cell ag_24 ((g2.ext e6.kn).ext kn) rfl))) ?_
    refine go_nil ?_
    refine go_sop rfl rfl ?_
    refine gM rfl rfl ?_
    refine go_nil ?_
    refine go_sop rfl rfl ?_
    refine gr rfl (r_conv (ot rfl) rfl) ?_
    refine go_nil ?_
    refine go_sopc [(0, .pointer (some ⟨bp0, 0, none⟩)), (1, .pointer (some ⟨bp1, 0, none⟩))] rfl rfl rfl (rc1 rfl (r_load (ot rfl) (v := .pointer (some ⟨bp0, 0, none⟩)) (lo_e (fun hf kn => ld_cell ag_24 ((g2.ext e6.kn).ext kn) rfl))) (rc1 rfl (r_load (ot rfl) (v := .pointer (some ⟨bp1, 0, none⟩)) (lo_e (fun hf kn => ld_cell ag_34 ((g4.ext e6.kn).ext kn) rfl))) rc0)) (vq1 (veq_ptr _ _) (vq1 (veq_ptr _ _) vq0)) rfl ?_
    replace hF := obind hF
    obtain ⟨x11, hx11, hF⟩ := hF
    refine gs_call EE_fr w6 (.cons (.s (.s (.s (.z)))) (.cons (.s (.s (.s (.z)))) (.cons (.s (.s (.s (.z)))) (.cons (.s (.z)) (.cons (.s (.z)) .nil))))) (fun _ h => by cases h; rfl) of (os1 (ot rfl) (os1 (ot rfl) (os1 (oc rfl) os0))) hb_55 (by exact s_bst_Tree_cell w6 p0 (⟨x6.2.2.cells, x6.2.2.count⟩ : Omem_Mem) (IntKind.i64.wrap x6.1) 1 (f0_1.ext e6.kn) (f0_2.ext e6.kn) f6_0 hx11) ?_
    rintro v11 S11 h11 e11 w11 ⟨q11_y0_1, t11_y0_1, q11_y0_2, t11_y0_2, q11_y0o0_0, t11_y0o0_0, rfl, rfl, f11_0, f11_1, f11_2⟩
    simp only [List.cons_append, List.nil_append]
    refine go_nil ?_
    refine go_rck (rc1 rfl (r_load (ot rfl) (v := .pointer (some ⟨bp0, 0, none⟩)) (lo_e (fun hf kn => ld_cell ag_24 (((g2.ext e6.kn).ext e11.kn).ext kn) rfl))) (rc1 rfl (r_load (ot rfl) (v := .pointer (some ⟨bp1, 0, none⟩)) (lo_e (fun hf kn => ld_cell ag_34 (((g4.ext e6.kn).ext e11.kn).ext kn) rfl))) rc0)) ?_
    refine go_sop rfl rfl ?_
    replace hF := obind hF
    obtain ⟨x12, hx12, hF⟩ := hF
    refine gs_call EE_fr w11 (.cons .z (.cons .z (.cons .z (.cons .z (.cons .z (.cons (.s (.z)) .nil)))))) (fun _ h => by cases h; rfl) of (os1 (ot rfl) (os1 (ot rfl) (os1 (ot rfl) os0))) hb_54 (by exact s_bst_Tree_least hrc w11 (⟨x11.2.1.nodes, x11.2.1.infos⟩ : Obst_Tree) (⟨x11.2.2.cells, x11.2.2.count⟩ : Omem_Mem) p1 x11.1 f11_0 f11_1 f11_2 hx12) ?_
    rintro v12 S12 h12 e12 w12 ⟨q12_y0_1, t12_y0_1, q12_y0_2, t12_y0_2, q12_y0o0_0, t12_y0o0_0, v12_y1_4, v12_r, t12_r, rfl, rfl, f12_0, f12_1, f12_2, f12_3⟩
    simp only [List.cons_append, List.nil_append]
    refine go_nil ?_
    refine go_sop rfl rfl ?_
    refine gA rfl rfl ?_
    refine go_nil ?_
    refine go_snil ?_
    obtain rfl := someI hF
    refine gs_sub (.cons_cons _ (.cons_cons _ (.cons_cons _ (.cons_cons _ (.cons_cons _ (.cons_cons _ (.cons_cons _ (.cons _ (.refl _))))))))) ?_
    exact g_ret (rst rfl rs0) (fun h1 hf hs => ⟨[[⟨bp0, .cells [.pointer (some ⟨bp0o0, 0, none⟩), .slice q12_y0_1 x12.2.1.nodes.length x12.2.1.nodes.length, .slice q12_y0_2 x12.2.1.infos.length x12.2.1.infos.length] 83⟩], t12_y0_1, t12_y0_2, [⟨bp0o0, .cells [.slice q12_y0o0_0 x12.2.2.1.cells.length x12.2.2.1.cells.length, .int .i64 x12.2.2.1.count] 94⟩], t12_y0o0_0, [⟨bp1, .cells [.bool x12.2.2.2.told_Ok, .string x12.2.2.2.told_Key, .int .u64 x12.2.2.2.told_Val, .int .i64 x12.2.2.2.told_Err, v12_y1_4] 114⟩], t12_r], _, hf, (e6.trans (e11.trans e12)), w12, hs, (ndb (by intro e; cases e) (ndt f12_0 (ndt f12_1 (ndb (by intro e; cases e) (ndt f12_2 (ndb (by intro e; cases e) (ndc f12_3 nd0))))))), ⟨_, _, _, _, _, _, _, _, _, rfl, rfl, f12_0, f12_1, f12_2, f12_3⟩⟩)
  ·
    replace hF := ifF hc10 hF
    refine go_seq ?_
    refine go_region ?_
    refine gr rfl (r_fa (ot rfl) (fa_89_1 _ _)) ?_
    refine gr rfl (r_load (ot rfl) (lm_s (mem_seg 0 rfl) ag_3 rfl)) ?_
    refine gr rfl (r_bin (ot rfl) (oc rfl) rfl) ?_
    refine gA rfl rfl ?_
    refine go_nil ?_
    refine g_cond (b := (decide (x7.top > 0))) (ot rfl) (fun hc13 => ?_) (fun hc13 => ?_)
    ·
      replace hF := ifT hc13 hF
      refine go_seq ?_
      refine go_region ?_
      refine gr rfl (r_load (ot rfl) (v := .pointer (some ⟨bp1, 0, none⟩)) (lo_e (fun hf kn => ld_cell ag_34 ((g4.ext e6.kn).ext kn) rfl))) ?_
      replace hF := obind hF
      obtain ⟨x14, hx14, hF⟩ := hF
      refine gs_call EE_fr w6 (.cons (.s (.s (.s (.z)))) (.cons (.s (.s (.s (.z)))) (.cons (.s (.s (.s (.z)))) (.cons (.s (.z)) (.cons (.s (.z)) (.cons (.s (.z)) .nil)))))) (fun _ h => by cases h; rfl) of (os1 (ot rfl) (os1 (oc rfl) (os1 (oc rfl) os0))) hb_53 (by exact s_bst_Call_tell hrc w6 p0 (⟨x6.2.2.cells, x6.2.2.count⟩ : Omem_Mem) p1 false 0 (f0_1.ext e6.kn) (f0_2.ext e6.kn) f6_0 hx14) ?_
      rintro v14 S14 h14 e14 w14 ⟨q14_y0_1, t14_y0_1, q14_y0_2, t14_y0_2, q14_y0o0_0, t14_y0o0_0, v14_y1_4, v14_r, t14_r, rfl, rfl, f14_0, f14_1, f14_2, f14_3⟩
      simp only [List.cons_append, List.nil_append]
      refine gA rfl rfl ?_
      refine go_nil ?_
      obtain rfl := someI hF
      refine gs_sub (.cons_cons _ (.cons_cons _ (.cons_cons _ (.cons_cons _ (.cons_cons _ (.cons_cons _ (.cons_cons _ (.cons _ (.refl _))))))))) ?_
      exact g_ret (rst rfl rs0) (fun h1 hf hs => ⟨[[⟨bp0, .cells [.pointer (some ⟨bp0o0, 0, none⟩), .slice q14_y0_1 x14.2.1.nodes.length x14.2.1.nodes.length, .slice q14_y0_2 x14.2.1.infos.length x14.2.1.infos.length] 83⟩], t14_y0_1, t14_y0_2, [⟨bp0o0, .cells [.slice q14_y0o0_0 x14.2.2.1.cells.length x14.2.2.1.cells.length, .int .i64 x14.2.2.1.count] 94⟩], t14_y0o0_0, [⟨bp1, .cells [.bool x14.2.2.2.told_Ok, .string x14.2.2.2.told_Key, .int .u64 x14.2.2.2.told_Val, .int .i64 x14.2.2.2.told_Err, v14_y1_4] 114⟩], t14_r], _, hf, (e6.trans e14), w14, hs, (ndb (by intro e; cases e) (ndt f14_0 (ndt f14_1 (ndb (by intro e; cases e) (ndt f14_2 (ndb (by intro e; cases e) (ndc f14_3 nd0))))))), ⟨_, _, _, _, _, _, _, _, _, rfl, rfl, f14_0, f14_1, f14_2, f14_3⟩⟩)
    ·
      replace hF := ifF hc13 hF
      refine go_skip ?_
      refine go_endb ?_
      refine go_seq ?_
      refine go_region ?_
      refine gr rfl (r_load (ot rfl) (v := .pointer (some ⟨bp1, 0, none⟩)) (lo_e (fun hf kn => ld_cell ag_34 ((g4.ext e6.kn).ext kn) rfl))) ?_
      refine gr rfl (r_load (ot rfl) (lm_w (mem_seg 0 rfl) ag_89 sz_89 rfl)) ?_
      replace hF := obind hF
      obtain ⟨x15, hx15, hF⟩ := hF
      refine gs_call EE_fr w6 (.cons (.s (.s (.s (.z)))) (.cons (.s (.s (.s (.z)))) (.cons (.s (.s (.s (.z)))) (.cons (.s (.z)) (.cons (.s (.z)) (.cons (.s (.z)) .nil)))))) (fun _ h => by cases h; rfl) of (os1 (ot rfl) (os1 (ot rfl) os0)) hb_52 (by exact s_bst_Call_found hrc w6 p0 (⟨x6.2.2.cells, x6.2.2.count⟩ : Omem_Mem) p1 x7 (f0_1.ext e6.kn) (f0_2.ext e6.kn) f6_0 hx15) ?_
      rintro v15 S15 h15 e15 w15 ⟨q15_y0_1, t15_y0_1, q15_y0_2, t15_y0_2, q15_y0o0_0, t15_y0o0_0, v15_y1_4, v15_r, t15_r, rfl, rfl, f15_0, f15_1, f15_2, f15_3⟩
      simp only [List.cons_append, List.nil_append]
      refine gA rfl rfl ?_
      refine go_nil ?_
      obtain rfl := someI hF
      refine gs_sub (.cons_cons _ (.cons_cons _ (.cons_cons _ (.cons_cons _ (.cons_cons _ (.cons_cons _ (.cons_cons _ (.cons _ (.refl _))))))))) ?_
      exact g_ret (rst rfl rs0) (fun h1 hf hs => ⟨[[⟨bp0, .cells [.pointer (some ⟨bp0o0, 0, none⟩), .slice q15_y0_1 x15.2.1.nodes.length x15.2.1.nodes.length, .slice q15_y0_2 x15.2.1.infos.length x15.2.1.infos.length] 83⟩], t15_y0_1, t15_y0_2, [⟨bp0o0, .cells [.slice q15_y0o0_0 x15.2.2.1.cells.length x15.2.2.1.cells.length, .int .i64 x15.2.2.1.count] 94⟩], t15_y0o0_0, [⟨bp1, .cells [.bool x15.2.2.2.told_Ok, .string x15.2.2.2.told_Key, .int .u64 x15.2.2.2.told_Val, .int .i64 x15.2.2.2.told_Err, v15_y1_4] 114⟩], t15_r], _, hf, (e6.trans e15), w15, hs, (ndb (by intro e; cases e) (ndt f15_0 (ndt f15_1 (ndb (by intro e; cases e) (ndt f15_2 (ndb (by intro e; cases e) (ndc f15_3 nd0))))))), ⟨_, _, _, _, _, _, _, _, _, rfl, rfl, f15_0, f15_1, f15_2, f15_3⟩⟩)
theorem s_bst_Tree_down {rc : RC} (hrc : RCok rc) {h : Heap} (hw : Wf h) (p0 : Obst_Tree) (p0o0 : Omem_Mem) (p1 : Obst_Call) (p3 : Tbst_seen) (p4 : Tbst_node) (p5 : Clo) {bp0 : Nat} {q0_1 : Option Addr} {t0_1 : List Blk} {q0_2 : Option Addr} {t0_2 : List Blk} {bp0o0 : Nat} {q0o0_0 : Option Addr} {t0o0_0 : List Blk} {bp1 : Nat} {v1_4 : Value} {v5 : Value} (f0_1 : AccR R_Tbst_node 89 h t0_1 (.slice q0_1 p0.nodes.length p0.nodes.length) p0.nodes) (f0_2 : AccR R_Tbst_info 86 h t0_2 (.slice q0_2 p0.infos.length p0.infos.length) p0.infos) (f0o0_0 : AccR (RI_ .u64 29) 29 h t0o0_0 (.slice q0o0_0 p0o0.cells.length p0o0.cells.length) p0o0.cells) (c5 : CO h bp0 bp1 [] p5 v5) {r : (Option Clo) × Obst_Tree × Omem_Mem × Obst_Call} (hF : F_bst_Tree_down rc p0 p0o0 p1 p3 p4 p5 = some r) :
    EvO EE 71 [.pointer (some ⟨bp0, 0, none⟩), .agg #[.int .i64 p3.grand, .int .i64 p3.parent, .int .i64 p3.leaf, .int .u64 p3.grandWord, .int .u64 p3.parentWord, .int .i64 p3.turn], .agg #[.string p4.key, .int .i64 p4.top, .int .u64 p4.val, .int .i64 p4.cell], v5] [[⟨bp0, .cells [.pointer (some ⟨bp0o0, 0, none⟩), .slice q0_1 p0.nodes.length p0.nodes.length, .slice q0_2 p0.infos.length p0.infos.length] 83⟩], t0_1, t0_2, [⟨bp0o0, .cells [.slice q0o0_0 p0o0.cells.length p0o0.cells.length, .int .i64 p0o0.count] 94⟩], t0o0_0, [⟨bp1, .cells [.bool p1.told_Ok, .string p1.told_Key, .int .u64 p1.told_Val, .int .i64 p1.told_Err, v1_4] 114⟩]] h (fun v S h1 => ∃ qy0_1 ty0_1 qy0_2 ty0_2 qy0o0_0 ty0o0_0 vy1_4 vr tr, v = vr ∧ S = [[⟨bp0, .cells [.pointer (some ⟨bp0o0, 0, none⟩), .slice qy0_1 r.2.1.nodes.length r.2.1.nodes.length, .slice qy0_2 r.2.1.infos.length r.2.1.infos.length] 83⟩], ty0_1, ty0_2, [⟨bp0o0, .cells [.slice qy0o0_0 r.2.2.1.cells.length r.2.2.1.cells.length, .int .i64 r.2.2.1.count] 94⟩], ty0o0_0, [⟨bp1, .cells [.bool r.2.2.2.told_Ok, .string r.2.2.2.told_Key, .int .u64 r.2.2.2.told_Val, .int .i64 r.2.2.2.told_Err, vy1_4] 114⟩], tr] ∧ AccR R_Tbst_node 89 h1 ty0_1 (.slice qy0_1 r.2.1.nodes.length r.2.1.nodes.length) r.2.1.nodes ∧ AccR R_Tbst_info 86 h1 ty0_2 (.slice qy0_2 r.2.1.infos.length r.2.1.infos.length) r.2.1.infos ∧ AccR (RI_ .u64 29) 29 h1 ty0o0_0 (.slice qy0o0_0 r.2.2.1.cells.length r.2.2.1.cells.length) r.2.2.1.cells ∧ OC h1 bp0 bp1 tr r.1 vr) := by
  unfold F_bst_Tree_down at hF
  refine evo_of rfl at_71 rfl rfl ?_
  refine go_seq ?_
  refine go_region ?_
  refine gs_box rfl (ot rfl) rfl ?_; intro b4_7
  refine gs_box rfl (ot rfl) rfl ?_; intro b5_8
  refine gs_box rfl (ot rfl) rfl ?_; intro b6_9
  refine gs_box rfl (ot rfl) (CO.one c5) ?_; intro b7_10
  refine gAc rfl rfl ?_
  refine go_nil ?_
  refine go_seq ?_
  refine go_seq ?_
  refine go_regions (L := [(0, []), (1, []), (2, []), (3, []), (4, []), (5, []), (6, []), (7, []), (8, [])]) (by kernel_rfl) (by kernel_rfl) (fun _ => rfl) ?_
  refine go_sop rfl rfl ?_
  refine gr rfl (r_load (ot rfl) (lm_s (mem_seg 3 rfl) ag_24 rfl)) ?_
  refine go_nil ?_
  refine go_sop rfl rfl ?_
  refine gr rfl (r_nilck (ot rfl)) ?_
  refine go_nil ?_
  refine go_sop rfl rfl ?_
  refine gr rfl (r_fa (ot rfl) (fa_83_1 _ _)) ?_
  refine go_nil ?_
  refine go_sop rfl rfl ?_
  refine gr rfl (r_load (ot rfl) (lm_s (mem_seg 4 rfl) ag_80 rfl)) ?_
  refine go_nil ?_
  refine go_sop rfl rfl ?_
  refine gr rfl (r_fa (ot rfl) (fa_105_2 _ _)) ?_
  refine go_nil ?_
  refine go_sop rfl rfl ?_
  refine gr rfl (r_load (ot rfl) (lm_s (mem_seg 2 rfl) ag_3 rfl)) ?_
  refine go_nil ?_
  refine go_sop rfl rfl ?_
  replace hF := obind hF
  obtain ⟨x11, hx11, hF⟩ := hF
  obtain ⟨bb11, rw11, row11, hp11, ht11, hR11, hw11, rc11, hz11, hi11, hd11, hb11, hl11⟩ := AccR.at_ f0_1 hx11
  have hF11_ := hF
  subst hp11; subst ht11
  replace hF := hF11_
  obtain rfl := rc11
  refine gr rfl (r_ia (ot rfl) (ot rfl) (ia_acc (k := 4) ut_80 sz_89 hz11 hi11)) ?_
  refine go_nil ?_
  refine go_sop rfl rfl ?_
  refine gr rfl (r_load (ot rfl) (lm_a (vs := [.string x11.key, .int .i64 x11.top, .int .u64 x11.val, .int .i64 x11.cell]) (mem_seg 5 rfl) ag_89 sz_89 (Nat.ble_eq_true_of_le hb11) hd11)) ?_
  refine go_nil ?_
  refine go_sop rfl rfl ?_
  replace hF := obind hF
  obtain ⟨x12, hx12, hF⟩ := hF
  refine g_callp (v := .bool x12) EE_fr rfl of (os1 (ot rfl) os0) hb_44 (fun _ => rfl) (fun hf kn w => by exact s_bst_node_leaf w x11  hx12) ?_
  refine go_nil ?_
  refine go_snil ?_
  refine g_cond (b := x12) (ot rfl) (fun hc13 => ?_) (fun hc13 => ?_)
  ·
    replace hF := ifT hc13 hF
    refine go_seq ?_
    refine go_region ?_
    refine gr rfl (r_load (ot rfl) (lm_s (mem_seg 0 rfl) ag_111 rfl)) ?_
    refine gr rfl (r_load (ot rfl) (lm_w (mem_seg 2 rfl) ag_105 sz_105 rfl)) ?_
    replace hF := obind hF
    obtain ⟨x14, hx14, hF⟩ := hF
    refine gs_calld EE_fr hw (.cons (.s (.s (.s (.s (.z))))) (.cons (.s (.s (.s (.s (.z))))) (.cons (.s (.s (.s (.s (.z))))) (.cons (.s (.s (.s (.s (.z))))) (.cons (.s (.s (.s (.s (.z))))) (.cons (.s (.s (.s (.s (.z))))) (.emp .nil))))))) (fun _ h => by cases h; rfl) (ot rfl) (os1 (ot rfl) os0) (by exact hrc hw p0 p0o0 p1 f0_1 f0_2 f0o0_0 p5 (Arg.s p3) [] c5 hx14) ?_
    rintro v14 S14 h14 e14 w14 ⟨q14_y0_1, t14_y0_1, q14_y0_2, t14_y0_2, q14_y0o0_0, t14_y0o0_0, v14_y1_4, v14_r, t14_r, rfl, rfl, f14_0, f14_1, f14_2, f14_3⟩
    simp only [List.cons_append, List.nil_append]
    refine gA rfl rfl ?_
    refine go_nil ?_
    obtain rfl := someI hF
    refine gs_sub (.cons_cons _ (.cons_cons _ (.cons_cons _ (.cons_cons _ (.cons_cons _ (.cons_cons _ (.cons_cons _ (.cons _ (.cons _ (.cons _ (.cons _ (.refl _)))))))))))) ?_
    exact g_ret (rst rfl rs0) (fun h1 hf hs => ⟨[[⟨bp0, .cells [.pointer (some ⟨bp0o0, 0, none⟩), .slice q14_y0_1 x14.2.1.nodes.length x14.2.1.nodes.length, .slice q14_y0_2 x14.2.1.infos.length x14.2.1.infos.length] 83⟩], t14_y0_1, t14_y0_2, [⟨bp0o0, .cells [.slice q14_y0o0_0 x14.2.2.1.cells.length x14.2.2.1.cells.length, .int .i64 x14.2.2.1.count] 94⟩], t14_y0o0_0, [⟨bp1, .cells [.bool x14.2.2.2.told_Ok, .string x14.2.2.2.told_Key, .int .u64 x14.2.2.2.told_Val, .int .i64 x14.2.2.2.told_Err, v14_y1_4] 114⟩], t14_r], _, hf, e14, w14, hs, (ndb (by intro e; cases e) (ndt f14_0 (ndt f14_1 (ndb (by intro e; cases e) (ndt f14_2 (ndb (by intro e; cases e) (ndc f14_3 nd0))))))), ⟨_, _, _, _, _, _, _, _, _, rfl, rfl, f14_0, f14_1, f14_2, f14_3⟩⟩)
  ·
    replace hF := ifF hc13 hF
    refine go_skip ?_
    refine go_seq ?_
    refine go_region ?_
    refine gr rfl (r_fa (ot rfl) (fa_105_1 _ _)) ?_
    refine gr rfl (r_load (ot rfl) (lm_s (mem_seg 2 rfl) ag_3 rfl)) ?_
    refine gr rfl (r_fa (ot rfl) (fa_105_2 _ _)) ?_
    refine gr rfl (r_load (ot rfl) (lm_s (mem_seg 2 rfl) ag_3 rfl)) ?_
    refine gr rfl (r_fa (ot rfl) (fa_105_4 _ _)) ?_
    refine gr rfl (r_load (ot rfl) (lm_s (mem_seg 2 rfl) ag_29 rfl)) ?_
    refine gr rfl (r_fa (ot rfl) (fa_105_0 _ _)) ?_
    refine gs_store (ot rfl) (ot rfl) sz_3 rfl rfl rfl rfl rfl (.s (.s (.z))) ?_
    refine gr rfl (r_fa (ot rfl) (fa_105_1 _ _)) ?_
    refine gs_store (ot rfl) (ot rfl) sz_3 rfl rfl rfl rfl rfl (.s (.s (.z))) ?_
    refine gr rfl (r_fa (ot rfl) (fa_105_3 _ _)) ?_
    refine gs_store (ot rfl) (ot rfl) sz_29 rfl rfl rfl rfl rfl (.s (.s (.z))) ?_
    refine go_nil ?_
    refine go_seq ?_
    refine go_region ?_
    refine gr rfl (r_func os0 (os1 (ot rfl) (os1 (ot rfl) (os1 (ot rfl) (os1 (ot rfl) os0))))) ?_
    refine gA rfl rfl ?_
    refine go_nil ?_
    refine gs_pub (.s (.s (.s (.z)))) (fun h15 e15 w15 hb15 => ?_)
    have g15_ : BK h15 b4_7 [.pointer (some ⟨bp0, 0, none⟩)] 24 := hb15
    refine gs_pub (.s (.z)) (fun h16 e16 w16 hb16 => ?_)
    have g16_ : BK h16 b6_9 [.string p4.key, .int .i64 p4.top, .int .u64 p4.val, .int .i64 p4.cell] 89 := hb16
    refine gs_pub .z (fun h17 e17 w17 hb17 => ?_)
    have g17_ : BK h17 b7_10 [v5] 111 := hb17
    have co18 : CO h17 bp0 bp1 [⟨b5_8, .cells [.int .i64 p3.parent, .int .i64 p3.leaf, .int .i64 p3.leaf, .int .u64 p3.parentWord, .int .u64 p3.parentWord, .int .i64 p3.turn] 105⟩] (Clo.c_down_1 (⟨p3.parent, p3.leaf, p3.leaf, p3.parentWord, p3.parentWord, p3.turn⟩ : Tbst_seen) p4 p5) (.func (.func 92) #[] #[.pointer (some ⟨b4_7, 0, none⟩), .pointer (some ⟨b5_8, 0, none⟩), .pointer (some ⟨b6_9, 0, none⟩), .pointer (some ⟨b7_10, 0, none⟩)]) := CO.c_down_1 (x0 := (⟨p3.parent, p3.leaf, p3.leaf, p3.parentWord, p3.parentWord, p3.turn⟩ : Tbst_seen)) ((g15_.ext e16.kn).ext e17.kn) (g16_.ext e17.kn) g17_ (((c5.ext e15.kn).ext e16.kn).ext e17.kn)
    obtain rfl := someI hF
    refine gs_perm (perm_of (d := []) _ [1, 2, 3, 4, 5, 6, 0] rfl) ?_
    exact g_ret (rst rfl rs0) (fun h1 hf hs => ⟨[[⟨bp0, .cells [.pointer (some ⟨bp0o0, 0, none⟩), .slice (some ⟨bb11, 0, some 0⟩) p0.nodes.length p0.nodes.length, .slice q0_2 p0.infos.length p0.infos.length] 83⟩], [⟨bb11, .cells rw11.flatten 89⟩], t0_2, [⟨bp0o0, .cells [.slice q0o0_0 p0o0.cells.length p0o0.cells.length, .int .i64 p0o0.count] 94⟩], t0o0_0, [⟨bp1, .cells [.bool p1.told_Ok, .string p1.told_Key, .int .u64 p1.told_Val, .int .i64 p1.told_Err, v1_4] 114⟩], [⟨b5_8, .cells [.int .i64 p3.parent, .int .i64 p3.leaf, .int .i64 p3.leaf, .int .u64 p3.parentWord, .int .u64 p3.parentWord, .int .i64 p3.turn] 105⟩]], _, hf, (e15.trans (e16.trans e17)), w17, hs, (ndb (by intro e; cases e) (ndt (((f0_1.ext e15.kn).ext e16.kn).ext e17.kn) (ndt (((f0_2.ext e15.kn).ext e16.kn).ext e17.kn) (ndb (by intro e; cases e) (ndt (((f0o0_0.ext e15.kn).ext e16.kn).ext e17.kn) (ndb (by intro e; cases e) (ndb (by intro e; cases e) nd0))))))), ⟨_, _, _, _, _, _, _, _, _, rfl, rfl, (((f0_1.ext e15.kn).ext e16.kn).ext e17.kn), (((f0_2.ext e15.kn).ext e16.kn).ext e17.kn), (((f0o0_0.ext e15.kn).ext e16.kn).ext e17.kn), (OC.some co18)⟩⟩)
theorem s_bst_Tree_search {rc : RC} (hrc : RCok rc) {h : Heap} (hw : Wf h) (p0 : Obst_Tree) (p0o0 : Omem_Mem) (p1 : Obst_Call) (p3 : Tbst_node) (p4 : Clo) {bp0 : Nat} {q0_1 : Option Addr} {t0_1 : List Blk} {q0_2 : Option Addr} {t0_2 : List Blk} {bp0o0 : Nat} {q0o0_0 : Option Addr} {t0o0_0 : List Blk} {bp1 : Nat} {v1_4 : Value} {v4 : Value} (f0_1 : AccR R_Tbst_node 89 h t0_1 (.slice q0_1 p0.nodes.length p0.nodes.length) p0.nodes) (f0_2 : AccR R_Tbst_info 86 h t0_2 (.slice q0_2 p0.infos.length p0.infos.length) p0.infos) (f0o0_0 : AccR (RI_ .u64 29) 29 h t0o0_0 (.slice q0o0_0 p0o0.cells.length p0o0.cells.length) p0o0.cells) (c4 : CO h bp0 bp1 [] p4 v4) {r : (Option Clo) × Obst_Tree × Omem_Mem × Obst_Call} (hF : F_bst_Tree_search rc p0 p0o0 p1 p3 p4 = some r) :
    EvO EE 49 [.pointer (some ⟨bp0, 0, none⟩), .agg #[.string p3.key, .int .i64 p3.top, .int .u64 p3.val, .int .i64 p3.cell], v4] [[⟨bp0, .cells [.pointer (some ⟨bp0o0, 0, none⟩), .slice q0_1 p0.nodes.length p0.nodes.length, .slice q0_2 p0.infos.length p0.infos.length] 83⟩], t0_1, t0_2, [⟨bp0o0, .cells [.slice q0o0_0 p0o0.cells.length p0o0.cells.length, .int .i64 p0o0.count] 94⟩], t0o0_0, [⟨bp1, .cells [.bool p1.told_Ok, .string p1.told_Key, .int .u64 p1.told_Val, .int .i64 p1.told_Err, v1_4] 114⟩]] h (fun v S h1 => ∃ qy0_1 ty0_1 qy0_2 ty0_2 qy0o0_0 ty0o0_0 vy1_4 vr tr, v = vr ∧ S = [[⟨bp0, .cells [.pointer (some ⟨bp0o0, 0, none⟩), .slice qy0_1 r.2.1.nodes.length r.2.1.nodes.length, .slice qy0_2 r.2.1.infos.length r.2.1.infos.length] 83⟩], ty0_1, ty0_2, [⟨bp0o0, .cells [.slice qy0o0_0 r.2.2.1.cells.length r.2.2.1.cells.length, .int .i64 r.2.2.1.count] 94⟩], ty0o0_0, [⟨bp1, .cells [.bool r.2.2.2.told_Ok, .string r.2.2.2.told_Key, .int .u64 r.2.2.2.told_Val, .int .i64 r.2.2.2.told_Err, vy1_4] 114⟩], tr] ∧ AccR R_Tbst_node 89 h1 ty0_1 (.slice qy0_1 r.2.1.nodes.length r.2.1.nodes.length) r.2.1.nodes ∧ AccR R_Tbst_info 86 h1 ty0_2 (.slice qy0_2 r.2.1.infos.length r.2.1.infos.length) r.2.1.infos ∧ AccR (RI_ .u64 29) 29 h1 ty0o0_0 (.slice qy0o0_0 r.2.2.1.cells.length r.2.2.1.cells.length) r.2.2.1.cells ∧ OC h1 bp0 bp1 tr r.1 vr) := by
  unfold F_bst_Tree_search at hF
  refine evo_of rfl at_49 rfl rfl ?_
  refine go_seq ?_
  refine go_region ?_
  refine gs_box rfl (ot rfl) rfl ?_; intro b4_6
  refine gAc rfl rfl ?_
  refine go_nil ?_
  refine go_seq ?_
  refine go_region ?_
  refine gM rfl rfl ?_
  refine gr rfl (r_build (op1 (oc rfl) op0) rfl) ?_
  refine gr rfl (r_load (ot rfl) (lm_w (mem_seg 0 rfl) ag_89 sz_89 rfl)) ?_
  refine gM rfl rfl ?_
  replace hF := obind hF
  obtain ⟨x7, hx7, hF⟩ := hF
  refine gs_call EE_fr hw (.cons (.s (.z)) (.cons (.s (.z)) (.cons (.s (.z)) (.cons (.s (.z)) (.cons (.s (.z)) (.cons (.s (.z)) .nil)))))) (fun _ h => by cases h; rfl) of (os1 (ot rfl) (os1 (ot rfl) (os1 (ot rfl) (os1 (ot rfl) os0)))) hb_71 (by exact s_bst_Tree_down hrc hw p0 p0o0 p1 (⟨0, 0, 0, 0, 0, (-1)⟩ : Tbst_seen) p3 p4 f0_1 f0_2 f0o0_0 c4 hx7) ?_
  rintro v7 S7 h7 e7 w7 ⟨q7_y0_1, t7_y0_1, q7_y0_2, t7_y0_2, q7_y0o0_0, t7_y0o0_0, v7_y1_4, v7_r, t7_r, rfl, rfl, f7_0, f7_1, f7_2, f7_3⟩
  simp only [List.cons_append, List.nil_append]
  refine gA rfl rfl ?_
  refine go_nil ?_
  obtain rfl := someI hF
  refine gs_sub (.cons_cons _ (.cons_cons _ (.cons_cons _ (.cons_cons _ (.cons_cons _ (.cons_cons _ (.cons_cons _ (.cons _ (.refl _))))))))) ?_
  exact g_ret (rst rfl rs0) (fun h1 hf hs => ⟨[[⟨bp0, .cells [.pointer (some ⟨bp0o0, 0, none⟩), .slice q7_y0_1 x7.2.1.nodes.length x7.2.1.nodes.length, .slice q7_y0_2 x7.2.1.infos.length x7.2.1.infos.length] 83⟩], t7_y0_1, t7_y0_2, [⟨bp0o0, .cells [.slice q7_y0o0_0 x7.2.2.1.cells.length x7.2.2.1.cells.length, .int .i64 x7.2.2.1.count] 94⟩], t7_y0o0_0, [⟨bp1, .cells [.bool x7.2.2.2.told_Ok, .string x7.2.2.2.told_Key, .int .u64 x7.2.2.2.told_Val, .int .i64 x7.2.2.2.told_Err, v7_y1_4] 114⟩], t7_r], _, hf, e7, w7, hs, (ndb (by intro e; cases e) (ndt f7_0 (ndt f7_1 (ndb (by intro e; cases e) (ndt f7_2 (ndb (by intro e; cases e) (ndc f7_3 nd0))))))), ⟨_, _, _, _, _, _, _, _, _, rfl, rfl, f7_0, f7_1, f7_2, f7_3⟩⟩)
theorem s_bst_Tree_insert {rc : RC} (hrc : RCok rc) {h : Heap} (hw : Wf h) (p0 : Obst_Tree) (p0o0 : Omem_Mem) (p1 : Obst_Call) (p4 : Tbst_node) {bp0 : Nat} {q0_1 : Option Addr} {t0_1 : List Blk} {q0_2 : Option Addr} {t0_2 : List Blk} {bp0o0 : Nat} {q0o0_0 : Option Addr} {t0o0_0 : List Blk} {bp1 : Nat} {v1_4 : Value} (f0_1 : AccR R_Tbst_node 89 h t0_1 (.slice q0_1 p0.nodes.length p0.nodes.length) p0.nodes) (f0_2 : AccR R_Tbst_info 86 h t0_2 (.slice q0_2 p0.infos.length p0.infos.length) p0.infos) (f0o0_0 : AccR (RI_ .u64 29) 29 h t0o0_0 (.slice q0o0_0 p0o0.cells.length p0o0.cells.length) p0o0.cells) {r : (Option Clo) × Obst_Tree × Omem_Mem × Obst_Call} (hF : F_bst_Tree_insert rc p0 p0o0 p1 p4 = some r) :
    EvO EE 57 [.pointer (some ⟨bp0, 0, none⟩), .pointer (some ⟨bp1, 0, none⟩), .agg #[.string p4.key, .int .i64 p4.top, .int .u64 p4.val, .int .i64 p4.cell]] [[⟨bp0, .cells [.pointer (some ⟨bp0o0, 0, none⟩), .slice q0_1 p0.nodes.length p0.nodes.length, .slice q0_2 p0.infos.length p0.infos.length] 83⟩], t0_1, t0_2, [⟨bp0o0, .cells [.slice q0o0_0 p0o0.cells.length p0o0.cells.length, .int .i64 p0o0.count] 94⟩], t0o0_0, [⟨bp1, .cells [.bool p1.told_Ok, .string p1.told_Key, .int .u64 p1.told_Val, .int .i64 p1.told_Err, v1_4] 114⟩]] h (fun v S h1 => ∃ qy0_1 ty0_1 qy0_2 ty0_2 qy0o0_0 ty0o0_0 vy1_4 vr tr, v = vr ∧ S = [[⟨bp0, .cells [.pointer (some ⟨bp0o0, 0, none⟩), .slice qy0_1 r.2.1.nodes.length r.2.1.nodes.length, .slice qy0_2 r.2.1.infos.length r.2.1.infos.length] 83⟩], ty0_1, ty0_2, [⟨bp0o0, .cells [.slice qy0o0_0 r.2.2.1.cells.length r.2.2.1.cells.length, .int .i64 r.2.2.1.count] 94⟩], ty0o0_0, [⟨bp1, .cells [.bool r.2.2.2.told_Ok, .string r.2.2.2.told_Key, .int .u64 r.2.2.2.told_Val, .int .i64 r.2.2.2.told_Err, vy1_4] 114⟩], tr] ∧ AccR R_Tbst_node 89 h1 ty0_1 (.slice qy0_1 r.2.1.nodes.length r.2.1.nodes.length) r.2.1.nodes ∧ AccR R_Tbst_info 86 h1 ty0_2 (.slice qy0_2 r.2.1.infos.length r.2.1.infos.length) r.2.1.infos ∧ AccR (RI_ .u64 29) 29 h1 ty0o0_0 (.slice qy0o0_0 r.2.2.1.cells.length r.2.2.1.cells.length) r.2.2.1.cells ∧ OC h1 bp0 bp1 tr r.1 vr) := by
  unfold F_bst_Tree_insert at hF
  refine evo_of rfl at_57 rfl rfl ?_
  refine go_seq ?_
  refine go_region ?_
  refine gs_box rfl (ot rfl) rfl ?_; intro b3_6
  refine gs_box rfl (ot rfl) rfl ?_; intro b4_7
  refine gs_box rfl (ot rfl) rfl ?_; intro b5_8
  refine gAc rfl rfl ?_
  refine go_nil ?_
  refine go_seq ?_
  refine go_region ?_
  refine gr rfl (r_func os0 (os1 (ot rfl) (os1 (ot rfl) (os1 (ot rfl) os0)))) ?_
  refine gs_alloc rfl zo_101 rfl ?_; intro b7_9
  refine gs_store (ot rfl) (ot rfl) sz_101 rfl rfl rfl rfl rfl .z ?_
  refine go_nil ?_
  refine go_seq ?_
  refine go_region ?_
  refine gr rfl (r_load (ot rfl) (lm_s (mem_seg 3 rfl) ag_24 rfl)) ?_
  refine gr rfl (r_load (ot rfl) (lm_w (mem_seg 1 rfl) ag_89 sz_89 rfl)) ?_
  refine gr rfl (r_func os0 (os1 (ot rfl) (os1 (ot rfl) (os1 (ot rfl) (os1 (ot rfl) os0))))) ?_
  refine gs_pub (.s (.s (.s (.z)))) (fun h11 e11 w11 hb11 => ?_)
  have g11_ : BK h11 b3_6 [.pointer (some ⟨bp0, 0, none⟩)] 24 := hb11
  refine gs_pub (.s (.z)) (fun h12 e12 w12 hb12 => ?_)
  have g12_ : BK h12 b5_8 [.string p4.key, .int .i64 p4.top, .int .u64 p4.val, .int .i64 p4.cell] 89 := hb12
  refine gs_pub (.s (.z)) (fun h13 e13 w13 hb13 => ?_)
  have g13_ : BK h13 b4_7 [.pointer (some ⟨bp1, 0, none⟩)] 34 := hb13
  have co14 : CO h13 bp0 bp1 [] (Clo.c_insert_1 p4) (.func (.func 74) #[] #[.pointer (some ⟨b3_6, 0, none⟩), .pointer (some ⟨b4_7, 0, none⟩), .pointer (some ⟨b5_8, 0, none⟩)]) := CO.c_insert_1 ((g11_.ext e12.kn).ext e13.kn) g13_ (g12_.ext e13.kn)
  refine gs_pub .z (fun h15 e15 w15 hb15 => ?_)
  have g15_ : BK h15 b7_9 [(.func (.func 74) #[] #[.pointer (some ⟨b3_6, 0, none⟩), .pointer (some ⟨b4_7, 0, none⟩), .pointer (some ⟨b5_8, 0, none⟩)])] 101 := hb15
  have co16 : CO h15 bp0 bp1 [] (Clo.c_insert_2 p4 (Clo.c_insert_1 p4)) (.func (.func 75) #[] #[.pointer (some ⟨b3_6, 0, none⟩), .pointer (some ⟨b5_8, 0, none⟩), .pointer (some ⟨b4_7, 0, none⟩), .pointer (some ⟨b7_9, 0, none⟩)]) := CO.c_insert_2 (((g11_.ext e12.kn).ext e13.kn).ext e15.kn) ((g12_.ext e13.kn).ext e15.kn) (g13_.ext e15.kn) g15_ (co14.ext e15.kn)
  replace hF := obind hF
  obtain ⟨x10, hx10, hF⟩ := hF
  refine gs_call EE_fr w15 (.cons .z (.cons .z (.cons .z (.cons .z (.cons .z (.cons .z .nil)))))) (fun _ h => by cases h; rfl) of (os1 (ot rfl) (os1 (ot rfl) (os1 (ot rfl) os0))) hb_49 (by exact s_bst_Tree_search hrc w15 p0 p0o0 p1 p4 (Clo.c_insert_2 p4 (Clo.c_insert_1 p4)) ((((f0_1.ext e11.kn).ext e12.kn).ext e13.kn).ext e15.kn) ((((f0_2.ext e11.kn).ext e12.kn).ext e13.kn).ext e15.kn) ((((f0o0_0.ext e11.kn).ext e12.kn).ext e13.kn).ext e15.kn) co16 hx10) ?_
  rintro v10 S10 h10 e10 w10 ⟨q10_y0_1, t10_y0_1, q10_y0_2, t10_y0_2, q10_y0o0_0, t10_y0o0_0, v10_y1_4, v10_r, t10_r, rfl, rfl, f10_0, f10_1, f10_2, f10_3⟩
  simp only [List.cons_append, List.nil_append]
  refine gA rfl rfl ?_
  refine go_nil ?_
  obtain rfl := someI hF
  exact g_ret (rst rfl rs0) (fun h1 hf hs => ⟨[[⟨bp0, .cells [.pointer (some ⟨bp0o0, 0, none⟩), .slice q10_y0_1 x10.2.1.nodes.length x10.2.1.nodes.length, .slice q10_y0_2 x10.2.1.infos.length x10.2.1.infos.length] 83⟩], t10_y0_1, t10_y0_2, [⟨bp0o0, .cells [.slice q10_y0o0_0 x10.2.2.1.cells.length x10.2.2.1.cells.length, .int .i64 x10.2.2.1.count] 94⟩], t10_y0o0_0, [⟨bp1, .cells [.bool x10.2.2.2.told_Ok, .string x10.2.2.2.told_Key, .int .u64 x10.2.2.2.told_Val, .int .i64 x10.2.2.2.told_Err, v10_y1_4] 114⟩], t10_r], _, hf, (e11.trans (e12.trans (e13.trans (e15.trans e10)))), w10, hs, (ndb (by intro e; cases e) (ndt f10_0 (ndt f10_1 (ndb (by intro e; cases e) (ndt f10_2 (ndb (by intro e; cases e) (ndc f10_3 nd0))))))), ⟨_, _, _, _, _, _, _, _, _, rfl, rfl, f10_0, f10_1, f10_2, f10_3⟩⟩)
theorem s_bst_Tree_insert_1 {rc : RC} (hrc : RCok rc) {h : Heap} (hw : Wf h) (p0 : Obst_Tree) (p0o0 : Omem_Mem) (p1 : Obst_Call) (p4 : Tbst_node) {bp0 : Nat} {q0_1 : Option Addr} {t0_1 : List Blk} {q0_2 : Option Addr} {t0_2 : List Blk} {bp0o0 : Nat} {q0o0_0 : Option Addr} {t0o0_0 : List Blk} {bp1 : Nat} {v1_4 : Value} {b2 : Nat} {b3 : Nat} {b4 : Nat} (f0_1 : AccR R_Tbst_node 89 h t0_1 (.slice q0_1 p0.nodes.length p0.nodes.length) p0.nodes) (f0_2 : AccR R_Tbst_info 86 h t0_2 (.slice q0_2 p0.infos.length p0.infos.length) p0.infos) (f0o0_0 : AccR (RI_ .u64 29) 29 h t0o0_0 (.slice q0o0_0 p0o0.cells.length p0o0.cells.length) p0o0.cells) (g2 : BK h b2 [.pointer (some ⟨bp0, 0, none⟩)] 24) (g3 : BK h b3 [.pointer (some ⟨bp1, 0, none⟩)] 34) (g4 : BK h b4 [.string p4.key, .int .i64 p4.top, .int .u64 p4.val, .int .i64 p4.cell] 89) {r : (Option Clo) × Obst_Tree × Omem_Mem × Obst_Call} (hF : F_bst_Tree_insert_1 rc p0 p0o0 p1 p4 = some r) :
    EvO EE 74 [.pointer (some ⟨b2, 0, none⟩), .pointer (some ⟨b3, 0, none⟩), .pointer (some ⟨b4, 0, none⟩)] [[⟨bp0, .cells [.pointer (some ⟨bp0o0, 0, none⟩), .slice q0_1 p0.nodes.length p0.nodes.length, .slice q0_2 p0.infos.length p0.infos.length] 83⟩], t0_1, t0_2, [⟨bp0o0, .cells [.slice q0o0_0 p0o0.cells.length p0o0.cells.length, .int .i64 p0o0.count] 94⟩], t0o0_0, [⟨bp1, .cells [.bool p1.told_Ok, .string p1.told_Key, .int .u64 p1.told_Val, .int .i64 p1.told_Err, v1_4] 114⟩]] h (fun v S h1 => ∃ qy0_1 ty0_1 qy0_2 ty0_2 qy0o0_0 ty0o0_0 vy1_4 vr tr, v = vr ∧ S = [[⟨bp0, .cells [.pointer (some ⟨bp0o0, 0, none⟩), .slice qy0_1 r.2.1.nodes.length r.2.1.nodes.length, .slice qy0_2 r.2.1.infos.length r.2.1.infos.length] 83⟩], ty0_1, ty0_2, [⟨bp0o0, .cells [.slice qy0o0_0 r.2.2.1.cells.length r.2.2.1.cells.length, .int .i64 r.2.2.1.count] 94⟩], ty0o0_0, [⟨bp1, .cells [.bool r.2.2.2.told_Ok, .string r.2.2.2.told_Key, .int .u64 r.2.2.2.told_Val, .int .i64 r.2.2.2.told_Err, vy1_4] 114⟩], tr] ∧ AccR R_Tbst_node 89 h1 ty0_1 (.slice qy0_1 r.2.1.nodes.length r.2.1.nodes.length) r.2.1.nodes ∧ AccR R_Tbst_info 86 h1 ty0_2 (.slice qy0_2 r.2.1.infos.length r.2.1.infos.length) r.2.1.infos ∧ AccR (RI_ .u64 29) 29 h1 ty0o0_0 (.slice qy0o0_0 r.2.2.1.cells.length r.2.2.1.cells.length) r.2.2.1.cells ∧ OC h1 bp0 bp1 tr r.1 vr) := by
  unfold F_bst_Tree_insert_1 at hF
  refine evo_of rfl at_74 rfl rfl ?_
  refine go_seq ?_
  refine go_region ?_
  refine gAc rfl rfl ?_
  refine go_nil ?_
  refine go_seq ?_
  refine go_region ?_
  refine gr rfl (r_load (ot rfl) (v := .pointer (some ⟨bp0, 0, none⟩)) (lo_e (fun hf kn => ld_cell ag_24 (g2.ext kn) rfl))) ?_
  refine gr rfl (r_load (ot rfl) (v := .pointer (some ⟨bp1, 0, none⟩)) (lo_e (fun hf kn => ld_cell ag_34 (g3.ext kn) rfl))) ?_
  refine gr rfl (r_load (ot rfl) (v := .agg #[.string p4.key, .int .i64 p4.top, .int .u64 p4.val, .int .i64 p4.cell]) (lo_e (fun hf kn => ld_bk ag_89 sz_89 (g4.ext kn) (Nat.le_of_ble_eq_true rfl) rfl))) ?_
  replace hF := obind hF
  obtain ⟨x6, hx6, hF⟩ := hF
  refine gs_call EE_fr hw (.cons .z (.cons .z (.cons .z (.cons .z (.cons .z (.cons .z .nil)))))) (fun _ h => by cases h; rfl) of (os1 (ot rfl) (os1 (ot rfl) (os1 (ot rfl) os0))) hb_57 (by exact s_bst_Tree_insert hrc hw p0 p0o0 p1 p4 f0_1 f0_2 f0o0_0 hx6) ?_
  rintro v6 S6 h6 e6 w6 ⟨q6_y0_1, t6_y0_1, q6_y0_2, t6_y0_2, q6_y0o0_0, t6_y0o0_0, v6_y1_4, v6_r, t6_r, rfl, rfl, f6_0, f6_1, f6_2, f6_3⟩
  simp only [List.cons_append, List.nil_append]
  refine gA rfl rfl ?_
  refine go_nil ?_
  obtain rfl := someI hF
  exact g_ret (rst rfl rs0) (fun h1 hf hs => ⟨[[⟨bp0, .cells [.pointer (some ⟨bp0o0, 0, none⟩), .slice q6_y0_1 x6.2.1.nodes.length x6.2.1.nodes.length, .slice q6_y0_2 x6.2.1.infos.length x6.2.1.infos.length] 83⟩], t6_y0_1, t6_y0_2, [⟨bp0o0, .cells [.slice q6_y0o0_0 x6.2.2.1.cells.length x6.2.2.1.cells.length, .int .i64 x6.2.2.1.count] 94⟩], t6_y0o0_0, [⟨bp1, .cells [.bool x6.2.2.2.told_Ok, .string x6.2.2.2.told_Key, .int .u64 x6.2.2.2.told_Val, .int .i64 x6.2.2.2.told_Err, v6_y1_4] 114⟩], t6_r], _, hf, e6, w6, hs, (ndb (by intro e; cases e) (ndt f6_0 (ndt f6_1 (ndb (by intro e; cases e) (ndt f6_2 (ndb (by intro e; cases e) (ndc f6_3 nd0))))))), ⟨_, _, _, _, _, _, _, _, _, rfl, rfl, f6_0, f6_1, f6_2, f6_3⟩⟩)
theorem s_word_State {h : Heap} (hw : Wf h) (p0 : Int)   {r : Int} (hF : F_word_State p0 = some r) :
    Ev EE 76 [.int .u64 p0] h (fun v _ => v = .int .i64 r) := by
  unfold F_word_State at hF
  refine ev_of hw rfl at_76 rfl rfl (go_seg0 ?_)
  refine go_seq ?_
  refine go_region ?_
  refine gAc rfl rfl ?_
  refine go_nil ?_
  refine go_seq ?_
  refine go_region ?_
  refine gM rfl rfl ?_
  refine gr rfl (r_bin (ot rfl) (oc rfl) rfl) ?_
  refine gr rfl (r_conv (ot rfl) rfl) ?_
  refine gA rfl rfl ?_
  refine go_nil ?_
  obtain rfl := someI hF
  exact g_ret (rst rfl rs0) (fun h1 hf hs => ⟨hs.hext, rfl⟩)
theorem s_word_Info {h : Heap} (hw : Wf h) (p0 : Int)   {r : Int} (hF : F_word_Info p0 = some r) :
    Ev EE 95 [.int .u64 p0] h (fun v _ => v = .int .i64 r) := by
  unfold F_word_Info at hF
  refine ev_of hw rfl at_95 rfl rfl (go_seg0 ?_)
  refine go_seq ?_
  refine go_region ?_
  refine gAc rfl rfl ?_
  refine go_nil ?_
  refine go_seq ?_
  refine go_region ?_
  refine gM rfl rfl ?_
  refine gr rfl (r_bin (ot rfl) (oc rfl) rfl) ?_
  refine gr rfl (r_conv (ot rfl) rfl) ?_
  refine gA rfl rfl ?_
  refine go_nil ?_
  obtain rfl := someI hF
  exact g_ret (rst rfl rs0) (fun h1 hf hs => ⟨hs.hext, rfl⟩)
theorem s_bst_Tree_turn {rc : RC} (hrc : RCok rc) {h : Heap} (hw : Wf h) (p0 : Obst_Tree) (p0o0 : Omem_Mem) (p1 : Obst_Call) (p3 : Int) (p4 : Int) (p5 : Int) (p6 : Clo) {bp0 : Nat} {q0_1 : Option Addr} {t0_1 : List Blk} {q0_2 : Option Addr} {t0_2 : List Blk} {bp0o0 : Nat} {q0o0_0 : Option Addr} {t0o0_0 : List Blk} {bp1 : Nat} {v1_4 : Value} {v6 : Value} (f0_1 : AccR R_Tbst_node 89 h t0_1 (.slice q0_1 p0.nodes.length p0.nodes.length) p0.nodes) (f0_2 : AccR R_Tbst_info 86 h t0_2 (.slice q0_2 p0.infos.length p0.infos.length) p0.infos) (f0o0_0 : AccR (RI_ .u64 29) 29 h t0o0_0 (.slice q0o0_0 p0o0.cells.length p0o0.cells.length) p0o0.cells) (c6 : CO h bp0 bp1 [] p6 v6) {r : (Option Clo) × Obst_Tree × Omem_Mem × Obst_Call} (hF : F_bst_Tree_turn rc p0 p0o0 p1 p3 p4 p5 p6 = some r) :
    EvO EE 115 [.pointer (some ⟨bp0, 0, none⟩), .int .i64 p3, .int .i64 p4, .int .i64 p5, v6] [[⟨bp0, .cells [.pointer (some ⟨bp0o0, 0, none⟩), .slice q0_1 p0.nodes.length p0.nodes.length, .slice q0_2 p0.infos.length p0.infos.length] 83⟩], t0_1, t0_2, [⟨bp0o0, .cells [.slice q0o0_0 p0o0.cells.length p0o0.cells.length, .int .i64 p0o0.count] 94⟩], t0o0_0, [⟨bp1, .cells [.bool p1.told_Ok, .string p1.told_Key, .int .u64 p1.told_Val, .int .i64 p1.told_Err, v1_4] 114⟩]] h (fun v S h1 => ∃ qy0_1 ty0_1 qy0_2 ty0_2 qy0o0_0 ty0o0_0 vy1_4 vr tr, v = vr ∧ S = [[⟨bp0, .cells [.pointer (some ⟨bp0o0, 0, none⟩), .slice qy0_1 r.2.1.nodes.length r.2.1.nodes.length, .slice qy0_2 r.2.1.infos.length r.2.1.infos.length] 83⟩], ty0_1, ty0_2, [⟨bp0o0, .cells [.slice qy0o0_0 r.2.2.1.cells.length r.2.2.1.cells.length, .int .i64 r.2.2.1.count] 94⟩], ty0o0_0, [⟨bp1, .cells [.bool r.2.2.2.told_Ok, .string r.2.2.2.told_Key, .int .u64 r.2.2.2.told_Val, .int .i64 r.2.2.2.told_Err, vy1_4] 114⟩], tr] ∧ AccR R_Tbst_node 89 h1 ty0_1 (.slice qy0_1 r.2.1.nodes.length r.2.1.nodes.length) r.2.1.nodes ∧ AccR R_Tbst_info 86 h1 ty0_2 (.slice qy0_2 r.2.1.infos.length r.2.1.infos.length) r.2.1.infos ∧ AccR (RI_ .u64 29) 29 h1 ty0o0_0 (.slice qy0o0_0 r.2.2.1.cells.length r.2.2.1.cells.length) r.2.2.1.cells ∧ OC h1 bp0 bp1 tr r.1 vr) := by
  unfold F_bst_Tree_turn at hF
  refine evo_of rfl at_115 rfl rfl ?_
  refine go_seq ?_
  refine go_region ?_
  refine gs_box rfl (ot rfl) rfl ?_; intro b5_8
  refine gs_box rfl (ot rfl) rfl ?_; intro b6_9
  refine gs_box rfl (ot rfl) rfl ?_; intro b7_10
  refine gs_box rfl (ot rfl) rfl ?_; intro b8_11
  refine gs_box rfl (ot rfl) (CO.one c6) ?_; intro b9_12
  refine gAc rfl rfl ?_
  refine go_nil ?_
  refine go_seq ?_
  refine go_region ?_
  refine gr rfl (r_func os0 (os1 (ot rfl) (os1 (ot rfl) (os1 (ot rfl) (os1 (ot rfl) (os1 (ot rfl) os0)))))) ?_
  refine gA rfl rfl ?_
  refine go_nil ?_
  refine gs_pub (.s (.s (.s (.s (.z))))) (fun h13 e13 w13 hb13 => ?_)
  have g13_ : BK h13 b5_8 [.pointer (some ⟨bp0, 0, none⟩)] 24 := hb13
  refine gs_pub (.s (.s (.s (.z)))) (fun h14 e14 w14 hb14 => ?_)
  have g14_ : BK h14 b6_9 [.int .i64 p3] 3 := hb14
  refine gs_pub (.s (.z)) (fun h15 e15 w15 hb15 => ?_)
  have g15_ : BK h15 b8_11 [.int .i64 p5] 3 := hb15
  refine gs_pub (.s (.z)) (fun h16 e16 w16 hb16 => ?_)
  have g16_ : BK h16 b7_10 [.int .i64 p4] 3 := hb16
  refine gs_pub .z (fun h17 e17 w17 hb17 => ?_)
  have g17_ : BK h17 b9_12 [v6] 101 := hb17
  have co18 : CO h17 bp0 bp1 [] (Clo.c_turn_1 p3 p5 p4 p6) (.func (.func 122) #[] #[.pointer (some ⟨b5_8, 0, none⟩), .pointer (some ⟨b6_9, 0, none⟩), .pointer (some ⟨b8_11, 0, none⟩), .pointer (some ⟨b7_10, 0, none⟩), .pointer (some ⟨b9_12, 0, none⟩)]) := CO.c_turn_1 ((((g13_.ext e14.kn).ext e15.kn).ext e16.kn).ext e17.kn) (((g14_.ext e15.kn).ext e16.kn).ext e17.kn) ((g15_.ext e16.kn).ext e17.kn) (g16_.ext e17.kn) g17_ (((((c6.ext e13.kn).ext e14.kn).ext e15.kn).ext e16.kn).ext e17.kn)
  obtain rfl := someI hF
  exact g_ret (rst rfl rs0) (fun h1 hf hs => ⟨[[⟨bp0, .cells [.pointer (some ⟨bp0o0, 0, none⟩), .slice q0_1 p0.nodes.length p0.nodes.length, .slice q0_2 p0.infos.length p0.infos.length] 83⟩], t0_1, t0_2, [⟨bp0o0, .cells [.slice q0o0_0 p0o0.cells.length p0o0.cells.length, .int .i64 p0o0.count] 94⟩], t0o0_0, [⟨bp1, .cells [.bool p1.told_Ok, .string p1.told_Key, .int .u64 p1.told_Val, .int .i64 p1.told_Err, v1_4] 114⟩], []], _, hf, (e13.trans (e14.trans (e15.trans (e16.trans e17)))), w17, hs, (ndb (by intro e; cases e) (ndt (((((f0_1.ext e13.kn).ext e14.kn).ext e15.kn).ext e16.kn).ext e17.kn) (ndt (((((f0_2.ext e13.kn).ext e14.kn).ext e15.kn).ext e16.kn).ext e17.kn) (ndb (by intro e; cases e) (ndt (((((f0o0_0.ext e13.kn).ext e14.kn).ext e15.kn).ext e16.kn).ext e17.kn) (ndb (by intro e; cases e) (nde nd0))))))), ⟨_, _, _, _, _, _, _, _, _, rfl, rfl, (((((f0_1.ext e13.kn).ext e14.kn).ext e15.kn).ext e16.kn).ext e17.kn), (((((f0_2.ext e13.kn).ext e14.kn).ext e15.kn).ext e16.kn).ext e17.kn), (((((f0o0_0.ext e13.kn).ext e14.kn).ext e15.kn).ext e16.kn).ext e17.kn), (OC.some co18)⟩⟩)
theorem s_bst_Tree_grows {rc : RC} (hrc : RCok rc) {h : Heap} (hw : Wf h) (p0 : Obst_Tree) (p0o0 : Omem_Mem) (p1 : Obst_Call) (p3 : Int) (p4 : Clo) {bp0 : Nat} {q0_1 : Option Addr} {t0_1 : List Blk} {q0_2 : Option Addr} {t0_2 : List Blk} {bp0o0 : Nat} {q0o0_0 : Option Addr} {t0o0_0 : List Blk} {bp1 : Nat} {v1_4 : Value} {v4 : Value} (f0_1 : AccR R_Tbst_node 89 h t0_1 (.slice q0_1 p0.nodes.length p0.nodes.length) p0.nodes) (f0_2 : AccR R_Tbst_info 86 h t0_2 (.slice q0_2 p0.infos.length p0.infos.length) p0.infos) (f0o0_0 : AccR (RI_ .u64 29) 29 h t0o0_0 (.slice q0o0_0 p0o0.cells.length p0o0.cells.length) p0o0.cells) (c4 : CO h bp0 bp1 [] p4 v4) {r : (Option Clo) × Obst_Tree × Omem_Mem × Obst_Call} (hF : F_bst_Tree_grows rc p0 p0o0 p1 p3 p4 = some r) :
    EvO EE 96 [.pointer (some ⟨bp0, 0, none⟩), .int .i64 p3, v4] [[⟨bp0, .cells [.pointer (some ⟨bp0o0, 0, none⟩), .slice q0_1 p0.nodes.length p0.nodes.length, .slice q0_2 p0.infos.length p0.infos.length] 83⟩], t0_1, t0_2, [⟨bp0o0, .cells [.slice q0o0_0 p0o0.cells.length p0o0.cells.length, .int .i64 p0o0.count] 94⟩], t0o0_0, [⟨bp1, .cells [.bool p1.told_Ok, .string p1.told_Key, .int .u64 p1.told_Val, .int .i64 p1.told_Err, v1_4] 114⟩]] h (fun v S h1 => ∃ qy0_1 ty0_1 qy0_2 ty0_2 qy0o0_0 ty0o0_0 vy1_4 vr tr, v = vr ∧ S = [[⟨bp0, .cells [.pointer (some ⟨bp0o0, 0, none⟩), .slice qy0_1 r.2.1.nodes.length r.2.1.nodes.length, .slice qy0_2 r.2.1.infos.length r.2.1.infos.length] 83⟩], ty0_1, ty0_2, [⟨bp0o0, .cells [.slice qy0o0_0 r.2.2.1.cells.length r.2.2.1.cells.length, .int .i64 r.2.2.1.count] 94⟩], ty0o0_0, [⟨bp1, .cells [.bool r.2.2.2.told_Ok, .string r.2.2.2.told_Key, .int .u64 r.2.2.2.told_Val, .int .i64 r.2.2.2.told_Err, vy1_4] 114⟩], tr] ∧ AccR R_Tbst_node 89 h1 ty0_1 (.slice qy0_1 r.2.1.nodes.length r.2.1.nodes.length) r.2.1.nodes ∧ AccR R_Tbst_info 86 h1 ty0_2 (.slice qy0_2 r.2.1.infos.length r.2.1.infos.length) r.2.1.infos ∧ AccR (RI_ .u64 29) 29 h1 ty0o0_0 (.slice qy0o0_0 r.2.2.1.cells.length r.2.2.1.cells.length) r.2.2.1.cells ∧ OC h1 bp0 bp1 tr r.1 vr) := by
  unfold F_bst_Tree_grows at hF
  refine evo_of rfl at_96 rfl rfl ?_
  refine go_seq ?_
  refine go_region ?_
  refine gs_box rfl (ot rfl) rfl ?_; intro b3_6
  refine gs_box rfl (ot rfl) rfl ?_; intro b4_7
  refine gs_box rfl (ot rfl) (CO.one c4) ?_; intro b5_8
  refine gAc rfl rfl ?_
  refine go_nil ?_
  refine go_seq ?_
  refine go_regA1 (L := [(0, []), (1, []), (2, []), (3, []), (4, []), (5, []), (6, []), (7, []), (8, [])]) (by kernel_rfl) (by kernel_rfl) (fun _ => rfl) ?_; intro b7_9
  refine go_sop rfl rfl ?_
  refine gr rfl (r_load (ot rfl) (lm_s (mem_seg 3 rfl) ag_24 rfl)) ?_
  refine go_nil ?_
  refine go_sop rfl rfl ?_
  refine gr rfl (r_nilck (ot rfl)) ?_
  refine go_nil ?_
  refine go_sop rfl rfl ?_
  refine gr rfl (r_fa (ot rfl) (fa_83_2 _ _)) ?_
  refine go_nil ?_
  refine go_sop rfl rfl ?_
  refine gr rfl (r_load (ot rfl) (lm_s (mem_seg 4 rfl) ag_81 rfl)) ?_
  refine go_nil ?_
  refine go_sop rfl rfl ?_
  refine gr rfl (r_load (ot rfl) (lm_s (mem_seg 2 rfl) ag_3 rfl)) ?_
  refine go_nil ?_
  refine go_sop rfl rfl ?_
  replace hF := obind hF
  obtain ⟨x10, hx10, hF⟩ := hF
  obtain ⟨bb10, rw10, row10, hp10, ht10, hR10, hw10, rc10, hz10, hi10, hd10, hb10, hl10⟩ := AccR.at_ f0_2 hx10
  have hF10_ := hF
  subst hp10; subst ht10
  replace hF := hF10_
  obtain rfl := rc10
  refine gr rfl (r_ia (ot rfl) (ot rfl) (ia_acc (k := 5) ut_81 sz_86 hz10 hi10)) ?_
  refine go_nil ?_
  refine go_sop rfl rfl ?_
  refine gr rfl (r_load (ot rfl) (lm_a (vs := [.int .i64 x10.grand, .int .i64 x10.parent, .int .i64 x10.leaf, .int .i64 x10.next, .int .u64 x10.was]) (mem_seg 6 rfl) ag_86 sz_86 (Nat.ble_eq_true_of_le hb10) hd10)) ?_
  refine go_nil ?_
  refine go_salloc rfl rfl rfl zo_86 rfl .z ?_
  refine go_sop rfl rfl ?_
  refine gs_store (ot rfl) (ot rfl) sz_86 rfl rfl rfl rfl rfl .z ?_
  refine go_nil ?_
  refine go_snil ?_
  refine go_seq ?_
  refine go_region ?_
  refine gr rfl (r_load (ot rfl) (lm_s (mem_seg 3 rfl) ag_24 rfl)) ?_
  refine gr rfl (r_fa (ot rfl) (fa_86_1 _ _)) ?_
  refine gr rfl (r_load (ot rfl) (lm_s (mem_seg 0 rfl) ag_3 rfl)) ?_
  refine gr rfl (r_fa (ot rfl) (fa_86_2 _ _)) ?_
  refine gr rfl (r_load (ot rfl) (lm_s (mem_seg 0 rfl) ag_3 rfl)) ?_
  refine gr rfl (r_fa (ot rfl) (fa_86_3 _ _)) ?_
  refine gr rfl (r_load (ot rfl) (lm_s (mem_seg 0 rfl) ag_3 rfl)) ?_
  refine gr rfl (r_func os0 (os1 (ot rfl) (os1 (ot rfl) (os1 (ot rfl) (os1 (ot rfl) os0))))) ?_
  refine gs_pub (.s (.s (.s (.z)))) (fun h12 e12 w12 hb12 => ?_)
  have g12_ : BK h12 b3_6 [.pointer (some ⟨bp0, 0, none⟩)] 24 := hb12
  refine gs_pub .z (fun h13 e13 w13 hb13 => ?_)
  have g13_ : BK h13 b7_9 [.int .i64 x10.grand, .int .i64 x10.parent, .int .i64 x10.leaf, .int .i64 x10.next, .int .u64 x10.was] 86 := hb13
  refine gs_pub (.s (.z)) (fun h14 e14 w14 hb14 => ?_)
  have g14_ : BK h14 b4_7 [.int .i64 p3] 3 := hb14
  refine gs_pub .z (fun h15 e15 w15 hb15 => ?_)
  have g15_ : BK h15 b5_8 [v4] 101 := hb15
  have co16 : CO h15 bp0 bp1 [] (Clo.c_grows_1 x10 p3 p4) (.func (.func 116) #[] #[.pointer (some ⟨b3_6, 0, none⟩), .pointer (some ⟨b7_9, 0, none⟩), .pointer (some ⟨b4_7, 0, none⟩), .pointer (some ⟨b5_8, 0, none⟩)]) := CO.c_grows_1 (((g12_.ext e13.kn).ext e14.kn).ext e15.kn) ((g13_.ext e14.kn).ext e15.kn) (g14_.ext e15.kn) g15_ ((((c4.ext e12.kn).ext e13.kn).ext e14.kn).ext e15.kn)
  replace hF := obind hF
  obtain ⟨x11, hx11, hF⟩ := hF
  refine gs_call EE_fr w15 (.cons .z (.cons .z (.cons .z (.cons .z (.cons .z (.cons .z .nil)))))) (fun _ h => by cases h; rfl) of (os1 (ot rfl) (os1 (ot rfl) (os1 (ot rfl) (os1 (ot rfl) (os1 (ot rfl) os0))))) hb_115 (by exact s_bst_Tree_turn hrc w15 p0 p0o0 p1 x10.parent x10.leaf x10.next (Clo.c_grows_1 x10 p3 p4) ((((f0_1.ext e12.kn).ext e13.kn).ext e14.kn).ext e15.kn) ((((f0_2.ext e12.kn).ext e13.kn).ext e14.kn).ext e15.kn) ((((f0o0_0.ext e12.kn).ext e13.kn).ext e14.kn).ext e15.kn) co16 hx11) ?_
  rintro v11 S11 h11 e11 w11 ⟨q11_y0_1, t11_y0_1, q11_y0_2, t11_y0_2, q11_y0o0_0, t11_y0o0_0, v11_y1_4, v11_r, t11_r, rfl, rfl, f11_0, f11_1, f11_2, f11_3⟩
  simp only [List.cons_append, List.nil_append]
  refine gA rfl rfl ?_
  refine go_nil ?_
  obtain rfl := someI hF
  exact g_ret (rst rfl rs0) (fun h1 hf hs => ⟨[[⟨bp0, .cells [.pointer (some ⟨bp0o0, 0, none⟩), .slice q11_y0_1 x11.2.1.nodes.length x11.2.1.nodes.length, .slice q11_y0_2 x11.2.1.infos.length x11.2.1.infos.length] 83⟩], t11_y0_1, t11_y0_2, [⟨bp0o0, .cells [.slice q11_y0o0_0 x11.2.2.1.cells.length x11.2.2.1.cells.length, .int .i64 x11.2.2.1.count] 94⟩], t11_y0o0_0, [⟨bp1, .cells [.bool x11.2.2.2.told_Ok, .string x11.2.2.2.told_Key, .int .u64 x11.2.2.2.told_Val, .int .i64 x11.2.2.2.told_Err, v11_y1_4] 114⟩], t11_r], _, hf, (e12.trans (e13.trans (e14.trans (e15.trans e11)))), w11, hs, (ndb (by intro e; cases e) (ndt f11_0 (ndt f11_1 (ndb (by intro e; cases e) (ndt f11_2 (ndb (by intro e; cases e) (ndc f11_3 nd0))))))), ⟨_, _, _, _, _, _, _, _, _, rfl, rfl, f11_0, f11_1, f11_2, f11_3⟩⟩)
theorem s_word_Pack {h : Heap} (hw : Wf h) (p0 : Int) (p1 : Int)   {r : Int} (hF : F_word_Pack p0 p1 = some r) :
    Ev EE 89 [.int .i64 p0, .int .i64 p1] h (fun v _ => v = .int .u64 r) := by
  unfold F_word_Pack at hF
  refine ev_of hw rfl at_89 rfl rfl (go_seg0 ?_)
  refine go_seq ?_
  refine go_region ?_
  refine gAc rfl rfl ?_
  refine go_nil ?_
  refine go_seq ?_
  refine go_region ?_
  refine gM rfl rfl ?_
  refine gr rfl (r_conv (ot rfl) rfl) ?_
  refine gr rfl (r_bin (ot rfl) (oc rfl) rfl) ?_
  refine gM rfl rfl ?_
  refine gr rfl (r_conv (ot rfl) rfl) ?_
  refine gr rfl (r_bin (ot rfl) (oc rfl) rfl) ?_
  refine gr rfl (r_bin (ot rfl) (ot rfl) rfl) ?_
  refine gA rfl rfl ?_
  refine go_nil ?_
  obtain rfl := someI hF
  exact g_ret (rst rfl rs0) (fun h1 hf hs => ⟨hs.hext, rfl⟩)
theorem s_bst_Tree_loses {rc : RC} (hrc : RCok rc) {h : Heap} (hw : Wf h) (p0 : Obst_Tree) (p0o0 : Omem_Mem) (p1 : Obst_Call) (p3 : Int) (p4 : Clo) {bp0 : Nat} {q0_1 : Option Addr} {t0_1 : List Blk} {q0_2 : Option Addr} {t0_2 : List Blk} {bp0o0 : Nat} {q0o0_0 : Option Addr} {t0o0_0 : List Blk} {bp1 : Nat} {v1_4 : Value} {v4 : Value} (f0_1 : AccR R_Tbst_node 89 h t0_1 (.slice q0_1 p0.nodes.length p0.nodes.length) p0.nodes) (f0_2 : AccR R_Tbst_info 86 h t0_2 (.slice q0_2 p0.infos.length p0.infos.length) p0.infos) (f0o0_0 : AccR (RI_ .u64 29) 29 h t0o0_0 (.slice q0o0_0 p0o0.cells.length p0o0.cells.length) p0o0.cells) (c4 : CO h bp0 bp1 [] p4 v4) {r : (Option Clo) × Obst_Tree × Omem_Mem × Obst_Call} (hF : F_bst_Tree_loses rc p0 p0o0 p1 p3 p4 = some r) :
    EvO EE 90 [.pointer (some ⟨bp0, 0, none⟩), .int .i64 p3, v4] [[⟨bp0, .cells [.pointer (some ⟨bp0o0, 0, none⟩), .slice q0_1 p0.nodes.length p0.nodes.length, .slice q0_2 p0.infos.length p0.infos.length] 83⟩], t0_1, t0_2, [⟨bp0o0, .cells [.slice q0o0_0 p0o0.cells.length p0o0.cells.length, .int .i64 p0o0.count] 94⟩], t0o0_0, [⟨bp1, .cells [.bool p1.told_Ok, .string p1.told_Key, .int .u64 p1.told_Val, .int .i64 p1.told_Err, v1_4] 114⟩]] h (fun v S h1 => ∃ qy0_1 ty0_1 qy0_2 ty0_2 qy0o0_0 ty0o0_0 vy1_4 vr tr, v = vr ∧ S = [[⟨bp0, .cells [.pointer (some ⟨bp0o0, 0, none⟩), .slice qy0_1 r.2.1.nodes.length r.2.1.nodes.length, .slice qy0_2 r.2.1.infos.length r.2.1.infos.length] 83⟩], ty0_1, ty0_2, [⟨bp0o0, .cells [.slice qy0o0_0 r.2.2.1.cells.length r.2.2.1.cells.length, .int .i64 r.2.2.1.count] 94⟩], ty0o0_0, [⟨bp1, .cells [.bool r.2.2.2.told_Ok, .string r.2.2.2.told_Key, .int .u64 r.2.2.2.told_Val, .int .i64 r.2.2.2.told_Err, vy1_4] 114⟩], tr] ∧ AccR R_Tbst_node 89 h1 ty0_1 (.slice qy0_1 r.2.1.nodes.length r.2.1.nodes.length) r.2.1.nodes ∧ AccR R_Tbst_info 86 h1 ty0_2 (.slice qy0_2 r.2.1.infos.length r.2.1.infos.length) r.2.1.infos ∧ AccR (RI_ .u64 29) 29 h1 ty0o0_0 (.slice qy0o0_0 r.2.2.1.cells.length r.2.2.1.cells.length) r.2.2.1.cells ∧ OC h1 bp0 bp1 tr r.1 vr) := by
  unfold F_bst_Tree_loses at hF
  refine evo_of rfl at_90 rfl rfl ?_
  refine go_seq ?_
  refine go_region ?_
  refine gs_box rfl (ot rfl) rfl ?_; intro b3_6
  refine gs_box rfl (ot rfl) rfl ?_; intro b4_7
  refine gs_box rfl (ot rfl) (CO.one c4) ?_; intro b5_8
  refine gAc rfl rfl ?_
  refine go_nil ?_
  refine go_seq ?_
  refine go_regA1 (L := [(0, []), (1, []), (2, []), (3, []), (4, []), (5, []), (6, []), (7, []), (8, [])]) (by kernel_rfl) (by kernel_rfl) (fun _ => rfl) ?_; intro b7_9
  refine go_sop rfl rfl ?_
  refine gr rfl (r_load (ot rfl) (lm_s (mem_seg 3 rfl) ag_24 rfl)) ?_
  refine go_nil ?_
  refine go_sop rfl rfl ?_
  refine gr rfl (r_nilck (ot rfl)) ?_
  refine go_nil ?_
  refine go_sop rfl rfl ?_
  refine gr rfl (r_fa (ot rfl) (fa_83_2 _ _)) ?_
  refine go_nil ?_
  refine go_sop rfl rfl ?_
  refine gr rfl (r_load (ot rfl) (lm_s (mem_seg 4 rfl) ag_81 rfl)) ?_
  refine go_nil ?_
  refine go_sop rfl rfl ?_
  refine gr rfl (r_load (ot rfl) (lm_s (mem_seg 2 rfl) ag_3 rfl)) ?_
  refine go_nil ?_
  refine go_sop rfl rfl ?_
  replace hF := obind hF
  obtain ⟨x10, hx10, hF⟩ := hF
  obtain ⟨bb10, rw10, row10, hp10, ht10, hR10, hw10, rc10, hz10, hi10, hd10, hb10, hl10⟩ := AccR.at_ f0_2 hx10
  have hF10_ := hF
  subst hp10; subst ht10
  replace hF := hF10_
  obtain rfl := rc10
  refine gr rfl (r_ia (ot rfl) (ot rfl) (ia_acc (k := 5) ut_81 sz_86 hz10 hi10)) ?_
  refine go_nil ?_
  refine go_sop rfl rfl ?_
  refine gr rfl (r_load (ot rfl) (lm_a (vs := [.int .i64 x10.grand, .int .i64 x10.parent, .int .i64 x10.leaf, .int .i64 x10.next, .int .u64 x10.was]) (mem_seg 6 rfl) ag_86 sz_86 (Nat.ble_eq_true_of_le hb10) hd10)) ?_
  refine go_nil ?_
  refine go_salloc rfl rfl rfl zo_86 rfl .z ?_
  refine go_sop rfl rfl ?_
  refine gs_store (ot rfl) (ot rfl) sz_86 rfl rfl rfl rfl rfl .z ?_
  refine go_nil ?_
  refine go_snil ?_
  refine go_seq ?_
  refine go_region ?_
  refine gr rfl (r_load (ot rfl) (lm_s (mem_seg 2 rfl) ag_3 rfl)) ?_
  replace hF := obind hF
  obtain ⟨x11, hx11, hF⟩ := hF
  refine g_callp (v := .int .u64 x11) EE_fr rfl of (os1 (oc rfl) (os1 (ot rfl) os0)) hb_89 (fun _ => rfl) (fun hf kn w => by exact s_word_Pack w 3 p3  hx11) ?_
  refine gs_alloc rfl zo_29 rfl ?_; intro b8_12
  refine gs_store (ot rfl) (ot rfl) sz_29 rfl rfl rfl rfl rfl .z ?_
  refine go_nil ?_
  refine go_seq ?_
  refine go_region ?_
  refine gr rfl (r_func os0 (os1 (ot rfl) (os1 (ot rfl) (os1 (ot rfl) (os1 (ot rfl) (os1 (ot rfl) os0)))))) ?_
  refine gA rfl rfl ?_
  refine go_nil ?_
  refine gs_pub (.s (.s (.s (.s (.z))))) (fun h13 e13 w13 hb13 => ?_)
  have g13_ : BK h13 b3_6 [.pointer (some ⟨bp0, 0, none⟩)] 24 := hb13
  refine gs_pub (.s (.z)) (fun h14 e14 w14 hb14 => ?_)
  have g14_ : BK h14 b7_9 [.int .i64 x10.grand, .int .i64 x10.parent, .int .i64 x10.leaf, .int .i64 x10.next, .int .u64 x10.was] 86 := hb14
  refine gs_pub .z (fun h15 e15 w15 hb15 => ?_)
  have g15_ : BK h15 b8_12 [.int .u64 x11] 29 := hb15
  refine gs_pub (.s (.z)) (fun h16 e16 w16 hb16 => ?_)
  have g16_ : BK h16 b4_7 [.int .i64 p3] 3 := hb16
  refine gs_pub .z (fun h17 e17 w17 hb17 => ?_)
  have g17_ : BK h17 b5_8 [v4] 148 := hb17
  have co18 : CO h17 bp0 bp1 [] (Clo.c_loses_1 x10 x11 p3 p4) (.func (.func 110) #[] #[.pointer (some ⟨b3_6, 0, none⟩), .pointer (some ⟨b7_9, 0, none⟩), .pointer (some ⟨b8_12, 0, none⟩), .pointer (some ⟨b4_7, 0, none⟩), .pointer (some ⟨b5_8, 0, none⟩)]) := CO.c_loses_1 ((((g13_.ext e14.kn).ext e15.kn).ext e16.kn).ext e17.kn) (((g14_.ext e15.kn).ext e16.kn).ext e17.kn) ((g15_.ext e16.kn).ext e17.kn) (g16_.ext e17.kn) g17_ (((((c4.ext e13.kn).ext e14.kn).ext e15.kn).ext e16.kn).ext e17.kn)
  obtain rfl := someI hF
  exact g_ret (rst rfl rs0) (fun h1 hf hs => ⟨[[⟨bp0, .cells [.pointer (some ⟨bp0o0, 0, none⟩), .slice q0_1 p0.nodes.length p0.nodes.length, .slice (some ⟨bb10, 0, some 0⟩) p0.infos.length p0.infos.length] 83⟩], t0_1, [⟨bb10, .cells rw10.flatten 86⟩], [⟨bp0o0, .cells [.slice q0o0_0 p0o0.cells.length p0o0.cells.length, .int .i64 p0o0.count] 94⟩], t0o0_0, [⟨bp1, .cells [.bool p1.told_Ok, .string p1.told_Key, .int .u64 p1.told_Val, .int .i64 p1.told_Err, v1_4] 114⟩], []], _, hf, (e13.trans (e14.trans (e15.trans (e16.trans e17)))), w17, hs, (ndb (by intro e; cases e) (ndt (((((f0_1.ext e13.kn).ext e14.kn).ext e15.kn).ext e16.kn).ext e17.kn) (ndt (((((f0_2.ext e13.kn).ext e14.kn).ext e15.kn).ext e16.kn).ext e17.kn) (ndb (by intro e; cases e) (ndt (((((f0o0_0.ext e13.kn).ext e14.kn).ext e15.kn).ext e16.kn).ext e17.kn) (ndb (by intro e; cases e) (nde nd0))))))), ⟨_, _, _, _, _, _, _, _, _, rfl, rfl, (((((f0_1.ext e13.kn).ext e14.kn).ext e15.kn).ext e16.kn).ext e17.kn), (((((f0_2.ext e13.kn).ext e14.kn).ext e15.kn).ext e16.kn).ext e17.kn), (((((f0o0_0.ext e13.kn).ext e14.kn).ext e15.kn).ext e16.kn).ext e17.kn), (OC.some co18)⟩⟩)
theorem s_bst_Tree_goes {rc : RC} (hrc : RCok rc) {h : Heap} (hw : Wf h) (p0 : Obst_Tree) (p0o0 : Omem_Mem) (p1 : Obst_Call) (p3 : Int) (p4 : Clo) {bp0 : Nat} {q0_1 : Option Addr} {t0_1 : List Blk} {q0_2 : Option Addr} {t0_2 : List Blk} {bp0o0 : Nat} {q0o0_0 : Option Addr} {t0o0_0 : List Blk} {bp1 : Nat} {v1_4 : Value} {v4 : Value} (f0_1 : AccR R_Tbst_node 89 h t0_1 (.slice q0_1 p0.nodes.length p0.nodes.length) p0.nodes) (f0_2 : AccR R_Tbst_info 86 h t0_2 (.slice q0_2 p0.infos.length p0.infos.length) p0.infos) (f0o0_0 : AccR (RI_ .u64 29) 29 h t0o0_0 (.slice q0o0_0 p0o0.cells.length p0o0.cells.length) p0o0.cells) (c4 : CO h bp0 bp1 [] p4 v4) {r : (Option Clo) × Obst_Tree × Omem_Mem × Obst_Call} (hF : F_bst_Tree_goes rc p0 p0o0 p1 p3 p4 = some r) :
    EvO EE 98 [.pointer (some ⟨bp0, 0, none⟩), .int .i64 p3, v4] [[⟨bp0, .cells [.pointer (some ⟨bp0o0, 0, none⟩), .slice q0_1 p0.nodes.length p0.nodes.length, .slice q0_2 p0.infos.length p0.infos.length] 83⟩], t0_1, t0_2, [⟨bp0o0, .cells [.slice q0o0_0 p0o0.cells.length p0o0.cells.length, .int .i64 p0o0.count] 94⟩], t0o0_0, [⟨bp1, .cells [.bool p1.told_Ok, .string p1.told_Key, .int .u64 p1.told_Val, .int .i64 p1.told_Err, v1_4] 114⟩]] h (fun v S h1 => ∃ qy0_1 ty0_1 qy0_2 ty0_2 qy0o0_0 ty0o0_0 vy1_4 vr tr, v = vr ∧ S = [[⟨bp0, .cells [.pointer (some ⟨bp0o0, 0, none⟩), .slice qy0_1 r.2.1.nodes.length r.2.1.nodes.length, .slice qy0_2 r.2.1.infos.length r.2.1.infos.length] 83⟩], ty0_1, ty0_2, [⟨bp0o0, .cells [.slice qy0o0_0 r.2.2.1.cells.length r.2.2.1.cells.length, .int .i64 r.2.2.1.count] 94⟩], ty0o0_0, [⟨bp1, .cells [.bool r.2.2.2.told_Ok, .string r.2.2.2.told_Key, .int .u64 r.2.2.2.told_Val, .int .i64 r.2.2.2.told_Err, vy1_4] 114⟩], tr] ∧ AccR R_Tbst_node 89 h1 ty0_1 (.slice qy0_1 r.2.1.nodes.length r.2.1.nodes.length) r.2.1.nodes ∧ AccR R_Tbst_info 86 h1 ty0_2 (.slice qy0_2 r.2.1.infos.length r.2.1.infos.length) r.2.1.infos ∧ AccR (RI_ .u64 29) 29 h1 ty0o0_0 (.slice qy0o0_0 r.2.2.1.cells.length r.2.2.1.cells.length) r.2.2.1.cells ∧ OC h1 bp0 bp1 tr r.1 vr) := by
  unfold F_bst_Tree_goes at hF
  refine evo_of rfl at_98 rfl rfl ?_
  refine go_seq ?_
  refine go_region ?_
  refine gs_box rfl (ot rfl) rfl ?_; intro b3_6
  refine gs_box rfl (ot rfl) rfl ?_; intro b4_7
  refine gs_box rfl (ot rfl) (CO.one c4) ?_; intro b5_8
  refine gAc rfl rfl ?_
  refine go_nil ?_
  refine go_seq ?_
  refine go_regA1 (L := [(0, []), (1, []), (2, []), (3, []), (4, []), (5, []), (6, []), (7, []), (8, [])]) (by kernel_rfl) (by kernel_rfl) (fun _ => rfl) ?_; intro b7_9
  refine go_sop rfl rfl ?_
  refine gr rfl (r_load (ot rfl) (lm_s (mem_seg 3 rfl) ag_24 rfl)) ?_
  refine go_nil ?_
  refine go_sop rfl rfl ?_
  refine gr rfl (r_nilck (ot rfl)) ?_
  refine go_nil ?_
  refine go_sop rfl rfl ?_
  refine gr rfl (r_fa (ot rfl) (fa_83_2 _ _)) ?_
  refine go_nil ?_
  refine go_sop rfl rfl ?_
  refine gr rfl (r_load (ot rfl) (lm_s (mem_seg 4 rfl) ag_81 rfl)) ?_
  refine go_nil ?_
  refine go_sop rfl rfl ?_
  refine gr rfl (r_load (ot rfl) (lm_s (mem_seg 2 rfl) ag_3 rfl)) ?_
  refine go_nil ?_
  refine go_sop rfl rfl ?_
  replace hF := obind hF
  obtain ⟨x10, hx10, hF⟩ := hF
  obtain ⟨bb10, rw10, row10, hp10, ht10, hR10, hw10, rc10, hz10, hi10, hd10, hb10, hl10⟩ := AccR.at_ f0_2 hx10
  have hF10_ := hF
  subst hp10; subst ht10
  replace hF := hF10_
  obtain rfl := rc10
  refine gr rfl (r_ia (ot rfl) (ot rfl) (ia_acc (k := 5) ut_81 sz_86 hz10 hi10)) ?_
  refine go_nil ?_
  refine go_sop rfl rfl ?_
  refine gr rfl (r_load (ot rfl) (lm_a (vs := [.int .i64 x10.grand, .int .i64 x10.parent, .int .i64 x10.leaf, .int .i64 x10.next, .int .u64 x10.was]) (mem_seg 6 rfl) ag_86 sz_86 (Nat.ble_eq_true_of_le hb10) hd10)) ?_
  refine go_nil ?_
  refine go_salloc rfl rfl rfl zo_86 rfl .z ?_
  refine go_sop rfl rfl ?_
  refine gs_store (ot rfl) (ot rfl) sz_86 rfl rfl rfl rfl rfl .z ?_
  refine go_nil ?_
  refine go_snil ?_
  refine go_seq ?_
  refine go_region ?_
  refine gr rfl (r_func os0 (os1 (ot rfl) (os1 (ot rfl) (os1 (ot rfl) (os1 (ot rfl) os0))))) ?_
  refine gs_alloc rfl zo_165 rfl ?_; intro b8_11
  refine gs_store (ot rfl) (ot rfl) sz_165 rfl rfl rfl rfl rfl .z ?_
  refine go_nil ?_
  refine go_seq ?_
  refine go_region ?_
  refine gr rfl (r_func os0 (os1 (ot rfl) (os1 (ot rfl) (os1 (ot rfl) os0)))) ?_
  refine gA rfl rfl ?_
  refine go_nil ?_
  refine gs_pub (.s (.s (.s (.s (.z))))) (fun h12 e12 w12 hb12 => ?_)
  have g12_ : BK h12 b3_6 [.pointer (some ⟨bp0, 0, none⟩)] 24 := hb12
  refine gs_pub (.s (.z)) (fun h13 e13 w13 hb13 => ?_)
  have g13_ : BK h13 b7_9 [.int .i64 x10.grand, .int .i64 x10.parent, .int .i64 x10.leaf, .int .i64 x10.next, .int .u64 x10.was] 86 := hb13
  refine gs_pub (.s (.s (.z))) (fun h14 e14 w14 hb14 => ?_)
  have g14_ : BK h14 b4_7 [.int .i64 p3] 3 := hb14
  refine gs_pub (.s (.z)) (fun h15 e15 w15 hb15 => ?_)
  have g15_ : BK h15 b5_8 [v4] 101 := hb15
  have co16 : CO h15 bp0 bp1 [] (Clo.c_goes_1 x10 p3 p4) (.func (.func 117) #[] #[.pointer (some ⟨b3_6, 0, none⟩), .pointer (some ⟨b7_9, 0, none⟩), .pointer (some ⟨b4_7, 0, none⟩), .pointer (some ⟨b5_8, 0, none⟩)]) := CO.c_goes_1 (((g12_.ext e13.kn).ext e14.kn).ext e15.kn) ((g13_.ext e14.kn).ext e15.kn) (g14_.ext e15.kn) g15_ ((((c4.ext e12.kn).ext e13.kn).ext e14.kn).ext e15.kn)
  refine gs_pub .z (fun h17 e17 w17 hb17 => ?_)
  have g17_ : BK h17 b8_11 [(.func (.func 117) #[] #[.pointer (some ⟨b3_6, 0, none⟩), .pointer (some ⟨b7_9, 0, none⟩), .pointer (some ⟨b4_7, 0, none⟩), .pointer (some ⟨b5_8, 0, none⟩)])] 165 := hb17
  have co18 : CO h17 bp0 bp1 [] (Clo.c_goes_2 x10 (Clo.c_goes_1 x10 p3 p4)) (.func (.func 119) #[] #[.pointer (some ⟨b3_6, 0, none⟩), .pointer (some ⟨b7_9, 0, none⟩), .pointer (some ⟨b8_11, 0, none⟩)]) := CO.c_goes_2 ((((g12_.ext e13.kn).ext e14.kn).ext e15.kn).ext e17.kn) (((g13_.ext e14.kn).ext e15.kn).ext e17.kn) g17_ (co16.ext e17.kn)
  obtain rfl := someI hF
  exact g_ret (rst rfl rs0) (fun h1 hf hs => ⟨[[⟨bp0, .cells [.pointer (some ⟨bp0o0, 0, none⟩), .slice q0_1 p0.nodes.length p0.nodes.length, .slice (some ⟨bb10, 0, some 0⟩) p0.infos.length p0.infos.length] 83⟩], t0_1, [⟨bb10, .cells rw10.flatten 86⟩], [⟨bp0o0, .cells [.slice q0o0_0 p0o0.cells.length p0o0.cells.length, .int .i64 p0o0.count] 94⟩], t0o0_0, [⟨bp1, .cells [.bool p1.told_Ok, .string p1.told_Key, .int .u64 p1.told_Val, .int .i64 p1.told_Err, v1_4] 114⟩], []], _, hf, (e12.trans (e13.trans (e14.trans (e15.trans e17)))), w17, hs, (ndb (by intro e; cases e) (ndt (((((f0_1.ext e12.kn).ext e13.kn).ext e14.kn).ext e15.kn).ext e17.kn) (ndt (((((f0_2.ext e12.kn).ext e13.kn).ext e14.kn).ext e15.kn).ext e17.kn) (ndb (by intro e; cases e) (ndt (((((f0o0_0.ext e12.kn).ext e13.kn).ext e14.kn).ext e15.kn).ext e17.kn) (ndb (by intro e; cases e) (nde nd0))))))), ⟨_, _, _, _, _, _, _, _, _, rfl, rfl, (((((f0_1.ext e12.kn).ext e13.kn).ext e14.kn).ext e15.kn).ext e17.kn), (((((f0_2.ext e12.kn).ext e13.kn).ext e14.kn).ext e15.kn).ext e17.kn), (((((f0o0_0.ext e12.kn).ext e13.kn).ext e14.kn).ext e15.kn).ext e17.kn), (OC.some co18)⟩⟩)
theorem s_bst_Tree_help {rc : RC} (hrc : RCok rc) {h : Heap} (hw : Wf h) (p0 : Obst_Tree) (p0o0 : Omem_Mem) (p1 : Obst_Call) (p3 : Int) (p4 : Clo) {bp0 : Nat} {q0_1 : Option Addr} {t0_1 : List Blk} {q0_2 : Option Addr} {t0_2 : List Blk} {bp0o0 : Nat} {q0o0_0 : Option Addr} {t0o0_0 : List Blk} {bp1 : Nat} {v1_4 : Value} {v4 : Value} (f0_1 : AccR R_Tbst_node 89 h t0_1 (.slice q0_1 p0.nodes.length p0.nodes.length) p0.nodes) (f0_2 : AccR R_Tbst_info 86 h t0_2 (.slice q0_2 p0.infos.length p0.infos.length) p0.infos) (f0o0_0 : AccR (RI_ .u64 29) 29 h t0o0_0 (.slice q0o0_0 p0o0.cells.length p0o0.cells.length) p0o0.cells) (c4 : CO h bp0 bp1 [] p4 v4) {r : (Option Clo) × Obst_Tree × Omem_Mem × Obst_Call} (hF : F_bst_Tree_help rc p0 p0o0 p1 p3 p4 = some r) :
    EvO EE 77 [.pointer (some ⟨bp0, 0, none⟩), .int .u64 p3, v4] [[⟨bp0, .cells [.pointer (some ⟨bp0o0, 0, none⟩), .slice q0_1 p0.nodes.length p0.nodes.length, .slice q0_2 p0.infos.length p0.infos.length] 83⟩], t0_1, t0_2, [⟨bp0o0, .cells [.slice q0o0_0 p0o0.cells.length p0o0.cells.length, .int .i64 p0o0.count] 94⟩], t0o0_0, [⟨bp1, .cells [.bool p1.told_Ok, .string p1.told_Key, .int .u64 p1.told_Val, .int .i64 p1.told_Err, v1_4] 114⟩]] h (fun v S h1 => ∃ qy0_1 ty0_1 qy0_2 ty0_2 qy0o0_0 ty0o0_0 vy1_4 vr tr, v = vr ∧ S = [[⟨bp0, .cells [.pointer (some ⟨bp0o0, 0, none⟩), .slice qy0_1 r.2.1.nodes.length r.2.1.nodes.length, .slice qy0_2 r.2.1.infos.length r.2.1.infos.length] 83⟩], ty0_1, ty0_2, [⟨bp0o0, .cells [.slice qy0o0_0 r.2.2.1.cells.length r.2.2.1.cells.length, .int .i64 r.2.2.1.count] 94⟩], ty0o0_0, [⟨bp1, .cells [.bool r.2.2.2.told_Ok, .string r.2.2.2.told_Key, .int .u64 r.2.2.2.told_Val, .int .i64 r.2.2.2.told_Err, vy1_4] 114⟩], tr] ∧ AccR R_Tbst_node 89 h1 ty0_1 (.slice qy0_1 r.2.1.nodes.length r.2.1.nodes.length) r.2.1.nodes ∧ AccR R_Tbst_info 86 h1 ty0_2 (.slice qy0_2 r.2.1.infos.length r.2.1.infos.length) r.2.1.infos ∧ AccR (RI_ .u64 29) 29 h1 ty0o0_0 (.slice qy0o0_0 r.2.2.1.cells.length r.2.2.1.cells.length) r.2.2.1.cells ∧ OC h1 bp0 bp1 tr r.1 vr) := by
  unfold F_bst_Tree_help at hF
  refine evo_of rfl at_77 rfl rfl ?_
  refine go_seq ?_
  refine go_region ?_
  refine gs_box rfl (ot rfl) (CO.one c4) ?_; intro b5_6
  refine gAc rfl rfl ?_
  refine go_nil ?_
  refine go_seq ?_
  refine go_region ?_
  refine gM rfl rfl ?_
  replace hF := obind hF
  obtain ⟨x7, hx7, hF⟩ := hF
  refine g_callp (v := .int .i64 x7) EE_fr rfl of (os1 (ot rfl) os0) hb_95 (fun _ => rfl) (fun hf kn w => by exact s_word_Info w p3  hx7) ?_
  refine gA rfl rfl ?_
  refine go_nil ?_
  refine go_seq ?_
  refine go_seq ?_
  refine go_region ?_
  refine gM rfl rfl ?_
  replace hF := obind hF
  obtain ⟨x8, hx8, hF⟩ := hF
  refine g_callp (v := .int .i64 x8) EE_fr rfl of (os1 (ot rfl) os0) hb_76 (fun _ => rfl) (fun hf kn w => by exact s_word_State w p3  hx8) ?_
  refine go_nil ?_
  refine go_block ?_
  refine go_seq ?_
  refine go_region ?_
  refine gr rfl (r_bin (ot rfl) (oc rfl) rfl) ?_
  refine gA rfl rfl ?_
  refine go_nil ?_
  refine g_cond (b := (x8 == 1)) (ot rfl) (fun hc9 => ?_) (fun hc9 => ?_)
  ·
    replace hF := ifT hc9 hF
    refine go_seq ?_
    refine go_region ?_
    refine gM rfl rfl ?_
    refine gM rfl rfl ?_
    refine gr rfl (r_load (ot rfl) (lm_s (mem_seg 0 rfl) ag_101 rfl)) ?_
    replace hF := obind hF
    obtain ⟨x10, hx10, hF⟩ := hF
    refine gs_call EE_fr hw (.cons (.s (.z)) (.cons (.s (.z)) (.cons (.s (.z)) (.cons (.s (.z)) (.cons (.s (.z)) (.cons (.s (.z)) .nil)))))) (fun _ h => by cases h; rfl) of (os1 (ot rfl) (os1 (ot rfl) (os1 (ot rfl) os0))) hb_96 (by exact s_bst_Tree_grows hrc hw p0 p0o0 p1 x7 p4 f0_1 f0_2 f0o0_0 c4 hx10) ?_
    rintro v10 S10 h10 e10 w10 ⟨q10_y0_1, t10_y0_1, q10_y0_2, t10_y0_2, q10_y0o0_0, t10_y0o0_0, v10_y1_4, v10_r, t10_r, rfl, rfl, f10_0, f10_1, f10_2, f10_3⟩
    simp only [List.cons_append, List.nil_append]
    refine gA rfl rfl ?_
    refine go_nil ?_
    obtain rfl := someI hF
    refine gs_sub (.cons_cons _ (.cons_cons _ (.cons_cons _ (.cons_cons _ (.cons_cons _ (.cons_cons _ (.cons_cons _ (.cons _ (.refl _))))))))) ?_
    exact g_ret (rst rfl rs0) (fun h1 hf hs => ⟨[[⟨bp0, .cells [.pointer (some ⟨bp0o0, 0, none⟩), .slice q10_y0_1 x10.2.1.nodes.length x10.2.1.nodes.length, .slice q10_y0_2 x10.2.1.infos.length x10.2.1.infos.length] 83⟩], t10_y0_1, t10_y0_2, [⟨bp0o0, .cells [.slice q10_y0o0_0 x10.2.2.1.cells.length x10.2.2.1.cells.length, .int .i64 x10.2.2.1.count] 94⟩], t10_y0o0_0, [⟨bp1, .cells [.bool x10.2.2.2.told_Ok, .string x10.2.2.2.told_Key, .int .u64 x10.2.2.2.told_Val, .int .i64 x10.2.2.2.told_Err, v10_y1_4] 114⟩], t10_r], _, hf, e10, w10, hs, (ndb (by intro e; cases e) (ndt f10_0 (ndt f10_1 (ndb (by intro e; cases e) (ndt f10_2 (ndb (by intro e; cases e) (ndc f10_3 nd0))))))), ⟨_, _, _, _, _, _, _, _, _, rfl, rfl, f10_0, f10_1, f10_2, f10_3⟩⟩)
  ·
    replace hF := ifF hc9 hF
    refine go_seq ?_
    refine go_region ?_
    refine gr rfl (r_bin (ot rfl) (oc rfl) rfl) ?_
    refine gA rfl rfl ?_
    refine go_nil ?_
    refine g_cond (b := (x8 == 2)) (ot rfl) (fun hc11 => ?_) (fun hc11 => ?_)
    ·
      replace hF := ifT hc11 hF
      refine go_seq ?_
      refine go_region ?_
      refine gM rfl rfl ?_
      refine gM rfl rfl ?_
      refine gr rfl (r_func os0 (os1 (ot rfl) os0)) ?_
      refine gs_pub .z (fun h13 e13 w13 hb13 => ?_)
      have g13_ : BK h13 b5_6 [v4] 101 := hb13
      have co14 : CO h13 bp0 bp1 [] (Clo.c_help_1 p4) (.func (.func 97) #[] #[.pointer (some ⟨b5_6, 0, none⟩)]) := CO.c_help_1 g13_ (c4.ext e13.kn)
      replace hF := obind hF
      obtain ⟨x12, hx12, hF⟩ := hF
      refine gs_call EE_fr w13 (.cons .z (.cons .z (.cons .z (.cons .z (.cons .z (.cons .z .nil)))))) (fun _ h => by cases h; rfl) of (os1 (ot rfl) (os1 (ot rfl) (os1 (ot rfl) os0))) hb_90 (by exact s_bst_Tree_loses hrc w13 p0 p0o0 p1 x7 (Clo.c_help_1 p4) (f0_1.ext e13.kn) (f0_2.ext e13.kn) (f0o0_0.ext e13.kn) co14 hx12) ?_
      rintro v12 S12 h12 e12 w12 ⟨q12_y0_1, t12_y0_1, q12_y0_2, t12_y0_2, q12_y0o0_0, t12_y0o0_0, v12_y1_4, v12_r, t12_r, rfl, rfl, f12_0, f12_1, f12_2, f12_3⟩
      simp only [List.cons_append, List.nil_append]
      refine gA rfl rfl ?_
      refine go_nil ?_
      obtain rfl := someI hF
      exact g_ret (rst rfl rs0) (fun h1 hf hs => ⟨[[⟨bp0, .cells [.pointer (some ⟨bp0o0, 0, none⟩), .slice q12_y0_1 x12.2.1.nodes.length x12.2.1.nodes.length, .slice q12_y0_2 x12.2.1.infos.length x12.2.1.infos.length] 83⟩], t12_y0_1, t12_y0_2, [⟨bp0o0, .cells [.slice q12_y0o0_0 x12.2.2.1.cells.length x12.2.2.1.cells.length, .int .i64 x12.2.2.1.count] 94⟩], t12_y0o0_0, [⟨bp1, .cells [.bool x12.2.2.2.told_Ok, .string x12.2.2.2.told_Key, .int .u64 x12.2.2.2.told_Val, .int .i64 x12.2.2.2.told_Err, v12_y1_4] 114⟩], t12_r], _, hf, (e13.trans e12), w12, hs, (ndb (by intro e; cases e) (ndt f12_0 (ndt f12_1 (ndb (by intro e; cases e) (ndt f12_2 (ndb (by intro e; cases e) (ndc f12_3 nd0))))))), ⟨_, _, _, _, _, _, _, _, _, rfl, rfl, f12_0, f12_1, f12_2, f12_3⟩⟩)
    ·
      replace hF := ifF hc11 hF
      refine go_seq ?_
      refine go_region ?_
      refine gr rfl (r_bin (ot rfl) (oc rfl) rfl) ?_
      refine gA rfl rfl ?_
      refine go_nil ?_
      refine g_cond (b := (x8 == 3)) (ot rfl) (fun hc15 => ?_) (fun hc15 => ?_)
      ·
        replace hF := ifT hc15 hF
        refine go_seq ?_
        refine go_region ?_
        refine gM rfl rfl ?_
        refine gM rfl rfl ?_
        refine gr rfl (r_load (ot rfl) (lm_s (mem_seg 0 rfl) ag_101 rfl)) ?_
        replace hF := obind hF
        obtain ⟨x16, hx16, hF⟩ := hF
        refine gs_call EE_fr hw (.cons (.s (.z)) (.cons (.s (.z)) (.cons (.s (.z)) (.cons (.s (.z)) (.cons (.s (.z)) (.cons (.s (.z)) .nil)))))) (fun _ h => by cases h; rfl) of (os1 (ot rfl) (os1 (ot rfl) (os1 (ot rfl) os0))) hb_98 (by exact s_bst_Tree_goes hrc hw p0 p0o0 p1 x7 p4 f0_1 f0_2 f0o0_0 c4 hx16) ?_
        rintro v16 S16 h16 e16 w16 ⟨q16_y0_1, t16_y0_1, q16_y0_2, t16_y0_2, q16_y0o0_0, t16_y0o0_0, v16_y1_4, v16_r, t16_r, rfl, rfl, f16_0, f16_1, f16_2, f16_3⟩
        simp only [List.cons_append, List.nil_append]
        refine gA rfl rfl ?_
        refine go_nil ?_
        obtain rfl := someI hF
        refine gs_sub (.cons_cons _ (.cons_cons _ (.cons_cons _ (.cons_cons _ (.cons_cons _ (.cons_cons _ (.cons_cons _ (.cons _ (.refl _))))))))) ?_
        exact g_ret (rst rfl rs0) (fun h1 hf hs => ⟨[[⟨bp0, .cells [.pointer (some ⟨bp0o0, 0, none⟩), .slice q16_y0_1 x16.2.1.nodes.length x16.2.1.nodes.length, .slice q16_y0_2 x16.2.1.infos.length x16.2.1.infos.length] 83⟩], t16_y0_1, t16_y0_2, [⟨bp0o0, .cells [.slice q16_y0o0_0 x16.2.2.1.cells.length x16.2.2.1.cells.length, .int .i64 x16.2.2.1.count] 94⟩], t16_y0o0_0, [⟨bp1, .cells [.bool x16.2.2.2.told_Ok, .string x16.2.2.2.told_Key, .int .u64 x16.2.2.2.told_Val, .int .i64 x16.2.2.2.told_Err, v16_y1_4] 114⟩], t16_r], _, hf, e16, w16, hs, (ndb (by intro e; cases e) (ndt f16_0 (ndt f16_1 (ndb (by intro e; cases e) (ndt f16_2 (ndb (by intro e; cases e) (ndc f16_3 nd0))))))), ⟨_, _, _, _, _, _, _, _, _, rfl, rfl, f16_0, f16_1, f16_2, f16_3⟩⟩)
      ·
        replace hF := ifF hc15 hF
        refine go_skip ?_
        refine go_endb ?_
        refine go_seq ?_
        refine go_region ?_
        refine gr rfl (r_load (ot rfl) (lm_s (mem_seg 0 rfl) ag_101 rfl)) ?_
        replace hF := obind hF
        obtain ⟨x17, hx17, hF⟩ := hF
        refine gs_calld EE_fr hw (.cons (.s (.z)) (.cons (.s (.z)) (.cons (.s (.z)) (.cons (.s (.z)) (.cons (.s (.z)) (.cons (.s (.z)) (.emp .nil))))))) (fun _ h => by cases h; rfl) (ot rfl) os0 (by exact hrc hw p0 p0o0 p1 f0_1 f0_2 f0o0_0 p4 Arg.u [] c4 hx17) ?_
        rintro v17 S17 h17 e17 w17 ⟨q17_y0_1, t17_y0_1, q17_y0_2, t17_y0_2, q17_y0o0_0, t17_y0o0_0, v17_y1_4, v17_r, t17_r, rfl, rfl, f17_0, f17_1, f17_2, f17_3⟩
        simp only [List.cons_append, List.nil_append]
        refine gA rfl rfl ?_
        refine go_nil ?_
        obtain rfl := someI hF
        refine gs_sub (.cons_cons _ (.cons_cons _ (.cons_cons _ (.cons_cons _ (.cons_cons _ (.cons_cons _ (.cons_cons _ (.cons _ (.refl _))))))))) ?_
        exact g_ret (rst rfl rs0) (fun h1 hf hs => ⟨[[⟨bp0, .cells [.pointer (some ⟨bp0o0, 0, none⟩), .slice q17_y0_1 x17.2.1.nodes.length x17.2.1.nodes.length, .slice q17_y0_2 x17.2.1.infos.length x17.2.1.infos.length] 83⟩], t17_y0_1, t17_y0_2, [⟨bp0o0, .cells [.slice q17_y0o0_0 x17.2.2.1.cells.length x17.2.2.1.cells.length, .int .i64 x17.2.2.1.count] 94⟩], t17_y0o0_0, [⟨bp1, .cells [.bool x17.2.2.2.told_Ok, .string x17.2.2.2.told_Key, .int .u64 x17.2.2.2.told_Val, .int .i64 x17.2.2.2.told_Err, v17_y1_4] 114⟩], t17_r], _, hf, e17, w17, hs, (ndb (by intro e; cases e) (ndt f17_0 (ndt f17_1 (ndb (by intro e; cases e) (ndt f17_2 (ndb (by intro e; cases e) (ndc f17_3 nd0))))))), ⟨_, _, _, _, _, _, _, _, _, rfl, rfl, f17_0, f17_1, f17_2, f17_3⟩⟩)
theorem s_mem_Mem_add {h : Heap} (hw : Wf h) (p0 : Omem_Mem) (p1 : (List Int)) {bp0 : Nat} {q0_0 : Option Addr} {t0_0 : List Blk} {a1_0 : Option Addr} {c1_0 : Nat} (f0_0 : AccR (RI_ .u64 29) 29 h t0_0 (.slice q0_0 p0.cells.length p0.cells.length) p0.cells) (f1_0 : RL (RI_ .u64 29) h a1_0 c1_0 p1) {r : Omem_Mem} (hF : F_mem_Mem_add p0 p1 = some r) :
    EvO EE 68 [.pointer (some ⟨bp0, 0, none⟩), .slice a1_0 p1.length c1_0] [[⟨bp0, .cells [.slice q0_0 p0.cells.length p0.cells.length, .int .i64 p0.count] 94⟩], t0_0] h (fun v S h1 => ∃ qy0_0 ty0_0, v = .tuple #[] ∧ S = [[⟨bp0, .cells [.slice qy0_0 r.cells.length r.cells.length, .int .i64 r.count] 94⟩], ty0_0] ∧ AccR (RI_ .u64 29) 29 h1 ty0_0 (.slice qy0_0 r.cells.length r.cells.length) r.cells) := by
  unfold F_mem_Mem_add at hF
  refine evo_of rfl at_68 rfl rfl ?_
  refine go_region ?_
  refine gM rfl rfl ?_
  refine gM rfl rfl ?_
  refine gr rfl (r_nilck (ot rfl)) ?_
  refine gr rfl (r_fa (ot rfl) (fa_94_0 _ _)) ?_
  refine gr rfl (r_load (ot rfl) (lm_s (mem_seg 0 rfl) ag_92 rfl)) ?_
  refine gM rfl rfl ?_
  replace hF := obind hF
  obtain ⟨x3, hx3, hF⟩ := hF
  obtain ⟨hr3, hz3_⟩ := appL_some hx3; subst x3
  refine gs_front (.s (.z)) ?_
  obtain ⟨rw3, hw3, hq3⟩ := RL.first f1_0 (by decide)
  refine gs_app (rows2 := rw3) (R := (RI_ .u64 29)) rfl (os1 (ot rfl) (os1 (ot rfl) os0)) rfl ut_92 sz_29 rfl (by decide) by_29 zo_29 rfl zs_92_92 rfl rfl (first_e hq3 (fun h' kn => kn.firstV hq3)) hw3 f0_0 hr3 (fun p3_ tl3 f3_ => ?_)
  refine gr rfl (r_nilck (ot rfl)) ?_
  refine gr rfl (r_fa (ot rfl) (fa_94_0 _ _)) ?_
  refine gs_store (ot rfl) (ot rfl) sz_92 rfl rfl rfl rfl rfl (.s (.z)) ?_
  refine go_nil ?_
  obtain rfl := someI hF
  refine gs_perm (perm_of (d := []) _ [1, 0] rfl) ?_
  exact g_end rs0 (fun h1 hf hs => ⟨[[⟨bp0, .cells [.slice p3_ (p0.cells ++ p1).length (p0.cells ++ p1).length, .int .i64 p0.count] 94⟩], tl3], _, hf, (HExt.refl _), hw, hs, (ndb (by intro e; cases e) (ndt f3_ nd0)), ⟨_, _, rfl, rfl, f3_⟩⟩)
theorem s_mem_Mem_Grow {h : Heap} (hw : Wf h) (p0 : Omem_Mem) (p1 : Int) {bp0 : Nat} {q0_0 : Option Addr} {t0_0 : List Blk} (f0_0 : AccR (RI_ .u64 29) 29 h t0_0 (.slice q0_0 p0.cells.length p0.cells.length) p0.cells) {r : Int × Int × Omem_Mem} (hF : F_mem_Mem_Grow p0 p1 = some r) :
    EvO EE 38 [.pointer (some ⟨bp0, 0, none⟩), .int .i64 p1] [[⟨bp0, .cells [.slice q0_0 p0.cells.length p0.cells.length, .int .i64 p0.count] 94⟩], t0_0] h (fun v S h1 => ∃ qy0_0 ty0_0, v = .tuple #[.int .i64 r.1, .int .i64 r.2.1] ∧ S = [[⟨bp0, .cells [.slice qy0_0 r.2.2.cells.length r.2.2.cells.length, .int .i64 r.2.2.count] 94⟩], ty0_0] ∧ AccR (RI_ .u64 29) 29 h1 ty0_0 (.slice qy0_0 r.2.2.cells.length r.2.2.cells.length) r.2.2.cells) := by
  unfold F_mem_Mem_Grow at hF
  refine evo_of rfl at_38 rfl rfl ?_
  refine go_seq ?_
  refine go_region ?_
  refine gAc rfl rfl ?_
  refine gAc rfl rfl ?_
  refine go_nil ?_
  refine go_seq ?_
  refine go_block ?_
  refine go_seq ?_
  refine go_region ?_
  refine gM rfl rfl ?_
  refine gr rfl (r_bin (v := .bool false) (ot rfl) (oc rfl) (by first | rfl | kernel_rfl)) ?_
  refine gA rfl rfl ?_
  refine go_nil ?_
  refine g_cond (b := false) (ot rfl) (fun hc3 => ?_) (fun hc3 => ?_)
  · cases hc3
  refine go_seq ?_
  refine go_region ?_
  refine gM rfl rfl ?_
  refine gr rfl (r_bin (ot rfl) (oc rfl) rfl) ?_
  refine gM rfl rfl ?_
  replace hF := obind hF
  obtain ⟨s5, hF, hK5⟩ := hF
  refine go_joinr 9 (β := Unit) (fun s h' => True) (fun s => [(0, true, .pointer (some ⟨bp0, 0, none⟩)), (1, true, .int .i64 p1), (4, true, .int .i64 0), (5, true, .int .i64 0), (22, true, .bool s5)]) (fun s => (List.flatten [[⟨bp0, .cells [.slice q0_0 p0.cells.length p0.cells.length, .int .i64 p0.count] 94⟩], t0_0] : List Blk)) ?_ (fun J5 => ?_)
  ·
    rintro _ h5 e5 w5 _
    replace hF := hK5
    refine gA rfl rfl ?_
    refine go_nil ?_
    refine g_cond (b := s5) (ot rfl) (fun hc6 => ?_) (fun hc6 => ?_)
    ·
      replace hF := ifT hc6 hF
      refine go_seq ?_
      refine go_region ?_
      refine gAc rfl rfl ?_
      refine gAc rfl rfl ?_
      refine go_nil ?_
      obtain rfl := someI hF
      exact g_ret (rst rfl (rst rfl rs0)) (fun h1 hf hs => ⟨[[⟨bp0, .cells [.slice q0_0 p0.cells.length p0.cells.length, .int .i64 p0.count] 94⟩], t0_0], _, hf, e5, w5, hs, (ndb (by intro e; cases e) (ndt (f0_0.ext e5.kn) nd0)), ⟨_, _, rfl, rfl, (f0_0.ext e5.kn)⟩⟩)
    ·
      replace hF := ifF hc6 hF
      refine go_skip ?_
      refine go_endb ?_
      refine go_seq ?_
      refine go_region ?_
      refine gM rfl rfl ?_
      refine gr rfl (r_nilck (ot rfl)) ?_
      refine gr rfl (r_fa (ot rfl) (fa_94_0 _ _)) ?_
      refine gr rfl (r_load (ot rfl) (lm_s (mem_seg 0 rfl) ag_92 rfl)) ?_
      refine gr rfl (r_len rfl (os1 (ot rfl) os0) (fun _ _ => ln_92)) ?_
      refine gA rfl rfl ?_
      refine go_nil ?_
      refine go_seq ?_
      refine go_region ?_
      refine gM rfl rfl ?_
      refine gM rfl rfl ?_
      replace hF := obind hF
      obtain ⟨x7, hx7, hF⟩ := hF
      refine gs_mkz .u64 rfl hx7 (ot rfl) (ot rfl) ut_92 sz_29 by_29 (by decide) zo_29 (fun b7_ h7 e7 w7 f7_ => ?_)
      replace hF := obind hF
      obtain ⟨x8, hx8, hF⟩ := hF
      refine gs_call EE_fr w7 (.cons .z (.cons .z .nil)) (fun _ h => by cases h; rfl) of (os1 (ot rfl) (os1 (ot rfl) os0)) hb_68 (by exact s_mem_Mem_add w7 p0 x7 ((f0_0.ext e5.kn).ext e7.kn) f7_ hx8) ?_
      rintro v8 S8 h8 e8 w8 ⟨q8_y0_0, t8_y0_0, rfl, rfl, f8_0⟩
      simp only [List.cons_append, List.nil_append]
      refine go_nil ?_
      refine go_seq ?_
      refine go_region ?_
      refine gM rfl rfl ?_
      refine gA rfl rfl ?_
      refine gAc rfl rfl ?_
      refine go_nil ?_
      obtain rfl := someI hF
      exact g_ret (rst rfl (rst rfl rs0)) (fun h1 hf hs => ⟨[[⟨bp0, .cells [.slice q8_y0_0 x8.cells.length x8.cells.length, .int .i64 x8.count] 94⟩], t8_y0_0], _, hf, (e5.trans (e7.trans e8)), w8, hs, (ndb (by intro e; cases e) (ndt f8_0 nd0)), ⟨_, _, rfl, rfl, f8_0⟩⟩)
  ·
    rcases Bool.eq_false_or_eq_true (decide (p1 < 0)) with hb4 | hb4
    ·
      replace hF := ifT hb4 hF
      refine go_re 13 (v2 := .bool true) rfl (congrArg Value.bool hb4) ?_
      refine g_no rfl rfl rfl rfl rfl ?_
      refine g_no rfl rfl rfl rfl rfl ?_
      refine g_no rfl rfl rfl rfl rfl ?_
      refine g_no rfl rfl rfl rfl rfl ?_
      refine g_no rfl rfl rfl rfl rfl ?_
      refine g_no rfl rfl rfl rfl rfl ?_
      refine g_no rfl rfl rfl rfl rfl ?_
      refine g_no rfl rfl rfl rfl rfl ?_
      refine gr rfl (r_pkT (ot rfl) (oc rfl)) ?_
      obtain rfl := someI hF
      exact Goes.weak (J5 () _ (HExt.refl _) hw trivial) (Sub.cons (Sub.cons (Sub.cons (Sub.cons (Sub.cons (Sub.nil _) rfl) rfl) rfl) rfl) rfl)
    ·
      replace hF := ifF hb4 hF
      refine go_re 13 (v2 := .bool false) rfl (congrArg Value.bool hb4) ?_
      refine g_do rfl rfl rfl ?_
      refine gM rfl rfl ?_
      refine g_do rfl rfl rfl ?_
      refine gM rfl rfl ?_
      refine g_do rfl rfl rfl ?_
      refine gr rfl (r_nilck (ot rfl)) ?_
      refine g_do rfl rfl rfl ?_
      refine gr rfl (r_fa (ot rfl) (fa_94_0 _ _)) ?_
      refine g_do rfl rfl rfl ?_
      refine gr rfl (r_load (ot rfl) (lm_s (mem_seg 0 rfl) ag_92 rfl)) ?_
      refine g_do rfl rfl rfl ?_
      refine gr rfl (r_len rfl (os1 (ot rfl) os0) (fun _ _ => ln_92)) ?_
      refine g_do rfl rfl rfl ?_
      refine gr rfl (r_bin (oc rfl) (ot rfl) rfl) ?_
      refine g_do rfl rfl rfl ?_
      refine gr rfl (r_bin (ot rfl) (ot rfl) rfl) ?_
      refine gr rfl (r_pkF (ot rfl) (ot rfl)) ?_
      obtain rfl := someI hF
      exact Goes.weak (J5 () _ (HExt.refl _) hw trivial) (Sub.cons (Sub.cons (Sub.cons (Sub.cons (Sub.cons (Sub.nil _) rfl) rfl) rfl) rfl) rfl)
theorem s_bst_Tree_node {h : Heap} (hw : Wf h) (p0 : Obst_Tree) (p0o0 : Omem_Mem) (p1 : Tbst_node) {bp0 : Nat} {q0_1 : Option Addr} {t0_1 : List Blk} {q0_2 : Option Addr} {t0_2 : List Blk} {bp0o0 : Nat} {q0o0_0 : Option Addr} {t0o0_0 : List Blk} (f0_1 : AccR R_Tbst_node 89 h t0_1 (.slice q0_1 p0.nodes.length p0.nodes.length) p0.nodes) (f0_2 : AccR R_Tbst_info 86 h t0_2 (.slice q0_2 p0.infos.length p0.infos.length) p0.infos) (f0o0_0 : AccR (RI_ .u64 29) 29 h t0o0_0 (.slice q0o0_0 p0o0.cells.length p0o0.cells.length) p0o0.cells) {r : Int × Obst_Tree × Omem_Mem} (hF : F_bst_Tree_node p0 p0o0 p1 = some r) :
    EvO EE 40 [.pointer (some ⟨bp0, 0, none⟩), .agg #[.string p1.key, .int .i64 p1.top, .int .u64 p1.val, .int .i64 p1.cell]] [[⟨bp0, .cells [.pointer (some ⟨bp0o0, 0, none⟩), .slice q0_1 p0.nodes.length p0.nodes.length, .slice q0_2 p0.infos.length p0.infos.length] 83⟩], t0_1, t0_2, [⟨bp0o0, .cells [.slice q0o0_0 p0o0.cells.length p0o0.cells.length, .int .i64 p0o0.count] 94⟩], t0o0_0] h (fun v S h1 => ∃ qy0_1 ty0_1 qy0_2 ty0_2 qy0o0_0 ty0o0_0, v = .int .i64 r.1 ∧ S = [[⟨bp0, .cells [.pointer (some ⟨bp0o0, 0, none⟩), .slice qy0_1 r.2.1.nodes.length r.2.1.nodes.length, .slice qy0_2 r.2.1.infos.length r.2.1.infos.length] 83⟩], ty0_1, ty0_2, [⟨bp0o0, .cells [.slice qy0o0_0 r.2.2.cells.length r.2.2.cells.length, .int .i64 r.2.2.count] 94⟩], ty0o0_0] ∧ AccR R_Tbst_node 89 h1 ty0_1 (.slice qy0_1 r.2.1.nodes.length r.2.1.nodes.length) r.2.1.nodes ∧ AccR R_Tbst_info 86 h1 ty0_2 (.slice qy0_2 r.2.1.infos.length r.2.1.infos.length) r.2.1.infos ∧ AccR (RI_ .u64 29) 29 h1 ty0o0_0 (.slice qy0o0_0 r.2.2.cells.length r.2.2.cells.length) r.2.2.cells) := by
  unfold F_bst_Tree_node at hF
  refine evo_of rfl at_40 rfl rfl ?_
  refine go_seq ?_
  refine go_region ?_
  refine gs_box rfl (ot rfl) rfl ?_; intro b3_3
  refine gAc rfl rfl ?_
  refine go_nil ?_
  refine go_seq ?_
  refine go_regA1 (L := [(0, []), (1, []), (2, []), (3, []), (4, []), (5, []), (6, []), (7, []), (8, []), (9, []), (10, [])]) (by kernel_rfl) (by kernel_rfl) (fun _ => rfl) ?_; intro b11_4
  refine go_sop rfl rfl ?_
  refine gM rfl rfl ?_
  refine go_nil ?_
  refine go_sop rfl rfl ?_
  refine gM rfl rfl ?_
  refine go_nil ?_
  refine go_sop rfl rfl ?_
  refine gr rfl (r_nilck (ot rfl)) ?_
  refine go_nil ?_
  refine go_sop rfl rfl ?_
  refine gr rfl (r_fa (ot rfl) (fa_83_1 _ _)) ?_
  refine go_nil ?_
  refine go_sop rfl rfl ?_
  refine gr rfl (r_load (ot rfl) (lm_s (mem_seg 2 rfl) ag_80 rfl)) ?_
  refine go_nil ?_
  refine go_sop rfl rfl ?_
  refine gr rfl (r_load (ot rfl) (lm_w (mem_seg 1 rfl) ag_89 sz_89 rfl)) ?_
  refine go_nil ?_
  refine go_sbslice (cs := [.string p1.key, .int .i64 p1.top, .int .u64 p1.val, .int .i64 p1.cell]) rfl rfl rfl (op1 (ot rfl) op0) ut_80 sz_89 zo_89 rfl rfl .z ?_
  refine go_sop rfl rfl ?_
  replace hF := obind hF
  obtain ⟨x5, hx5, hF⟩ := hF
  obtain ⟨hr5, hz5_⟩ := appL_some hx5; subst x5
  refine gs_front (.s (.s (.s (.z)))) ?_
  refine gs_app (rows2 := [[.string p1.key, .int .i64 p1.top, .int .u64 p1.val, .int .i64 p1.cell]]) (R := R_Tbst_node) rfl (os1 (ot rfl) (os1 (ot rfl) os0)) rfl ut_80 sz_89 rfl (by decide) by_89 zo_89 rfl zs_80_80 rfl rfl (first_m (mem_seg 1 rfl) rfl (by decide)) (Rws.one (x := p1) rfl) f0_1 hr5 (fun p5_ tl5 f5_ => ?_)
  refine go_nil ?_
  refine go_sop rfl rfl ?_
  refine gr rfl (r_nilck (ot rfl)) ?_
  refine go_nil ?_
  refine go_sop rfl rfl ?_
  refine gr rfl (r_fa (ot rfl) (fa_83_1 _ _)) ?_
  refine go_nil ?_
  refine go_sop rfl rfl ?_
  refine gs_store (ot rfl) (ot rfl) sz_80 rfl rfl rfl rfl rfl (.s (.s (.s (.z)))) ?_
  refine go_nil ?_
  refine go_snil ?_
  refine go_seq ?_
  refine go_region ?_
  refine gM rfl rfl ?_
  refine gr rfl (r_nilck (ot rfl)) ?_
  refine gr rfl (r_fa (ot rfl) (fa_83_1 _ _)) ?_
  refine gr rfl (r_load (ot rfl) (lm_s (mem_seg 3 rfl) ag_80 rfl)) ?_
  refine gr rfl (r_len rfl (os1 (ot rfl) os0) (fun _ _ => ln_80)) ?_
  refine gr rfl (r_bin (ot rfl) (oc rfl) rfl) ?_
  refine gA rfl rfl ?_
  refine go_nil ?_
  obtain rfl := someI hF
  refine gs_sub (.cons_cons _ (.cons _ (.cons _ (.cons_cons _ (.cons_cons _ (.cons_cons _ (.cons_cons _ (.refl _)))))))) ?_
  refine gs_perm (perm_of (d := []) _ [1, 0, 2, 3, 4] rfl) ?_
  exact g_ret (rst rfl rs0) (fun h1 hf hs => ⟨[[⟨bp0, .cells [.pointer (some ⟨bp0o0, 0, none⟩), .slice p5_ (p0.nodes ++ ([p1] : List Tbst_node)).length (p0.nodes ++ ([p1] : List Tbst_node)).length, .slice q0_2 p0.infos.length p0.infos.length] 83⟩], tl5, t0_2, [⟨bp0o0, .cells [.slice q0o0_0 p0o0.cells.length p0o0.cells.length, .int .i64 p0o0.count] 94⟩], t0o0_0], _, hf, (HExt.refl _), hw, hs, (ndb (by intro e; cases e) (ndt f5_ (ndt f0_2 (ndb (by intro e; cases e) (ndt f0o0_0 nd0))))), ⟨_, _, _, _, _, _, rfl, rfl, f5_, f0_2, f0o0_0⟩⟩)
theorem s_bst_Tree_leaf {h : Heap} (hw : Wf h) (p0 : Obst_Tree) (p0o0 : Omem_Mem) (p1 : ByteArray) (p2 : Int) (p3 : Int) {bp0 : Nat} {q0_1 : Option Addr} {t0_1 : List Blk} {q0_2 : Option Addr} {t0_2 : List Blk} {bp0o0 : Nat} {q0o0_0 : Option Addr} {t0o0_0 : List Blk} (f0_1 : AccR R_Tbst_node 89 h t0_1 (.slice q0_1 p0.nodes.length p0.nodes.length) p0.nodes) (f0_2 : AccR R_Tbst_info 86 h t0_2 (.slice q0_2 p0.infos.length p0.infos.length) p0.infos) (f0o0_0 : AccR (RI_ .u64 29) 29 h t0o0_0 (.slice q0o0_0 p0o0.cells.length p0o0.cells.length) p0o0.cells) {r : Int × Obst_Tree × Omem_Mem} (hF : F_bst_Tree_leaf p0 p0o0 p1 p2 p3 = some r) :
    EvO EE 42 [.pointer (some ⟨bp0, 0, none⟩), .string p1, .int .i64 p2, .int .u64 p3] [[⟨bp0, .cells [.pointer (some ⟨bp0o0, 0, none⟩), .slice q0_1 p0.nodes.length p0.nodes.length, .slice q0_2 p0.infos.length p0.infos.length] 83⟩], t0_1, t0_2, [⟨bp0o0, .cells [.slice q0o0_0 p0o0.cells.length p0o0.cells.length, .int .i64 p0o0.count] 94⟩], t0o0_0] h (fun v S h1 => ∃ qy0_1 ty0_1 qy0_2 ty0_2 qy0o0_0 ty0o0_0, v = .int .i64 r.1 ∧ S = [[⟨bp0, .cells [.pointer (some ⟨bp0o0, 0, none⟩), .slice qy0_1 r.2.1.nodes.length r.2.1.nodes.length, .slice qy0_2 r.2.1.infos.length r.2.1.infos.length] 83⟩], ty0_1, ty0_2, [⟨bp0o0, .cells [.slice qy0o0_0 r.2.2.cells.length r.2.2.cells.length, .int .i64 r.2.2.count] 94⟩], ty0o0_0] ∧ AccR R_Tbst_node 89 h1 ty0_1 (.slice qy0_1 r.2.1.nodes.length r.2.1.nodes.length) r.2.1.nodes ∧ AccR R_Tbst_info 86 h1 ty0_2 (.slice qy0_2 r.2.1.infos.length r.2.1.infos.length) r.2.1.infos ∧ AccR (RI_ .u64 29) 29 h1 ty0o0_0 (.slice qy0o0_0 r.2.2.cells.length r.2.2.cells.length) r.2.2.cells) := by
  unfold F_bst_Tree_leaf at hF
  refine evo_of rfl at_42 rfl rfl ?_
  refine go_seq ?_
  refine go_region ?_
  refine gAc rfl rfl ?_
  refine go_nil ?_
  refine go_seq ?_
  refine go_region ?_
  refine gM rfl rfl ?_
  refine gM rfl rfl ?_
  refine gM rfl rfl ?_
  refine gM rfl rfl ?_
  refine gr rfl (r_build (op1 (ot rfl) (op1 (ot rfl) (op1 (ot rfl) (op1 (oc rfl) op0)))) rfl) ?_
  replace hF := obind hF
  obtain ⟨x5, hx5, hF⟩ := hF
  refine gs_call EE_fr hw (.cons .z (.cons .z (.cons .z (.cons .z (.cons .z .nil))))) (fun _ h => by cases h; rfl) of (os1 (ot rfl) (os1 (ot rfl) os0)) hb_40 (by exact s_bst_Tree_node hw p0 p0o0 (⟨p1, p2, p3, (-1)⟩ : Tbst_node) f0_1 f0_2 f0o0_0 hx5) ?_
  rintro v5 S5 h5 e5 w5 ⟨q5_y0_1, t5_y0_1, q5_y0_2, t5_y0_2, q5_y0o0_0, t5_y0o0_0, rfl, rfl, f5_0, f5_1, f5_2⟩
  simp only [List.cons_append, List.nil_append]
  refine gA rfl rfl ?_
  refine go_nil ?_
  obtain rfl := someI hF
  exact g_ret (rst rfl rs0) (fun h1 hf hs => ⟨[[⟨bp0, .cells [.pointer (some ⟨bp0o0, 0, none⟩), .slice q5_y0_1 x5.2.1.nodes.length x5.2.1.nodes.length, .slice q5_y0_2 x5.2.1.infos.length x5.2.1.infos.length] 83⟩], t5_y0_1, t5_y0_2, [⟨bp0o0, .cells [.slice q5_y0o0_0 x5.2.2.cells.length x5.2.2.cells.length, .int .i64 x5.2.2.count] 94⟩], t5_y0o0_0], _, hf, e5, w5, hs, (ndb (by intro e; cases e) (ndt f5_0 (ndt f5_1 (ndb (by intro e; cases e) (ndt f5_2 nd0))))), ⟨_, _, _, _, _, _, rfl, rfl, f5_0, f5_1, f5_2⟩⟩)
theorem s_bst_Tree_info {h : Heap} (hw : Wf h) (p0 : Obst_Tree) (p0o0 : Omem_Mem) (p1 : Tbst_info) {bp0 : Nat} {q0_1 : Option Addr} {t0_1 : List Blk} {q0_2 : Option Addr} {t0_2 : List Blk} {bp0o0 : Nat} {q0o0_0 : Option Addr} {t0o0_0 : List Blk} (f0_1 : AccR R_Tbst_node 89 h t0_1 (.slice q0_1 p0.nodes.length p0.nodes.length) p0.nodes) (f0_2 : AccR R_Tbst_info 86 h t0_2 (.slice q0_2 p0.infos.length p0.infos.length) p0.infos) (f0o0_0 : AccR (RI_ .u64 29) 29 h t0o0_0 (.slice q0o0_0 p0o0.cells.length p0o0.cells.length) p0o0.cells) {r : Int × Obst_Tree × Omem_Mem} (hF : F_bst_Tree_info p0 p0o0 p1 = some r) :
    EvO EE 39 [.pointer (some ⟨bp0, 0, none⟩), .agg #[.int .i64 p1.grand, .int .i64 p1.parent, .int .i64 p1.leaf, .int .i64 p1.next, .int .u64 p1.was]] [[⟨bp0, .cells [.pointer (some ⟨bp0o0, 0, none⟩), .slice q0_1 p0.nodes.length p0.nodes.length, .slice q0_2 p0.infos.length p0.infos.length] 83⟩], t0_1, t0_2, [⟨bp0o0, .cells [.slice q0o0_0 p0o0.cells.length p0o0.cells.length, .int .i64 p0o0.count] 94⟩], t0o0_0] h (fun v S h1 => ∃ qy0_1 ty0_1 qy0_2 ty0_2 qy0o0_0 ty0o0_0, v = .int .i64 r.1 ∧ S = [[⟨bp0, .cells [.pointer (some ⟨bp0o0, 0, none⟩), .slice qy0_1 r.2.1.nodes.length r.2.1.nodes.length, .slice qy0_2 r.2.1.infos.length r.2.1.infos.length] 83⟩], ty0_1, ty0_2, [⟨bp0o0, .cells [.slice qy0o0_0 r.2.2.cells.length r.2.2.cells.length, .int .i64 r.2.2.count] 94⟩], ty0o0_0] ∧ AccR R_Tbst_node 89 h1 ty0_1 (.slice qy0_1 r.2.1.nodes.length r.2.1.nodes.length) r.2.1.nodes ∧ AccR R_Tbst_info 86 h1 ty0_2 (.slice qy0_2 r.2.1.infos.length r.2.1.infos.length) r.2.1.infos ∧ AccR (RI_ .u64 29) 29 h1 ty0o0_0 (.slice qy0o0_0 r.2.2.cells.length r.2.2.cells.length) r.2.2.cells) := by
  unfold F_bst_Tree_info at hF
  refine evo_of rfl at_39 rfl rfl ?_
  refine go_seq ?_
  refine go_region ?_
  refine gs_box rfl (ot rfl) rfl ?_; intro b3_3
  refine gAc rfl rfl ?_
  refine go_nil ?_
  refine go_seq ?_
  refine go_regA1 (L := [(0, []), (1, []), (2, []), (3, []), (4, []), (5, []), (6, []), (7, []), (8, []), (9, []), (10, [])]) (by kernel_rfl) (by kernel_rfl) (fun _ => rfl) ?_; intro b11_4
  refine go_sop rfl rfl ?_
  refine gM rfl rfl ?_
  refine go_nil ?_
  refine go_sop rfl rfl ?_
  refine gM rfl rfl ?_
  refine go_nil ?_
  refine go_sop rfl rfl ?_
  refine gr rfl (r_nilck (ot rfl)) ?_
  refine go_nil ?_
  refine go_sop rfl rfl ?_
  refine gr rfl (r_fa (ot rfl) (fa_83_2 _ _)) ?_
  refine go_nil ?_
  refine go_sop rfl rfl ?_
  refine gr rfl (r_load (ot rfl) (lm_s (mem_seg 2 rfl) ag_81 rfl)) ?_
  refine go_nil ?_
  refine go_sop rfl rfl ?_
  refine gr rfl (r_load (ot rfl) (lm_w (mem_seg 1 rfl) ag_86 sz_86 rfl)) ?_
  refine go_nil ?_
  refine go_sbslice (cs := [.int .i64 p1.grand, .int .i64 p1.parent, .int .i64 p1.leaf, .int .i64 p1.next, .int .u64 p1.was]) rfl rfl rfl (op1 (ot rfl) op0) ut_81 sz_86 zo_86 rfl rfl .z ?_
  refine go_sop rfl rfl ?_
  replace hF := obind hF
  obtain ⟨x5, hx5, hF⟩ := hF
  obtain ⟨hr5, hz5_⟩ := appL_some hx5; subst x5
  refine gs_front (.s (.s (.s (.s (.z))))) ?_
  refine gs_app (rows2 := [[.int .i64 p1.grand, .int .i64 p1.parent, .int .i64 p1.leaf, .int .i64 p1.next, .int .u64 p1.was]]) (R := R_Tbst_info) rfl (os1 (ot rfl) (os1 (ot rfl) os0)) rfl ut_81 sz_86 rfl (by decide) by_86 zo_86 rfl zs_81_81 rfl rfl (first_m (mem_seg 1 rfl) rfl (by decide)) (Rws.one (x := p1) rfl) f0_2 hr5 (fun p5_ tl5 f5_ => ?_)
  refine go_nil ?_
  refine go_sop rfl rfl ?_
  refine gr rfl (r_nilck (ot rfl)) ?_
  refine go_nil ?_
  refine go_sop rfl rfl ?_
  refine gr rfl (r_fa (ot rfl) (fa_83_2 _ _)) ?_
  refine go_nil ?_
  refine go_sop rfl rfl ?_
  refine gs_store (ot rfl) (ot rfl) sz_81 rfl rfl rfl rfl rfl (.s (.s (.s (.z)))) ?_
  refine go_nil ?_
  refine go_snil ?_
  refine go_seq ?_
  refine go_region ?_
  refine gM rfl rfl ?_
  refine gr rfl (r_nilck (ot rfl)) ?_
  refine gr rfl (r_fa (ot rfl) (fa_83_2 _ _)) ?_
  refine gr rfl (r_load (ot rfl) (lm_s (mem_seg 3 rfl) ag_81 rfl)) ?_
  refine gr rfl (r_len rfl (os1 (ot rfl) os0) (fun _ _ => ln_81)) ?_
  refine gr rfl (r_bin (ot rfl) (oc rfl) rfl) ?_
  refine gA rfl rfl ?_
  refine go_nil ?_
  obtain rfl := someI hF
  refine gs_sub (.cons_cons _ (.cons _ (.cons _ (.cons_cons _ (.cons_cons _ (.cons_cons _ (.cons_cons _ (.refl _)))))))) ?_
  refine gs_perm (perm_of (d := []) _ [1, 2, 0, 3, 4] rfl) ?_
  exact g_ret (rst rfl rs0) (fun h1 hf hs => ⟨[[⟨bp0, .cells [.pointer (some ⟨bp0o0, 0, none⟩), .slice q0_1 p0.nodes.length p0.nodes.length, .slice p5_ (p0.infos ++ ([p1] : List Tbst_info)).length (p0.infos ++ ([p1] : List Tbst_info)).length] 83⟩], t0_1, tl5, [⟨bp0o0, .cells [.slice q0o0_0 p0o0.cells.length p0o0.cells.length, .int .i64 p0o0.count] 94⟩], t0o0_0], _, hf, (HExt.refl _), hw, hs, (ndb (by intro e; cases e) (ndt f0_1 (ndt f5_ (ndb (by intro e; cases e) (ndt f0o0_0 nd0))))), ⟨_, _, _, _, _, _, rfl, rfl, f0_1, f5_, f0o0_0⟩⟩)
theorem s_bst_Tree_grow {rc : RC} (hrc : RCok rc) {h : Heap} (hw : Wf h) (p0 : Obst_Tree) (p0o0 : Omem_Mem) (p1 : Obst_Call) (p4 : Tbst_node) (p5 : Tbst_seen) (p6 : Int) {bp0 : Nat} {q0_1 : Option Addr} {t0_1 : List Blk} {q0_2 : Option Addr} {t0_2 : List Blk} {bp0o0 : Nat} {q0o0_0 : Option Addr} {t0o0_0 : List Blk} {bp1 : Nat} {v1_4 : Value} (f0_1 : AccR R_Tbst_node 89 h t0_1 (.slice q0_1 p0.nodes.length p0.nodes.length) p0.nodes) (f0_2 : AccR R_Tbst_info 86 h t0_2 (.slice q0_2 p0.infos.length p0.infos.length) p0.infos) (f0o0_0 : AccR (RI_ .u64 29) 29 h t0o0_0 (.slice q0o0_0 p0o0.cells.length p0o0.cells.length) p0o0.cells) {r : (Option Clo) × Obst_Tree × Omem_Mem × Obst_Call} (hF : F_bst_Tree_grow rc p0 p0o0 p1 p4 p5 p6 = some r) :
    EvO EE 78 [.pointer (some ⟨bp0, 0, none⟩), .pointer (some ⟨bp1, 0, none⟩), .agg #[.string p4.key, .int .i64 p4.top, .int .u64 p4.val, .int .i64 p4.cell], .agg #[.int .i64 p5.grand, .int .i64 p5.parent, .int .i64 p5.leaf, .int .u64 p5.grandWord, .int .u64 p5.parentWord, .int .i64 p5.turn], .int .i64 p6] [[⟨bp0, .cells [.pointer (some ⟨bp0o0, 0, none⟩), .slice q0_1 p0.nodes.length p0.nodes.length, .slice q0_2 p0.infos.length p0.infos.length] 83⟩], t0_1, t0_2, [⟨bp0o0, .cells [.slice q0o0_0 p0o0.cells.length p0o0.cells.length, .int .i64 p0o0.count] 94⟩], t0o0_0, [⟨bp1, .cells [.bool p1.told_Ok, .string p1.told_Key, .int .u64 p1.told_Val, .int .i64 p1.told_Err, v1_4] 114⟩]] h (fun v S h1 => ∃ qy0_1 ty0_1 qy0_2 ty0_2 qy0o0_0 ty0o0_0 vy1_4 vr tr, v = vr ∧ S = [[⟨bp0, .cells [.pointer (some ⟨bp0o0, 0, none⟩), .slice qy0_1 r.2.1.nodes.length r.2.1.nodes.length, .slice qy0_2 r.2.1.infos.length r.2.1.infos.length] 83⟩], ty0_1, ty0_2, [⟨bp0o0, .cells [.slice qy0o0_0 r.2.2.1.cells.length r.2.2.1.cells.length, .int .i64 r.2.2.1.count] 94⟩], ty0o0_0, [⟨bp1, .cells [.bool r.2.2.2.told_Ok, .string r.2.2.2.told_Key, .int .u64 r.2.2.2.told_Val, .int .i64 r.2.2.2.told_Err, vy1_4] 114⟩], tr] ∧ AccR R_Tbst_node 89 h1 ty0_1 (.slice qy0_1 r.2.1.nodes.length r.2.1.nodes.length) r.2.1.nodes ∧ AccR R_Tbst_info 86 h1 ty0_2 (.slice qy0_2 r.2.1.infos.length r.2.1.infos.length) r.2.1.infos ∧ AccR (RI_ .u64 29) 29 h1 ty0o0_0 (.slice qy0o0_0 r.2.2.1.cells.length r.2.2.1.cells.length) r.2.2.1.cells ∧ OC h1 bp0 bp1 tr r.1 vr) := by
  unfold F_bst_Tree_grow at hF
  refine evo_of rfl at_78 rfl rfl ?_
  refine go_seq ?_
  refine go_region ?_
  refine gs_box rfl (ot rfl) rfl ?_; intro b5_8
  refine gs_box rfl (ot rfl) rfl ?_; intro b6_9
  refine gs_box rfl (ot rfl) rfl ?_; intro b7_10
  refine gs_box rfl (ot rfl) rfl ?_; intro b8_11
  refine gs_box rfl (ot rfl) rfl ?_; intro b9_12
  refine gAc rfl rfl ?_
  refine go_nil ?_
  refine go_seq ?_
  refine go_regA1 (L := [(0, []), (1, []), (2, []), (3, []), (4, []), (5, []), (6, []), (7, []), (8, []), (9, [])]) (by kernel_rfl) (by kernel_rfl) (fun _ => rfl) ?_; intro b11_13
  refine go_sop rfl rfl ?_
  refine gr rfl (r_load (ot rfl) (lm_s (mem_seg 5 rfl) ag_24 rfl)) ?_
  refine go_nil ?_
  refine go_sop rfl rfl ?_
  refine gr rfl (r_nilck (ot rfl)) ?_
  refine go_nil ?_
  refine go_sop rfl rfl ?_
  refine gr rfl (r_fa (ot rfl) (fa_83_1 _ _)) ?_
  refine go_nil ?_
  refine go_sop rfl rfl ?_
  refine gr rfl (r_load (ot rfl) (lm_s (mem_seg 6 rfl) ag_80 rfl)) ?_
  refine go_nil ?_
  refine go_sop rfl rfl ?_
  refine gr rfl (r_fa (ot rfl) (fa_105_2 _ _)) ?_
  refine go_nil ?_
  refine go_sop rfl rfl ?_
  refine gr rfl (r_load (ot rfl) (lm_s (mem_seg 2 rfl) ag_3 rfl)) ?_
  refine go_nil ?_
  refine go_sop rfl rfl ?_
  replace hF := obind hF
  obtain ⟨x14, hx14, hF⟩ := hF
  obtain ⟨bb14, rw14, row14, hp14, ht14, hR14, hw14, rc14, hz14, hi14, hd14, hb14, hl14⟩ := AccR.at_ f0_1 hx14
  have hF14_ := hF
  subst hp14; subst ht14
  replace hF := hF14_
  obtain rfl := rc14
  refine gr rfl (r_ia (ot rfl) (ot rfl) (ia_acc (k := 4) ut_80 sz_89 hz14 hi14)) ?_
  refine go_nil ?_
  refine go_sop rfl rfl ?_
  refine gr rfl (r_load (ot rfl) (lm_a (vs := [.string x14.key, .int .i64 x14.top, .int .u64 x14.val, .int .i64 x14.cell]) (mem_seg 7 rfl) ag_89 sz_89 (Nat.ble_eq_true_of_le hb14) hd14)) ?_
  refine go_nil ?_
  refine go_salloc rfl rfl rfl zo_89 rfl .z ?_
  refine go_sop rfl rfl ?_
  refine gs_store (ot rfl) (ot rfl) sz_89 rfl rfl rfl rfl rfl .z ?_
  refine go_nil ?_
  refine go_snil ?_
  refine go_seq ?_
  refine go_regA2 (L := [(0, []), (1, []), (2, []), (3, []), (4, []), (6, []), (7, []), (8, []), (9, []), (10, []), (11, []), (12, []), (5, [6, 8, 10, 12]), (13, []), (14, []), (15, []), (16, []), (17, [])]) (by kernel_rfl) (by kernel_rfl) (fun _ => rfl) ?_; intro b12_15 b13_15
  refine go_sop rfl rfl ?_
  refine gr rfl (r_load (ot rfl) (lm_s (mem_seg 7 rfl) ag_24 rfl)) ?_
  refine go_nil ?_
  refine go_sop rfl rfl ?_
  refine gr rfl (r_fa (ot rfl) (fa_89_0 _ _)) ?_
  refine go_nil ?_
  refine go_sop rfl rfl ?_
  refine gr rfl (r_load (ot rfl) (lm_s (mem_seg 5 rfl) ag_9 rfl)) ?_
  refine go_nil ?_
  refine go_sop rfl rfl ?_
  refine gr rfl (r_fa (ot rfl) (fa_89_2 _ _)) ?_
  refine go_nil ?_
  refine go_sop rfl rfl ?_
  refine gr rfl (r_load (ot rfl) (lm_s (mem_seg 5 rfl) ag_29 rfl)) ?_
  refine go_nil ?_
  refine go_sop rfl rfl ?_
  refine gr rfl (r_load (ot rfl) (lm_s (mem_seg 7 rfl) ag_24 rfl)) ?_
  refine go_nil ?_
  refine go_sop rfl rfl ?_
  refine gr rfl (r_fa (ot rfl) (fa_89_0 _ _)) ?_
  refine go_nil ?_
  refine go_sop rfl rfl ?_
  refine gr rfl (r_load (ot rfl) (lm_s (mem_seg 2 rfl) ag_9 rfl)) ?_
  refine go_nil ?_
  refine go_sop rfl rfl ?_
  refine gr rfl (r_fa (ot rfl) (fa_89_1 _ _)) ?_
  refine go_nil ?_
  refine go_sop rfl rfl ?_
  refine gr rfl (r_load (ot rfl) (lm_s (mem_seg 2 rfl) ag_3 rfl)) ?_
  refine go_nil ?_
  refine go_sop rfl rfl ?_
  refine gr rfl (r_fa (ot rfl) (fa_89_2 _ _)) ?_
  refine go_nil ?_
  refine go_sop rfl rfl ?_
  refine gr rfl (r_load (ot rfl) (lm_s (mem_seg 2 rfl) ag_29 rfl)) ?_
  refine go_nil ?_
  refine go_sopc [(6, .pointer (some ⟨bp0, 0, none⟩)), (8, .string x14.key), (10, .int .i64 x14.top), (12, .int .u64 x14.val)] rfl rfl rfl (rc1 rfl (r_load (ot rfl) (lm_s (mem_seg 7 rfl) ag_24 rfl)) (rc1 rfl (r_load (ot rfl) (lm_s (mem_seg 2 rfl) ag_9 rfl)) (rc1 rfl (r_load (ot rfl) (lm_s (mem_seg 2 rfl) ag_3 rfl)) (rc1 rfl (r_load (ot rfl) (lm_s (mem_seg 2 rfl) ag_29 rfl)) rc0)))) (vq1 (veq_ptr _ _) (vq1 (veq_str _ _) (vq1 (veq_int _ _ _) (vq1 (veq_int _ _ _) vq0)))) rfl ?_
  replace hF := obind hF
  obtain ⟨x16, hx16, hF⟩ := hF
  refine gs_call EE_fr hw (.cons (.s (.s (.s (.s (.s (.s (.s (.s (.z))))))))) (.cons (.s (.s (.s (.s (.s (.s (.s (.s (.z))))))))) (.cons (.s (.s (.s (.s (.s (.s (.s (.s (.z))))))))) (.cons (.s (.s (.s (.s (.s (.s (.s (.s (.z))))))))) (.cons (.s (.s (.s (.s (.s (.s (.s (.s (.z))))))))) .nil))))) (fun _ h => by cases h; rfl) of (os1 (ot rfl) (os1 (ot rfl) (os1 (oc rfl) (os1 (ot rfl) os0)))) hb_42 (by exact s_bst_Tree_leaf hw p0 p0o0 p4.key 0 p4.val f0_1 f0_2 f0o0_0 hx16) ?_
  rintro v16 S16 h16 e16 w16 ⟨q16_y0_1, t16_y0_1, q16_y0_2, t16_y0_2, q16_y0o0_0, t16_y0o0_0, rfl, rfl, f16_0, f16_1, f16_2⟩
  simp only [List.cons_append, List.nil_append]
  refine go_nil ?_
  refine go_rck (rc1 rfl (r_load (ot rfl) (lm_s (mem_seg 12 rfl) ag_24 rfl)) (rc1 rfl (r_load (ot rfl) (lm_s (mem_seg 7 rfl) ag_9 rfl)) (rc1 rfl (r_load (ot rfl) (lm_s (mem_seg 7 rfl) ag_3 rfl)) (rc1 rfl (r_load (ot rfl) (lm_s (mem_seg 7 rfl) ag_29 rfl)) rc0)))) ?_
  refine go_sop rfl rfl ?_
  replace hF := obind hF
  obtain ⟨x17, hx17, hF⟩ := hF
  refine gs_call EE_fr w16 (.cons .z (.cons .z (.cons .z (.cons .z (.cons .z .nil))))) (fun _ h => by cases h; rfl) of (os1 (ot rfl) (os1 (ot rfl) (os1 (ot rfl) (os1 (ot rfl) os0)))) hb_42 (by exact s_bst_Tree_leaf w16 (⟨x16.2.1.nodes, x16.2.1.infos⟩ : Obst_Tree) (⟨x16.2.2.cells, x16.2.2.count⟩ : Omem_Mem) x14.key x14.top x14.val f16_0 f16_1 f16_2 hx17) ?_
  rintro v17 S17 h17 e17 w17 ⟨q17_y0_1, t17_y0_1, q17_y0_2, t17_y0_2, q17_y0o0_0, t17_y0o0_0, rfl, rfl, f17_0, f17_1, f17_2⟩
  simp only [List.cons_append, List.nil_append]
  refine go_nil ?_
  refine go_salloc rfl rfl rfl zo_3 rfl (.s (.s (.s (.s (.s (.s (.z))))))) ?_
  refine go_salloc rfl rfl rfl zo_3 rfl (.s (.s (.s (.s (.s (.z)))))) ?_
  refine go_sop rfl rfl ?_
  refine gs_store (ot rfl) (ot rfl) sz_3 rfl rfl rfl rfl rfl (.s (.s (.s (.s (.s (.s (.z))))))) ?_
  refine go_nil ?_
  refine go_sop rfl rfl ?_
  refine gs_store (ot rfl) (ot rfl) sz_3 rfl rfl rfl rfl rfl (.s (.s (.s (.s (.s (.z)))))) ?_
  refine go_nil ?_
  refine go_snil ?_
  refine go_seq ?_
  refine go_region ?_
  refine gr rfl (r_load (ot rfl) (lm_w (mem_seg 7 rfl) ag_89 sz_89 rfl)) ?_
  refine gs_alloc rfl zo_89 rfl ?_; intro b14_18
  refine gs_store (ot rfl) (ot rfl) sz_89 rfl rfl rfl rfl rfl .z ?_
  refine go_nil ?_
  refine go_seq ?_
  refine go_seq ?_
  refine go_region ?_
  refine gr rfl (r_load (ot rfl) (lm_w (mem_seg 8 rfl) ag_89 sz_89 rfl)) ?_
  refine gr rfl (r_load (ot rfl) (lm_w (mem_seg 11 rfl) ag_89 sz_89 rfl)) ?_
  replace hF := obind hF
  obtain ⟨x19, hx19, hF⟩ := hF
  refine g_callp (v := .bool x19) EE_fr rfl of (os1 (ot rfl) (os1 (ot rfl) os0)) hb_51 (fun _ => rfl) (fun hf kn w => by exact s_bst_node_less w x14 p4  hx19) ?_
  refine go_nil ?_
  replace hF := obind hF
  obtain ⟨s21, hF, hK21⟩ := hF
  refine go_joinc (β := Unit) (fun s h' => True) (fun s => [(5, true, .pointer (some ⟨b5_8, 0, none⟩)), (6, true, .pointer (some ⟨b6_9, 0, none⟩)), (7, true, .pointer (some ⟨b7_10, 0, none⟩)), (8, true, .pointer (some ⟨b8_11, 0, none⟩)), (9, true, .pointer (some ⟨b9_12, 0, none⟩)), (10, true, .nilFunc), (12, true, .pointer (some ⟨b12_15, 0, none⟩)), (13, true, .pointer (some ⟨b13_15, 0, none⟩)), (14, true, .pointer (some ⟨b14_18, 0, none⟩))]) (fun s => (List.flatten [[⟨b14_18, .cells [.string s21.1, .int .i64 s21.2.1, .int .u64 s21.2.2.1, .int .i64 s21.2.2.2.1] 89⟩], [⟨bp0, .cells [.pointer (some ⟨bp0o0, 0, none⟩), .slice q17_y0_1 x17.2.1.nodes.length x17.2.1.nodes.length, .slice q17_y0_2 x17.2.1.infos.length x17.2.1.infos.length] 83⟩], t17_y0_1, t17_y0_2, [⟨bp0o0, .cells [.slice q17_y0o0_0 x17.2.2.cells.length x17.2.2.cells.length, .int .i64 x17.2.2.count] 94⟩], t17_y0o0_0, [⟨b13_15, .cells [.int .i64 s21.2.2.2.2.1] 3⟩], [⟨b12_15, .cells [.int .i64 s21.2.2.2.2.2] 3⟩], [⟨b11_13, .cells [.string x14.key, .int .i64 x14.top, .int .u64 x14.val, .int .i64 x14.cell] 89⟩], [⟨b9_12, .cells [.int .i64 p6] 3⟩], [⟨b8_11, .cells [.int .i64 p5.grand, .int .i64 p5.parent, .int .i64 p5.leaf, .int .u64 p5.grandWord, .int .u64 p5.parentWord, .int .i64 p5.turn] 105⟩], [⟨b7_10, .cells [.string p4.key, .int .i64 p4.top, .int .u64 p4.val, .int .i64 p4.cell] 89⟩], [⟨b6_9, .cells [.pointer (some ⟨bp1, 0, none⟩)] 34⟩], [⟨b5_8, .cells [.pointer (some ⟨bp0, 0, none⟩)] 24⟩], [⟨bp1, .cells [.bool p1.told_Ok, .string p1.told_Key, .int .u64 p1.told_Val, .int .i64 p1.told_Err, v1_4] 114⟩]] : List Blk)) ?_ (fun J21 => ?_)
  ·
    rintro _ h21 e21 w21 _
    replace hF := hK21
    refine go_seq ?_
    refine go_regA1 (L := [(0, []), (1, []), (2, []), (3, []), (4, []), (5, []), (6, []), (7, []), (8, []), (9, []), (10, []), (11, []), (12, [0, 2, 4]), (13, []), (14, []), (15, []), (16, [])]) (by kernel_rfl) (by kernel_rfl) (fun _ => rfl) ?_; intro b15_22
    refine go_sop rfl rfl ?_
    refine gr rfl (r_load (ot rfl) (lm_s (mem_seg 14 rfl) ag_24 rfl)) ?_
    refine go_nil ?_
    refine go_sop rfl rfl ?_
    refine gr rfl (r_fa (ot rfl) (fa_105_1 _ _)) ?_
    refine go_nil ?_
    refine go_sop rfl rfl ?_
    refine gr rfl (r_load (ot rfl) (lm_s (mem_seg 11 rfl) ag_3 rfl)) ?_
    refine go_nil ?_
    refine go_sop rfl rfl ?_
    refine gr rfl (r_fa (ot rfl) (fa_105_2 _ _)) ?_
    refine go_nil ?_
    refine go_sop rfl rfl ?_
    refine gr rfl (r_load (ot rfl) (lm_s (mem_seg 11 rfl) ag_3 rfl)) ?_
    refine go_nil ?_
    refine go_sop rfl rfl ?_
    refine gr rfl (r_load (ot rfl) (lm_s (mem_seg 14 rfl) ag_24 rfl)) ?_
    refine go_nil ?_
    refine go_sop rfl rfl ?_
    refine gr rfl (r_fa (ot rfl) (fa_89_0 _ _)) ?_
    refine go_nil ?_
    refine go_sop rfl rfl ?_
    refine gr rfl (r_load (ot rfl) (lm_s (mem_seg 1 rfl) ag_9 rfl)) ?_
    refine go_nil ?_
    refine go_sop rfl rfl ?_
    refine gr rfl (r_fa (ot rfl) (fa_89_1 _ _)) ?_
    refine go_nil ?_
    refine go_sop rfl rfl ?_
    refine gr rfl (r_load (ot rfl) (lm_s (mem_seg 1 rfl) ag_3 rfl)) ?_
    refine go_nil ?_
    refine go_sop rfl rfl ?_
    refine gr rfl (r_load (ot rfl) (lm_s (mem_seg 10 rfl) ag_3 rfl)) ?_
    refine go_nil ?_
    refine go_sop rfl rfl ?_
    refine gr rfl (r_build (op1 (ot rfl) (op1 (ot rfl) (op1 (ot rfl) op0))) rfl) ?_
    refine go_nil ?_
    refine go_sopc [(0, .pointer (some ⟨bp0, 0, none⟩)), (2, .int .i64 p5.parent), (4, .int .i64 p5.leaf)] rfl rfl rfl (rc1 rfl (r_load (ot rfl) (lm_s (mem_seg 14 rfl) ag_24 rfl)) (rc1 rfl (r_load (ot rfl) (lm_s (mem_seg 11 rfl) ag_3 rfl)) (rc1 rfl (r_load (ot rfl) (lm_s (mem_seg 11 rfl) ag_3 rfl)) rc0))) (vq1 (veq_ptr _ _) (vq1 (veq_int _ _ _) (vq1 (veq_int _ _ _) vq0))) rfl ?_
    replace hF := obind hF
    obtain ⟨x23, hx23, hF⟩ := hF
    refine gs_call EE_fr w21 (.cons (.s (.s (.z))) (.cons (.s (.s (.z))) (.cons (.s (.s (.z))) (.cons (.s (.s (.z))) (.cons (.s (.s (.z))) .nil))))) (fun _ h => by cases h; rfl) of (os1 (ot rfl) (os1 (ot rfl) os0)) hb_40 (by exact s_bst_Tree_node w21 (⟨x17.2.1.nodes, x17.2.1.infos⟩ : Obst_Tree) (⟨x17.2.2.cells, x17.2.2.count⟩ : Omem_Mem) (⟨s21.1, s21.2.1, 0, p6⟩ : Tbst_node) (f17_0.ext e21.kn) (f17_1.ext e21.kn) (f17_2.ext e21.kn) hx23) ?_
    rintro v23 S23 h23 e23 w23 ⟨q23_y0_1, t23_y0_1, q23_y0_2, t23_y0_2, q23_y0o0_0, t23_y0o0_0, rfl, rfl, f23_0, f23_1, f23_2⟩
    simp only [List.cons_append, List.nil_append]
    refine go_nil ?_
    refine go_rck (rc1 rfl (r_load (ot rfl) (lm_s (mem_seg 14 rfl) ag_24 rfl)) (rc1 rfl (r_load (ot rfl) (lm_s (mem_seg 11 rfl) ag_3 rfl)) (rc1 rfl (r_load (ot rfl) (lm_s (mem_seg 11 rfl) ag_3 rfl)) rc0))) ?_
    refine go_sop rfl rfl ?_
    refine gr rfl (r_build (op1 (ot rfl) (op1 (ot rfl) (op1 (ot rfl) op0))) rfl) ?_
    refine go_nil ?_
    refine go_sop rfl rfl ?_
    replace hF := obind hF
    obtain ⟨x24, hx24, hF⟩ := hF
    refine gs_call EE_fr w23 (.cons .z (.cons .z (.cons .z (.cons .z (.cons .z .nil))))) (fun _ h => by cases h; rfl) of (os1 (ot rfl) (os1 (ot rfl) os0)) hb_39 (by exact s_bst_Tree_info w23 (⟨x23.2.1.nodes, x23.2.1.infos⟩ : Obst_Tree) (⟨x23.2.2.cells, x23.2.2.count⟩ : Omem_Mem) (⟨0, p5.parent, p5.leaf, x23.1, 0⟩ : Tbst_info) f23_0 f23_1 f23_2 hx24) ?_
    rintro v24 S24 h24 e24 w24 ⟨q24_y0_1, t24_y0_1, q24_y0_2, t24_y0_2, q24_y0o0_0, t24_y0o0_0, rfl, rfl, f24_0, f24_1, f24_2⟩
    simp only [List.cons_append, List.nil_append]
    refine go_nil ?_
    refine go_salloc rfl rfl rfl zo_3 rfl (.s (.s (.s (.s (.s (.z)))))) ?_
    refine go_sop rfl rfl ?_
    refine gs_store (ot rfl) (ot rfl) sz_3 rfl rfl rfl rfl rfl (.s (.s (.s (.s (.s (.z)))))) ?_
    refine go_nil ?_
    refine go_snil ?_
    refine go_seq ?_
    refine go_region ?_
    refine gr rfl (r_func os0 (os1 (ot rfl) (os1 (ot rfl) (os1 (ot rfl) (os1 (ot rfl) (os1 (ot rfl) (os1 (ot rfl) (os1 (ot rfl) (os1 (ot rfl) os0))))))))) ?_
    refine gA rfl rfl ?_
    refine go_nil ?_
    refine gs_pub (.s (.s (.s (.s (.s (.s (.s (.s (.s (.s (.s (.s (.s (.s (.z))))))))))))))) (fun h25 e25 w25 hb25 => ?_)
    have g25_ : BK h25 b5_8 [.pointer (some ⟨bp0, 0, none⟩)] 24 := hb25
    refine gs_pub (.s (.s (.s (.s (.s (.s (.s (.s (.s (.s (.z))))))))))) (fun h26 e26 w26 hb26 => ?_)
    have g26_ : BK h26 b9_12 [.int .i64 p6] 3 := hb26
    refine gs_pub (.s (.s (.s (.s (.s (.s (.s (.s (.z))))))))) (fun h27 e27 w27 hb27 => ?_)
    have g27_ : BK h27 b12_15 [.int .i64 s21.2.2.2.2.2] 3 := hb27
    refine gs_pub (.s (.s (.s (.s (.s (.s (.s (.z)))))))) (fun h28 e28 w28 hb28 => ?_)
    have g28_ : BK h28 b13_15 [.int .i64 s21.2.2.2.2.1] 3 := hb28
    refine gs_pub (.s (.s (.s (.s (.s (.s (.s (.s (.z))))))))) (fun h29 e29 w29 hb29 => ?_)
    have g29_ : BK h29 b8_11 [.int .i64 p5.grand, .int .i64 p5.parent, .int .i64 p5.leaf, .int .u64 p5.grandWord, .int .u64 p5.parentWord, .int .i64 p5.turn] 105 := hb29
    refine gs_pub (.s (.s (.s (.s (.s (.z)))))) (fun h30 e30 w30 hb30 => ?_)
    have g30_ : BK h30 b15_22 [.int .i64 x24.1] 3 := hb30
    refine gs_pub (.s (.s (.s (.s (.s (.s (.s (.s (.z))))))))) (fun h31 e31 w31 hb31 => ?_)
    have g31_ : BK h31 b6_9 [.pointer (some ⟨bp1, 0, none⟩)] 34 := hb31
    refine gs_pub (.s (.s (.s (.s (.s (.s (.s (.z)))))))) (fun h32 e32 w32 hb32 => ?_)
    have g32_ : BK h32 b7_10 [.string p4.key, .int .i64 p4.top, .int .u64 p4.val, .int .i64 p4.cell] 89 := hb32
    have co33 : CO h32 bp0 bp1 [] (Clo.c_grow_1 p6 s21.2.2.2.2.2 s21.2.2.2.2.1 p5 x24.1 p4) (.func (.func 99) #[] #[.pointer (some ⟨b5_8, 0, none⟩), .pointer (some ⟨b9_12, 0, none⟩), .pointer (some ⟨b12_15, 0, none⟩), .pointer (some ⟨b13_15, 0, none⟩), .pointer (some ⟨b8_11, 0, none⟩), .pointer (some ⟨b15_22, 0, none⟩), .pointer (some ⟨b6_9, 0, none⟩), .pointer (some ⟨b7_10, 0, none⟩)]) := CO.c_grow_1 (((((((g25_.ext e26.kn).ext e27.kn).ext e28.kn).ext e29.kn).ext e30.kn).ext e31.kn).ext e32.kn) ((((((g26_.ext e27.kn).ext e28.kn).ext e29.kn).ext e30.kn).ext e31.kn).ext e32.kn) (((((g27_.ext e28.kn).ext e29.kn).ext e30.kn).ext e31.kn).ext e32.kn) ((((g28_.ext e29.kn).ext e30.kn).ext e31.kn).ext e32.kn) (((g29_.ext e30.kn).ext e31.kn).ext e32.kn) ((g30_.ext e31.kn).ext e32.kn) (g31_.ext e32.kn) g32_
    obtain rfl := someI hF
    refine gs_sub (.cons_cons _ (.cons_cons _ (.cons_cons _ (.cons_cons _ (.cons_cons _ (.cons _ (.cons _ (.cons_cons _ (.refl _))))))))) ?_
    exact g_ret (rst rfl rs0) (fun h1 hf hs => ⟨[[⟨bp0, .cells [.pointer (some ⟨bp0o0, 0, none⟩), .slice q24_y0_1 x24.2.1.nodes.length x24.2.1.nodes.length, .slice q24_y0_2 x24.2.1.infos.length x24.2.1.infos.length] 83⟩], t24_y0_1, t24_y0_2, [⟨bp0o0, .cells [.slice q24_y0o0_0 x24.2.2.cells.length x24.2.2.cells.length, .int .i64 x24.2.2.count] 94⟩], t24_y0o0_0, [⟨bp1, .cells [.bool p1.told_Ok, .string p1.told_Key, .int .u64 p1.told_Val, .int .i64 p1.told_Err, v1_4] 114⟩], []], _, hf, (e16.trans (e17.trans (e21.trans (e23.trans (e24.trans (e25.trans (e26.trans (e27.trans (e28.trans (e29.trans (e30.trans (e31.trans e32)))))))))))), w32, hs, (ndb (by intro e; cases e) (ndt ((((((((f24_0.ext e25.kn).ext e26.kn).ext e27.kn).ext e28.kn).ext e29.kn).ext e30.kn).ext e31.kn).ext e32.kn) (ndt ((((((((f24_1.ext e25.kn).ext e26.kn).ext e27.kn).ext e28.kn).ext e29.kn).ext e30.kn).ext e31.kn).ext e32.kn) (ndb (by intro e; cases e) (ndt ((((((((f24_2.ext e25.kn).ext e26.kn).ext e27.kn).ext e28.kn).ext e29.kn).ext e30.kn).ext e31.kn).ext e32.kn) (ndb (by intro e; cases e) (nde nd0))))))), ⟨_, _, _, _, _, _, _, _, _, rfl, rfl, ((((((((f24_0.ext e25.kn).ext e26.kn).ext e27.kn).ext e28.kn).ext e29.kn).ext e30.kn).ext e31.kn).ext e32.kn), ((((((((f24_1.ext e25.kn).ext e26.kn).ext e27.kn).ext e28.kn).ext e29.kn).ext e30.kn).ext e31.kn).ext e32.kn), ((((((((f24_2.ext e25.kn).ext e26.kn).ext e27.kn).ext e28.kn).ext e29.kn).ext e30.kn).ext e31.kn).ext e32.kn), (OC.some co33)⟩⟩)
  ·
    refine g_cond (b := x19) (ot rfl) (fun hc20 => ?_) (fun hc20 => ?_)
    ·
      replace hF := ifT hc20 hF
      refine go_regions (L := [(0, []), (1, []), (2, []), (3, [2]), (4, [2]), (5, [])]) (by kernel_rfl) (by kernel_rfl) (fun _ => rfl) ?_
      refine go_sop rfl rfl ?_
      refine gr rfl (r_load (ot rfl) (lm_s (mem_seg 6 rfl) ag_3 rfl)) ?_
      refine go_nil ?_
      refine go_sop rfl rfl ?_
      refine gr rfl (r_load (ot rfl) (lm_s (mem_seg 7 rfl) ag_3 rfl)) ?_
      refine go_nil ?_
      refine go_sop rfl rfl ?_
      refine gr rfl (r_load (ot rfl) (lm_w (mem_seg 11 rfl) ag_89 sz_89 rfl)) ?_
      refine go_nil ?_
      refine go_sopc [(2, .agg #[.string p4.key, .int .i64 p4.top, .int .u64 p4.val, .int .i64 p4.cell])] rfl rfl rfl (rc1 rfl (r_load (ot rfl) (lm_w (mem_seg 11 rfl) ag_89 sz_89 rfl)) rc0) (vq1 (veq_agg _ _ (va1 (veq_str _ _) (va1 (veq_int _ _ _) (va1 (veq_int _ _ _) (va1 (veq_int _ _ _) (va0 _)))))) vq0) rfl ?_
      refine gs_store (ot rfl) (ot rfl) sz_3 rfl rfl rfl rfl rfl (.s (.s (.s (.s (.s (.s (.s (.z)))))))) ?_
      refine go_nil ?_
      refine go_rck (rc1 rfl (r_load (ot rfl) (lm_w (mem_seg 11 rfl) ag_89 sz_89 rfl)) rc0) ?_
      refine go_sopc [(2, .agg #[.string p4.key, .int .i64 p4.top, .int .u64 p4.val, .int .i64 p4.cell])] rfl rfl rfl (rc1 rfl (r_load (ot rfl) (lm_w (mem_seg 11 rfl) ag_89 sz_89 rfl)) rc0) (vq1 (veq_agg _ _ (va1 (veq_str _ _) (va1 (veq_int _ _ _) (va1 (veq_int _ _ _) (va1 (veq_int _ _ _) (va0 _)))))) vq0) rfl ?_
      refine gs_store (ot rfl) (ot rfl) sz_3 rfl rfl rfl rfl rfl (.s (.s (.s (.s (.s (.s (.z))))))) ?_
      refine go_nil ?_
      refine go_rck (rc1 rfl (r_load (ot rfl) (lm_w (mem_seg 11 rfl) ag_89 sz_89 rfl)) rc0) ?_
      refine go_sop rfl rfl ?_
      refine gs_store (ot rfl) (ot rfl) sz_89 rfl rfl rfl rfl rfl .z ?_
      refine go_nil ?_
      refine go_snil ?_
      obtain rfl := someI hF
      exact Goes.weak (J21 () _ (HExt.refl _) w17 trivial) (Sub.cons (Sub.cons (Sub.cons (Sub.cons (Sub.cons (Sub.cons (Sub.cons (Sub.cons (Sub.cons (Sub.nil _) rfl) rfl) rfl) rfl) rfl) rfl) rfl) rfl) rfl)
    ·
      replace hF := ifF hc20 hF
      refine go_skip ?_
      obtain rfl := someI hF
      exact Goes.weak (J21 () _ (HExt.refl _) w17 trivial) (Sub.cons (Sub.cons (Sub.cons (Sub.cons (Sub.cons (Sub.cons (Sub.cons (Sub.cons (Sub.cons (Sub.nil _) rfl) rfl) rfl) rfl) rfl) rfl) rfl) rfl) rfl)
end Go.Proofs.Ytndhbaidibioeaa.V
