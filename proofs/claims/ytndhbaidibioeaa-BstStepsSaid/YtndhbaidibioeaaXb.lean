/- Walks.
   No condition: these are laws of the clean machine and of this program. -/
import Derived.Test.YtndhbaidibioeaaXa
namespace Go.Proofs.Ytndhbaidibioeaa.V
open Go
set_option linter.unusedVariables false
set_option linter.unusedSimpArgs false
set_option maxRecDepth 100000
set_option maxHeartbeats 4000000
theorem s_bst_Call_Step (n : Nat) {h : Heap} (hw : Wf h) (p0 : Obst_Tree) (p0o0 : Omem_Mem) (p1 : Obst_Call_2) {bp0 : Nat} {q0_1 : Option Addr} {t0_1 : List Blk} {q0_2 : Option Addr} {t0_2 : List Blk} {bp0o0 : Nat} {q0o0_0 : Option Addr} {t0o0_0 : List Blk} {bp1 : Nat} {v1_4 : Value} {t1_4 : List Blk} (f0_1 : AccR R_Tbst_node 89 h t0_1 (.slice q0_1 p0.nodes.length p0.nodes.length) p0.nodes) (f0_2 : AccR R_Tbst_info 86 h t0_2 (.slice q0_2 p0.infos.length p0.infos.length) p0.infos) (f0o0_0 : AccR (RI_ .u64 29) 29 h t0o0_0 (.slice q0o0_0 p0o0.cells.length p0o0.cells.length) p0o0.cells) (f1_4 : OC h bp0 bp1 t1_4 p1.next v1_4) {r : Bool × Obst_Tree × Omem_Mem × Obst_Call_2} (hF : F_bst_Call_Step n p0 p0o0 p1 = some r) :
    EvO EE 21 [.pointer (some ⟨bp1, 0, none⟩)] [[⟨bp0, .cells [.pointer (some ⟨bp0o0, 0, none⟩), .slice q0_1 p0.nodes.length p0.nodes.length, .slice q0_2 p0.infos.length p0.infos.length] 83⟩], t0_1, t0_2, [⟨bp0o0, .cells [.slice q0o0_0 p0o0.cells.length p0o0.cells.length, .int .i64 p0o0.count] 94⟩], t0o0_0, [⟨bp1, .cells [.bool p1.told_Ok, .string p1.told_Key, .int .u64 p1.told_Val, .int .i64 p1.told_Err, v1_4] 114⟩], t1_4] h (fun v S h1 => ∃ qy0_1 ty0_1 qy0_2 ty0_2 qy0o0_0 ty0o0_0 vy1_4 ty1_4, v = .bool r.1 ∧ S = [[⟨bp0, .cells [.pointer (some ⟨bp0o0, 0, none⟩), .slice qy0_1 r.2.1.nodes.length r.2.1.nodes.length, .slice qy0_2 r.2.1.infos.length r.2.1.infos.length] 83⟩], ty0_1, ty0_2, [⟨bp0o0, .cells [.slice qy0o0_0 r.2.2.1.cells.length r.2.2.1.cells.length, .int .i64 r.2.2.1.count] 94⟩], ty0o0_0, [⟨bp1, .cells [.bool r.2.2.2.told_Ok, .string r.2.2.2.told_Key, .int .u64 r.2.2.2.told_Val, .int .i64 r.2.2.2.told_Err, vy1_4] 114⟩], ty1_4] ∧ AccR R_Tbst_node 89 h1 ty0_1 (.slice qy0_1 r.2.1.nodes.length r.2.1.nodes.length) r.2.1.nodes ∧ AccR R_Tbst_info 86 h1 ty0_2 (.slice qy0_2 r.2.1.infos.length r.2.1.infos.length) r.2.1.infos ∧ AccR (RI_ .u64 29) 29 h1 ty0o0_0 (.slice qy0o0_0 r.2.2.1.cells.length r.2.2.1.cells.length) r.2.2.1.cells ∧ OC h1 bp0 bp1 ty1_4 r.2.2.2.next vy1_4) := by
  unfold F_bst_Call_Step at hF
  refine evo_of rfl at_21 rfl rfl ?_
  refine go_seq ?_
  refine go_region ?_
  refine gAc rfl rfl ?_
  refine go_nil ?_
  refine go_seq ?_
  refine go_seq ?_
  refine go_region ?_
  refine gM rfl rfl ?_
  refine gr rfl (r_bin (v := .bool false) (ot rfl) (oc rfl) (by first | rfl | kernel_rfl)) ?_
  refine gM rfl rfl ?_
  refine g_do rfl rfl rfl ?_
  refine gM rfl rfl ?_
  refine g_do rfl rfl rfl ?_
  refine gr rfl (r_nilck (ot rfl)) ?_
  refine g_do rfl rfl rfl ?_
  refine gr rfl (r_fa (ot rfl) (fa_114_1 _ _)) ?_
  refine g_do rfl rfl rfl ?_
  refine gr rfl (r_load (ot rfl) (lm_s (mem_seg 5 rfl) ag_102 rfl)) ?_
  refine g_do rfl rfl rfl ?_
  refine gr rfl (r_bin (v := .bool ((p1.next).isNone)) (ot rfl) (oc rfl) (OC.eqn f1_4)) ?_
  refine gr rfl (r_pkF (ot rfl) (ot rfl)) ?_
  refine go_nil ?_
  refine g_cond (b := (p1.next).isNone) (ot rfl) (fun hc3 => ?_) (fun hc3 => ?_)
  ·
    replace hF := ifT hc3 hF
    refine go_seq ?_
    refine go_region ?_
    refine gAc rfl rfl ?_
    refine go_nil ?_
    obtain rfl := someI hF
    exact g_ret (rst rfl rs0) (fun h1 hf hs => ⟨[[⟨bp0, .cells [.pointer (some ⟨bp0o0, 0, none⟩), .slice q0_1 p0.nodes.length p0.nodes.length, .slice q0_2 p0.infos.length p0.infos.length] 83⟩], t0_1, t0_2, [⟨bp0o0, .cells [.slice q0o0_0 p0o0.cells.length p0o0.cells.length, .int .i64 p0o0.count] 94⟩], t0o0_0, [⟨bp1, .cells [.bool p1.told_Ok, .string p1.told_Key, .int .u64 p1.told_Val, .int .i64 p1.told_Err, v1_4] 114⟩], t1_4], _, hf, (HExt.refl _), hw, hs, (ndb (by intro e; cases e) (ndt f0_1 (ndt f0_2 (ndb (by intro e; cases e) (ndt f0o0_0 (ndb (by intro e; cases e) (ndc f1_4 nd0))))))), ⟨_, _, _, _, _, _, _, _, rfl, rfl, f0_1, f0_2, f0o0_0, f1_4⟩⟩)
  ·
    replace hF := ifF hc3 hF
    refine go_skip ?_
    refine go_seq ?_
    refine go_region ?_
    refine gM rfl rfl ?_
    refine gM rfl rfl ?_
    refine gr rfl (r_nilck (ot rfl)) ?_
    refine gr rfl (r_fa (ot rfl) (fa_114_1 _ _)) ?_
    refine gr rfl (r_load (ot rfl) (lm_s (mem_seg 5 rfl) ag_102 rfl)) ?_
    replace hF := obind hF
    obtain ⟨x5, hx5, hF⟩ := hF
    have co5 := OC.get f1_4 hx5
    replace hF := obind hF
    obtain ⟨x4, hx4, hF⟩ := hF
    refine gs_calld EE_fr hw (.cons .z (.cons .z (.cons .z (.cons .z (.cons .z (.cons .z (.cons .z .nil))))))) (fun _ h => by cases h; rfl) (ot rfl) os0 (by exact (F_step_ok n) hw p0 p0o0 (⟨p1.told_Ok, p1.told_Key, p1.told_Val, p1.told_Err⟩ : Obst_Call) f0_1 f0_2 f0o0_0 x5 Arg.u t1_4 co5 hx4) ?_
    rintro v4 S4 h4 e4 w4 ⟨q4_y0_1, t4_y0_1, q4_y0_2, t4_y0_2, q4_y0o0_0, t4_y0o0_0, v4_y1_4, v4_r, t4_r, rfl, rfl, f4_0, f4_1, f4_2, f4_3⟩
    simp only [List.cons_append, List.nil_append]
    refine gr rfl (r_nilck (ot rfl)) ?_
    refine gr rfl (r_fa (ot rfl) (fa_114_1 _ _)) ?_
    refine gs_store (ot rfl) (ot rfl) sz_102 (OC.sz f4_3) (OC.one f4_3) rfl (OC.okc f4_3) rfl (.s (.s (.s (.s (.s (.z)))))) ?_
    refine go_nil ?_
    refine go_seq ?_
    refine go_region ?_
    refine gM rfl rfl ?_
    refine gr rfl (r_nilck (ot rfl)) ?_
    refine gr rfl (r_fa (ot rfl) (fa_114_1 _ _)) ?_
    refine gr rfl (r_load (ot rfl) (lm_s (mem_seg 5 rfl) ag_102 rfl)) ?_
    refine gr rfl (r_bin (v := .bool ((x4.1).isNone)) (ot rfl) (oc rfl) (OC.eqn f4_3)) ?_
    refine gA rfl rfl ?_
    refine go_nil ?_
    obtain rfl := someI hF
    exact g_ret (rst rfl rs0) (fun h1 hf hs => ⟨[[⟨bp0, .cells [.pointer (some ⟨bp0o0, 0, none⟩), .slice q4_y0_1 x4.2.1.nodes.length x4.2.1.nodes.length, .slice q4_y0_2 x4.2.1.infos.length x4.2.1.infos.length] 83⟩], t4_y0_1, t4_y0_2, [⟨bp0o0, .cells [.slice q4_y0o0_0 x4.2.2.1.cells.length x4.2.2.1.cells.length, .int .i64 x4.2.2.1.count] 94⟩], t4_y0o0_0, [⟨bp1, .cells [.bool x4.2.2.2.told_Ok, .string x4.2.2.2.told_Key, .int .u64 x4.2.2.2.told_Val, .int .i64 x4.2.2.2.told_Err, v4] 114⟩], t4_r], _, hf, e4, w4, hs, (ndb (by intro e; cases e) (ndt f4_0 (ndt f4_1 (ndb (by intro e; cases e) (ndt f4_2 (ndb (by intro e; cases e) (ndc f4_3 nd0))))))), ⟨_, _, _, _, _, _, _, _, rfl, rfl, f4_0, f4_1, f4_2, f4_3⟩⟩)
theorem s_bst_Call_Answer {h : Heap} (hw : Wf h) (p0 : Obst_Tree) (p0o0 : Omem_Mem) (p1 : Obst_Call_2) {bp0 : Nat} {q0_1 : Option Addr} {t0_1 : List Blk} {q0_2 : Option Addr} {t0_2 : List Blk} {bp0o0 : Nat} {q0o0_0 : Option Addr} {t0o0_0 : List Blk} {bp1 : Nat} {v1_4 : Value} {t1_4 : List Blk} (f0_1 : AccR R_Tbst_node 89 h t0_1 (.slice q0_1 p0.nodes.length p0.nodes.length) p0.nodes) (f0_2 : AccR R_Tbst_info 86 h t0_2 (.slice q0_2 p0.infos.length p0.infos.length) p0.infos) (f0o0_0 : AccR (RI_ .u64 29) 29 h t0o0_0 (.slice q0o0_0 p0o0.cells.length p0o0.cells.length) p0o0.cells) (f1_4 : OC h bp0 bp1 t1_4 p1.next v1_4) {r : Tbst_Answer × Bool × Obst_Tree × Omem_Mem × Obst_Call_2} (hF : F_bst_Call_Answer p0 p0o0 p1 = some r) :
    EvO EE 25 [.pointer (some ⟨bp1, 0, none⟩)] [[⟨bp0, .cells [.pointer (some ⟨bp0o0, 0, none⟩), .slice q0_1 p0.nodes.length p0.nodes.length, .slice q0_2 p0.infos.length p0.infos.length] 83⟩], t0_1, t0_2, [⟨bp0o0, .cells [.slice q0o0_0 p0o0.cells.length p0o0.cells.length, .int .i64 p0o0.count] 94⟩], t0o0_0, [⟨bp1, .cells [.bool p1.told_Ok, .string p1.told_Key, .int .u64 p1.told_Val, .int .i64 p1.told_Err, v1_4] 114⟩], t1_4] h (fun v S h1 => ∃ qy0_1 ty0_1 qy0_2 ty0_2 qy0o0_0 ty0o0_0 vy1_4 ty1_4, v = .tuple #[.agg #[.bool r.1.Ok, .string r.1.Key, .int .u64 r.1.Val, .int .i64 r.1.Err], .bool r.2.1] ∧ S = [[⟨bp0, .cells [.pointer (some ⟨bp0o0, 0, none⟩), .slice qy0_1 r.2.2.1.nodes.length r.2.2.1.nodes.length, .slice qy0_2 r.2.2.1.infos.length r.2.2.1.infos.length] 83⟩], ty0_1, ty0_2, [⟨bp0o0, .cells [.slice qy0o0_0 r.2.2.2.1.cells.length r.2.2.2.1.cells.length, .int .i64 r.2.2.2.1.count] 94⟩], ty0o0_0, [⟨bp1, .cells [.bool r.2.2.2.2.told_Ok, .string r.2.2.2.2.told_Key, .int .u64 r.2.2.2.2.told_Val, .int .i64 r.2.2.2.2.told_Err, vy1_4] 114⟩], ty1_4] ∧ AccR R_Tbst_node 89 h1 ty0_1 (.slice qy0_1 r.2.2.1.nodes.length r.2.2.1.nodes.length) r.2.2.1.nodes ∧ AccR R_Tbst_info 86 h1 ty0_2 (.slice qy0_2 r.2.2.1.infos.length r.2.2.1.infos.length) r.2.2.1.infos ∧ AccR (RI_ .u64 29) 29 h1 ty0o0_0 (.slice qy0o0_0 r.2.2.2.1.cells.length r.2.2.2.1.cells.length) r.2.2.2.1.cells ∧ OC h1 bp0 bp1 ty1_4 r.2.2.2.2.next vy1_4) := by
  unfold F_bst_Call_Answer at hF
  refine evo_of rfl at_25 rfl rfl ?_
  refine go_seq ?_
  refine go_region ?_
  refine gs_alloc rfl zo_32 rfl ?_; intro b2_3
  refine gAc rfl rfl ?_
  refine go_nil ?_
  refine go_seq ?_
  refine go_seq ?_
  refine go_region ?_
  refine gM rfl rfl ?_
  refine gr rfl (r_bin (v := .bool false) (ot rfl) (oc rfl) (by first | rfl | kernel_rfl)) ?_
  refine gM rfl rfl ?_
  refine g_do rfl rfl rfl ?_
  refine gM rfl rfl ?_
  refine g_do rfl rfl rfl ?_
  refine gr rfl (r_nilck (ot rfl)) ?_
  refine g_do rfl rfl rfl ?_
  refine gr rfl (r_fa (ot rfl) (fa_114_1 _ _)) ?_
  refine g_do rfl rfl rfl ?_
  refine gr rfl (r_load (ot rfl) (lm_s (mem_seg 6 rfl) ag_102 rfl)) ?_
  refine g_do rfl rfl rfl ?_
  refine gr rfl (r_bin (v := .bool ((p1.next).isSome)) (ot rfl) (oc rfl) (OC.nen f1_4)) ?_
  refine gr rfl (r_pkF (ot rfl) (ot rfl)) ?_
  refine go_nil ?_
  refine g_cond (b := (p1.next).isSome) (ot rfl) (fun hc4 => ?_) (fun hc4 => ?_)
  ·
    replace hF := ifT hc4 hF
    refine go_seq ?_
    refine go_region ?_
    refine gr rfl (r_build op0 rfl) ?_
    refine gs_store (ot rfl) (ot rfl) sz_32 rfl rfl rfl rfl rfl .z ?_
    refine gAc rfl rfl ?_
    refine go_nil ?_
    obtain rfl := someI hF
    exact g_retS (.cons _ (.cons_cons _ (.cons_cons _ (.cons_cons _ (.cons_cons _ (.cons_cons _ (.cons_cons _ (.cons_cons _ (.refl _))))))))) (.refl _) (rsc rfl (lm_w (mem_seg 0 rfl) ag_32 sz_32 rfl) (rst rfl rs0)) (fun h1 hf hs => ⟨[[⟨bp0, .cells [.pointer (some ⟨bp0o0, 0, none⟩), .slice q0_1 p0.nodes.length p0.nodes.length, .slice q0_2 p0.infos.length p0.infos.length] 83⟩], t0_1, t0_2, [⟨bp0o0, .cells [.slice q0o0_0 p0o0.cells.length p0o0.cells.length, .int .i64 p0o0.count] 94⟩], t0o0_0, [⟨bp1, .cells [.bool p1.told_Ok, .string p1.told_Key, .int .u64 p1.told_Val, .int .i64 p1.told_Err, v1_4] 114⟩], t1_4], _, hf, (HExt.refl _), hw, hs, (ndb (by intro e; cases e) (ndt f0_1 (ndt f0_2 (ndb (by intro e; cases e) (ndt f0o0_0 (ndb (by intro e; cases e) (ndc f1_4 nd0))))))), ⟨_, _, _, _, _, _, _, _, rfl, rfl, f0_1, f0_2, f0o0_0, f1_4⟩⟩)
  ·
    replace hF := ifF hc4 hF
    refine go_skip ?_
    refine go_seq ?_
    refine go_region ?_
    refine gM rfl rfl ?_
    refine gr rfl (r_nilck (ot rfl)) ?_
    refine gr rfl (r_fa (ot rfl) (fa_114_0 _ _)) ?_
    refine gr rfl (r_load (ot rfl) (lm_a (vs := [_, _, _, _]) (mem_seg 6 rfl) ag_32 sz_32 rfl rfl)) ?_
    refine gs_store (ot rfl) (ot rfl) sz_32 rfl rfl rfl rfl rfl .z ?_
    refine gAc rfl rfl ?_
    refine go_nil ?_
    obtain rfl := someI hF
    exact g_retS (.cons _ (.cons_cons _ (.cons_cons _ (.cons_cons _ (.cons_cons _ (.cons_cons _ (.cons_cons _ (.cons_cons _ (.refl _))))))))) (.refl _) (rsc rfl (lm_w (mem_seg 0 rfl) ag_32 sz_32 rfl) (rst rfl rs0)) (fun h1 hf hs => ⟨[[⟨bp0, .cells [.pointer (some ⟨bp0o0, 0, none⟩), .slice q0_1 p0.nodes.length p0.nodes.length, .slice q0_2 p0.infos.length p0.infos.length] 83⟩], t0_1, t0_2, [⟨bp0o0, .cells [.slice q0o0_0 p0o0.cells.length p0o0.cells.length, .int .i64 p0o0.count] 94⟩], t0o0_0, [⟨bp1, .cells [.bool p1.told_Ok, .string p1.told_Key, .int .u64 p1.told_Val, .int .i64 p1.told_Err, v1_4] 114⟩], t1_4], _, hf, (HExt.refl _), hw, hs, (ndb (by intro e; cases e) (ndt f0_1 (ndt f0_2 (ndb (by intro e; cases e) (ndt f0o0_0 (ndb (by intro e; cases e) (ndc f1_4 nd0))))))), ⟨_, _, _, _, _, _, _, _, rfl, rfl, f0_1, f0_2, f0o0_0, f1_4⟩⟩)
theorem s_bst_Run (n : Nat) {h : Heap} (hw : Wf h) (p0 : Obst_Tree) (p0o0 : Omem_Mem) (p1 : Obst_Call_2) {bp0 : Nat} {q0_1 : Option Addr} {t0_1 : List Blk} {q0_2 : Option Addr} {t0_2 : List Blk} {bp0o0 : Nat} {q0o0_0 : Option Addr} {t0o0_0 : List Blk} {bp1 : Nat} {v1_4 : Value} {t1_4 : List Blk} (f0_1 : AccR R_Tbst_node 89 h t0_1 (.slice q0_1 p0.nodes.length p0.nodes.length) p0.nodes) (f0_2 : AccR R_Tbst_info 86 h t0_2 (.slice q0_2 p0.infos.length p0.infos.length) p0.infos) (f0o0_0 : AccR (RI_ .u64 29) 29 h t0o0_0 (.slice q0o0_0 p0o0.cells.length p0o0.cells.length) p0o0.cells) (f1_4 : OC h bp0 bp1 t1_4 p1.next v1_4) {r : Tbst_Answer × Obst_Tree × Omem_Mem × Obst_Call_2} (hF : F_bst_Run n p0 p0o0 p1 = some r) :
    EvO EE 12 [.pointer (some ⟨bp1, 0, none⟩)] [[⟨bp0, .cells [.pointer (some ⟨bp0o0, 0, none⟩), .slice q0_1 p0.nodes.length p0.nodes.length, .slice q0_2 p0.infos.length p0.infos.length] 83⟩], t0_1, t0_2, [⟨bp0o0, .cells [.slice q0o0_0 p0o0.cells.length p0o0.cells.length, .int .i64 p0o0.count] 94⟩], t0o0_0, [⟨bp1, .cells [.bool p1.told_Ok, .string p1.told_Key, .int .u64 p1.told_Val, .int .i64 p1.told_Err, v1_4] 114⟩], t1_4] h (fun v S h1 => ∃ qy0_1 ty0_1 qy0_2 ty0_2 qy0o0_0 ty0o0_0 vy1_4 ty1_4, v = .agg #[.bool r.1.Ok, .string r.1.Key, .int .u64 r.1.Val, .int .i64 r.1.Err] ∧ S = [[⟨bp0, .cells [.pointer (some ⟨bp0o0, 0, none⟩), .slice qy0_1 r.2.1.nodes.length r.2.1.nodes.length, .slice qy0_2 r.2.1.infos.length r.2.1.infos.length] 83⟩], ty0_1, ty0_2, [⟨bp0o0, .cells [.slice qy0o0_0 r.2.2.1.cells.length r.2.2.1.cells.length, .int .i64 r.2.2.1.count] 94⟩], ty0o0_0, [⟨bp1, .cells [.bool r.2.2.2.told_Ok, .string r.2.2.2.told_Key, .int .u64 r.2.2.2.told_Val, .int .i64 r.2.2.2.told_Err, vy1_4] 114⟩], ty1_4] ∧ AccR R_Tbst_node 89 h1 ty0_1 (.slice qy0_1 r.2.1.nodes.length r.2.1.nodes.length) r.2.1.nodes ∧ AccR R_Tbst_info 86 h1 ty0_2 (.slice qy0_2 r.2.1.infos.length r.2.1.infos.length) r.2.1.infos ∧ AccR (RI_ .u64 29) 29 h1 ty0o0_0 (.slice qy0o0_0 r.2.2.1.cells.length r.2.2.1.cells.length) r.2.2.1.cells ∧ OC h1 bp0 bp1 ty1_4 r.2.2.2.next vy1_4) := by
  unfold F_bst_Run at hF
  refine evo_of rfl at_12 rfl rfl ?_
  refine go_seq ?_
  refine go_region ?_
  refine gs_alloc rfl zo_32 rfl ?_; intro b2_3
  refine go_nil ?_
  refine go_seq ?_
  replace hF := obind hF
  obtain ⟨s4, hF, hK4⟩ := hF
  refine go_joinc (β := Option Addr × List Blk × Option Addr × List Blk × Option Addr × List Blk × Value × List Blk) (fun s h' => AccR R_Tbst_node 89 h' s.2.1 (.slice s.1 s4.1.length s4.1.length) s4.1 ∧ AccR R_Tbst_info 86 h' s.2.2.2.1 (.slice s.2.2.1 s4.2.1.length s4.2.1.length) s4.2.1 ∧ AccR (RI_ .u64 29) 29 h' s.2.2.2.2.2.1 (.slice s.2.2.2.2.1 s4.2.2.1.length s4.2.2.1.length) s4.2.2.1 ∧ OC h' bp0 bp1 s.2.2.2.2.2.2.2 s4.2.2.2.2.2.2.2.2 s.2.2.2.2.2.2.1) (fun s => [(0, true, .pointer (some ⟨bp1, 0, none⟩)), (2, true, .pointer (some ⟨b2_3, 0, none⟩))]) (fun s => (List.flatten [[⟨b2_3, .cells [.bool false, .string ByteArray.empty, .int .u64 0, .int .i64 0] 32⟩], [⟨bp0, .cells [.pointer (some ⟨bp0o0, 0, none⟩), .slice s.1 s4.1.length s4.1.length, .slice s.2.2.1 s4.2.1.length s4.2.1.length] 83⟩], s.2.1, s.2.2.2.1, [⟨bp0o0, .cells [.slice s.2.2.2.2.1 s4.2.2.1.length s4.2.2.1.length, .int .i64 s4.2.2.2.1] 94⟩], s.2.2.2.2.2.1, [⟨bp1, .cells [.bool s4.2.2.2.2.1, .string s4.2.2.2.2.2.1, .int .u64 s4.2.2.2.2.2.2.1, .int .i64 s4.2.2.2.2.2.2.2.1, s.2.2.2.2.2.2.1] 114⟩], s.2.2.2.2.2.2.2] : List Blk)) ?_ (fun J4 => ?_)
  ·
    rintro ⟨a4_0, a4_1, a4_2, a4_3, a4_4, a4_5, a4_6, a4_7⟩ h4 e4 w4 ⟨f4_0, f4_1, f4_2, f4_8⟩
    replace hF := hK4
    refine go_seq ?_
    refine go_region ?_
    refine gM rfl rfl ?_
    replace hF := obind hF
    obtain ⟨x5, hx5, hF⟩ := hF
    refine gs_call EE_fr w4 (.cons (.s (.z)) (.cons (.s (.z)) (.cons (.s (.z)) (.cons (.s (.z)) (.cons (.s (.z)) (.cons (.s (.z)) (.cons (.s (.z)) .nil))))))) (fun _ h => by cases h; rfl) of (os1 (ot rfl) os0) hb_25 (by exact s_bst_Call_Answer w4 (⟨s4.1, s4.2.1⟩ : Obst_Tree) (⟨s4.2.2.1, s4.2.2.2.1⟩ : Omem_Mem) (⟨s4.2.2.2.2.1, s4.2.2.2.2.2.1, s4.2.2.2.2.2.2.1, s4.2.2.2.2.2.2.2.1, s4.2.2.2.2.2.2.2.2⟩ : Obst_Call_2) f4_0 f4_1 f4_2 f4_8 hx5) ?_
    rintro v5 S5 h5 e5 w5 ⟨q5_y0_1, t5_y0_1, q5_y0_2, t5_y0_2, q5_y0o0_0, t5_y0o0_0, v5_y1_4, t5_y1_4, rfl, rfl, f5_0, f5_1, f5_2, f5_3⟩
    simp only [List.cons_append, List.nil_append]
    refine gM rfl rfl ?_
    refine gE rfl rfl rfl ?_
    refine gE rfl rfl rfl ?_
    refine gs_alloc rfl zo_32 rfl ?_; intro b3_6
    refine gs_store (ot rfl) (ot rfl) sz_32 rfl rfl rfl rfl rfl .z ?_
    refine gA rfl rfl ?_
    refine go_nil ?_
    refine go_seq ?_
    refine go_region ?_
    refine gr rfl (r_load (ot rfl) (lm_w (mem_seg 0 rfl) ag_32 sz_32 rfl)) ?_
    refine gs_store (ot rfl) (ot rfl) sz_32 rfl rfl rfl rfl rfl (.s (.s (.s (.s (.s (.s (.s (.s (.z))))))))) ?_
    refine go_nil ?_
    obtain rfl := someI hF
    exact g_retS (.cons _ (.cons_cons _ (.cons_cons _ (.cons_cons _ (.cons_cons _ (.cons_cons _ (.cons_cons _ (.cons_cons _ (.cons _ (.refl _)))))))))) (.refl _) (rsc rfl (lm_w (mem_seg 8 rfl) ag_32 sz_32 rfl) rs0) (fun h1 hf hs => ⟨[[⟨bp0, .cells [.pointer (some ⟨bp0o0, 0, none⟩), .slice q5_y0_1 x5.2.2.1.nodes.length x5.2.2.1.nodes.length, .slice q5_y0_2 x5.2.2.1.infos.length x5.2.2.1.infos.length] 83⟩], t5_y0_1, t5_y0_2, [⟨bp0o0, .cells [.slice q5_y0o0_0 x5.2.2.2.1.cells.length x5.2.2.2.1.cells.length, .int .i64 x5.2.2.2.1.count] 94⟩], t5_y0o0_0, [⟨bp1, .cells [.bool x5.2.2.2.2.told_Ok, .string x5.2.2.2.2.told_Key, .int .u64 x5.2.2.2.2.told_Val, .int .i64 x5.2.2.2.2.told_Err, v5_y1_4] 114⟩], t5_y1_4], _, hf, (e4.trans e5), w5, hs, (ndb (by intro e; cases e) (ndt f5_0 (ndt f5_1 (ndb (by intro e; cases e) (ndt f5_2 (ndb (by intro e; cases e) (ndc f5_3 nd0))))))), ⟨_, _, _, _, _, _, _, _, rfl, rfl, f5_0, f5_1, f5_2, f5_3⟩⟩)
  ·
    refine go_block ?_
    refine go_loop (α := Nat × (List Tbst_node) × (List Tbst_info) × (List Int) × Int × Bool × ByteArray × Int × Int × (Option Clo) × Option Addr × List Blk × Option Addr × List Blk × Option Addr × List Blk × Value × List Blk × Heap) (fun a => HExt h a.2.2.2.2.2.2.2.2.2.2.2.2.2.2.2.2.2.2 ∧ Wf a.2.2.2.2.2.2.2.2.2.2.2.2.2.2.2.2.2.2 ∧ F_bst_Run_L1 n a.1 a.2.1 a.2.2.1 a.2.2.2.1 a.2.2.2.2.1 a.2.2.2.2.2.1 a.2.2.2.2.2.2.1 a.2.2.2.2.2.2.2.1 a.2.2.2.2.2.2.2.2.1 a.2.2.2.2.2.2.2.2.2.1 = some s4 ∧ AccR R_Tbst_node 89 a.2.2.2.2.2.2.2.2.2.2.2.2.2.2.2.2.2.2 a.2.2.2.2.2.2.2.2.2.2.2.1 (.slice a.2.2.2.2.2.2.2.2.2.2.1 a.2.1.length a.2.1.length) a.2.1 ∧ AccR R_Tbst_info 86 a.2.2.2.2.2.2.2.2.2.2.2.2.2.2.2.2.2.2 a.2.2.2.2.2.2.2.2.2.2.2.2.2.1 (.slice a.2.2.2.2.2.2.2.2.2.2.2.2.1 a.2.2.1.length a.2.2.1.length) a.2.2.1 ∧ AccR (RI_ .u64 29) 29 a.2.2.2.2.2.2.2.2.2.2.2.2.2.2.2.2.2.2 a.2.2.2.2.2.2.2.2.2.2.2.2.2.2.2.1 (.slice a.2.2.2.2.2.2.2.2.2.2.2.2.2.2.1 a.2.2.2.1.length a.2.2.2.1.length) a.2.2.2.1 ∧ OC a.2.2.2.2.2.2.2.2.2.2.2.2.2.2.2.2.2.2 bp0 bp1 a.2.2.2.2.2.2.2.2.2.2.2.2.2.2.2.2.2.1 a.2.2.2.2.2.2.2.2.2.1 a.2.2.2.2.2.2.2.2.2.2.2.2.2.2.2.2.1) (fun a => a.1) (fun a => [(0, true, .pointer (some ⟨bp1, 0, none⟩)), (2, true, .pointer (some ⟨b2_3, 0, none⟩))]) (fun a => (List.flatten [[⟨b2_3, .cells [.bool false, .string ByteArray.empty, .int .u64 0, .int .i64 0] 32⟩], [⟨bp0, .cells [.pointer (some ⟨bp0o0, 0, none⟩), .slice a.2.2.2.2.2.2.2.2.2.2.1 a.2.1.length a.2.1.length, .slice a.2.2.2.2.2.2.2.2.2.2.2.2.1 a.2.2.1.length a.2.2.1.length] 83⟩], a.2.2.2.2.2.2.2.2.2.2.2.1, a.2.2.2.2.2.2.2.2.2.2.2.2.2.1, [⟨bp0o0, .cells [.slice a.2.2.2.2.2.2.2.2.2.2.2.2.2.2.1 a.2.2.2.1.length a.2.2.2.1.length, .int .i64 a.2.2.2.2.1] 94⟩], a.2.2.2.2.2.2.2.2.2.2.2.2.2.2.2.1, [⟨bp1, .cells [.bool a.2.2.2.2.2.1, .string a.2.2.2.2.2.2.1, .int .u64 a.2.2.2.2.2.2.2.1, .int .i64 a.2.2.2.2.2.2.2.2.1, a.2.2.2.2.2.2.2.2.2.2.2.2.2.2.2.2.1] 114⟩], a.2.2.2.2.2.2.2.2.2.2.2.2.2.2.2.2.2.1] : List Blk)) (fun a => a.2.2.2.2.2.2.2.2.2.2.2.2.2.2.2.2.2.2) ?_ (n, p0.nodes, p0.infos, p0o0.cells, p0o0.count, p1.told_Ok, p1.told_Key, p1.told_Val, p1.told_Err, p1.next, q0_1, t0_1, q0_2, t0_2, q0o0_0, t0o0_0, v1_4, t1_4, h) ⟨HExt.refl _, hw, hF, f0_1, f0_2, f0o0_0, f1_4⟩ (Sub.cons (Sub.cons (Sub.nil _) rfl) rfl) rfl rfl
    rintro ⟨m7, y7_0, y7_1, y7_2, y7_3, y7_4, y7_5, y7_6, y7_7, y7_8, a7_0, a7_1, a7_2, a7_3, a7_4, a7_5, a7_6, a7_7, h7⟩ ⟨e7, w7, hF, f7_0, f7_1, f7_2, f7_8⟩ ih7
    rcases m7 with _ | m7
    ·
      rw [F_bst_Run_L1.eq_1] at hF; cases hF
    ·
      rw [F_bst_Run_L1.eq_2] at hF
      refine go_seq ?_
      refine go_seq ?_
      refine go_region ?_
      refine gM rfl rfl ?_
      replace hF := obind hF
      obtain ⟨x8, hx8, hF⟩ := hF
      refine gs_call EE_fr w7 (.cons (.s (.z)) (.cons (.s (.z)) (.cons (.s (.z)) (.cons (.s (.z)) (.cons (.s (.z)) (.cons (.s (.z)) (.cons (.s (.z)) .nil))))))) (fun _ h => by cases h; rfl) of (os1 (ot rfl) os0) hb_21 (by exact s_bst_Call_Step n w7 (⟨y7_0, y7_1⟩ : Obst_Tree) (⟨y7_2, y7_3⟩ : Omem_Mem) (⟨y7_4, y7_5, y7_6, y7_7, y7_8⟩ : Obst_Call_2) f7_0 f7_1 f7_2 f7_8 hx8) ?_
      rintro v8 S8 h8 e8 w8 ⟨q8_y0_1, t8_y0_1, q8_y0_2, t8_y0_2, q8_y0o0_0, t8_y0o0_0, v8_y1_4, t8_y1_4, rfl, rfl, f8_0, f8_1, f8_2, f8_3⟩
      simp only [List.cons_append, List.nil_append]
      refine gr rfl (r_un (ot rfl) rfl) ?_
      refine go_nil ?_
      refine g_cond (b := (!x8.1)) (ot rfl) (fun hc9 => ?_) (fun hc9 => ?_)
      ·
        replace hF := ifT hc9 hF
        refine go_skip ?_
        refine go_block ?_
        refine go_skip ?_
        refine go_endb ?_
        refine gs_perm (perm_of (d := []) _ [7, 0, 1, 2, 3, 4, 5, 6] rfl) ?_
        exact Goes.weak (ih7 (m7, x8.2.1.nodes, x8.2.1.infos, x8.2.2.1.cells, x8.2.2.1.count, x8.2.2.2.told_Ok, x8.2.2.2.told_Key, x8.2.2.2.told_Val, x8.2.2.2.told_Err, x8.2.2.2.next, q8_y0_1, t8_y0_1, q8_y0_2, t8_y0_2, q8_y0o0_0, t8_y0o0_0, v8_y1_4, t8_y1_4, h8) ⟨(e7.trans e8), w8, hF, f8_0, f8_1, f8_2, f8_3⟩ (Nat.lt_succ_self _)) (Sub.cons (Sub.cons (Sub.nil _) rfl) rfl)
      ·
        replace hF := ifF hc9 hF
        refine go_exit rfl ?_
        obtain rfl := someI hF
        refine gs_perm (perm_of (d := []) _ [7, 0, 1, 2, 3, 4, 5, 6] rfl) ?_
        exact Goes.weak (J4 (q8_y0_1, t8_y0_1, q8_y0_2, t8_y0_2, q8_y0o0_0, t8_y0o0_0, v8_y1_4, t8_y1_4) _ (e7.trans e8) w8 ⟨f8_0, f8_1, f8_2, f8_3⟩) (Sub.cons (Sub.cons (Sub.nil _) rfl) rfl)
end Go.Proofs.Ytndhbaidibioeaa.V
