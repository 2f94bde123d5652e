/- Walks.
   No condition: these are laws of the clean machine and of this program. -/
import Derived.Test.YtndhbaidibioeaaWb
namespace Go.Proofs.Ytndhbaidibioeaa.V
open Go
set_option linter.unusedVariables false
set_option linter.unusedSimpArgs false
set_option maxRecDepth 100000
set_option maxHeartbeats 4000000
theorem s_bst_Tree_loses_1_2 {rc : RC} (hrc : RCok rc) {h : Heap} (hw : Wf h) (p0 : Obst_Tree) (p0o0 : Omem_Mem) (p1 : Obst_Call) (p3 : Tbst_info) (p4 : Int) (p5 : Clo) {bp0 : Nat} {q0_1 : Option Addr} {t0_1 : List Blk} {q0_2 : Option Addr} {t0_2 : List Blk} {bp0o0 : Nat} {q0o0_0 : Option Addr} {t0o0_0 : List Blk} {bp1 : Nat} {v1_4 : Value} {b2 : Nat} {b3 : Nat} {b4 : Nat} {b5 : Nat} {v5 : Value} (f0_1 : AccR R_Tbst_node 89 h t0_1 (.slice q0_1 p0.nodes.length p0.nodes.length) p0.nodes) (f0_2 : AccR R_Tbst_info 86 h t0_2 (.slice q0_2 p0.infos.length p0.infos.length) p0.infos) (f0o0_0 : AccR (RI_ .u64 29) 29 h t0o0_0 (.slice q0o0_0 p0o0.cells.length p0o0.cells.length) p0o0.cells) (g2 : BK h b2 [.pointer (some ⟨bp0, 0, none⟩)] 24) (g3 : BK h b3 [.int .i64 p3.grand, .int .i64 p3.parent, .int .i64 p3.leaf, .int .i64 p3.next, .int .u64 p3.was] 86) (g4 : BK h b4 [.int .i64 p4] 3) (g5 : BK h b5 [v5] 148) (c5 : CO h bp0 bp1 [] p5 v5) {r : (Option Clo) × Obst_Tree × Omem_Mem × Obst_Call} (hF : F_bst_Tree_loses_1_2 rc p0 p0o0 p1 p3 p4 p5 = some r) :
    EvO EE 112 [.pointer (some ⟨b2, 0, none⟩), .pointer (some ⟨b3, 0, none⟩), .pointer (some ⟨b4, 0, none⟩), .pointer (some ⟨b5, 0, none⟩)] [[⟨bp0, .cells [.pointer (some ⟨bp0o0, 0, none⟩), .slice q0_1 p0.nodes.length p0.nodes.length, .slice q0_2 p0.infos.length p0.infos.length] 83⟩], t0_1, t0_2, [⟨bp0o0, .cells [.slice q0o0_0 p0o0.cells.length p0o0.cells.length, .int .i64 p0o0.count] 94⟩], t0o0_0, [⟨bp1, .cells [.bool p1.told_Ok, .string p1.told_Key, .int .u64 p1.told_Val, .int .i64 p1.told_Err, v1_4] 114⟩]] h (fun v S h1 => ∃ qy0_1 ty0_1 qy0_2 ty0_2 qy0o0_0 ty0o0_0 vy1_4 vr tr, v = vr ∧ S = [[⟨bp0, .cells [.pointer (some ⟨bp0o0, 0, none⟩), .slice qy0_1 r.2.1.nodes.length r.2.1.nodes.length, .slice qy0_2 r.2.1.infos.length r.2.1.infos.length] 83⟩], ty0_1, ty0_2, [⟨bp0o0, .cells [.slice qy0o0_0 r.2.2.1.cells.length r.2.2.1.cells.length, .int .i64 r.2.2.1.count] 94⟩], ty0o0_0, [⟨bp1, .cells [.bool r.2.2.2.told_Ok, .string r.2.2.2.told_Key, .int .u64 r.2.2.2.told_Val, .int .i64 r.2.2.2.told_Err, vy1_4] 114⟩], tr] ∧ AccR R_Tbst_node 89 h1 ty0_1 (.slice qy0_1 r.2.1.nodes.length r.2.1.nodes.length) r.2.1.nodes ∧ AccR R_Tbst_info 86 h1 ty0_2 (.slice qy0_2 r.2.1.infos.length r.2.1.infos.length) r.2.1.infos ∧ AccR (RI_ .u64 29) 29 h1 ty0o0_0 (.slice qy0o0_0 r.2.2.1.cells.length r.2.2.1.cells.length) r.2.2.1.cells ∧ OC h1 bp0 bp1 tr r.1 vr) := by
  unfold F_bst_Tree_loses_1_2 at hF
  refine evo_of rfl at_112 rfl rfl ?_
  refine go_seq ?_
  refine go_region ?_
  refine gAc rfl rfl ?_
  refine go_nil ?_
  refine go_seq ?_
  refine go_region ?_
  refine gr rfl (r_load (ot rfl) (v := .pointer (some ⟨bp0, 0, none⟩)) (lo_e (fun hf kn => ld_cell ag_24 (g2.ext kn) rfl))) ?_
  refine gr rfl (r_fa (ot rfl) (fa_86_0 _ _)) ?_
  refine gr rfl (r_load (ot rfl) (v := .int .i64 p3.grand) (lo_e (fun hf kn => ld_cell ag_3 (g3.ext kn) rfl))) ?_
  refine gr rfl (r_load (ot rfl) (v := .int .i64 p4) (lo_e (fun hf kn => ld_cell ag_3 (g4.ext kn) rfl))) ?_
  refine gr rfl (r_func os0 (os1 (ot rfl) os0)) ?_
  have co8 : CO h bp0 bp1 [] (Clo.c_loses_1_2_1 p5) (.func (.func 114) #[] #[.pointer (some ⟨b5, 0, none⟩)]) := CO.c_loses_1_2_1 g5 c5
  replace hF := obind hF
  obtain ⟨x7, hx7, hF⟩ := hF
  refine gs_call EE_fr hw (.cons .z (.cons .z (.cons .z (.cons .z (.cons .z (.cons .z .nil)))))) (fun _ h => by cases h; rfl) of (os1 (ot rfl) (os1 (ot rfl) (os1 (oc rfl) (os1 (ot rfl) (os1 (ot rfl) os0))))) hb_113 (by exact s_bst_Tree_clean hrc hw p0 p0o0 p1 p3.grand 2 p4 (Clo.c_loses_1_2_1 p5) f0_1 f0_2 f0o0_0 co8 hx7) ?_
  rintro v7 S7 h7 e7 w7 ⟨q7_y0_1, t7_y0_1, q7_y0_2, t7_y0_2, q7_y0o0_0, t7_y0o0_0, v7_y1_4, v7_r, t7_r, rfl, rfl, f7_0, f7_1, f7_2, f7_3⟩
  simp only [List.cons_append, List.nil_append]
  refine gA rfl rfl ?_
  refine go_nil ?_
  obtain rfl := someI hF
  exact g_ret (rst rfl rs0) (fun h1 hf hs => ⟨[[⟨bp0, .cells [.pointer (some ⟨bp0o0, 0, none⟩), .slice q7_y0_1 x7.2.1.nodes.length x7.2.1.nodes.length, .slice q7_y0_2 x7.2.1.infos.length x7.2.1.infos.length] 83⟩], t7_y0_1, t7_y0_2, [⟨bp0o0, .cells [.slice q7_y0o0_0 x7.2.2.1.cells.length x7.2.2.1.cells.length, .int .i64 x7.2.2.1.count] 94⟩], t7_y0o0_0, [⟨bp1, .cells [.bool x7.2.2.2.told_Ok, .string x7.2.2.2.told_Key, .int .u64 x7.2.2.2.told_Val, .int .i64 x7.2.2.2.told_Err, v7_y1_4] 114⟩], t7_r], _, hf, e7, w7, hs, (ndb (by intro e; cases e) (ndt f7_0 (ndt f7_1 (ndb (by intro e; cases e) (ndt f7_2 (ndb (by intro e; cases e) (ndc f7_3 nd0))))))), ⟨_, _, _, _, _, _, _, _, _, rfl, rfl, f7_0, f7_1, f7_2, f7_3⟩⟩)
theorem s_bst_Tree_loses_1_2_1 {rc : RC} (hrc : RCok rc) {h : Heap} (hw : Wf h) (p0 : Obst_Tree) (p0o0 : Omem_Mem) (p1 : Obst_Call) (p2 : Clo) {bp0 : Nat} {q0_1 : Option Addr} {t0_1 : List Blk} {q0_2 : Option Addr} {t0_2 : List Blk} {bp0o0 : Nat} {q0o0_0 : Option Addr} {t0o0_0 : List Blk} {bp1 : Nat} {v1_4 : Value} {b2 : Nat} {v2 : Value} (f0_1 : AccR R_Tbst_node 89 h t0_1 (.slice q0_1 p0.nodes.length p0.nodes.length) p0.nodes) (f0_2 : AccR R_Tbst_info 86 h t0_2 (.slice q0_2 p0.infos.length p0.infos.length) p0.infos) (f0o0_0 : AccR (RI_ .u64 29) 29 h t0o0_0 (.slice q0o0_0 p0o0.cells.length p0o0.cells.length) p0o0.cells) (g2 : BK h b2 [v2] 148) (c2 : CO h bp0 bp1 [] p2 v2) {r : (Option Clo) × Obst_Tree × Omem_Mem × Obst_Call} (hF : F_bst_Tree_loses_1_2_1 rc p0 p0o0 p1 p2 = some r) :
    EvO EE 114 [.pointer (some ⟨b2, 0, none⟩)] [[⟨bp0, .cells [.pointer (some ⟨bp0o0, 0, none⟩), .slice q0_1 p0.nodes.length p0.nodes.length, .slice q0_2 p0.infos.length p0.infos.length] 83⟩], t0_1, t0_2, [⟨bp0o0, .cells [.slice q0o0_0 p0o0.cells.length p0o0.cells.length, .int .i64 p0o0.count] 94⟩], t0o0_0, [⟨bp1, .cells [.bool p1.told_Ok, .string p1.told_Key, .int .u64 p1.told_Val, .int .i64 p1.told_Err, v1_4] 114⟩]] h (fun v S h1 => ∃ qy0_1 ty0_1 qy0_2 ty0_2 qy0o0_0 ty0o0_0 vy1_4 vr tr, v = vr ∧ S = [[⟨bp0, .cells [.pointer (some ⟨bp0o0, 0, none⟩), .slice qy0_1 r.2.1.nodes.length r.2.1.nodes.length, .slice qy0_2 r.2.1.infos.length r.2.1.infos.length] 83⟩], ty0_1, ty0_2, [⟨bp0o0, .cells [.slice qy0o0_0 r.2.2.1.cells.length r.2.2.1.cells.length, .int .i64 r.2.2.1.count] 94⟩], ty0o0_0, [⟨bp1, .cells [.bool r.2.2.2.told_Ok, .string r.2.2.2.told_Key, .int .u64 r.2.2.2.told_Val, .int .i64 r.2.2.2.told_Err, vy1_4] 114⟩], tr] ∧ AccR R_Tbst_node 89 h1 ty0_1 (.slice qy0_1 r.2.1.nodes.length r.2.1.nodes.length) r.2.1.nodes ∧ AccR R_Tbst_info 86 h1 ty0_2 (.slice qy0_2 r.2.1.infos.length r.2.1.infos.length) r.2.1.infos ∧ AccR (RI_ .u64 29) 29 h1 ty0o0_0 (.slice qy0o0_0 r.2.2.1.cells.length r.2.2.1.cells.length) r.2.2.1.cells ∧ OC h1 bp0 bp1 tr r.1 vr) := by
  unfold F_bst_Tree_loses_1_2_1 at hF
  refine evo_of rfl at_114 rfl rfl ?_
  refine go_seq ?_
  refine go_region ?_
  refine gAc rfl rfl ?_
  refine go_nil ?_
  refine go_seq ?_
  refine go_region ?_
  refine gr rfl (r_load (ot rfl) (v := v2) (lo_e (fun hf kn => ld_cell ag_148 (g2.ext kn) rfl))) ?_
  replace hF := obind hF
  obtain ⟨x4, hx4, hF⟩ := hF
  refine gs_calld EE_fr hw (.cons .z (.cons .z (.cons .z (.cons .z (.cons .z (.cons .z (.emp .nil))))))) (fun _ h => by cases h; rfl) (ot rfl) (os1 (oc rfl) os0) (by exact hrc hw p0 p0o0 p1 f0_1 f0_2 f0o0_0 p2 (Arg.b false) [] c2 hx4) ?_
  rintro v4 S4 h4 e4 w4 ⟨q4_y0_1, t4_y0_1, q4_y0_2, t4_y0_2, q4_y0o0_0, t4_y0o0_0, v4_y1_4, v4_r, t4_r, rfl, rfl, f4_0, f4_1, f4_2, f4_3⟩
  simp only [List.cons_append, List.nil_append]
  refine gA rfl rfl ?_
  refine go_nil ?_
  obtain rfl := someI hF
  exact g_ret (rst rfl rs0) (fun h1 hf hs => ⟨[[⟨bp0, .cells [.pointer (some ⟨bp0o0, 0, none⟩), .slice q4_y0_1 x4.2.1.nodes.length x4.2.1.nodes.length, .slice q4_y0_2 x4.2.1.infos.length x4.2.1.infos.length] 83⟩], t4_y0_1, t4_y0_2, [⟨bp0o0, .cells [.slice q4_y0o0_0 x4.2.2.1.cells.length x4.2.2.1.cells.length, .int .i64 x4.2.2.1.count] 94⟩], t4_y0o0_0, [⟨bp1, .cells [.bool x4.2.2.2.told_Ok, .string x4.2.2.2.told_Key, .int .u64 x4.2.2.2.told_Val, .int .i64 x4.2.2.2.told_Err, v4_y1_4] 114⟩], t4_r], _, hf, e4, w4, hs, (ndb (by intro e; cases e) (ndt f4_0 (ndt f4_1 (ndb (by intro e; cases e) (ndt f4_2 (ndb (by intro e; cases e) (ndc f4_3 nd0))))))), ⟨_, _, _, _, _, _, _, _, _, rfl, rfl, f4_0, f4_1, f4_2, f4_3⟩⟩)
theorem s_bst_Tree_grows_1 {rc : RC} (hrc : RCok rc) {h : Heap} (hw : Wf h) (p0 : Obst_Tree) (p0o0 : Omem_Mem) (p1 : Obst_Call) (p3 : Tbst_info) (p4 : Int) (p5 : Clo) {bp0 : Nat} {q0_1 : Option Addr} {t0_1 : List Blk} {q0_2 : Option Addr} {t0_2 : List Blk} {bp0o0 : Nat} {q0o0_0 : Option Addr} {t0o0_0 : List Blk} {bp1 : Nat} {v1_4 : Value} {b2 : Nat} {b3 : Nat} {b4 : Nat} {b5 : Nat} {v5 : Value} (f0_1 : AccR R_Tbst_node 89 h t0_1 (.slice q0_1 p0.nodes.length p0.nodes.length) p0.nodes) (f0_2 : AccR R_Tbst_info 86 h t0_2 (.slice q0_2 p0.infos.length p0.infos.length) p0.infos) (f0o0_0 : AccR (RI_ .u64 29) 29 h t0o0_0 (.slice q0o0_0 p0o0.cells.length p0o0.cells.length) p0o0.cells) (g2 : BK h b2 [.pointer (some ⟨bp0, 0, none⟩)] 24) (g3 : BK h b3 [.int .i64 p3.grand, .int .i64 p3.parent, .int .i64 p3.leaf, .int .i64 p3.next, .int .u64 p3.was] 86) (g4 : BK h b4 [.int .i64 p4] 3) (g5 : BK h b5 [v5] 101) (c5 : CO h bp0 bp1 [] p5 v5) {r : (Option Clo) × Obst_Tree × Omem_Mem × Obst_Call} (hF : F_bst_Tree_grows_1 rc p0 p0o0 p1 p3 p4 p5 = some r) :
    EvO EE 116 [.pointer (some ⟨b2, 0, none⟩), .pointer (some ⟨b3, 0, none⟩), .pointer (some ⟨b4, 0, none⟩), .pointer (some ⟨b5, 0, none⟩)] [[⟨bp0, .cells [.pointer (some ⟨bp0o0, 0, none⟩), .slice q0_1 p0.nodes.length p0.nodes.length, .slice q0_2 p0.infos.length p0.infos.length] 83⟩], t0_1, t0_2, [⟨bp0o0, .cells [.slice q0o0_0 p0o0.cells.length p0o0.cells.length, .int .i64 p0o0.count] 94⟩], t0o0_0, [⟨bp1, .cells [.bool p1.told_Ok, .string p1.told_Key, .int .u64 p1.told_Val, .int .i64 p1.told_Err, v1_4] 114⟩]] h (fun v S h1 => ∃ qy0_1 ty0_1 qy0_2 ty0_2 qy0o0_0 ty0o0_0 vy1_4 vr tr, v = vr ∧ S = [[⟨bp0, .cells [.pointer (some ⟨bp0o0, 0, none⟩), .slice qy0_1 r.2.1.nodes.length r.2.1.nodes.length, .slice qy0_2 r.2.1.infos.length r.2.1.infos.length] 83⟩], ty0_1, ty0_2, [⟨bp0o0, .cells [.slice qy0o0_0 r.2.2.1.cells.length r.2.2.1.cells.length, .int .i64 r.2.2.1.count] 94⟩], ty0o0_0, [⟨bp1, .cells [.bool r.2.2.2.told_Ok, .string r.2.2.2.told_Key, .int .u64 r.2.2.2.told_Val, .int .i64 r.2.2.2.told_Err, vy1_4] 114⟩], tr] ∧ AccR R_Tbst_node 89 h1 ty0_1 (.slice qy0_1 r.2.1.nodes.length r.2.1.nodes.length) r.2.1.nodes ∧ AccR R_Tbst_info 86 h1 ty0_2 (.slice qy0_2 r.2.1.infos.length r.2.1.infos.length) r.2.1.infos ∧ AccR (RI_ .u64 29) 29 h1 ty0o0_0 (.slice qy0o0_0 r.2.2.1.cells.length r.2.2.1.cells.length) r.2.2.1.cells ∧ OC h1 bp0 bp1 tr r.1 vr) := by
  unfold F_bst_Tree_grows_1 at hF
  refine evo_of rfl at_116 rfl rfl ?_
  refine go_seq ?_
  refine go_region ?_
  refine gAc rfl rfl ?_
  refine go_nil ?_
  refine go_seq ?_
  refine go_region ?_
  refine gr rfl (r_load (ot rfl) (v := .pointer (some ⟨bp0, 0, none⟩)) (lo_e (fun hf kn => ld_cell ag_24 (g2.ext kn) rfl))) ?_
  refine gr rfl (r_fa (ot rfl) (fa_86_1 _ _)) ?_
  refine gr rfl (r_load (ot rfl) (v := .int .i64 p3.parent) (lo_e (fun hf kn => ld_cell ag_3 (g3.ext kn) rfl))) ?_
  refine gr rfl (r_load (ot rfl) (v := .int .i64 p4) (lo_e (fun hf kn => ld_cell ag_3 (g4.ext kn) rfl))) ?_
  refine gr rfl (r_load (ot rfl) (v := v5) (lo_e (fun hf kn => ld_cell ag_101 (g5.ext kn) rfl))) ?_
  replace hF := obind hF
  obtain ⟨x7, hx7, hF⟩ := hF
  refine gs_call EE_fr hw (.cons .z (.cons .z (.cons .z (.cons .z (.cons .z (.cons .z .nil)))))) (fun _ h => by cases h; rfl) of (os1 (ot rfl) (os1 (ot rfl) (os1 (oc rfl) (os1 (ot rfl) (os1 (ot rfl) os0))))) hb_113 (by exact s_bst_Tree_clean hrc hw p0 p0o0 p1 p3.parent 1 p4 p5 f0_1 f0_2 f0o0_0 c5 hx7) ?_
  rintro v7 S7 h7 e7 w7 ⟨q7_y0_1, t7_y0_1, q7_y0_2, t7_y0_2, q7_y0o0_0, t7_y0o0_0, v7_y1_4, v7_r, t7_r, rfl, rfl, f7_0, f7_1, f7_2, f7_3⟩
  simp only [List.cons_append, List.nil_append]
  refine gA rfl rfl ?_
  refine go_nil ?_
  obtain rfl := someI hF
  exact g_ret (rst rfl rs0) (fun h1 hf hs => ⟨[[⟨bp0, .cells [.pointer (some ⟨bp0o0, 0, none⟩), .slice q7_y0_1 x7.2.1.nodes.length x7.2.1.nodes.length, .slice q7_y0_2 x7.2.1.infos.length x7.2.1.infos.length] 83⟩], t7_y0_1, t7_y0_2, [⟨bp0o0, .cells [.slice q7_y0o0_0 x7.2.2.1.cells.length x7.2.2.1.cells.length, .int .i64 x7.2.2.1.count] 94⟩], t7_y0o0_0, [⟨bp1, .cells [.bool x7.2.2.2.told_Ok, .string x7.2.2.2.told_Key, .int .u64 x7.2.2.2.told_Val, .int .i64 x7.2.2.2.told_Err, v7_y1_4] 114⟩], t7_r], _, hf, e7, w7, hs, (ndb (by intro e; cases e) (ndt f7_0 (ndt f7_1 (ndb (by intro e; cases e) (ndt f7_2 (ndb (by intro e; cases e) (ndc f7_3 nd0))))))), ⟨_, _, _, _, _, _, _, _, _, rfl, rfl, f7_0, f7_1, f7_2, f7_3⟩⟩)
theorem s_bst_Tree_goes_1 {rc : RC} (hrc : RCok rc) {h : Heap} (hw : Wf h) (p0 : Obst_Tree) (p0o0 : Omem_Mem) (p1 : Obst_Call) (p2 : Int) (p4 : Tbst_info) (p5 : Int) (p6 : Clo) {bp0 : Nat} {q0_1 : Option Addr} {t0_1 : List Blk} {q0_2 : Option Addr} {t0_2 : List Blk} {bp0o0 : Nat} {q0o0_0 : Option Addr} {t0o0_0 : List Blk} {bp1 : Nat} {v1_4 : Value} {b3 : Nat} {b4 : Nat} {b5 : Nat} {b6 : Nat} {v6 : Value} (f0_1 : AccR R_Tbst_node 89 h t0_1 (.slice q0_1 p0.nodes.length p0.nodes.length) p0.nodes) (f0_2 : AccR R_Tbst_info 86 h t0_2 (.slice q0_2 p0.infos.length p0.infos.length) p0.infos) (f0o0_0 : AccR (RI_ .u64 29) 29 h t0o0_0 (.slice q0o0_0 p0o0.cells.length p0o0.cells.length) p0o0.cells) (g3 : BK h b3 [.pointer (some ⟨bp0, 0, none⟩)] 24) (g4 : BK h b4 [.int .i64 p4.grand, .int .i64 p4.parent, .int .i64 p4.leaf, .int .i64 p4.next, .int .u64 p4.was] 86) (g5 : BK h b5 [.int .i64 p5] 3) (g6 : BK h b6 [v6] 101) (c6 : CO h bp0 bp1 [] p6 v6) {r : (Option Clo) × Obst_Tree × Omem_Mem × Obst_Call} (hF : F_bst_Tree_goes_1 rc p0 p0o0 p1 p2 p4 p5 p6 = some r) :
    EvO EE 117 [.int .u64 p2, .pointer (some ⟨b3, 0, none⟩), .pointer (some ⟨b4, 0, none⟩), .pointer (some ⟨b5, 0, none⟩), .pointer (some ⟨b6, 0, none⟩)] [[⟨bp0, .cells [.pointer (some ⟨bp0o0, 0, none⟩), .slice q0_1 p0.nodes.length p0.nodes.length, .slice q0_2 p0.infos.length p0.infos.length] 83⟩], t0_1, t0_2, [⟨bp0o0, .cells [.slice q0o0_0 p0o0.cells.length p0o0.cells.length, .int .i64 p0o0.count] 94⟩], t0o0_0, [⟨bp1, .cells [.bool p1.told_Ok, .string p1.told_Key, .int .u64 p1.told_Val, .int .i64 p1.told_Err, v1_4] 114⟩]] h (fun v S h1 => ∃ qy0_1 ty0_1 qy0_2 ty0_2 qy0o0_0 ty0o0_0 vy1_4 vr tr, v = vr ∧ S = [[⟨bp0, .cells [.pointer (some ⟨bp0o0, 0, none⟩), .slice qy0_1 r.2.1.nodes.length r.2.1.nodes.length, .slice qy0_2 r.2.1.infos.length r.2.1.infos.length] 83⟩], ty0_1, ty0_2, [⟨bp0o0, .cells [.slice qy0o0_0 r.2.2.1.cells.length r.2.2.1.cells.length, .int .i64 r.2.2.1.count] 94⟩], ty0o0_0, [⟨bp1, .cells [.bool r.2.2.2.told_Ok, .string r.2.2.2.told_Key, .int .u64 r.2.2.2.told_Val, .int .i64 r.2.2.2.told_Err, vy1_4] 114⟩], tr] ∧ AccR R_Tbst_node 89 h1 ty0_1 (.slice qy0_1 r.2.1.nodes.length r.2.1.nodes.length) r.2.1.nodes ∧ AccR R_Tbst_info 86 h1 ty0_2 (.slice qy0_2 r.2.1.infos.length r.2.1.infos.length) r.2.1.infos ∧ AccR (RI_ .u64 29) 29 h1 ty0o0_0 (.slice qy0o0_0 r.2.2.1.cells.length r.2.2.1.cells.length) r.2.2.1.cells ∧ OC h1 bp0 bp1 tr r.1 vr) := by
  unfold F_bst_Tree_goes_1 at hF
  refine evo_of rfl at_117 rfl rfl ?_
  refine go_seq ?_
  refine go_region ?_
  refine gAc rfl rfl ?_
  refine go_nil ?_
  refine go_seq ?_
  refine go_region ?_
  refine gr rfl (r_load (ot rfl) (v := .pointer (some ⟨bp0, 0, none⟩)) (lo_e (fun hf kn => ld_cell ag_24 (g3.ext kn) rfl))) ?_
  refine gr rfl (r_fa (ot rfl) (fa_86_0 _ _)) ?_
  refine gr rfl (r_load (ot rfl) (v := .int .i64 p4.grand) (lo_e (fun hf kn => ld_cell ag_3 (g4.ext kn) rfl))) ?_
  refine gr rfl (r_fa (ot rfl) (fa_86_1 _ _)) ?_
  refine gr rfl (r_load (ot rfl) (v := .int .i64 p4.parent) (lo_e (fun hf kn => ld_cell ag_3 (g4.ext kn) rfl))) ?_
  refine gM rfl rfl ?_
  refine gr rfl (r_conv (ot rfl) rfl) ?_
  refine gr rfl (r_func os0 (os1 (ot rfl) (os1 (ot rfl) (os1 (ot rfl) (os1 (ot rfl) os0))))) ?_
  have co9 : CO h bp0 bp1 [] (Clo.c_goes_1_1 p4 p5 p6) (.func (.func 118) #[] #[.pointer (some ⟨b3, 0, none⟩), .pointer (some ⟨b4, 0, none⟩), .pointer (some ⟨b5, 0, none⟩), .pointer (some ⟨b6, 0, none⟩)]) := CO.c_goes_1_1 g3 g4 g5 g6 c6
  replace hF := obind hF
  obtain ⟨x8, hx8, hF⟩ := hF
  refine gs_call EE_fr hw (.cons .z (.cons .z (.cons .z (.cons .z (.cons .z (.cons .z .nil)))))) (fun _ h => by cases h; rfl) of (os1 (ot rfl) (os1 (ot rfl) (os1 (ot rfl) (os1 (ot rfl) (os1 (ot rfl) os0))))) hb_115 (by exact s_bst_Tree_turn hrc hw p0 p0o0 p1 p4.grand p4.parent (IntKind.i64.wrap p2) (Clo.c_goes_1_1 p4 p5 p6) f0_1 f0_2 f0o0_0 co9 hx8) ?_
  rintro v8 S8 h8 e8 w8 ⟨q8_y0_1, t8_y0_1, q8_y0_2, t8_y0_2, q8_y0o0_0, t8_y0o0_0, v8_y1_4, v8_r, t8_r, rfl, rfl, f8_0, f8_1, f8_2, f8_3⟩
  simp only [List.cons_append, List.nil_append]
  refine gA rfl rfl ?_
  refine go_nil ?_
  obtain rfl := someI hF
  exact g_ret (rst rfl rs0) (fun h1 hf hs => ⟨[[⟨bp0, .cells [.pointer (some ⟨bp0o0, 0, none⟩), .slice q8_y0_1 x8.2.1.nodes.length x8.2.1.nodes.length, .slice q8_y0_2 x8.2.1.infos.length x8.2.1.infos.length] 83⟩], t8_y0_1, t8_y0_2, [⟨bp0o0, .cells [.slice q8_y0o0_0 x8.2.2.1.cells.length x8.2.2.1.cells.length, .int .i64 x8.2.2.1.count] 94⟩], t8_y0o0_0, [⟨bp1, .cells [.bool x8.2.2.2.told_Ok, .string x8.2.2.2.told_Key, .int .u64 x8.2.2.2.told_Val, .int .i64 x8.2.2.2.told_Err, v8_y1_4] 114⟩], t8_r], _, hf, e8, w8, hs, (ndb (by intro e; cases e) (ndt f8_0 (ndt f8_1 (ndb (by intro e; cases e) (ndt f8_2 (ndb (by intro e; cases e) (ndc f8_3 nd0))))))), ⟨_, _, _, _, _, _, _, _, _, rfl, rfl, f8_0, f8_1, f8_2, f8_3⟩⟩)
theorem s_bst_Tree_goes_1_1 {rc : RC} (hrc : RCok rc) {h : Heap} (hw : Wf h) (p0 : Obst_Tree) (p0o0 : Omem_Mem) (p1 : Obst_Call) (p3 : Tbst_info) (p4 : Int) (p5 : Clo) {bp0 : Nat} {q0_1 : Option Addr} {t0_1 : List Blk} {q0_2 : Option Addr} {t0_2 : List Blk} {bp0o0 : Nat} {q0o0_0 : Option Addr} {t0o0_0 : List Blk} {bp1 : Nat} {v1_4 : Value} {b2 : Nat} {b3 : Nat} {b4 : Nat} {b5 : Nat} {v5 : Value} (f0_1 : AccR R_Tbst_node 89 h t0_1 (.slice q0_1 p0.nodes.length p0.nodes.length) p0.nodes) (f0_2 : AccR R_Tbst_info 86 h t0_2 (.slice q0_2 p0.infos.length p0.infos.length) p0.infos) (f0o0_0 : AccR (RI_ .u64 29) 29 h t0o0_0 (.slice q0o0_0 p0o0.cells.length p0o0.cells.length) p0o0.cells) (g2 : BK h b2 [.pointer (some ⟨bp0, 0, none⟩)] 24) (g3 : BK h b3 [.int .i64 p3.grand, .int .i64 p3.parent, .int .i64 p3.leaf, .int .i64 p3.next, .int .u64 p3.was] 86) (g4 : BK h b4 [.int .i64 p4] 3) (g5 : BK h b5 [v5] 101) (c5 : CO h bp0 bp1 [] p5 v5) {r : (Option Clo) × Obst_Tree × Omem_Mem × Obst_Call} (hF : F_bst_Tree_goes_1_1 rc p0 p0o0 p1 p3 p4 p5 = some r) :
    EvO EE 118 [.pointer (some ⟨b2, 0, none⟩), .pointer (some ⟨b3, 0, none⟩), .pointer (some ⟨b4, 0, none⟩), .pointer (some ⟨b5, 0, none⟩)] [[⟨bp0, .cells [.pointer (some ⟨bp0o0, 0, none⟩), .slice q0_1 p0.nodes.length p0.nodes.length, .slice q0_2 p0.infos.length p0.infos.length] 83⟩], t0_1, t0_2, [⟨bp0o0, .cells [.slice q0o0_0 p0o0.cells.length p0o0.cells.length, .int .i64 p0o0.count] 94⟩], t0o0_0, [⟨bp1, .cells [.bool p1.told_Ok, .string p1.told_Key, .int .u64 p1.told_Val, .int .i64 p1.told_Err, v1_4] 114⟩]] h (fun v S h1 => ∃ qy0_1 ty0_1 qy0_2 ty0_2 qy0o0_0 ty0o0_0 vy1_4 vr tr, v = vr ∧ S = [[⟨bp0, .cells [.pointer (some ⟨bp0o0, 0, none⟩), .slice qy0_1 r.2.1.nodes.length r.2.1.nodes.length, .slice qy0_2 r.2.1.infos.length r.2.1.infos.length] 83⟩], ty0_1, ty0_2, [⟨bp0o0, .cells [.slice qy0o0_0 r.2.2.1.cells.length r.2.2.1.cells.length, .int .i64 r.2.2.1.count] 94⟩], ty0o0_0, [⟨bp1, .cells [.bool r.2.2.2.told_Ok, .string r.2.2.2.told_Key, .int .u64 r.2.2.2.told_Val, .int .i64 r.2.2.2.told_Err, vy1_4] 114⟩], tr] ∧ AccR R_Tbst_node 89 h1 ty0_1 (.slice qy0_1 r.2.1.nodes.length r.2.1.nodes.length) r.2.1.nodes ∧ AccR R_Tbst_info 86 h1 ty0_2 (.slice qy0_2 r.2.1.infos.length r.2.1.infos.length) r.2.1.infos ∧ AccR (RI_ .u64 29) 29 h1 ty0o0_0 (.slice qy0o0_0 r.2.2.1.cells.length r.2.2.1.cells.length) r.2.2.1.cells ∧ OC h1 bp0 bp1 tr r.1 vr) := by
  unfold F_bst_Tree_goes_1_1 at hF
  refine evo_of rfl at_118 rfl rfl ?_
  refine go_seq ?_
  refine go_region ?_
  refine gAc rfl rfl ?_
  refine go_nil ?_
  refine go_seq ?_
  refine go_region ?_
  refine gr rfl (r_load (ot rfl) (v := .pointer (some ⟨bp0, 0, none⟩)) (lo_e (fun hf kn => ld_cell ag_24 (g2.ext kn) rfl))) ?_
  refine gr rfl (r_fa (ot rfl) (fa_86_0 _ _)) ?_
  refine gr rfl (r_load (ot rfl) (v := .int .i64 p3.grand) (lo_e (fun hf kn => ld_cell ag_3 (g3.ext kn) rfl))) ?_
  refine gr rfl (r_load (ot rfl) (v := .int .i64 p4) (lo_e (fun hf kn => ld_cell ag_3 (g4.ext kn) rfl))) ?_
  refine gr rfl (r_load (ot rfl) (v := v5) (lo_e (fun hf kn => ld_cell ag_101 (g5.ext kn) rfl))) ?_
  replace hF := obind hF
  obtain ⟨x7, hx7, hF⟩ := hF
  refine gs_call EE_fr hw (.cons .z (.cons .z (.cons .z (.cons .z (.cons .z (.cons .z .nil)))))) (fun _ h => by cases h; rfl) of (os1 (ot rfl) (os1 (ot rfl) (os1 (oc rfl) (os1 (ot rfl) (os1 (ot rfl) os0))))) hb_113 (by exact s_bst_Tree_clean hrc hw p0 p0o0 p1 p3.grand 2 p4 p5 f0_1 f0_2 f0o0_0 c5 hx7) ?_
  rintro v7 S7 h7 e7 w7 ⟨q7_y0_1, t7_y0_1, q7_y0_2, t7_y0_2, q7_y0o0_0, t7_y0o0_0, v7_y1_4, v7_r, t7_r, rfl, rfl, f7_0, f7_1, f7_2, f7_3⟩
  simp only [List.cons_append, List.nil_append]
  refine gA rfl rfl ?_
  refine go_nil ?_
  obtain rfl := someI hF
  exact g_ret (rst rfl rs0) (fun h1 hf hs => ⟨[[⟨bp0, .cells [.pointer (some ⟨bp0o0, 0, none⟩), .slice q7_y0_1 x7.2.1.nodes.length x7.2.1.nodes.length, .slice q7_y0_2 x7.2.1.infos.length x7.2.1.infos.length] 83⟩], t7_y0_1, t7_y0_2, [⟨bp0o0, .cells [.slice q7_y0o0_0 x7.2.2.1.cells.length x7.2.2.1.cells.length, .int .i64 x7.2.2.1.count] 94⟩], t7_y0o0_0, [⟨bp1, .cells [.bool x7.2.2.2.told_Ok, .string x7.2.2.2.told_Key, .int .u64 x7.2.2.2.told_Val, .int .i64 x7.2.2.2.told_Err, v7_y1_4] 114⟩], t7_r], _, hf, e7, w7, hs, (ndb (by intro e; cases e) (ndt f7_0 (ndt f7_1 (ndb (by intro e; cases e) (ndt f7_2 (ndb (by intro e; cases e) (ndc f7_3 nd0))))))), ⟨_, _, _, _, _, _, _, _, _, rfl, rfl, f7_0, f7_1, f7_2, f7_3⟩⟩)
theorem s_bst_Tree_goes_2 {rc : RC} (hrc : RCok rc) {h : Heap} (hw : Wf h) (p0 : Obst_Tree) (p0o0 : Omem_Mem) (p1 : Obst_Call) (p3 : Tbst_info) (p4 : Clo) {bp0 : Nat} {q0_1 : Option Addr} {t0_1 : List Blk} {q0_2 : Option Addr} {t0_2 : List Blk} {bp0o0 : Nat} {q0o0_0 : Option Addr} {t0o0_0 : List Blk} {bp1 : Nat} {v1_4 : Value} {b2 : Nat} {b3 : Nat} {b4 : Nat} {v4 : Value} (f0_1 : AccR R_Tbst_node 89 h t0_1 (.slice q0_1 p0.nodes.length p0.nodes.length) p0.nodes) (f0_2 : AccR R_Tbst_info 86 h t0_2 (.slice q0_2 p0.infos.length p0.infos.length) p0.infos) (f0o0_0 : AccR (RI_ .u64 29) 29 h t0o0_0 (.slice q0o0_0 p0o0.cells.length p0o0.cells.length) p0o0.cells) (g2 : BK h b2 [.pointer (some ⟨bp0, 0, none⟩)] 24) (g3 : BK h b3 [.int .i64 p3.grand, .int .i64 p3.parent, .int .i64 p3.leaf, .int .i64 p3.next, .int .u64 p3.was] 86) (g4 : BK h b4 [v4] 165) (c4 : CO h bp0 bp1 [] p4 v4) {r : (Option Clo) × Obst_Tree × Omem_Mem × Obst_Call} (hF : F_bst_Tree_goes_2 rc p0 p0o0 p1 p3 p4 = some r) :
    EvO EE 119 [.pointer (some ⟨b2, 0, none⟩), .pointer (some ⟨b3, 0, none⟩), .pointer (some ⟨b4, 0, none⟩)] [[⟨bp0, .cells [.pointer (some ⟨bp0o0, 0, none⟩), .slice q0_1 p0.nodes.length p0.nodes.length, .slice q0_2 p0.infos.length p0.infos.length] 83⟩], t0_1, t0_2, [⟨bp0o0, .cells [.slice q0o0_0 p0o0.cells.length p0o0.cells.length, .int .i64 p0o0.count] 94⟩], t0o0_0, [⟨bp1, .cells [.bool p1.told_Ok, .string p1.told_Key, .int .u64 p1.told_Val, .int .i64 p1.told_Err, v1_4] 114⟩]] h (fun v S h1 => ∃ qy0_1 ty0_1 qy0_2 ty0_2 qy0o0_0 ty0o0_0 vy1_4 vr tr, v = vr ∧ S = [[⟨bp0, .cells [.pointer (some ⟨bp0o0, 0, none⟩), .slice qy0_1 r.2.1.nodes.length r.2.1.nodes.length, .slice qy0_2 r.2.1.infos.length r.2.1.infos.length] 83⟩], ty0_1, ty0_2, [⟨bp0o0, .cells [.slice qy0o0_0 r.2.2.1.cells.length r.2.2.1.cells.length, .int .i64 r.2.2.1.count] 94⟩], ty0o0_0, [⟨bp1, .cells [.bool r.2.2.2.told_Ok, .string r.2.2.2.told_Key, .int .u64 r.2.2.2.told_Val, .int .i64 r.2.2.2.told_Err, vy1_4] 114⟩], tr] ∧ AccR R_Tbst_node 89 h1 ty0_1 (.slice qy0_1 r.2.1.nodes.length r.2.1.nodes.length) r.2.1.nodes ∧ AccR R_Tbst_info 86 h1 ty0_2 (.slice qy0_2 r.2.1.infos.length r.2.1.infos.length) r.2.1.infos ∧ AccR (RI_ .u64 29) 29 h1 ty0o0_0 (.slice qy0o0_0 r.2.2.1.cells.length r.2.2.1.cells.length) r.2.2.1.cells ∧ OC h1 bp0 bp1 tr r.1 vr) := by
  unfold F_bst_Tree_goes_2 at hF
  refine evo_of rfl at_119 rfl rfl ?_
  refine go_seq ?_
  refine go_region ?_
  refine gAc rfl rfl ?_
  refine go_nil ?_
  refine go_seq ?_
  refine go_regions (L := [(0, []), (1, []), (2, []), (3, []), (4, []), (5, []), (6, []), (7, [0, 3]), (8, []), (9, []), (10, []), (11, []), (12, []), (13, [])]) (by kernel_rfl) (by kernel_rfl) (fun _ => rfl) ?_
  refine go_sop rfl rfl ?_
  refine gr rfl (r_load (ot rfl) (v := .pointer (some ⟨bp0, 0, none⟩)) (lo_e (fun hf kn => ld_cell ag_24 (g2.ext kn) rfl))) ?_
  refine go_nil ?_
  refine go_sop rfl rfl ?_
  refine gr rfl (r_nilck (ot rfl)) ?_
  refine go_nil ?_
  refine go_sop rfl rfl ?_
  refine gr rfl (r_fa (ot rfl) (fa_83_0 _ _)) ?_
  refine go_nil ?_
  refine go_sop rfl rfl ?_
  refine gr rfl (r_load (ot rfl) (lm_s (mem_seg 0 rfl) ag_26 rfl)) ?_
  refine go_nil ?_
  refine go_sop rfl rfl ?_
  refine gr rfl (r_load (ot rfl) (v := .pointer (some ⟨bp0, 0, none⟩)) (lo_e (fun hf kn => ld_cell ag_24 (g2.ext kn) rfl))) ?_
  refine go_nil ?_
  refine go_sop rfl rfl ?_
  refine gr rfl (r_fa (ot rfl) (fa_86_1 _ _)) ?_
  refine go_nil ?_
  refine go_sop rfl rfl ?_
  refine gr rfl (r_load (ot rfl) (v := .int .i64 p3.parent) (lo_e (fun hf kn => ld_cell ag_3 (g3.ext kn) rfl))) ?_
  refine go_nil ?_
  refine go_sopc [(0, .pointer (some ⟨bp0, 0, none⟩)), (3, .pointer (some ⟨bp0o0, 0, none⟩))] rfl rfl rfl (rc1 rfl (r_load (ot rfl) (v := .pointer (some ⟨bp0, 0, none⟩)) (lo_e (fun hf kn => ld_cell ag_24 (g2.ext kn) rfl))) (rc1 rfl (r_load (ot rfl) (lm_s (mem_seg 0 rfl) ag_26 rfl)) rc0)) (vq1 (veq_ptr _ _) (vq1 (veq_ptr _ _) vq0)) rfl ?_
  replace hF := obind hF
  obtain ⟨x6, hx6, hF⟩ := hF
  refine gs_call EE_fr hw (.cons .z (.cons .z (.cons .z (.cons .z (.cons .z .nil))))) (fun _ h => by cases h; rfl) of (os1 (ot rfl) (os1 (ot rfl) (os1 (oc rfl) os0))) hb_55 (by exact s_bst_Tree_cell hw p0 p0o0 p3.parent 2 f0_1 f0_2 f0o0_0 hx6) ?_
  rintro v6 S6 h6 e6 w6 ⟨q6_y0_1, t6_y0_1, q6_y0_2, t6_y0_2, q6_y0o0_0, t6_y0o0_0, rfl, rfl, f6_0, f6_1, f6_2⟩
  simp only [List.cons_append, List.nil_append]
  refine go_nil ?_
  refine go_rck (rc1 rfl (r_load (ot rfl) (v := .pointer (some ⟨bp0, 0, none⟩)) (lo_e (fun hf kn => ld_cell ag_24 ((g2.ext e6.kn).ext kn) rfl))) (rc1 rfl (r_load (ot rfl) (lm_s (mem_seg 0 rfl) ag_26 rfl)) rc0)) ?_
  refine go_sop rfl rfl ?_
  replace hF := obind hF
  obtain ⟨x7, hx7, hF⟩ := hF
  refine gs_call EE_fr w6 (.cons (.s (.s (.s (.z)))) (.cons (.s (.s (.s (.z)))) .nil)) (fun _ h => by cases h; rfl) of (os1 (ot rfl) (os1 (ot rfl) os0)) hb_73 (by exact s_mem_Mem_Load w6 (⟨x6.2.2.cells, x6.2.2.count⟩ : Omem_Mem) x6.1 f6_2 hx7) ?_
  rintro v7 S7 h7 e7 w7 ⟨q7_y0_0, t7_y0_0, rfl, rfl, f7_0⟩
  simp only [List.cons_append, List.nil_append]
  refine go_nil ?_
  refine go_sop rfl rfl ?_
  refine gM rfl rfl ?_
  refine go_nil ?_
  refine go_sop rfl rfl ?_
  refine gE rfl rfl rfl ?_
  refine go_nil ?_
  refine go_sop rfl rfl ?_
  refine gE rfl rfl rfl ?_
  refine go_nil ?_
  refine go_sop rfl rfl ?_
  refine gA rfl rfl ?_
  refine go_nil ?_
  refine go_sop rfl rfl ?_
  refine gA rfl rfl ?_
  refine go_nil ?_
  refine go_snil ?_
  refine go_seq ?_
  refine go_seq ?_
  refine go_region ?_
  refine gM rfl rfl ?_
  refine gr rfl (r_conv (ot rfl) rfl) ?_
  refine gr rfl (r_fa (ot rfl) (fa_86_2 _ _)) ?_
  refine gr rfl (r_load (ot rfl) (v := .int .i64 p3.leaf) (lo_e (fun hf kn => ld_cell ag_3 (((g3.ext e6.kn).ext e7.kn).ext kn) rfl))) ?_
  refine gr rfl (r_bin (ot rfl) (ot rfl) rfl) ?_
  refine go_nil ?_
  refine g_cond (b := ((IntKind.i64.wrap x7.1) != p3.leaf)) (ot rfl) (fun hc8 => ?_) (fun hc8 => ?_)
  ·
    replace hF := ifT hc8 hF
    refine go_seq ?_
    refine go_region ?_
    refine gr rfl (r_load (ot rfl) (v := v4) (lo_e (fun hf kn => ld_cell ag_165 (((g4.ext e6.kn).ext e7.kn).ext kn) rfl))) ?_
    refine gM rfl rfl ?_
    replace hF := obind hF
    obtain ⟨x9, hx9, hF⟩ := hF
    refine gs_calld EE_fr w7 (.cons (.s (.s (.z))) (.cons (.s (.s (.z))) (.cons (.s (.s (.z))) (.cons .z (.cons .z (.cons .z (.emp .nil))))))) (fun _ h => by cases h; rfl) (ot rfl) (os1 (ot rfl) os0) (by exact hrc w7 (⟨x6.2.1.nodes, x6.2.1.infos⟩ : Obst_Tree) (⟨x7.2.2.cells, x7.2.2.count⟩ : Omem_Mem) p1 (f6_0.ext e7.kn) (f6_1.ext e7.kn) f7_0 p4 (Arg.w x7.1) [] ((c4.ext e6.kn).ext e7.kn) hx9) ?_
    rintro v9 S9 h9 e9 w9 ⟨q9_y0_1, t9_y0_1, q9_y0_2, t9_y0_2, q9_y0o0_0, t9_y0o0_0, v9_y1_4, v9_r, t9_r, rfl, rfl, f9_0, f9_1, f9_2, f9_3⟩
    simp only [List.cons_append, List.nil_append]
    refine gA rfl rfl ?_
    refine go_nil ?_
    obtain rfl := someI hF
    exact g_ret (rst rfl rs0) (fun h1 hf hs => ⟨[[⟨bp0, .cells [.pointer (some ⟨bp0o0, 0, none⟩), .slice q9_y0_1 x9.2.1.nodes.length x9.2.1.nodes.length, .slice q9_y0_2 x9.2.1.infos.length x9.2.1.infos.length] 83⟩], t9_y0_1, t9_y0_2, [⟨bp0o0, .cells [.slice q9_y0o0_0 x9.2.2.1.cells.length x9.2.2.1.cells.length, .int .i64 x9.2.2.1.count] 94⟩], t9_y0o0_0, [⟨bp1, .cells [.bool x9.2.2.2.told_Ok, .string x9.2.2.2.told_Key, .int .u64 x9.2.2.2.told_Val, .int .i64 x9.2.2.2.told_Err, v9_y1_4] 114⟩], t9_r], _, hf, (e6.trans (e7.trans e9)), w9, hs, (ndb (by intro e; cases e) (ndt f9_0 (ndt f9_1 (ndb (by intro e; cases e) (ndt f9_2 (ndb (by intro e; cases e) (ndc f9_3 nd0))))))), ⟨_, _, _, _, _, _, _, _, _, rfl, rfl, f9_0, f9_1, f9_2, f9_3⟩⟩)
  ·
    replace hF := ifF hc8 hF
    refine go_skip ?_
    refine go_seq ?_
    refine go_region ?_
    refine gr rfl (r_func os0 (os1 (ot rfl) (os1 (ot rfl) (os1 (ot rfl) os0)))) ?_
    refine gA rfl rfl ?_
    refine go_nil ?_
    have co10 : CO h7 bp0 bp1 [] (Clo.c_goes_2_1 p3 p4) (.func (.func 120) #[] #[.pointer (some ⟨b2, 0, none⟩), .pointer (some ⟨b3, 0, none⟩), .pointer (some ⟨b4, 0, none⟩)]) := CO.c_goes_2_1 ((g2.ext e6.kn).ext e7.kn) ((g3.ext e6.kn).ext e7.kn) ((g4.ext e6.kn).ext e7.kn) ((c4.ext e6.kn).ext e7.kn)
    obtain rfl := someI hF
    refine gs_perm (perm_of (d := []) _ [2, 3, 4, 0, 1, 5] rfl) ?_
    exact g_ret (rst rfl rs0) (fun h1 hf hs => ⟨[[⟨bp0, .cells [.pointer (some ⟨bp0o0, 0, none⟩), .slice q6_y0_1 x6.2.1.nodes.length x6.2.1.nodes.length, .slice q6_y0_2 x6.2.1.infos.length x6.2.1.infos.length] 83⟩], t6_y0_1, t6_y0_2, [⟨bp0o0, .cells [.slice q7_y0_0 x7.2.2.cells.length x7.2.2.cells.length, .int .i64 x7.2.2.count] 94⟩], t7_y0_0, [⟨bp1, .cells [.bool p1.told_Ok, .string p1.told_Key, .int .u64 p1.told_Val, .int .i64 p1.told_Err, v1_4] 114⟩], []], _, hf, (e6.trans e7), w7, hs, (ndb (by intro e; cases e) (ndt (f6_0.ext e7.kn) (ndt (f6_1.ext e7.kn) (ndb (by intro e; cases e) (ndt f7_0 (ndb (by intro e; cases e) (nde nd0))))))), ⟨_, _, _, _, _, _, _, _, _, rfl, rfl, (f6_0.ext e7.kn), (f6_1.ext e7.kn), f7_0, (OC.some co10)⟩⟩)
theorem s_bst_Tree_goes_2_1 {rc : RC} (hrc : RCok rc) {h : Heap} (hw : Wf h) (p0 : Obst_Tree) (p0o0 : Omem_Mem) (p1 : Obst_Call) (p3 : Tbst_info) (p4 : Clo) {bp0 : Nat} {q0_1 : Option Addr} {t0_1 : List Blk} {q0_2 : Option Addr} {t0_2 : List Blk} {bp0o0 : Nat} {q0o0_0 : Option Addr} {t0o0_0 : List Blk} {bp1 : Nat} {v1_4 : Value} {b2 : Nat} {b3 : Nat} {b4 : Nat} {v4 : Value} (f0_1 : AccR R_Tbst_node 89 h t0_1 (.slice q0_1 p0.nodes.length p0.nodes.length) p0.nodes) (f0_2 : AccR R_Tbst_info 86 h t0_2 (.slice q0_2 p0.infos.length p0.infos.length) p0.infos) (f0o0_0 : AccR (RI_ .u64 29) 29 h t0o0_0 (.slice q0o0_0 p0o0.cells.length p0o0.cells.length) p0o0.cells) (g2 : BK h b2 [.pointer (some ⟨bp0, 0, none⟩)] 24) (g3 : BK h b3 [.int .i64 p3.grand, .int .i64 p3.parent, .int .i64 p3.leaf, .int .i64 p3.next, .int .u64 p3.was] 86) (g4 : BK h b4 [v4] 165) (c4 : CO h bp0 bp1 [] p4 v4) {r : (Option Clo) × Obst_Tree × Omem_Mem × Obst_Call} (hF : F_bst_Tree_goes_2_1 rc p0 p0o0 p1 p3 p4 = some r) :
    EvO EE 120 [.pointer (some ⟨b2, 0, none⟩), .pointer (some ⟨b3, 0, none⟩), .pointer (some ⟨b4, 0, none⟩)] [[⟨bp0, .cells [.pointer (some ⟨bp0o0, 0, none⟩), .slice q0_1 p0.nodes.length p0.nodes.length, .slice q0_2 p0.infos.length p0.infos.length] 83⟩], t0_1, t0_2, [⟨bp0o0, .cells [.slice q0o0_0 p0o0.cells.length p0o0.cells.length, .int .i64 p0o0.count] 94⟩], t0o0_0, [⟨bp1, .cells [.bool p1.told_Ok, .string p1.told_Key, .int .u64 p1.told_Val, .int .i64 p1.told_Err, v1_4] 114⟩]] h (fun v S h1 => ∃ qy0_1 ty0_1 qy0_2 ty0_2 qy0o0_0 ty0o0_0 vy1_4 vr tr, v = vr ∧ S = [[⟨bp0, .cells [.pointer (some ⟨bp0o0, 0, none⟩), .slice qy0_1 r.2.1.nodes.length r.2.1.nodes.length, .slice qy0_2 r.2.1.infos.length r.2.1.infos.length] 83⟩], ty0_1, ty0_2, [⟨bp0o0, .cells [.slice qy0o0_0 r.2.2.1.cells.length r.2.2.1.cells.length, .int .i64 r.2.2.1.count] 94⟩], ty0o0_0, [⟨bp1, .cells [.bool r.2.2.2.told_Ok, .string r.2.2.2.told_Key, .int .u64 r.2.2.2.told_Val, .int .i64 r.2.2.2.told_Err, vy1_4] 114⟩], tr] ∧ AccR R_Tbst_node 89 h1 ty0_1 (.slice qy0_1 r.2.1.nodes.length r.2.1.nodes.length) r.2.1.nodes ∧ AccR R_Tbst_info 86 h1 ty0_2 (.slice qy0_2 r.2.1.infos.length r.2.1.infos.length) r.2.1.infos ∧ AccR (RI_ .u64 29) 29 h1 ty0o0_0 (.slice qy0o0_0 r.2.2.1.cells.length r.2.2.1.cells.length) r.2.2.1.cells ∧ OC h1 bp0 bp1 tr r.1 vr) := by
  unfold F_bst_Tree_goes_2_1 at hF
  refine evo_of rfl at_120 rfl rfl ?_
  refine go_seq ?_
  refine go_region ?_
  refine gAc rfl rfl ?_
  refine go_nil ?_
  refine go_seq ?_
  refine go_regions (L := [(0, []), (1, []), (2, []), (3, []), (4, []), (5, []), (6, []), (7, [0, 3]), (8, []), (9, []), (10, []), (11, []), (12, []), (13, [])]) (by kernel_rfl) (by kernel_rfl) (fun _ => rfl) ?_
  refine go_sop rfl rfl ?_
  refine gr rfl (r_load (ot rfl) (v := .pointer (some ⟨bp0, 0, none⟩)) (lo_e (fun hf kn => ld_cell ag_24 (g2.ext kn) rfl))) ?_
  refine go_nil ?_
  refine go_sop rfl rfl ?_
  refine gr rfl (r_nilck (ot rfl)) ?_
  refine go_nil ?_
  refine go_sop rfl rfl ?_
  refine gr rfl (r_fa (ot rfl) (fa_83_0 _ _)) ?_
  refine go_nil ?_
  refine go_sop rfl rfl ?_
  refine gr rfl (r_load (ot rfl) (lm_s (mem_seg 0 rfl) ag_26 rfl)) ?_
  refine go_nil ?_
  refine go_sop rfl rfl ?_
  refine gr rfl (r_load (ot rfl) (v := .pointer (some ⟨bp0, 0, none⟩)) (lo_e (fun hf kn => ld_cell ag_24 (g2.ext kn) rfl))) ?_
  refine go_nil ?_
  refine go_sop rfl rfl ?_
  refine gr rfl (r_fa (ot rfl) (fa_86_1 _ _)) ?_
  refine go_nil ?_
  refine go_sop rfl rfl ?_
  refine gr rfl (r_load (ot rfl) (v := .int .i64 p3.parent) (lo_e (fun hf kn => ld_cell ag_3 (g3.ext kn) rfl))) ?_
  refine go_nil ?_
  refine go_sopc [(0, .pointer (some ⟨bp0, 0, none⟩)), (3, .pointer (some ⟨bp0o0, 0, none⟩))] rfl rfl rfl (rc1 rfl (r_load (ot rfl) (v := .pointer (some ⟨bp0, 0, none⟩)) (lo_e (fun hf kn => ld_cell ag_24 (g2.ext kn) rfl))) (rc1 rfl (r_load (ot rfl) (lm_s (mem_seg 0 rfl) ag_26 rfl)) rc0)) (vq1 (veq_ptr _ _) (vq1 (veq_ptr _ _) vq0)) rfl ?_
  replace hF := obind hF
  obtain ⟨x6, hx6, hF⟩ := hF
  refine gs_call EE_fr hw (.cons .z (.cons .z (.cons .z (.cons .z (.cons .z .nil))))) (fun _ h => by cases h; rfl) of (os1 (ot rfl) (os1 (ot rfl) (os1 (oc rfl) os0))) hb_55 (by exact s_bst_Tree_cell hw p0 p0o0 p3.parent 1 f0_1 f0_2 f0o0_0 hx6) ?_
  rintro v6 S6 h6 e6 w6 ⟨q6_y0_1, t6_y0_1, q6_y0_2, t6_y0_2, q6_y0o0_0, t6_y0o0_0, rfl, rfl, f6_0, f6_1, f6_2⟩
  simp only [List.cons_append, List.nil_append]
  refine go_nil ?_
  refine go_rck (rc1 rfl (r_load (ot rfl) (v := .pointer (some ⟨bp0, 0, none⟩)) (lo_e (fun hf kn => ld_cell ag_24 ((g2.ext e6.kn).ext kn) rfl))) (rc1 rfl (r_load (ot rfl) (lm_s (mem_seg 0 rfl) ag_26 rfl)) rc0)) ?_
  refine go_sop rfl rfl ?_
  replace hF := obind hF
  obtain ⟨x7, hx7, hF⟩ := hF
  refine gs_call EE_fr w6 (.cons (.s (.s (.s (.z)))) (.cons (.s (.s (.s (.z)))) .nil)) (fun _ h => by cases h; rfl) of (os1 (ot rfl) (os1 (ot rfl) os0)) hb_73 (by exact s_mem_Mem_Load w6 (⟨x6.2.2.cells, x6.2.2.count⟩ : Omem_Mem) x6.1 f6_2 hx7) ?_
  rintro v7 S7 h7 e7 w7 ⟨q7_y0_0, t7_y0_0, rfl, rfl, f7_0⟩
  simp only [List.cons_append, List.nil_append]
  refine go_nil ?_
  refine go_sop rfl rfl ?_
  refine gM rfl rfl ?_
  refine go_nil ?_
  refine go_sop rfl rfl ?_
  refine gE rfl rfl rfl ?_
  refine go_nil ?_
  refine go_sop rfl rfl ?_
  refine gE rfl rfl rfl ?_
  refine go_nil ?_
  refine go_sop rfl rfl ?_
  refine gA rfl rfl ?_
  refine go_nil ?_
  refine go_sop rfl rfl ?_
  refine gA rfl rfl ?_
  refine go_nil ?_
  refine go_snil ?_
  refine go_seq ?_
  refine go_region ?_
  refine gr rfl (r_load (ot rfl) (v := v4) (lo_e (fun hf kn => ld_cell ag_165 (((g4.ext e6.kn).ext e7.kn).ext kn) rfl))) ?_
  refine gM rfl rfl ?_
  replace hF := obind hF
  obtain ⟨x8, hx8, hF⟩ := hF
  refine gs_calld EE_fr w7 (.cons (.s (.s (.z))) (.cons (.s (.s (.z))) (.cons (.s (.s (.z))) (.cons .z (.cons .z (.cons .z (.emp .nil))))))) (fun _ h => by cases h; rfl) (ot rfl) (os1 (ot rfl) os0) (by exact hrc w7 (⟨x6.2.1.nodes, x6.2.1.infos⟩ : Obst_Tree) (⟨x7.2.2.cells, x7.2.2.count⟩ : Omem_Mem) p1 (f6_0.ext e7.kn) (f6_1.ext e7.kn) f7_0 p4 (Arg.w x7.1) [] ((c4.ext e6.kn).ext e7.kn) hx8) ?_
  rintro v8 S8 h8 e8 w8 ⟨q8_y0_1, t8_y0_1, q8_y0_2, t8_y0_2, q8_y0o0_0, t8_y0o0_0, v8_y1_4, v8_r, t8_r, rfl, rfl, f8_0, f8_1, f8_2, f8_3⟩
  simp only [List.cons_append, List.nil_append]
  refine gA rfl rfl ?_
  refine go_nil ?_
  obtain rfl := someI hF
  exact g_ret (rst rfl rs0) (fun h1 hf hs => ⟨[[⟨bp0, .cells [.pointer (some ⟨bp0o0, 0, none⟩), .slice q8_y0_1 x8.2.1.nodes.length x8.2.1.nodes.length, .slice q8_y0_2 x8.2.1.infos.length x8.2.1.infos.length] 83⟩], t8_y0_1, t8_y0_2, [⟨bp0o0, .cells [.slice q8_y0o0_0 x8.2.2.1.cells.length x8.2.2.1.cells.length, .int .i64 x8.2.2.1.count] 94⟩], t8_y0o0_0, [⟨bp1, .cells [.bool x8.2.2.2.told_Ok, .string x8.2.2.2.told_Key, .int .u64 x8.2.2.2.told_Val, .int .i64 x8.2.2.2.told_Err, v8_y1_4] 114⟩], t8_r], _, hf, (e6.trans (e7.trans e8)), w8, hs, (ndb (by intro e; cases e) (ndt f8_0 (ndt f8_1 (ndb (by intro e; cases e) (ndt f8_2 (ndb (by intro e; cases e) (ndc f8_3 nd0))))))), ⟨_, _, _, _, _, _, _, _, _, rfl, rfl, f8_0, f8_1, f8_2, f8_3⟩⟩)
theorem s_bst_Tree_clean_1 {rc : RC} (hrc : RCok rc) {h : Heap} (hw : Wf h) (p0 : Obst_Tree) (p0o0 : Omem_Mem) (p1 : Obst_Call) (p3 : Int) (p4 : Int) (p5 : Int) (p6 : Clo) {bp0 : Nat} {q0_1 : Option Addr} {t0_1 : List Blk} {q0_2 : Option Addr} {t0_2 : List Blk} {bp0o0 : Nat} {q0o0_0 : Option Addr} {t0o0_0 : List Blk} {bp1 : Nat} {v1_4 : Value} {b2 : Nat} {b3 : Nat} {b4 : Nat} {b5 : Nat} {b6 : Nat} {v6 : Value} (f0_1 : AccR R_Tbst_node 89 h t0_1 (.slice q0_1 p0.nodes.length p0.nodes.length) p0.nodes) (f0_2 : AccR R_Tbst_info 86 h t0_2 (.slice q0_2 p0.infos.length p0.infos.length) p0.infos) (f0o0_0 : AccR (RI_ .u64 29) 29 h t0o0_0 (.slice q0o0_0 p0o0.cells.length p0o0.cells.length) p0o0.cells) (g2 : BK h b2 [.pointer (some ⟨bp0, 0, none⟩)] 24) (g3 : BK h b3 [.int .i64 p3] 3) (g4 : BK h b4 [.int .i64 p4] 3) (g5 : BK h b5 [.int .i64 p5] 3) (g6 : BK h b6 [v6] 101) (c6 : CO h bp0 bp1 [] p6 v6) {r : (Option Clo) × Obst_Tree × Omem_Mem × Obst_Call} (hF : F_bst_Tree_clean_1 rc p0 p0o0 p1 p3 p4 p5 p6 = some r) :
    EvO EE 121 [.pointer (some ⟨b2, 0, none⟩), .pointer (some ⟨b3, 0, none⟩), .pointer (some ⟨b4, 0, none⟩), .pointer (some ⟨b5, 0, none⟩), .pointer (some ⟨b6, 0, none⟩)] [[⟨bp0, .cells [.pointer (some ⟨bp0o0, 0, none⟩), .slice q0_1 p0.nodes.length p0.nodes.length, .slice q0_2 p0.infos.length p0.infos.length] 83⟩], t0_1, t0_2, [⟨bp0o0, .cells [.slice q0o0_0 p0o0.cells.length p0o0.cells.length, .int .i64 p0o0.count] 94⟩], t0o0_0, [⟨bp1, .cells [.bool p1.told_Ok, .string p1.told_Key, .int .u64 p1.told_Val, .int .i64 p1.told_Err, v1_4] 114⟩]] h (fun v S h1 => ∃ qy0_1 ty0_1 qy0_2 ty0_2 qy0o0_0 ty0o0_0 vy1_4 vr tr, v = vr ∧ S = [[⟨bp0, .cells [.pointer (some ⟨bp0o0, 0, none⟩), .slice qy0_1 r.2.1.nodes.length r.2.1.nodes.length, .slice qy0_2 r.2.1.infos.length r.2.1.infos.length] 83⟩], ty0_1, ty0_2, [⟨bp0o0, .cells [.slice qy0o0_0 r.2.2.1.cells.length r.2.2.1.cells.length, .int .i64 r.2.2.1.count] 94⟩], ty0o0_0, [⟨bp1, .cells [.bool r.2.2.2.told_Ok, .string r.2.2.2.told_Key, .int .u64 r.2.2.2.told_Val, .int .i64 r.2.2.2.told_Err, vy1_4] 114⟩], tr] ∧ AccR R_Tbst_node 89 h1 ty0_1 (.slice qy0_1 r.2.1.nodes.length r.2.1.nodes.length) r.2.1.nodes ∧ AccR R_Tbst_info 86 h1 ty0_2 (.slice qy0_2 r.2.1.infos.length r.2.1.infos.length) r.2.1.infos ∧ AccR (RI_ .u64 29) 29 h1 ty0o0_0 (.slice qy0o0_0 r.2.2.1.cells.length r.2.2.1.cells.length) r.2.2.1.cells ∧ OC h1 bp0 bp1 tr r.1 vr) := by
  unfold F_bst_Tree_clean_1 at hF
  refine evo_of rfl at_121 rfl rfl ?_
  refine go_seq ?_
  refine go_region ?_
  refine gAc rfl rfl ?_
  refine go_nil ?_
  refine go_seq ?_
  refine go_regions (L := [(0, []), (1, []), (2, []), (3, []), (4, []), (5, []), (7, []), (8, []), (10, []), (6, [0, 3, 7, 8, 10]), (9, [0, 3, 10]), (11, [0, 3]), (12, [])]) (by kernel_rfl) (by kernel_rfl) (fun _ => rfl) ?_
  refine go_sop rfl rfl ?_
  refine gr rfl (r_load (ot rfl) (v := .pointer (some ⟨bp0, 0, none⟩)) (lo_e (fun hf kn => ld_cell ag_24 (g2.ext kn) rfl))) ?_
  refine go_nil ?_
  refine go_sop rfl rfl ?_
  refine gr rfl (r_nilck (ot rfl)) ?_
  refine go_nil ?_
  refine go_sop rfl rfl ?_
  refine gr rfl (r_fa (ot rfl) (fa_83_0 _ _)) ?_
  refine go_nil ?_
  refine go_sop rfl rfl ?_
  refine gr rfl (r_load (ot rfl) (lm_s (mem_seg 0 rfl) ag_26 rfl)) ?_
  refine go_nil ?_
  refine go_sop rfl rfl ?_
  refine gr rfl (r_load (ot rfl) (v := .pointer (some ⟨bp0, 0, none⟩)) (lo_e (fun hf kn => ld_cell ag_24 (g2.ext kn) rfl))) ?_
  refine go_nil ?_
  refine go_sop rfl rfl ?_
  refine gr rfl (r_load (ot rfl) (v := .int .i64 p3) (lo_e (fun hf kn => ld_cell ag_3 (g3.ext kn) rfl))) ?_
  refine go_nil ?_
  refine go_sop rfl rfl ?_
  refine gr rfl (r_load (ot rfl) (v := .int .i64 p4) (lo_e (fun hf kn => ld_cell ag_3 (g4.ext kn) rfl))) ?_
  refine go_nil ?_
  refine go_sop rfl rfl ?_
  refine gr rfl (r_load (ot rfl) (v := .int .i64 p5) (lo_e (fun hf kn => ld_cell ag_3 (g5.ext kn) rfl))) ?_
  refine go_nil ?_
  refine go_sop rfl rfl ?_
  refine gr rfl (r_load (ot rfl) (v := .int .i64 p5) (lo_e (fun hf kn => ld_cell ag_3 (g5.ext kn) rfl))) ?_
  refine go_nil ?_
  refine go_sopc [(0, .pointer (some ⟨bp0, 0, none⟩)), (3, .pointer (some ⟨bp0o0, 0, none⟩)), (7, .int .i64 p4), (8, .int .i64 p5), (10, .int .i64 p5)] rfl rfl rfl (rc1 rfl (r_load (ot rfl) (v := .pointer (some ⟨bp0, 0, none⟩)) (lo_e (fun hf kn => ld_cell ag_24 (g2.ext kn) rfl))) (rc1 rfl (r_load (ot rfl) (lm_s (mem_seg 0 rfl) ag_26 rfl)) (rc1 rfl (r_load (ot rfl) (v := .int .i64 p4) (lo_e (fun hf kn => ld_cell ag_3 (g4.ext kn) rfl))) (rc1 rfl (r_load (ot rfl) (v := .int .i64 p5) (lo_e (fun hf kn => ld_cell ag_3 (g5.ext kn) rfl))) (rc1 rfl (r_load (ot rfl) (v := .int .i64 p5) (lo_e (fun hf kn => ld_cell ag_3 (g5.ext kn) rfl))) rc0))))) (vq1 (veq_ptr _ _) (vq1 (veq_ptr _ _) (vq1 (veq_int _ _ _) (vq1 (veq_int _ _ _) (vq1 (veq_int _ _ _) vq0))))) rfl ?_
  replace hF := obind hF
  obtain ⟨x8, hx8, hF⟩ := hF
  refine gs_call EE_fr hw (.cons .z (.cons .z (.cons .z (.cons .z (.cons .z .nil))))) (fun _ h => by cases h; rfl) of (os1 (ot rfl) (os1 (ot rfl) (os1 (oc rfl) os0))) hb_55 (by exact s_bst_Tree_cell hw p0 p0o0 p3 0 f0_1 f0_2 f0o0_0 hx8) ?_
  rintro v8 S8 h8 e8 w8 ⟨q8_y0_1, t8_y0_1, q8_y0_2, t8_y0_2, q8_y0o0_0, t8_y0o0_0, rfl, rfl, f8_0, f8_1, f8_2⟩
  simp only [List.cons_append, List.nil_append]
  refine go_nil ?_
  refine go_rck (rc1 rfl (r_load (ot rfl) (v := .pointer (some ⟨bp0, 0, none⟩)) (lo_e (fun hf kn => ld_cell ag_24 ((g2.ext e8.kn).ext kn) rfl))) (rc1 rfl (r_load (ot rfl) (lm_s (mem_seg 0 rfl) ag_26 rfl)) (rc1 rfl (r_load (ot rfl) (v := .int .i64 p4) (lo_e (fun hf kn => ld_cell ag_3 ((g4.ext e8.kn).ext kn) rfl))) (rc1 rfl (r_load (ot rfl) (v := .int .i64 p5) (lo_e (fun hf kn => ld_cell ag_3 ((g5.ext e8.kn).ext kn) rfl))) (rc1 rfl (r_load (ot rfl) (v := .int .i64 p5) (lo_e (fun hf kn => ld_cell ag_3 ((g5.ext e8.kn).ext kn) rfl))) rc0))))) ?_
  refine go_sopc [(0, .pointer (some ⟨bp0, 0, none⟩)), (3, .pointer (some ⟨bp0o0, 0, none⟩)), (10, .int .i64 p5)] rfl rfl rfl (rc1 rfl (r_load (ot rfl) (v := .pointer (some ⟨bp0, 0, none⟩)) (lo_e (fun hf kn => ld_cell ag_24 ((g2.ext e8.kn).ext kn) rfl))) (rc1 rfl (r_load (ot rfl) (lm_s (mem_seg 0 rfl) ag_26 rfl)) (rc1 rfl (r_load (ot rfl) (v := .int .i64 p5) (lo_e (fun hf kn => ld_cell ag_3 ((g5.ext e8.kn).ext kn) rfl))) rc0))) (vq1 (veq_ptr _ _) (vq1 (veq_ptr _ _) (vq1 (veq_int _ _ _) vq0))) rfl ?_
  replace hF := obind hF
  obtain ⟨x9, hx9, hF⟩ := hF
  refine g_callp (v := .int .u64 x9) EE_fr rfl of (os1 (ot rfl) (os1 (ot rfl) os0)) hb_89 (fun _ => rfl) (fun hf kn w => by exact s_word_Pack w p4 p5  hx9) ?_
  refine go_nil ?_
  refine go_rck (rc1 rfl (r_load (ot rfl) (v := .pointer (some ⟨bp0, 0, none⟩)) (lo_e (fun hf kn => ld_cell ag_24 ((g2.ext e8.kn).ext kn) rfl))) (rc1 rfl (r_load (ot rfl) (lm_s (mem_seg 0 rfl) ag_26 rfl)) (rc1 rfl (r_load (ot rfl) (v := .int .i64 p5) (lo_e (fun hf kn => ld_cell ag_3 ((g5.ext e8.kn).ext kn) rfl))) rc0))) ?_
  refine go_sopc [(0, .pointer (some ⟨bp0, 0, none⟩)), (3, .pointer (some ⟨bp0o0, 0, none⟩))] rfl rfl rfl (rc1 rfl (r_load (ot rfl) (v := .pointer (some ⟨bp0, 0, none⟩)) (lo_e (fun hf kn => ld_cell ag_24 ((g2.ext e8.kn).ext kn) rfl))) (rc1 rfl (r_load (ot rfl) (lm_s (mem_seg 0 rfl) ag_26 rfl)) rc0)) (vq1 (veq_ptr _ _) (vq1 (veq_ptr _ _) vq0)) rfl ?_
  replace hF := obind hF
  obtain ⟨x10, hx10, hF⟩ := hF
  refine g_callp (v := .int .u64 x10) EE_fr rfl of (os1 (oc rfl) (os1 (ot rfl) os0)) hb_89 (fun _ => rfl) (fun hf kn w => by exact s_word_Pack w 0 p5  hx10) ?_
  refine go_nil ?_
  refine go_rck (rc1 rfl (r_load (ot rfl) (v := .pointer (some ⟨bp0, 0, none⟩)) (lo_e (fun hf kn => ld_cell ag_24 ((g2.ext e8.kn).ext kn) rfl))) (rc1 rfl (r_load (ot rfl) (lm_s (mem_seg 0 rfl) ag_26 rfl)) rc0)) ?_
  refine go_sop rfl rfl ?_
  replace hF := obind hF
  obtain ⟨x11, hx11, hF⟩ := hF
  refine gs_call EE_fr w8 (.cons (.s (.s (.s (.z)))) (.cons (.s (.s (.s (.z)))) .nil)) (fun _ h => by cases h; rfl) of (os1 (ot rfl) (os1 (ot rfl) (os1 (ot rfl) (os1 (ot rfl) os0)))) hb_88 (by exact s_mem_Mem_CAS w8 (⟨x8.2.2.cells, x8.2.2.count⟩ : Omem_Mem) x8.1 x9 x10 f8_2 hx11) ?_
  rintro v11 S11 h11 e11 w11 ⟨q11_y0_0, t11_y0_0, rfl, rfl, f11_0⟩
  simp only [List.cons_append, List.nil_append]
  refine go_nil ?_
  refine go_snil ?_
  refine go_seq ?_
  refine go_region ?_
  refine gr rfl (r_load (ot rfl) (v := v6) (lo_e (fun hf kn => ld_cell ag_101 (((g6.ext e8.kn).ext e11.kn).ext kn) rfl))) ?_
  replace hF := obind hF
  obtain ⟨x12, hx12, hF⟩ := hF
  refine gs_calld EE_fr w11 (.cons (.s (.s (.z))) (.cons (.s (.s (.z))) (.cons (.s (.s (.z))) (.cons .z (.cons .z (.cons .z (.emp .nil))))))) (fun _ h => by cases h; rfl) (ot rfl) os0 (by exact hrc w11 (⟨x8.2.1.nodes, x8.2.1.infos⟩ : Obst_Tree) (⟨x11.2.2.cells, x11.2.2.count⟩ : Omem_Mem) p1 (f8_0.ext e11.kn) (f8_1.ext e11.kn) f11_0 p6 Arg.u [] ((c6.ext e8.kn).ext e11.kn) hx12) ?_
  rintro v12 S12 h12 e12 w12 ⟨q12_y0_1, t12_y0_1, q12_y0_2, t12_y0_2, q12_y0o0_0, t12_y0o0_0, v12_y1_4, v12_r, t12_r, rfl, rfl, f12_0, f12_1, f12_2, f12_3⟩
  simp only [List.cons_append, List.nil_append]
  refine gA rfl rfl ?_
  refine go_nil ?_
  obtain rfl := someI hF
  exact g_ret (rst rfl rs0) (fun h1 hf hs => ⟨[[⟨bp0, .cells [.pointer (some ⟨bp0o0, 0, none⟩), .slice q12_y0_1 x12.2.1.nodes.length x12.2.1.nodes.length, .slice q12_y0_2 x12.2.1.infos.length x12.2.1.infos.length] 83⟩], t12_y0_1, t12_y0_2, [⟨bp0o0, .cells [.slice q12_y0o0_0 x12.2.2.1.cells.length x12.2.2.1.cells.length, .int .i64 x12.2.2.1.count] 94⟩], t12_y0o0_0, [⟨bp1, .cells [.bool x12.2.2.2.told_Ok, .string x12.2.2.2.told_Key, .int .u64 x12.2.2.2.told_Val, .int .i64 x12.2.2.2.told_Err, v12_y1_4] 114⟩], t12_r], _, hf, (e8.trans (e11.trans e12)), w12, hs, (ndb (by intro e; cases e) (ndt f12_0 (ndt f12_1 (ndb (by intro e; cases e) (ndt f12_2 (ndb (by intro e; cases e) (ndc f12_3 nd0))))))), ⟨_, _, _, _, _, _, _, _, _, rfl, rfl, f12_0, f12_1, f12_2, f12_3⟩⟩)
theorem s_bst_Tree_turn_1 {rc : RC} (hrc : RCok rc) {h : Heap} (hw : Wf h) (p0 : Obst_Tree) (p0o0 : Omem_Mem) (p1 : Obst_Call) (p3 : Int) (p4 : Int) (p5 : Int) (p6 : Clo) {bp0 : Nat} {q0_1 : Option Addr} {t0_1 : List Blk} {q0_2 : Option Addr} {t0_2 : List Blk} {bp0o0 : Nat} {q0o0_0 : Option Addr} {t0o0_0 : List Blk} {bp1 : Nat} {v1_4 : Value} {b2 : Nat} {b3 : Nat} {b4 : Nat} {b5 : Nat} {b6 : Nat} {v6 : Value} (f0_1 : AccR R_Tbst_node 89 h t0_1 (.slice q0_1 p0.nodes.length p0.nodes.length) p0.nodes) (f0_2 : AccR R_Tbst_info 86 h t0_2 (.slice q0_2 p0.infos.length p0.infos.length) p0.infos) (f0o0_0 : AccR (RI_ .u64 29) 29 h t0o0_0 (.slice q0o0_0 p0o0.cells.length p0o0.cells.length) p0o0.cells) (g2 : BK h b2 [.pointer (some ⟨bp0, 0, none⟩)] 24) (g3 : BK h b3 [.int .i64 p3] 3) (g4 : BK h b4 [.int .i64 p4] 3) (g5 : BK h b5 [.int .i64 p5] 3) (g6 : BK h b6 [v6] 101) (c6 : CO h bp0 bp1 [] p6 v6) {r : (Option Clo) × Obst_Tree × Omem_Mem × Obst_Call} (hF : F_bst_Tree_turn_1 rc p0 p0o0 p1 p3 p4 p5 p6 = some r) :
    EvO EE 122 [.pointer (some ⟨b2, 0, none⟩), .pointer (some ⟨b3, 0, none⟩), .pointer (some ⟨b4, 0, none⟩), .pointer (some ⟨b5, 0, none⟩), .pointer (some ⟨b6, 0, none⟩)] [[⟨bp0, .cells [.pointer (some ⟨bp0o0, 0, none⟩), .slice q0_1 p0.nodes.length p0.nodes.length, .slice q0_2 p0.infos.length p0.infos.length] 83⟩], t0_1, t0_2, [⟨bp0o0, .cells [.slice q0o0_0 p0o0.cells.length p0o0.cells.length, .int .i64 p0o0.count] 94⟩], t0o0_0, [⟨bp1, .cells [.bool p1.told_Ok, .string p1.told_Key, .int .u64 p1.told_Val, .int .i64 p1.told_Err, v1_4] 114⟩]] h (fun v S h1 => ∃ qy0_1 ty0_1 qy0_2 ty0_2 qy0o0_0 ty0o0_0 vy1_4 vr tr, v = vr ∧ S = [[⟨bp0, .cells [.pointer (some ⟨bp0o0, 0, none⟩), .slice qy0_1 r.2.1.nodes.length r.2.1.nodes.length, .slice qy0_2 r.2.1.infos.length r.2.1.infos.length] 83⟩], ty0_1, ty0_2, [⟨bp0o0, .cells [.slice qy0o0_0 r.2.2.1.cells.length r.2.2.1.cells.length, .int .i64 r.2.2.1.count] 94⟩], ty0o0_0, [⟨bp1, .cells [.bool r.2.2.2.told_Ok, .string r.2.2.2.told_Key, .int .u64 r.2.2.2.told_Val, .int .i64 r.2.2.2.told_Err, vy1_4] 114⟩], tr] ∧ AccR R_Tbst_node 89 h1 ty0_1 (.slice qy0_1 r.2.1.nodes.length r.2.1.nodes.length) r.2.1.nodes ∧ AccR R_Tbst_info 86 h1 ty0_2 (.slice qy0_2 r.2.1.infos.length r.2.1.infos.length) r.2.1.infos ∧ AccR (RI_ .u64 29) 29 h1 ty0o0_0 (.slice qy0o0_0 r.2.2.1.cells.length r.2.2.1.cells.length) r.2.2.1.cells ∧ OC h1 bp0 bp1 tr r.1 vr) := by
  unfold F_bst_Tree_turn_1 at hF
  refine evo_of rfl at_122 rfl rfl ?_
  refine go_seq ?_
  refine go_region ?_
  refine gAc rfl rfl ?_
  refine go_nil ?_
  refine go_seq ?_
  refine go_regions (L := [(0, []), (1, []), (2, []), (3, []), (4, []), (5, []), (6, []), (7, []), (8, []), (9, []), (10, []), (11, []), (12, []), (14, []), (15, []), (16, []), (17, []), (13, [0, 3, 14, 15, 16, 17]), (18, [])]) (by kernel_rfl) (by kernel_rfl) (fun _ => rfl) ?_
  refine go_sop rfl rfl ?_
  refine gr rfl (r_load (ot rfl) (v := .pointer (some ⟨bp0, 0, none⟩)) (lo_e (fun hf kn => ld_cell ag_24 (g2.ext kn) rfl))) ?_
  refine go_nil ?_
  refine go_sop rfl rfl ?_
  refine gr rfl (r_nilck (ot rfl)) ?_
  refine go_nil ?_
  refine go_sop rfl rfl ?_
  refine gr rfl (r_fa (ot rfl) (fa_83_0 _ _)) ?_
  refine go_nil ?_
  refine go_sop rfl rfl ?_
  refine gr rfl (r_load (ot rfl) (lm_s (mem_seg 0 rfl) ag_26 rfl)) ?_
  refine go_nil ?_
  refine go_sop rfl rfl ?_
  refine gr rfl (r_load (ot rfl) (v := .pointer (some ⟨bp0, 0, none⟩)) (lo_e (fun hf kn => ld_cell ag_24 (g2.ext kn) rfl))) ?_
  refine go_nil ?_
  refine go_sop rfl rfl ?_
  refine gr rfl (r_load (ot rfl) (v := .int .i64 p3) (lo_e (fun hf kn => ld_cell ag_3 (g3.ext kn) rfl))) ?_
  refine go_nil ?_
  refine go_sop rfl rfl ?_
  refine gr rfl (r_load (ot rfl) (v := .pointer (some ⟨bp0, 0, none⟩)) (lo_e (fun hf kn => ld_cell ag_24 (g2.ext kn) rfl))) ?_
  refine go_nil ?_
  refine go_sop rfl rfl ?_
  refine gr rfl (r_nilck (ot rfl)) ?_
  refine go_nil ?_
  refine go_sop rfl rfl ?_
  refine gr rfl (r_fa (ot rfl) (fa_83_1 _ _)) ?_
  refine go_nil ?_
  refine go_sop rfl rfl ?_
  refine gr rfl (r_load (ot rfl) (lm_s (mem_seg 0 rfl) ag_80 rfl)) ?_
  refine go_nil ?_
  refine go_sop rfl rfl ?_
  refine gr rfl (r_load (ot rfl) (v := .int .i64 p4) (lo_e (fun hf kn => ld_cell ag_3 (g4.ext kn) rfl))) ?_
  refine go_nil ?_
  refine go_sop rfl rfl ?_
  replace hF := obind hF
  obtain ⟨x8, hx8, hF⟩ := hF
  obtain ⟨bb8, rw8, row8, hp8, ht8, hR8, hw8, rc8, hz8, hi8, hd8, hb8, hl8⟩ := AccR.at_ f0_1 hx8
  have hF8_ := hF
  subst hp8; subst ht8
  replace hF := hF8_
  obtain rfl := rc8
  refine gr rfl (r_ia (ot rfl) (ot rfl) (ia_acc (k := 4) ut_80 sz_89 hz8 hi8)) ?_
  refine go_nil ?_
  refine go_sop rfl rfl ?_
  refine gr rfl (r_load (ot rfl) (lm_a (vs := [.string x8.key, .int .i64 x8.top, .int .u64 x8.val, .int .i64 x8.cell]) (mem_seg 1 rfl) ag_89 sz_89 (Nat.ble_eq_true_of_le hb8) hd8)) ?_
  refine go_nil ?_
  refine go_sop rfl rfl ?_
  refine gr rfl (r_load (ot rfl) (v := .int .i64 p5) (lo_e (fun hf kn => ld_cell ag_3 (g5.ext kn) rfl))) ?_
  refine go_nil ?_
  refine go_sop rfl rfl ?_
  refine gr rfl (r_conv (ot rfl) rfl) ?_
  refine go_nil ?_
  refine go_sop rfl rfl ?_
  refine gr rfl (r_load (ot rfl) (v := .int .i64 p4) (lo_e (fun hf kn => ld_cell ag_3 (g4.ext kn) rfl))) ?_
  refine go_nil ?_
  refine go_sop rfl rfl ?_
  refine gr rfl (r_conv (ot rfl) rfl) ?_
  refine go_nil ?_
  refine go_sopc [(0, .pointer (some ⟨bp0, 0, none⟩)), (3, .pointer (some ⟨bp0o0, 0, none⟩)), (14, .int .i64 p5), (15, .int .u64 (IntKind.u64.wrap p5)), (16, .int .i64 p4), (17, .int .u64 (IntKind.u64.wrap p4))] rfl rfl rfl (rc1 rfl (r_load (ot rfl) (v := .pointer (some ⟨bp0, 0, none⟩)) (lo_e (fun hf kn => ld_cell ag_24 (g2.ext kn) rfl))) (rc1 rfl (r_load (ot rfl) (lm_s (mem_seg 0 rfl) ag_26 rfl)) (rc1 rfl (r_load (ot rfl) (v := .int .i64 p5) (lo_e (fun hf kn => ld_cell ag_3 (g5.ext kn) rfl))) (rc1 rfl (r_conv (ot rfl) rfl) (rc1 rfl (r_load (ot rfl) (v := .int .i64 p4) (lo_e (fun hf kn => ld_cell ag_3 (g4.ext kn) rfl))) (rc1 rfl (r_conv (ot rfl) rfl) rc0)))))) (vq1 (veq_ptr _ _) (vq1 (veq_ptr _ _) (vq1 (veq_int _ _ _) (vq1 (veq_int _ _ _) (vq1 (veq_int _ _ _) (vq1 (veq_int _ _ _) vq0)))))) rfl ?_
  replace hF := obind hF
  obtain ⟨x9, hx9, hF⟩ := hF
  refine gs_call EE_fr hw (.cons .z (.cons .z (.cons .z (.cons .z (.cons .z .nil))))) (fun _ h => by cases h; rfl) of (os1 (ot rfl) (os1 (ot rfl) (os1 (ot rfl) os0))) hb_94 (by exact s_bst_Tree_side hw p0 p0o0 p3 x8 f0_1 f0_2 f0o0_0 hx9) ?_
  rintro v9 S9 h9 e9 w9 ⟨q9_y0_1, t9_y0_1, q9_y0_2, t9_y0_2, q9_y0o0_0, t9_y0o0_0, rfl, rfl, f9_0, f9_1, f9_2⟩
  simp only [List.cons_append, List.nil_append]
  refine go_nil ?_
  refine go_rck (rc1 rfl (r_load (ot rfl) (v := .pointer (some ⟨bp0, 0, none⟩)) (lo_e (fun hf kn => ld_cell ag_24 ((g2.ext e9.kn).ext kn) rfl))) (rc1 rfl (r_load (ot rfl) (lm_s (mem_seg 0 rfl) ag_26 rfl)) (rc1 rfl (r_load (ot rfl) (v := .int .i64 p5) (lo_e (fun hf kn => ld_cell ag_3 ((g5.ext e9.kn).ext kn) rfl))) (rc1 rfl (r_conv (ot rfl) rfl) (rc1 rfl (r_load (ot rfl) (v := .int .i64 p4) (lo_e (fun hf kn => ld_cell ag_3 ((g4.ext e9.kn).ext kn) rfl))) (rc1 rfl (r_conv (ot rfl) rfl) rc0)))))) ?_
  refine go_sop rfl rfl ?_
  replace hF := obind hF
  obtain ⟨x10, hx10, hF⟩ := hF
  refine gs_call EE_fr w9 (.cons (.s (.s (.s (.z)))) (.cons (.s (.s (.s (.z)))) .nil)) (fun _ h => by cases h; rfl) of (os1 (ot rfl) (os1 (ot rfl) (os1 (ot rfl) (os1 (ot rfl) os0)))) hb_88 (by exact s_mem_Mem_CAS w9 (⟨x9.2.2.cells, x9.2.2.count⟩ : Omem_Mem) x9.1 (IntKind.u64.wrap p5) (IntKind.u64.wrap p4) f9_2 hx10) ?_
  rintro v10 S10 h10 e10 w10 ⟨q10_y0_0, t10_y0_0, rfl, rfl, f10_0⟩
  simp only [List.cons_append, List.nil_append]
  refine go_nil ?_
  refine go_snil ?_
  refine go_seq ?_
  refine go_region ?_
  refine gr rfl (r_load (ot rfl) (v := v6) (lo_e (fun hf kn => ld_cell ag_101 (((g6.ext e9.kn).ext e10.kn).ext kn) rfl))) ?_
  replace hF := obind hF
  obtain ⟨x11, hx11, hF⟩ := hF
  refine gs_calld EE_fr w10 (.cons (.s (.s (.z))) (.cons (.s (.s (.z))) (.cons (.s (.s (.z))) (.cons .z (.cons .z (.cons .z (.emp .nil))))))) (fun _ h => by cases h; rfl) (ot rfl) os0 (by exact hrc w10 (⟨x9.2.1.nodes, x9.2.1.infos⟩ : Obst_Tree) (⟨x10.2.2.cells, x10.2.2.count⟩ : Omem_Mem) p1 (f9_0.ext e10.kn) (f9_1.ext e10.kn) f10_0 p6 Arg.u [] ((c6.ext e9.kn).ext e10.kn) hx11) ?_
  rintro v11 S11 h11 e11 w11 ⟨q11_y0_1, t11_y0_1, q11_y0_2, t11_y0_2, q11_y0o0_0, t11_y0o0_0, v11_y1_4, v11_r, t11_r, rfl, rfl, f11_0, f11_1, f11_2, f11_3⟩
  simp only [List.cons_append, List.nil_append]
  refine gA rfl rfl ?_
  refine go_nil ?_
  obtain rfl := someI hF
  exact g_ret (rst rfl rs0) (fun h1 hf hs => ⟨[[⟨bp0, .cells [.pointer (some ⟨bp0o0, 0, none⟩), .slice q11_y0_1 x11.2.1.nodes.length x11.2.1.nodes.length, .slice q11_y0_2 x11.2.1.infos.length x11.2.1.infos.length] 83⟩], t11_y0_1, t11_y0_2, [⟨bp0o0, .cells [.slice q11_y0o0_0 x11.2.2.1.cells.length x11.2.2.1.cells.length, .int .i64 x11.2.2.1.count] 94⟩], t11_y0o0_0, [⟨bp1, .cells [.bool x11.2.2.2.told_Ok, .string x11.2.2.2.told_Key, .int .u64 x11.2.2.2.told_Val, .int .i64 x11.2.2.2.told_Err, v11_y1_4] 114⟩], t11_r], _, hf, (e9.trans (e10.trans e11)), w11, hs, (ndb (by intro e; cases e) (ndt f11_0 (ndt f11_1 (ndb (by intro e; cases e) (ndt f11_2 (ndb (by intro e; cases e) (ndc f11_3 nd0))))))), ⟨_, _, _, _, _, _, _, _, _, rfl, rfl, f11_0, f11_1, f11_2, f11_3⟩⟩)
end Go.Proofs.Ytndhbaidibioeaa.V
