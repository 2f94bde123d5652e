/- Walks.
   No condition: these are laws of the clean machine and of this program. -/
import Derived.Test.YtndhbaidibioeaaWd
namespace Go.Proofs.Ytndhbaidibioeaa.V
open Go
set_option linter.unusedVariables false
set_option linter.unusedSimpArgs false
set_option maxRecDepth 100000
set_option maxHeartbeats 4000000
theorem s_bst_Tree_Find_1 {rc : RC} (hrc : RCok rc) {h : Heap} (hw : Wf h) (p0 : Obst_Tree) (p0o0 : Omem_Mem) (p1 : Obst_Call) (p3 : Tbst_node) {bp0 : Nat} {q0_1 : Option Addr} {t0_1 : List Blk} {q0_2 : Option Addr} {t0_2 : List Blk} {bp0o0 : Nat} {q0o0_0 : Option Addr} {t0o0_0 : List Blk} {bp1 : Nat} {v1_4 : Value} {b4 : Nat} (f0_1 : AccR R_Tbst_node 89 h t0_1 (.slice q0_1 p0.nodes.length p0.nodes.length) p0.nodes) (f0_2 : AccR R_Tbst_info 86 h t0_2 (.slice q0_2 p0.infos.length p0.infos.length) p0.infos) (f0o0_0 : AccR (RI_ .u64 29) 29 h t0o0_0 (.slice q0o0_0 p0o0.cells.length p0o0.cells.length) p0o0.cells) (g4 : BK h b4 [.pointer (some ⟨bp0, 0, none⟩)] 24) {r : (Option Clo) × Obst_Tree × Omem_Mem × Obst_Call} (hF : F_bst_Tree_Find_1 rc p0 p0o0 p1 p3 = some r) :
    EvO EE 59 [.pointer (some ⟨bp1, 0, none⟩), .agg #[.string p3.key, .int .i64 p3.top, .int .u64 p3.val, .int .i64 p3.cell], .pointer (some ⟨b4, 0, none⟩)] [[⟨bp0, .cells [.pointer (some ⟨bp0o0, 0, none⟩), .slice q0_1 p0.nodes.length p0.nodes.length, .slice q0_2 p0.infos.length p0.infos.length] 83⟩], t0_1, t0_2, [⟨bp0o0, .cells [.slice q0o0_0 p0o0.cells.length p0o0.cells.length, .int .i64 p0o0.count] 94⟩], t0o0_0, [⟨bp1, .cells [.bool p1.told_Ok, .string p1.told_Key, .int .u64 p1.told_Val, .int .i64 p1.told_Err, v1_4] 114⟩]] h (fun v S h1 => ∃ qy0_1 ty0_1 qy0_2 ty0_2 qy0o0_0 ty0o0_0 vy1_4 vr tr, v = vr ∧ S = [[⟨bp0, .cells [.pointer (some ⟨bp0o0, 0, none⟩), .slice qy0_1 r.2.1.nodes.length r.2.1.nodes.length, .slice qy0_2 r.2.1.infos.length r.2.1.infos.length] 83⟩], ty0_1, ty0_2, [⟨bp0o0, .cells [.slice qy0o0_0 r.2.2.1.cells.length r.2.2.1.cells.length, .int .i64 r.2.2.1.count] 94⟩], ty0o0_0, [⟨bp1, .cells [.bool r.2.2.2.told_Ok, .string r.2.2.2.told_Key, .int .u64 r.2.2.2.told_Val, .int .i64 r.2.2.2.told_Err, vy1_4] 114⟩], tr] ∧ AccR R_Tbst_node 89 h1 ty0_1 (.slice qy0_1 r.2.1.nodes.length r.2.1.nodes.length) r.2.1.nodes ∧ AccR R_Tbst_info 86 h1 ty0_2 (.slice qy0_2 r.2.1.infos.length r.2.1.infos.length) r.2.1.infos ∧ AccR (RI_ .u64 29) 29 h1 ty0o0_0 (.slice qy0o0_0 r.2.2.1.cells.length r.2.2.1.cells.length) r.2.2.1.cells ∧ OC h1 bp0 bp1 tr r.1 vr) := by
  unfold F_bst_Tree_Find_1 at hF
  refine evo_of rfl at_59 rfl rfl ?_
  refine go_seq ?_
  refine go_region ?_
  refine gs_box rfl (ot rfl) rfl ?_; intro b3_6
  refine gs_box rfl (ot rfl) rfl ?_; intro b4_7
  refine gAc rfl rfl ?_
  refine go_nil ?_
  refine go_seq ?_
  refine go_region ?_
  refine gr rfl (r_load (ot rfl) (v := .pointer (some ⟨bp0, 0, none⟩)) (lo_e (fun hf kn => ld_cell ag_24 (g4.ext kn) rfl))) ?_
  refine gr rfl (r_load (ot rfl) (lm_w (mem_seg 0 rfl) ag_89 sz_89 rfl)) ?_
  refine gr rfl (r_func os0 (os1 (ot rfl) (os1 (ot rfl) (os1 (ot rfl) os0)))) ?_
  refine gs_pub .z (fun h9 e9 w9 hb9 => ?_)
  have g9_ : BK h9 b4_7 [.string p3.key, .int .i64 p3.top, .int .u64 p3.val, .int .i64 p3.cell] 89 := hb9
  refine gs_pub .z (fun h10 e10 w10 hb10 => ?_)
  have g10_ : BK h10 b3_6 [.pointer (some ⟨bp1, 0, none⟩)] 34 := hb10
  have co11 : CO h10 bp0 bp1 [] (Clo.c_Find_1_1 p3) (.func (.func 60) #[] #[.pointer (some ⟨b4, 0, none⟩), .pointer (some ⟨b4_7, 0, none⟩), .pointer (some ⟨b3_6, 0, none⟩)]) := CO.c_Find_1_1 ((g4.ext e9.kn).ext e10.kn) (g9_.ext e10.kn) g10_
  replace hF := obind hF
  obtain ⟨x8, hx8, hF⟩ := hF
  refine gs_call EE_fr w10 (.cons .z (.cons .z (.cons .z (.cons .z (.cons .z (.cons .z .nil)))))) (fun _ h => by cases h; rfl) of (os1 (ot rfl) (os1 (ot rfl) (os1 (ot rfl) os0))) hb_49 (by exact s_bst_Tree_search hrc w10 p0 p0o0 p1 p3 (Clo.c_Find_1_1 p3) ((f0_1.ext e9.kn).ext e10.kn) ((f0_2.ext e9.kn).ext e10.kn) ((f0o0_0.ext e9.kn).ext e10.kn) co11 hx8) ?_
  rintro v8 S8 h8 e8 w8 ⟨q8_y0_1, t8_y0_1, q8_y0_2, t8_y0_2, q8_y0o0_0, t8_y0o0_0, v8_y1_4, v8_r, t8_r, rfl, rfl, f8_0, f8_1, f8_2, f8_3⟩
  simp only [List.cons_append, List.nil_append]
  refine gA rfl rfl ?_
  refine go_nil ?_
  obtain rfl := someI hF
  exact g_ret (rst rfl rs0) (fun h1 hf hs => ⟨[[⟨bp0, .cells [.pointer (some ⟨bp0o0, 0, none⟩), .slice q8_y0_1 x8.2.1.nodes.length x8.2.1.nodes.length, .slice q8_y0_2 x8.2.1.infos.length x8.2.1.infos.length] 83⟩], t8_y0_1, t8_y0_2, [⟨bp0o0, .cells [.slice q8_y0o0_0 x8.2.2.1.cells.length x8.2.2.1.cells.length, .int .i64 x8.2.2.1.count] 94⟩], t8_y0o0_0, [⟨bp1, .cells [.bool x8.2.2.2.told_Ok, .string x8.2.2.2.told_Key, .int .u64 x8.2.2.2.told_Val, .int .i64 x8.2.2.2.told_Err, v8_y1_4] 114⟩], t8_r], _, hf, (e9.trans (e10.trans e8)), w8, hs, (ndb (by intro e; cases e) (ndt f8_0 (ndt f8_1 (ndb (by intro e; cases e) (ndt f8_2 (ndb (by intro e; cases e) (ndc f8_3 nd0))))))), ⟨_, _, _, _, _, _, _, _, _, rfl, rfl, f8_0, f8_1, f8_2, f8_3⟩⟩)
theorem s_bst_Tree_call_bst_Tree_Find_1 (n : Nat) {h : Heap} (hw : Wf h) (p0 : Obst_Tree) (p0o0 : Omem_Mem) (p1 : ByteArray) {bp0 : Nat} {q0_1 : Option Addr} {t0_1 : List Blk} {q0_2 : Option Addr} {t0_2 : List Blk} {bp0o0 : Nat} {q0o0_0 : Option Addr} {t0o0_0 : List Blk} {b2c0 : Nat} (f0_1 : AccR R_Tbst_node 89 h t0_1 (.slice q0_1 p0.nodes.length p0.nodes.length) p0.nodes) (f0_2 : AccR R_Tbst_info 86 h t0_2 (.slice q0_2 p0.infos.length p0.infos.length) p0.infos) (f0o0_0 : AccR (RI_ .u64 29) 29 h t0o0_0 (.slice q0o0_0 p0o0.cells.length p0o0.cells.length) p0o0.cells) (g2c0 : BK h b2c0 [.pointer (some ⟨bp0, 0, none⟩)] 24) {r : Obst_Call_2 × Obst_Tree × Omem_Mem} (hF : F_bst_Tree_call_bst_Tree_Find_1 n p0 p0o0 p1 = some r) :
    EvO EE 47 [.pointer (some ⟨bp0, 0, none⟩), .string p1, .func (.func 59) #[] #[.pointer (some ⟨b2c0, 0, none⟩)]] [[⟨bp0, .cells [.pointer (some ⟨bp0o0, 0, none⟩), .slice q0_1 p0.nodes.length p0.nodes.length, .slice q0_2 p0.infos.length p0.infos.length] 83⟩], t0_1, t0_2, [⟨bp0o0, .cells [.slice q0o0_0 p0o0.cells.length p0o0.cells.length, .int .i64 p0o0.count] 94⟩], t0o0_0] h (fun v S h1 => ∃ qy0_1 ty0_1 qy0_2 ty0_2 qy0o0_0 ty0o0_0 bw0 vw0_4 tw0_4, v = .pointer (some ⟨bw0, 0, none⟩) ∧ S = [[⟨bp0, .cells [.pointer (some ⟨bp0o0, 0, none⟩), .slice qy0_1 r.2.1.nodes.length r.2.1.nodes.length, .slice qy0_2 r.2.1.infos.length r.2.1.infos.length] 83⟩], ty0_1, ty0_2, [⟨bp0o0, .cells [.slice qy0o0_0 r.2.2.cells.length r.2.2.cells.length, .int .i64 r.2.2.count] 94⟩], ty0o0_0, [⟨bw0, .cells [.bool r.1.told_Ok, .string r.1.told_Key, .int .u64 r.1.told_Val, .int .i64 r.1.told_Err, vw0_4] 114⟩], tw0_4] ∧ AccR R_Tbst_node 89 h1 ty0_1 (.slice qy0_1 r.2.1.nodes.length r.2.1.nodes.length) r.2.1.nodes ∧ AccR R_Tbst_info 86 h1 ty0_2 (.slice qy0_2 r.2.1.infos.length r.2.1.infos.length) r.2.1.infos ∧ AccR (RI_ .u64 29) 29 h1 ty0o0_0 (.slice qy0o0_0 r.2.2.cells.length r.2.2.cells.length) r.2.2.cells ∧ OC h1 bp0 bw0 tw0_4 r.1.next vw0_4) := by
  unfold F_bst_Tree_call_bst_Tree_Find_1 at hF
  refine evo_of rfl at_47 rfl rfl ?_
  refine go_seq ?_
  refine go_region ?_
  refine gAc rfl rfl ?_
  refine go_nil ?_
  refine go_seq ?_
  refine go_seq ?_
  refine go_region ?_
  refine gM rfl rfl ?_
  refine gr rfl (r_bin (v := .bool false) (ot rfl) (oc rfl) (by first | rfl | kernel_rfl)) ?_
  refine go_nil ?_
  refine g_cond (b := false) (ot rfl) (fun hc4 => ?_) (fun hc4 => ?_)
  · cases hc4
  refine go_skip ?_
  refine go_seq ?_
  refine go_region ?_
  refine gM rfl rfl ?_
  refine gr rfl (r_build (op1 (ot rfl) op0) rfl) ?_
  refine gr rfl (r_build (op1 (ot rfl) op0) rfl) ?_
  refine gs_box rfl (ot rfl) rfl ?_; intro b13_5
  refine gA rfl rfl ?_
  refine go_nil ?_
  refine go_seq ?_
  refine go_region ?_
  refine gM rfl rfl ?_
  refine gM rfl rfl ?_
  refine gM rfl rfl ?_
  refine gM rfl rfl ?_
  refine gr rfl (r_build (op1 (ot rfl) op0) rfl) ?_
  replace hF := obind hF
  obtain ⟨x6, hx6, hF⟩ := hF
  refine gs_call EE_fr hw (.cons (.s (.z)) (.cons (.s (.z)) (.cons (.s (.z)) (.cons (.s (.z)) (.cons (.s (.z)) (.cons .z .nil)))))) (fun _ h => by cases h; rfl) (ot rfl) (os1 (ot rfl) (os1 (ot rfl) os0)) hb_59 (by exact s_bst_Tree_Find_1 (F_step_ok n) hw p0 p0o0 (⟨false, p1, 0, 0⟩ : Obst_Call) (⟨p1, 0, 0, 0⟩ : Tbst_node) f0_1 f0_2 f0o0_0 g2c0 hx6) ?_
  rintro v6 S6 h6 e6 w6 ⟨q6_y0_1, t6_y0_1, q6_y0_2, t6_y0_2, q6_y0o0_0, t6_y0o0_0, v6_y1_4, v6_r, t6_r, rfl, rfl, f6_0, f6_1, f6_2, f6_3⟩
  simp only [List.cons_append, List.nil_append]
  refine gr rfl (r_nilck (ot rfl)) ?_
  refine gr rfl (r_fa (ot rfl) (fa_114_1 _ _)) ?_
  refine gs_store (ot rfl) (ot rfl) sz_102 (OC.sz f6_3) (OC.one f6_3) rfl (OC.okc f6_3) rfl (.s (.s (.s (.s (.s (.z)))))) ?_
  refine go_nil ?_
  refine go_seq ?_
  refine go_region ?_
  refine gM rfl rfl ?_
  refine gA rfl rfl ?_
  refine go_nil ?_
  obtain rfl := someI hF
  exact g_ret (rst rfl rs0) (fun h1 hf hs => ⟨[[⟨bp0, .cells [.pointer (some ⟨bp0o0, 0, none⟩), .slice q6_y0_1 x6.2.1.nodes.length x6.2.1.nodes.length, .slice q6_y0_2 x6.2.1.infos.length x6.2.1.infos.length] 83⟩], t6_y0_1, t6_y0_2, [⟨bp0o0, .cells [.slice q6_y0o0_0 x6.2.2.1.cells.length x6.2.2.1.cells.length, .int .i64 x6.2.2.1.count] 94⟩], t6_y0o0_0, [⟨b13_5, .cells [.bool x6.2.2.2.told_Ok, .string x6.2.2.2.told_Key, .int .u64 x6.2.2.2.told_Val, .int .i64 x6.2.2.2.told_Err, v6] 114⟩], t6_r], _, hf, e6, w6, hs, (ndb (by intro e; cases e) (ndt f6_0 (ndt f6_1 (ndb (by intro e; cases e) (ndt f6_2 (ndb (by intro e; cases e) (ndc f6_3 nd0))))))), ⟨_, _, _, _, _, _, _, _, _, rfl, rfl, f6_0, f6_1, f6_2, f6_3⟩⟩)
theorem s_bst_Tree_Find (n : Nat) {h : Heap} (hw : Wf h) (p0 : Obst_Tree) (p0o0 : Omem_Mem) (p1 : ByteArray) {bp0 : Nat} {q0_1 : Option Addr} {t0_1 : List Blk} {q0_2 : Option Addr} {t0_2 : List Blk} {bp0o0 : Nat} {q0o0_0 : Option Addr} {t0o0_0 : List Blk} (f0_1 : AccR R_Tbst_node 89 h t0_1 (.slice q0_1 p0.nodes.length p0.nodes.length) p0.nodes) (f0_2 : AccR R_Tbst_info 86 h t0_2 (.slice q0_2 p0.infos.length p0.infos.length) p0.infos) (f0o0_0 : AccR (RI_ .u64 29) 29 h t0o0_0 (.slice q0o0_0 p0o0.cells.length p0o0.cells.length) p0o0.cells) {r : Obst_Call_2 × Obst_Tree × Omem_Mem} (hF : F_bst_Tree_Find n p0 p0o0 p1 = some r) :
    EvO EE 27 [.pointer (some ⟨bp0, 0, none⟩), .string p1] [[⟨bp0, .cells [.pointer (some ⟨bp0o0, 0, none⟩), .slice q0_1 p0.nodes.length p0.nodes.length, .slice q0_2 p0.infos.length p0.infos.length] 83⟩], t0_1, t0_2, [⟨bp0o0, .cells [.slice q0o0_0 p0o0.cells.length p0o0.cells.length, .int .i64 p0o0.count] 94⟩], t0o0_0] h (fun v S h1 => ∃ qy0_1 ty0_1 qy0_2 ty0_2 qy0o0_0 ty0o0_0 bw0 vw0_4 tw0_4, v = .pointer (some ⟨bw0, 0, none⟩) ∧ S = [[⟨bp0, .cells [.pointer (some ⟨bp0o0, 0, none⟩), .slice qy0_1 r.2.1.nodes.length r.2.1.nodes.length, .slice qy0_2 r.2.1.infos.length r.2.1.infos.length] 83⟩], ty0_1, ty0_2, [⟨bp0o0, .cells [.slice qy0o0_0 r.2.2.cells.length r.2.2.cells.length, .int .i64 r.2.2.count] 94⟩], ty0o0_0, [⟨bw0, .cells [.bool r.1.told_Ok, .string r.1.told_Key, .int .u64 r.1.told_Val, .int .i64 r.1.told_Err, vw0_4] 114⟩], tw0_4] ∧ AccR R_Tbst_node 89 h1 ty0_1 (.slice qy0_1 r.2.1.nodes.length r.2.1.nodes.length) r.2.1.nodes ∧ AccR R_Tbst_info 86 h1 ty0_2 (.slice qy0_2 r.2.1.infos.length r.2.1.infos.length) r.2.1.infos ∧ AccR (RI_ .u64 29) 29 h1 ty0o0_0 (.slice qy0o0_0 r.2.2.cells.length r.2.2.cells.length) r.2.2.cells ∧ OC h1 bp0 bw0 tw0_4 r.1.next vw0_4) := by
  unfold F_bst_Tree_Find at hF
  refine evo_of rfl at_27 rfl rfl ?_
  refine go_seq ?_
  refine go_region ?_
  refine gs_box rfl (ot rfl) rfl ?_; intro b2_3
  refine gAc rfl rfl ?_
  refine go_nil ?_
  refine go_seq ?_
  refine go_region ?_
  refine gr rfl (r_load (ot rfl) (lm_s (mem_seg 0 rfl) ag_24 rfl)) ?_
  refine gM rfl rfl ?_
  refine gr rfl (r_func os0 (os1 (ot rfl) os0)) ?_
  refine gs_pub .z (fun h5 e5 w5 hb5 => ?_)
  have g5_ : BK h5 b2_3 [.pointer (some ⟨bp0, 0, none⟩)] 24 := hb5
  replace hF := obind hF
  obtain ⟨x4, hx4, hF⟩ := hF
  refine gs_call EE_fr w5 (.cons .z (.cons .z (.cons .z (.cons .z (.cons .z .nil))))) (fun _ h => by cases h; rfl) of (os1 (ot rfl) (os1 (ot rfl) (os1 (ot rfl) os0))) hb_47 (by exact s_bst_Tree_call_bst_Tree_Find_1 n w5 p0 p0o0 p1 (f0_1.ext e5.kn) (f0_2.ext e5.kn) (f0o0_0.ext e5.kn) g5_ hx4) ?_
  rintro v4 S4 h4 e4 w4 ⟨q4_y0_1, t4_y0_1, q4_y0_2, t4_y0_2, q4_y0o0_0, t4_y0o0_0, b4_w0, v4_w0_4, t4_w0_4, rfl, rfl, f4_0, f4_1, f4_2, f4_3⟩
  simp only [List.cons_append, List.nil_append]
  refine gA rfl rfl ?_
  refine go_nil ?_
  obtain rfl := someI hF
  exact g_ret (rst rfl rs0) (fun h1 hf hs => ⟨[[⟨bp0, .cells [.pointer (some ⟨bp0o0, 0, none⟩), .slice q4_y0_1 x4.2.1.nodes.length x4.2.1.nodes.length, .slice q4_y0_2 x4.2.1.infos.length x4.2.1.infos.length] 83⟩], t4_y0_1, t4_y0_2, [⟨bp0o0, .cells [.slice q4_y0o0_0 x4.2.2.cells.length x4.2.2.cells.length, .int .i64 x4.2.2.count] 94⟩], t4_y0o0_0, [⟨b4_w0, .cells [.bool x4.1.told_Ok, .string x4.1.told_Key, .int .u64 x4.1.told_Val, .int .i64 x4.1.told_Err, v4_w0_4] 114⟩], t4_w0_4], _, hf, (e5.trans e4), w4, hs, (ndb (by intro e; cases e) (ndt f4_0 (ndt f4_1 (ndb (by intro e; cases e) (ndt f4_2 (ndb (by intro e; cases e) (ndc f4_3 nd0))))))), ⟨_, _, _, _, _, _, _, _, _, rfl, rfl, f4_0, f4_1, f4_2, f4_3⟩⟩)
theorem s_bst_Tree_Delete_1 {rc : RC} (hrc : RCok rc) {h : Heap} (hw : Wf h) (p0 : Obst_Tree) (p0o0 : Omem_Mem) (p1 : Obst_Call) (p3 : Tbst_node) {bp0 : Nat} {q0_1 : Option Addr} {t0_1 : List Blk} {q0_2 : Option Addr} {t0_2 : List Blk} {bp0o0 : Nat} {q0o0_0 : Option Addr} {t0o0_0 : List Blk} {bp1 : Nat} {v1_4 : Value} {b4 : Nat} (f0_1 : AccR R_Tbst_node 89 h t0_1 (.slice q0_1 p0.nodes.length p0.nodes.length) p0.nodes) (f0_2 : AccR R_Tbst_info 86 h t0_2 (.slice q0_2 p0.infos.length p0.infos.length) p0.infos) (f0o0_0 : AccR (RI_ .u64 29) 29 h t0o0_0 (.slice q0o0_0 p0o0.cells.length p0o0.cells.length) p0o0.cells) (g4 : BK h b4 [.pointer (some ⟨bp0, 0, none⟩)] 24) {r : (Option Clo) × Obst_Tree × Omem_Mem × Obst_Call} (hF : F_bst_Tree_Delete_1 rc p0 p0o0 p1 p3 = some r) :
    EvO EE 66 [.pointer (some ⟨bp1, 0, none⟩), .agg #[.string p3.key, .int .i64 p3.top, .int .u64 p3.val, .int .i64 p3.cell], .pointer (some ⟨b4, 0, none⟩)] [[⟨bp0, .cells [.pointer (some ⟨bp0o0, 0, none⟩), .slice q0_1 p0.nodes.length p0.nodes.length, .slice q0_2 p0.infos.length p0.infos.length] 83⟩], t0_1, t0_2, [⟨bp0o0, .cells [.slice q0o0_0 p0o0.cells.length p0o0.cells.length, .int .i64 p0o0.count] 94⟩], t0o0_0, [⟨bp1, .cells [.bool p1.told_Ok, .string p1.told_Key, .int .u64 p1.told_Val, .int .i64 p1.told_Err, v1_4] 114⟩]] h (fun v S h1 => ∃ qy0_1 ty0_1 qy0_2 ty0_2 qy0o0_0 ty0o0_0 vy1_4 vr tr, v = vr ∧ S = [[⟨bp0, .cells [.pointer (some ⟨bp0o0, 0, none⟩), .slice qy0_1 r.2.1.nodes.length r.2.1.nodes.length, .slice qy0_2 r.2.1.infos.length r.2.1.infos.length] 83⟩], ty0_1, ty0_2, [⟨bp0o0, .cells [.slice qy0o0_0 r.2.2.1.cells.length r.2.2.1.cells.length, .int .i64 r.2.2.1.count] 94⟩], ty0o0_0, [⟨bp1, .cells [.bool r.2.2.2.told_Ok, .string r.2.2.2.told_Key, .int .u64 r.2.2.2.told_Val, .int .i64 r.2.2.2.told_Err, vy1_4] 114⟩], tr] ∧ AccR R_Tbst_node 89 h1 ty0_1 (.slice qy0_1 r.2.1.nodes.length r.2.1.nodes.length) r.2.1.nodes ∧ AccR R_Tbst_info 86 h1 ty0_2 (.slice qy0_2 r.2.1.infos.length r.2.1.infos.length) r.2.1.infos ∧ AccR (RI_ .u64 29) 29 h1 ty0o0_0 (.slice qy0o0_0 r.2.2.1.cells.length r.2.2.1.cells.length) r.2.2.1.cells ∧ OC h1 bp0 bp1 tr r.1 vr) := by
  unfold F_bst_Tree_Delete_1 at hF
  refine evo_of rfl at_66 rfl rfl ?_
  refine go_seq ?_
  refine go_region ?_
  refine gs_box rfl (ot rfl) rfl ?_; intro b4_6
  refine gAc rfl rfl ?_
  refine go_nil ?_
  refine go_seq ?_
  refine go_region ?_
  refine gr rfl (r_load (ot rfl) (v := .pointer (some ⟨bp0, 0, none⟩)) (lo_e (fun hf kn => ld_cell ag_24 (g4.ext kn) rfl))) ?_
  refine gM rfl rfl ?_
  refine gr rfl (r_load (ot rfl) (lm_w (mem_seg 0 rfl) ag_89 sz_89 rfl)) ?_
  replace hF := obind hF
  obtain ⟨x7, hx7, hF⟩ := hF
  refine gs_call EE_fr hw (.cons (.s (.z)) (.cons (.s (.z)) (.cons (.s (.z)) (.cons (.s (.z)) (.cons (.s (.z)) (.cons (.s (.z)) .nil)))))) (fun _ h => by cases h; rfl) of (os1 (ot rfl) (os1 (ot rfl) (os1 (ot rfl) os0))) hb_67 (by exact s_bst_Tree_remove hrc hw p0 p0o0 p1 p3 f0_1 f0_2 f0o0_0 hx7) ?_
  rintro v7 S7 h7 e7 w7 ⟨q7_y0_1, t7_y0_1, q7_y0_2, t7_y0_2, q7_y0o0_0, t7_y0o0_0, v7_y1_4, v7_r, t7_r, rfl, rfl, f7_0, f7_1, f7_2, f7_3⟩
  simp only [List.cons_append, List.nil_append]
  refine gA rfl rfl ?_
  refine go_nil ?_
  obtain rfl := someI hF
  refine gs_sub (.cons_cons _ (.cons_cons _ (.cons_cons _ (.cons_cons _ (.cons_cons _ (.cons_cons _ (.cons_cons _ (.cons _ (.refl _))))))))) ?_
  exact g_ret (rst rfl rs0) (fun h1 hf hs => ⟨[[⟨bp0, .cells [.pointer (some ⟨bp0o0, 0, none⟩), .slice q7_y0_1 x7.2.1.nodes.length x7.2.1.nodes.length, .slice q7_y0_2 x7.2.1.infos.length x7.2.1.infos.length] 83⟩], t7_y0_1, t7_y0_2, [⟨bp0o0, .cells [.slice q7_y0o0_0 x7.2.2.1.cells.length x7.2.2.1.cells.length, .int .i64 x7.2.2.1.count] 94⟩], t7_y0o0_0, [⟨bp1, .cells [.bool x7.2.2.2.told_Ok, .string x7.2.2.2.told_Key, .int .u64 x7.2.2.2.told_Val, .int .i64 x7.2.2.2.told_Err, v7_y1_4] 114⟩], t7_r], _, hf, e7, w7, hs, (ndb (by intro e; cases e) (ndt f7_0 (ndt f7_1 (ndb (by intro e; cases e) (ndt f7_2 (ndb (by intro e; cases e) (ndc f7_3 nd0))))))), ⟨_, _, _, _, _, _, _, _, _, rfl, rfl, f7_0, f7_1, f7_2, f7_3⟩⟩)
theorem s_bst_Tree_call_bst_Tree_Delete_1 (n : Nat) {h : Heap} (hw : Wf h) (p0 : Obst_Tree) (p0o0 : Omem_Mem) (p1 : ByteArray) {bp0 : Nat} {q0_1 : Option Addr} {t0_1 : List Blk} {q0_2 : Option Addr} {t0_2 : List Blk} {bp0o0 : Nat} {q0o0_0 : Option Addr} {t0o0_0 : List Blk} {b2c0 : Nat} (f0_1 : AccR R_Tbst_node 89 h t0_1 (.slice q0_1 p0.nodes.length p0.nodes.length) p0.nodes) (f0_2 : AccR R_Tbst_info 86 h t0_2 (.slice q0_2 p0.infos.length p0.infos.length) p0.infos) (f0o0_0 : AccR (RI_ .u64 29) 29 h t0o0_0 (.slice q0o0_0 p0o0.cells.length p0o0.cells.length) p0o0.cells) (g2c0 : BK h b2c0 [.pointer (some ⟨bp0, 0, none⟩)] 24) {r : Obst_Call_2 × Obst_Tree × Omem_Mem} (hF : F_bst_Tree_call_bst_Tree_Delete_1 n p0 p0o0 p1 = some r) :
    EvO EE 47 [.pointer (some ⟨bp0, 0, none⟩), .string p1, .func (.func 66) #[] #[.pointer (some ⟨b2c0, 0, none⟩)]] [[⟨bp0, .cells [.pointer (some ⟨bp0o0, 0, none⟩), .slice q0_1 p0.nodes.length p0.nodes.length, .slice q0_2 p0.infos.length p0.infos.length] 83⟩], t0_1, t0_2, [⟨bp0o0, .cells [.slice q0o0_0 p0o0.cells.length p0o0.cells.length, .int .i64 p0o0.count] 94⟩], t0o0_0] h (fun v S h1 => ∃ qy0_1 ty0_1 qy0_2 ty0_2 qy0o0_0 ty0o0_0 bw0 vw0_4 tw0_4, v = .pointer (some ⟨bw0, 0, none⟩) ∧ S = [[⟨bp0, .cells [.pointer (some ⟨bp0o0, 0, none⟩), .slice qy0_1 r.2.1.nodes.length r.2.1.nodes.length, .slice qy0_2 r.2.1.infos.length r.2.1.infos.length] 83⟩], ty0_1, ty0_2, [⟨bp0o0, .cells [.slice qy0o0_0 r.2.2.cells.length r.2.2.cells.length, .int .i64 r.2.2.count] 94⟩], ty0o0_0, [⟨bw0, .cells [.bool r.1.told_Ok, .string r.1.told_Key, .int .u64 r.1.told_Val, .int .i64 r.1.told_Err, vw0_4] 114⟩], tw0_4] ∧ AccR R_Tbst_node 89 h1 ty0_1 (.slice qy0_1 r.2.1.nodes.length r.2.1.nodes.length) r.2.1.nodes ∧ AccR R_Tbst_info 86 h1 ty0_2 (.slice qy0_2 r.2.1.infos.length r.2.1.infos.length) r.2.1.infos ∧ AccR (RI_ .u64 29) 29 h1 ty0o0_0 (.slice qy0o0_0 r.2.2.cells.length r.2.2.cells.length) r.2.2.cells ∧ OC h1 bp0 bw0 tw0_4 r.1.next vw0_4) := by
  unfold F_bst_Tree_call_bst_Tree_Delete_1 at hF
  refine evo_of rfl at_47 rfl rfl ?_
  refine go_seq ?_
  refine go_region ?_
  refine gAc rfl rfl ?_
  refine go_nil ?_
  refine go_seq ?_
  refine go_seq ?_
  refine go_region ?_
  refine gM rfl rfl ?_
  refine gr rfl (r_bin (v := .bool false) (ot rfl) (oc rfl) (by first | rfl | kernel_rfl)) ?_
  refine go_nil ?_
  refine g_cond (b := false) (ot rfl) (fun hc4 => ?_) (fun hc4 => ?_)
  · cases hc4
  refine go_skip ?_
  refine go_seq ?_
  refine go_region ?_
  refine gM rfl rfl ?_
  refine gr rfl (r_build (op1 (ot rfl) op0) rfl) ?_
  refine gr rfl (r_build (op1 (ot rfl) op0) rfl) ?_
  refine gs_box rfl (ot rfl) rfl ?_; intro b13_5
  refine gA rfl rfl ?_
  refine go_nil ?_
  refine go_seq ?_
  refine go_region ?_
  refine gM rfl rfl ?_
  refine gM rfl rfl ?_
  refine gM rfl rfl ?_
  refine gM rfl rfl ?_
  refine gr rfl (r_build (op1 (ot rfl) op0) rfl) ?_
  replace hF := obind hF
  obtain ⟨x6, hx6, hF⟩ := hF
  refine gs_call EE_fr hw (.cons (.s (.z)) (.cons (.s (.z)) (.cons (.s (.z)) (.cons (.s (.z)) (.cons (.s (.z)) (.cons .z .nil)))))) (fun _ h => by cases h; rfl) (ot rfl) (os1 (ot rfl) (os1 (ot rfl) os0)) hb_66 (by exact s_bst_Tree_Delete_1 (F_step_ok n) hw p0 p0o0 (⟨false, p1, 0, 0⟩ : Obst_Call) (⟨p1, 0, 0, 0⟩ : Tbst_node) f0_1 f0_2 f0o0_0 g2c0 hx6) ?_
  rintro v6 S6 h6 e6 w6 ⟨q6_y0_1, t6_y0_1, q6_y0_2, t6_y0_2, q6_y0o0_0, t6_y0o0_0, v6_y1_4, v6_r, t6_r, rfl, rfl, f6_0, f6_1, f6_2, f6_3⟩
  simp only [List.cons_append, List.nil_append]
  refine gr rfl (r_nilck (ot rfl)) ?_
  refine gr rfl (r_fa (ot rfl) (fa_114_1 _ _)) ?_
  refine gs_store (ot rfl) (ot rfl) sz_102 (OC.sz f6_3) (OC.one f6_3) rfl (OC.okc f6_3) rfl (.s (.s (.s (.s (.s (.z)))))) ?_
  refine go_nil ?_
  refine go_seq ?_
  refine go_region ?_
  refine gM rfl rfl ?_
  refine gA rfl rfl ?_
  refine go_nil ?_
  obtain rfl := someI hF
  exact g_ret (rst rfl rs0) (fun h1 hf hs => ⟨[[⟨bp0, .cells [.pointer (some ⟨bp0o0, 0, none⟩), .slice q6_y0_1 x6.2.1.nodes.length x6.2.1.nodes.length, .slice q6_y0_2 x6.2.1.infos.length x6.2.1.infos.length] 83⟩], t6_y0_1, t6_y0_2, [⟨bp0o0, .cells [.slice q6_y0o0_0 x6.2.2.1.cells.length x6.2.2.1.cells.length, .int .i64 x6.2.2.1.count] 94⟩], t6_y0o0_0, [⟨b13_5, .cells [.bool x6.2.2.2.told_Ok, .string x6.2.2.2.told_Key, .int .u64 x6.2.2.2.told_Val, .int .i64 x6.2.2.2.told_Err, v6] 114⟩], t6_r], _, hf, e6, w6, hs, (ndb (by intro e; cases e) (ndt f6_0 (ndt f6_1 (ndb (by intro e; cases e) (ndt f6_2 (ndb (by intro e; cases e) (ndc f6_3 nd0))))))), ⟨_, _, _, _, _, _, _, _, _, rfl, rfl, f6_0, f6_1, f6_2, f6_3⟩⟩)
theorem s_bst_Tree_Delete (n : Nat) {h : Heap} (hw : Wf h) (p0 : Obst_Tree) (p0o0 : Omem_Mem) (p1 : ByteArray) {bp0 : Nat} {q0_1 : Option Addr} {t0_1 : List Blk} {q0_2 : Option Addr} {t0_2 : List Blk} {bp0o0 : Nat} {q0o0_0 : Option Addr} {t0o0_0 : List Blk} (f0_1 : AccR R_Tbst_node 89 h t0_1 (.slice q0_1 p0.nodes.length p0.nodes.length) p0.nodes) (f0_2 : AccR R_Tbst_info 86 h t0_2 (.slice q0_2 p0.infos.length p0.infos.length) p0.infos) (f0o0_0 : AccR (RI_ .u64 29) 29 h t0o0_0 (.slice q0o0_0 p0o0.cells.length p0o0.cells.length) p0o0.cells) {r : Obst_Call_2 × Obst_Tree × Omem_Mem} (hF : F_bst_Tree_Delete n p0 p0o0 p1 = some r) :
    EvO EE 37 [.pointer (some ⟨bp0, 0, none⟩), .string p1] [[⟨bp0, .cells [.pointer (some ⟨bp0o0, 0, none⟩), .slice q0_1 p0.nodes.length p0.nodes.length, .slice q0_2 p0.infos.length p0.infos.length] 83⟩], t0_1, t0_2, [⟨bp0o0, .cells [.slice q0o0_0 p0o0.cells.length p0o0.cells.length, .int .i64 p0o0.count] 94⟩], t0o0_0] h (fun v S h1 => ∃ qy0_1 ty0_1 qy0_2 ty0_2 qy0o0_0 ty0o0_0 bw0 vw0_4 tw0_4, v = .pointer (some ⟨bw0, 0, none⟩) ∧ S = [[⟨bp0, .cells [.pointer (some ⟨bp0o0, 0, none⟩), .slice qy0_1 r.2.1.nodes.length r.2.1.nodes.length, .slice qy0_2 r.2.1.infos.length r.2.1.infos.length] 83⟩], ty0_1, ty0_2, [⟨bp0o0, .cells [.slice qy0o0_0 r.2.2.cells.length r.2.2.cells.length, .int .i64 r.2.2.count] 94⟩], ty0o0_0, [⟨bw0, .cells [.bool r.1.told_Ok, .string r.1.told_Key, .int .u64 r.1.told_Val, .int .i64 r.1.told_Err, vw0_4] 114⟩], tw0_4] ∧ AccR R_Tbst_node 89 h1 ty0_1 (.slice qy0_1 r.2.1.nodes.length r.2.1.nodes.length) r.2.1.nodes ∧ AccR R_Tbst_info 86 h1 ty0_2 (.slice qy0_2 r.2.1.infos.length r.2.1.infos.length) r.2.1.infos ∧ AccR (RI_ .u64 29) 29 h1 ty0o0_0 (.slice qy0o0_0 r.2.2.cells.length r.2.2.cells.length) r.2.2.cells ∧ OC h1 bp0 bw0 tw0_4 r.1.next vw0_4) := by
  unfold F_bst_Tree_Delete at hF
  refine evo_of rfl at_37 rfl rfl ?_
  refine go_seq ?_
  refine go_region ?_
  refine gs_box rfl (ot rfl) rfl ?_; intro b2_3
  refine gAc rfl rfl ?_
  refine go_nil ?_
  refine go_seq ?_
  refine go_region ?_
  refine gr rfl (r_load (ot rfl) (lm_s (mem_seg 0 rfl) ag_24 rfl)) ?_
  refine gM rfl rfl ?_
  refine gr rfl (r_func os0 (os1 (ot rfl) os0)) ?_
  refine gs_pub .z (fun h5 e5 w5 hb5 => ?_)
  have g5_ : BK h5 b2_3 [.pointer (some ⟨bp0, 0, none⟩)] 24 := hb5
  replace hF := obind hF
  obtain ⟨x4, hx4, hF⟩ := hF
  refine gs_call EE_fr w5 (.cons .z (.cons .z (.cons .z (.cons .z (.cons .z .nil))))) (fun _ h => by cases h; rfl) of (os1 (ot rfl) (os1 (ot rfl) (os1 (ot rfl) os0))) hb_47 (by exact s_bst_Tree_call_bst_Tree_Delete_1 n w5 p0 p0o0 p1 (f0_1.ext e5.kn) (f0_2.ext e5.kn) (f0o0_0.ext e5.kn) g5_ hx4) ?_
  rintro v4 S4 h4 e4 w4 ⟨q4_y0_1, t4_y0_1, q4_y0_2, t4_y0_2, q4_y0o0_0, t4_y0o0_0, b4_w0, v4_w0_4, t4_w0_4, rfl, rfl, f4_0, f4_1, f4_2, f4_3⟩
  simp only [List.cons_append, List.nil_append]
  refine gA rfl rfl ?_
  refine go_nil ?_
  obtain rfl := someI hF
  exact g_ret (rst rfl rs0) (fun h1 hf hs => ⟨[[⟨bp0, .cells [.pointer (some ⟨bp0o0, 0, none⟩), .slice q4_y0_1 x4.2.1.nodes.length x4.2.1.nodes.length, .slice q4_y0_2 x4.2.1.infos.length x4.2.1.infos.length] 83⟩], t4_y0_1, t4_y0_2, [⟨bp0o0, .cells [.slice q4_y0o0_0 x4.2.2.cells.length x4.2.2.cells.length, .int .i64 x4.2.2.count] 94⟩], t4_y0o0_0, [⟨b4_w0, .cells [.bool x4.1.told_Ok, .string x4.1.told_Key, .int .u64 x4.1.told_Val, .int .i64 x4.1.told_Err, v4_w0_4] 114⟩], t4_w0_4], _, hf, (e5.trans e4), w4, hs, (ndb (by intro e; cases e) (ndt f4_0 (ndt f4_1 (ndb (by intro e; cases e) (ndt f4_2 (ndb (by intro e; cases e) (ndc f4_3 nd0))))))), ⟨_, _, _, _, _, _, _, _, _, rfl, rfl, f4_0, f4_1, f4_2, f4_3⟩⟩)
theorem s_bst_Tree_Seek_1 {rc : RC} (hrc : RCok rc) {h : Heap} (hw : Wf h) (p0 : Obst_Tree) (p0o0 : Omem_Mem) (p1 : Obst_Call) (p3 : Tbst_node) {bp0 : Nat} {q0_1 : Option Addr} {t0_1 : List Blk} {q0_2 : Option Addr} {t0_2 : List Blk} {bp0o0 : Nat} {q0o0_0 : Option Addr} {t0o0_0 : List Blk} {bp1 : Nat} {v1_4 : Value} {b4 : Nat} (f0_1 : AccR R_Tbst_node 89 h t0_1 (.slice q0_1 p0.nodes.length p0.nodes.length) p0.nodes) (f0_2 : AccR R_Tbst_info 86 h t0_2 (.slice q0_2 p0.infos.length p0.infos.length) p0.infos) (f0o0_0 : AccR (RI_ .u64 29) 29 h t0o0_0 (.slice q0o0_0 p0o0.cells.length p0o0.cells.length) p0o0.cells) (g4 : BK h b4 [.pointer (some ⟨bp0, 0, none⟩)] 24) {r : (Option Clo) × Obst_Tree × Omem_Mem × Obst_Call} (hF : F_bst_Tree_Seek_1 rc p0 p0o0 p1 p3 = some r) :
    EvO EE 48 [.pointer (some ⟨bp1, 0, none⟩), .agg #[.string p3.key, .int .i64 p3.top, .int .u64 p3.val, .int .i64 p3.cell], .pointer (some ⟨b4, 0, none⟩)] [[⟨bp0, .cells [.pointer (some ⟨bp0o0, 0, none⟩), .slice q0_1 p0.nodes.length p0.nodes.length, .slice q0_2 p0.infos.length p0.infos.length] 83⟩], t0_1, t0_2, [⟨bp0o0, .cells [.slice q0o0_0 p0o0.cells.length p0o0.cells.length, .int .i64 p0o0.count] 94⟩], t0o0_0, [⟨bp1, .cells [.bool p1.told_Ok, .string p1.told_Key, .int .u64 p1.told_Val, .int .i64 p1.told_Err, v1_4] 114⟩]] h (fun v S h1 => ∃ qy0_1 ty0_1 qy0_2 ty0_2 qy0o0_0 ty0o0_0 vy1_4 vr tr, v = vr ∧ S = [[⟨bp0, .cells [.pointer (some ⟨bp0o0, 0, none⟩), .slice qy0_1 r.2.1.nodes.length r.2.1.nodes.length, .slice qy0_2 r.2.1.infos.length r.2.1.infos.length] 83⟩], ty0_1, ty0_2, [⟨bp0o0, .cells [.slice qy0o0_0 r.2.2.1.cells.length r.2.2.1.cells.length, .int .i64 r.2.2.1.count] 94⟩], ty0o0_0, [⟨bp1, .cells [.bool r.2.2.2.told_Ok, .string r.2.2.2.told_Key, .int .u64 r.2.2.2.told_Val, .int .i64 r.2.2.2.told_Err, vy1_4] 114⟩], tr] ∧ AccR R_Tbst_node 89 h1 ty0_1 (.slice qy0_1 r.2.1.nodes.length r.2.1.nodes.length) r.2.1.nodes ∧ AccR R_Tbst_info 86 h1 ty0_2 (.slice qy0_2 r.2.1.infos.length r.2.1.infos.length) r.2.1.infos ∧ AccR (RI_ .u64 29) 29 h1 ty0o0_0 (.slice qy0o0_0 r.2.2.1.cells.length r.2.2.1.cells.length) r.2.2.1.cells ∧ OC h1 bp0 bp1 tr r.1 vr) := by
  unfold F_bst_Tree_Seek_1 at hF
  refine evo_of rfl at_48 rfl rfl ?_
  refine go_seq ?_
  refine go_region ?_
  refine gs_box rfl (ot rfl) rfl ?_; intro b3_6
  refine gs_box rfl (ot rfl) rfl ?_; intro b4_7
  refine gAc rfl rfl ?_
  refine go_nil ?_
  refine go_seq ?_
  refine go_region ?_
  refine gr rfl (r_load (ot rfl) (v := .pointer (some ⟨bp0, 0, none⟩)) (lo_e (fun hf kn => ld_cell ag_24 (g4.ext kn) rfl))) ?_
  refine gr rfl (r_load (ot rfl) (lm_w (mem_seg 0 rfl) ag_89 sz_89 rfl)) ?_
  refine gr rfl (r_func os0 (os1 (ot rfl) (os1 (ot rfl) (os1 (ot rfl) os0)))) ?_
  refine gs_pub .z (fun h9 e9 w9 hb9 => ?_)
  have g9_ : BK h9 b4_7 [.string p3.key, .int .i64 p3.top, .int .u64 p3.val, .int .i64 p3.cell] 89 := hb9
  refine gs_pub .z (fun h10 e10 w10 hb10 => ?_)
  have g10_ : BK h10 b3_6 [.pointer (some ⟨bp1, 0, none⟩)] 34 := hb10
  have co11 : CO h10 bp0 bp1 [] (Clo.c_Seek_1_1 p3) (.func (.func 50) #[] #[.pointer (some ⟨b4, 0, none⟩), .pointer (some ⟨b4_7, 0, none⟩), .pointer (some ⟨b3_6, 0, none⟩)]) := CO.c_Seek_1_1 ((g4.ext e9.kn).ext e10.kn) (g9_.ext e10.kn) g10_
  replace hF := obind hF
  obtain ⟨x8, hx8, hF⟩ := hF
  refine gs_call EE_fr w10 (.cons .z (.cons .z (.cons .z (.cons .z (.cons .z (.cons .z .nil)))))) (fun _ h => by cases h; rfl) of (os1 (ot rfl) (os1 (ot rfl) (os1 (ot rfl) os0))) hb_49 (by exact s_bst_Tree_search hrc w10 p0 p0o0 p1 p3 (Clo.c_Seek_1_1 p3) ((f0_1.ext e9.kn).ext e10.kn) ((f0_2.ext e9.kn).ext e10.kn) ((f0o0_0.ext e9.kn).ext e10.kn) co11 hx8) ?_
  rintro v8 S8 h8 e8 w8 ⟨q8_y0_1, t8_y0_1, q8_y0_2, t8_y0_2, q8_y0o0_0, t8_y0o0_0, v8_y1_4, v8_r, t8_r, rfl, rfl, f8_0, f8_1, f8_2, f8_3⟩
  simp only [List.cons_append, List.nil_append]
  refine gA rfl rfl ?_
  refine go_nil ?_
  obtain rfl := someI hF
  exact g_ret (rst rfl rs0) (fun h1 hf hs => ⟨[[⟨bp0, .cells [.pointer (some ⟨bp0o0, 0, none⟩), .slice q8_y0_1 x8.2.1.nodes.length x8.2.1.nodes.length, .slice q8_y0_2 x8.2.1.infos.length x8.2.1.infos.length] 83⟩], t8_y0_1, t8_y0_2, [⟨bp0o0, .cells [.slice q8_y0o0_0 x8.2.2.1.cells.length x8.2.2.1.cells.length, .int .i64 x8.2.2.1.count] 94⟩], t8_y0o0_0, [⟨bp1, .cells [.bool x8.2.2.2.told_Ok, .string x8.2.2.2.told_Key, .int .u64 x8.2.2.2.told_Val, .int .i64 x8.2.2.2.told_Err, v8_y1_4] 114⟩], t8_r], _, hf, (e9.trans (e10.trans e8)), w8, hs, (ndb (by intro e; cases e) (ndt f8_0 (ndt f8_1 (ndb (by intro e; cases e) (ndt f8_2 (ndb (by intro e; cases e) (ndc f8_3 nd0))))))), ⟨_, _, _, _, _, _, _, _, _, rfl, rfl, f8_0, f8_1, f8_2, f8_3⟩⟩)
theorem s_bst_Tree_call_bst_Tree_Seek_1 (n : Nat) {h : Heap} (hw : Wf h) (p0 : Obst_Tree) (p0o0 : Omem_Mem) (p1 : ByteArray) {bp0 : Nat} {q0_1 : Option Addr} {t0_1 : List Blk} {q0_2 : Option Addr} {t0_2 : List Blk} {bp0o0 : Nat} {q0o0_0 : Option Addr} {t0o0_0 : List Blk} {b2c0 : Nat} (f0_1 : AccR R_Tbst_node 89 h t0_1 (.slice q0_1 p0.nodes.length p0.nodes.length) p0.nodes) (f0_2 : AccR R_Tbst_info 86 h t0_2 (.slice q0_2 p0.infos.length p0.infos.length) p0.infos) (f0o0_0 : AccR (RI_ .u64 29) 29 h t0o0_0 (.slice q0o0_0 p0o0.cells.length p0o0.cells.length) p0o0.cells) (g2c0 : BK h b2c0 [.pointer (some ⟨bp0, 0, none⟩)] 24) {r : Obst_Call_2 × Obst_Tree × Omem_Mem} (hF : F_bst_Tree_call_bst_Tree_Seek_1 n p0 p0o0 p1 = some r) :
    EvO EE 47 [.pointer (some ⟨bp0, 0, none⟩), .string p1, .func (.func 48) #[] #[.pointer (some ⟨b2c0, 0, none⟩)]] [[⟨bp0, .cells [.pointer (some ⟨bp0o0, 0, none⟩), .slice q0_1 p0.nodes.length p0.nodes.length, .slice q0_2 p0.infos.length p0.infos.length] 83⟩], t0_1, t0_2, [⟨bp0o0, .cells [.slice q0o0_0 p0o0.cells.length p0o0.cells.length, .int .i64 p0o0.count] 94⟩], t0o0_0] h (fun v S h1 => ∃ qy0_1 ty0_1 qy0_2 ty0_2 qy0o0_0 ty0o0_0 bw0 vw0_4 tw0_4, v = .pointer (some ⟨bw0, 0, none⟩) ∧ S = [[⟨bp0, .cells [.pointer (some ⟨bp0o0, 0, none⟩), .slice qy0_1 r.2.1.nodes.length r.2.1.nodes.length, .slice qy0_2 r.2.1.infos.length r.2.1.infos.length] 83⟩], ty0_1, ty0_2, [⟨bp0o0, .cells [.slice qy0o0_0 r.2.2.cells.length r.2.2.cells.length, .int .i64 r.2.2.count] 94⟩], ty0o0_0, [⟨bw0, .cells [.bool r.1.told_Ok, .string r.1.told_Key, .int .u64 r.1.told_Val, .int .i64 r.1.told_Err, vw0_4] 114⟩], tw0_4] ∧ AccR R_Tbst_node 89 h1 ty0_1 (.slice qy0_1 r.2.1.nodes.length r.2.1.nodes.length) r.2.1.nodes ∧ AccR R_Tbst_info 86 h1 ty0_2 (.slice qy0_2 r.2.1.infos.length r.2.1.infos.length) r.2.1.infos ∧ AccR (RI_ .u64 29) 29 h1 ty0o0_0 (.slice qy0o0_0 r.2.2.cells.length r.2.2.cells.length) r.2.2.cells ∧ OC h1 bp0 bw0 tw0_4 r.1.next vw0_4) := by
  unfold F_bst_Tree_call_bst_Tree_Seek_1 at hF
  refine evo_of rfl at_47 rfl rfl ?_
  refine go_seq ?_
  refine go_region ?_
  refine gAc rfl rfl ?_
  refine go_nil ?_
  refine go_seq ?_
  refine go_seq ?_
  refine go_region ?_
  refine gM rfl rfl ?_
  refine gr rfl (r_bin (v := .bool false) (ot rfl) (oc rfl) (by first | rfl | kernel_rfl)) ?_
  refine go_nil ?_
  refine g_cond (b := false) (ot rfl) (fun hc4 => ?_) (fun hc4 => ?_)
  · cases hc4
  refine go_skip ?_
  refine go_seq ?_
  refine go_region ?_
  refine gM rfl rfl ?_
  refine gr rfl (r_build (op1 (ot rfl) op0) rfl) ?_
  refine gr rfl (r_build (op1 (ot rfl) op0) rfl) ?_
  refine gs_box rfl (ot rfl) rfl ?_; intro b13_5
  refine gA rfl rfl ?_
  refine go_nil ?_
  refine go_seq ?_
  refine go_region ?_
  refine gM rfl rfl ?_
  refine gM rfl rfl ?_
  refine gM rfl rfl ?_
  refine gM rfl rfl ?_
  refine gr rfl (r_build (op1 (ot rfl) op0) rfl) ?_
  replace hF := obind hF
  obtain ⟨x6, hx6, hF⟩ := hF
  refine gs_call EE_fr hw (.cons (.s (.z)) (.cons (.s (.z)) (.cons (.s (.z)) (.cons (.s (.z)) (.cons (.s (.z)) (.cons .z .nil)))))) (fun _ h => by cases h; rfl) (ot rfl) (os1 (ot rfl) (os1 (ot rfl) os0)) hb_48 (by exact s_bst_Tree_Seek_1 (F_step_ok n) hw p0 p0o0 (⟨false, p1, 0, 0⟩ : Obst_Call) (⟨p1, 0, 0, 0⟩ : Tbst_node) f0_1 f0_2 f0o0_0 g2c0 hx6) ?_
  rintro v6 S6 h6 e6 w6 ⟨q6_y0_1, t6_y0_1, q6_y0_2, t6_y0_2, q6_y0o0_0, t6_y0o0_0, v6_y1_4, v6_r, t6_r, rfl, rfl, f6_0, f6_1, f6_2, f6_3⟩
  simp only [List.cons_append, List.nil_append]
  refine gr rfl (r_nilck (ot rfl)) ?_
  refine gr rfl (r_fa (ot rfl) (fa_114_1 _ _)) ?_
  refine gs_store (ot rfl) (ot rfl) sz_102 (OC.sz f6_3) (OC.one f6_3) rfl (OC.okc f6_3) rfl (.s (.s (.s (.s (.s (.z)))))) ?_
  refine go_nil ?_
  refine go_seq ?_
  refine go_region ?_
  refine gM rfl rfl ?_
  refine gA rfl rfl ?_
  refine go_nil ?_
  obtain rfl := someI hF
  exact g_ret (rst rfl rs0) (fun h1 hf hs => ⟨[[⟨bp0, .cells [.pointer (some ⟨bp0o0, 0, none⟩), .slice q6_y0_1 x6.2.1.nodes.length x6.2.1.nodes.length, .slice q6_y0_2 x6.2.1.infos.length x6.2.1.infos.length] 83⟩], t6_y0_1, t6_y0_2, [⟨bp0o0, .cells [.slice q6_y0o0_0 x6.2.2.1.cells.length x6.2.2.1.cells.length, .int .i64 x6.2.2.1.count] 94⟩], t6_y0o0_0, [⟨b13_5, .cells [.bool x6.2.2.2.told_Ok, .string x6.2.2.2.told_Key, .int .u64 x6.2.2.2.told_Val, .int .i64 x6.2.2.2.told_Err, v6] 114⟩], t6_r], _, hf, e6, w6, hs, (ndb (by intro e; cases e) (ndt f6_0 (ndt f6_1 (ndb (by intro e; cases e) (ndt f6_2 (ndb (by intro e; cases e) (ndc f6_3 nd0))))))), ⟨_, _, _, _, _, _, _, _, _, rfl, rfl, f6_0, f6_1, f6_2, f6_3⟩⟩)
theorem s_bst_Tree_Seek (n : Nat) {h : Heap} (hw : Wf h) (p0 : Obst_Tree) (p0o0 : Omem_Mem) (p1 : ByteArray) {bp0 : Nat} {q0_1 : Option Addr} {t0_1 : List Blk} {q0_2 : Option Addr} {t0_2 : List Blk} {bp0o0 : Nat} {q0o0_0 : Option Addr} {t0o0_0 : List Blk} (f0_1 : AccR R_Tbst_node 89 h t0_1 (.slice q0_1 p0.nodes.length p0.nodes.length) p0.nodes) (f0_2 : AccR R_Tbst_info 86 h t0_2 (.slice q0_2 p0.infos.length p0.infos.length) p0.infos) (f0o0_0 : AccR (RI_ .u64 29) 29 h t0o0_0 (.slice q0o0_0 p0o0.cells.length p0o0.cells.length) p0o0.cells) {r : Obst_Call_2 × Obst_Tree × Omem_Mem} (hF : F_bst_Tree_Seek n p0 p0o0 p1 = some r) :
    EvO EE 20 [.pointer (some ⟨bp0, 0, none⟩), .string p1] [[⟨bp0, .cells [.pointer (some ⟨bp0o0, 0, none⟩), .slice q0_1 p0.nodes.length p0.nodes.length, .slice q0_2 p0.infos.length p0.infos.length] 83⟩], t0_1, t0_2, [⟨bp0o0, .cells [.slice q0o0_0 p0o0.cells.length p0o0.cells.length, .int .i64 p0o0.count] 94⟩], t0o0_0] h (fun v S h1 => ∃ qy0_1 ty0_1 qy0_2 ty0_2 qy0o0_0 ty0o0_0 bw0 vw0_4 tw0_4, v = .pointer (some ⟨bw0, 0, none⟩) ∧ S = [[⟨bp0, .cells [.pointer (some ⟨bp0o0, 0, none⟩), .slice qy0_1 r.2.1.nodes.length r.2.1.nodes.length, .slice qy0_2 r.2.1.infos.length r.2.1.infos.length] 83⟩], ty0_1, ty0_2, [⟨bp0o0, .cells [.slice qy0o0_0 r.2.2.cells.length r.2.2.cells.length, .int .i64 r.2.2.count] 94⟩], ty0o0_0, [⟨bw0, .cells [.bool r.1.told_Ok, .string r.1.told_Key, .int .u64 r.1.told_Val, .int .i64 r.1.told_Err, vw0_4] 114⟩], tw0_4] ∧ AccR R_Tbst_node 89 h1 ty0_1 (.slice qy0_1 r.2.1.nodes.length r.2.1.nodes.length) r.2.1.nodes ∧ AccR R_Tbst_info 86 h1 ty0_2 (.slice qy0_2 r.2.1.infos.length r.2.1.infos.length) r.2.1.infos ∧ AccR (RI_ .u64 29) 29 h1 ty0o0_0 (.slice qy0o0_0 r.2.2.cells.length r.2.2.cells.length) r.2.2.cells ∧ OC h1 bp0 bw0 tw0_4 r.1.next vw0_4) := by
  unfold F_bst_Tree_Seek at hF
  refine evo_of rfl at_20 rfl rfl ?_
  refine go_seq ?_
  refine go_region ?_
  refine gs_box rfl (ot rfl) rfl ?_; intro b2_3
  refine gAc rfl rfl ?_
  refine go_nil ?_
  refine go_seq ?_
  refine go_region ?_
  refine gr rfl (r_load (ot rfl) (lm_s (mem_seg 0 rfl) ag_24 rfl)) ?_
  refine gM rfl rfl ?_
  refine gr rfl (r_func os0 (os1 (ot rfl) os0)) ?_
  refine gs_pub .z (fun h5 e5 w5 hb5 => ?_)
  have g5_ : BK h5 b2_3 [.pointer (some ⟨bp0, 0, none⟩)] 24 := hb5
  replace hF := obind hF
  obtain ⟨x4, hx4, hF⟩ := hF
  refine gs_call EE_fr w5 (.cons .z (.cons .z (.cons .z (.cons .z (.cons .z .nil))))) (fun _ h => by cases h; rfl) of (os1 (ot rfl) (os1 (ot rfl) (os1 (ot rfl) os0))) hb_47 (by exact s_bst_Tree_call_bst_Tree_Seek_1 n w5 p0 p0o0 p1 (f0_1.ext e5.kn) (f0_2.ext e5.kn) (f0o0_0.ext e5.kn) g5_ hx4) ?_
  rintro v4 S4 h4 e4 w4 ⟨q4_y0_1, t4_y0_1, q4_y0_2, t4_y0_2, q4_y0o0_0, t4_y0o0_0, b4_w0, v4_w0_4, t4_w0_4, rfl, rfl, f4_0, f4_1, f4_2, f4_3⟩
  simp only [List.cons_append, List.nil_append]
  refine gA rfl rfl ?_
  refine go_nil ?_
  obtain rfl := someI hF
  exact g_ret (rst rfl rs0) (fun h1 hf hs => ⟨[[⟨bp0, .cells [.pointer (some ⟨bp0o0, 0, none⟩), .slice q4_y0_1 x4.2.1.nodes.length x4.2.1.nodes.length, .slice q4_y0_2 x4.2.1.infos.length x4.2.1.infos.length] 83⟩], t4_y0_1, t4_y0_2, [⟨bp0o0, .cells [.slice q4_y0o0_0 x4.2.2.cells.length x4.2.2.cells.length, .int .i64 x4.2.2.count] 94⟩], t4_y0o0_0, [⟨b4_w0, .cells [.bool x4.1.told_Ok, .string x4.1.told_Key, .int .u64 x4.1.told_Val, .int .i64 x4.1.told_Err, v4_w0_4] 114⟩], t4_w0_4], _, hf, (e5.trans e4), w4, hs, (ndb (by intro e; cases e) (ndt f4_0 (ndt f4_1 (ndb (by intro e; cases e) (ndt f4_2 (ndb (by intro e; cases e) (ndc f4_3 nd0))))))), ⟨_, _, _, _, _, _, _, _, _, rfl, rfl, f4_0, f4_1, f4_2, f4_3⟩⟩)
theorem s_bst_Tree_Insert_1 {rc : RC} (hrc : RCok rc) {h : Heap} (hw : Wf h) (p0 : Obst_Tree) (p0o0 : Omem_Mem) (p1 : Obst_Call) (p3 : Tbst_node) (p4 : Int) {bp0 : Nat} {q0_1 : Option Addr} {t0_1 : List Blk} {q0_2 : Option Addr} {t0_2 : List Blk} {bp0o0 : Nat} {q0o0_0 : Option Addr} {t0o0_0 : List Blk} {bp1 : Nat} {v1_4 : Value} {b4 : Nat} {b5 : Nat} (f0_1 : AccR R_Tbst_node 89 h t0_1 (.slice q0_1 p0.nodes.length p0.nodes.length) p0.nodes) (f0_2 : AccR R_Tbst_info 86 h t0_2 (.slice q0_2 p0.infos.length p0.infos.length) p0.infos) (f0o0_0 : AccR (RI_ .u64 29) 29 h t0o0_0 (.slice q0o0_0 p0o0.cells.length p0o0.cells.length) p0o0.cells) (g4 : BK h b4 [.int .u64 p4] 29) (g5 : BK h b5 [.pointer (some ⟨bp0, 0, none⟩)] 24) {r : (Option Clo) × Obst_Tree × Omem_Mem × Obst_Call} (hF : F_bst_Tree_Insert_1 rc p0 p0o0 p1 p3 p4 = some r) :
    EvO EE 56 [.pointer (some ⟨bp1, 0, none⟩), .agg #[.string p3.key, .int .i64 p3.top, .int .u64 p3.val, .int .i64 p3.cell], .pointer (some ⟨b4, 0, none⟩), .pointer (some ⟨b5, 0, none⟩)] [[⟨bp0, .cells [.pointer (some ⟨bp0o0, 0, none⟩), .slice q0_1 p0.nodes.length p0.nodes.length, .slice q0_2 p0.infos.length p0.infos.length] 83⟩], t0_1, t0_2, [⟨bp0o0, .cells [.slice q0o0_0 p0o0.cells.length p0o0.cells.length, .int .i64 p0o0.count] 94⟩], t0o0_0, [⟨bp1, .cells [.bool p1.told_Ok, .string p1.told_Key, .int .u64 p1.told_Val, .int .i64 p1.told_Err, v1_4] 114⟩]] h (fun v S h1 => ∃ qy0_1 ty0_1 qy0_2 ty0_2 qy0o0_0 ty0o0_0 vy1_4 vr tr, v = vr ∧ S = [[⟨bp0, .cells [.pointer (some ⟨bp0o0, 0, none⟩), .slice qy0_1 r.2.1.nodes.length r.2.1.nodes.length, .slice qy0_2 r.2.1.infos.length r.2.1.infos.length] 83⟩], ty0_1, ty0_2, [⟨bp0o0, .cells [.slice qy0o0_0 r.2.2.1.cells.length r.2.2.1.cells.length, .int .i64 r.2.2.1.count] 94⟩], ty0o0_0, [⟨bp1, .cells [.bool r.2.2.2.told_Ok, .string r.2.2.2.told_Key, .int .u64 r.2.2.2.told_Val, .int .i64 r.2.2.2.told_Err, vy1_4] 114⟩], tr] ∧ AccR R_Tbst_node 89 h1 ty0_1 (.slice qy0_1 r.2.1.nodes.length r.2.1.nodes.length) r.2.1.nodes ∧ AccR R_Tbst_info 86 h1 ty0_2 (.slice qy0_2 r.2.1.infos.length r.2.1.infos.length) r.2.1.infos ∧ AccR (RI_ .u64 29) 29 h1 ty0o0_0 (.slice qy0o0_0 r.2.2.1.cells.length r.2.2.1.cells.length) r.2.2.1.cells ∧ OC h1 bp0 bp1 tr r.1 vr) := by
  unfold F_bst_Tree_Insert_1 at hF
  refine evo_of rfl at_56 rfl rfl ?_
  refine go_seq ?_
  refine go_region ?_
  refine gs_box rfl (ot rfl) rfl ?_; intro b5_7
  refine gAc rfl rfl ?_
  refine go_nil ?_
  refine go_seq ?_
  refine go_region ?_
  refine gr rfl (r_load (ot rfl) (v := .int .u64 p4) (lo_e (fun hf kn => ld_cell ag_29 (g4.ext kn) rfl))) ?_
  refine gr rfl (r_fa (ot rfl) (fa_89_2 _ _)) ?_
  refine gs_store (ot rfl) (ot rfl) sz_29 rfl rfl rfl rfl rfl .z ?_
  refine go_nil ?_
  refine go_seq ?_
  refine go_region ?_
  refine gr rfl (r_load (ot rfl) (v := .pointer (some ⟨bp0, 0, none⟩)) (lo_e (fun hf kn => ld_cell ag_24 (g5.ext kn) rfl))) ?_
  refine gM rfl rfl ?_
  refine gr rfl (r_load (ot rfl) (lm_w (mem_seg 0 rfl) ag_89 sz_89 rfl)) ?_
  replace hF := obind hF
  obtain ⟨x8, hx8, hF⟩ := hF
  refine gs_call EE_fr hw (.cons (.s (.z)) (.cons (.s (.z)) (.cons (.s (.z)) (.cons (.s (.z)) (.cons (.s (.z)) (.cons (.s (.z)) .nil)))))) (fun _ h => by cases h; rfl) of (os1 (ot rfl) (os1 (ot rfl) (os1 (ot rfl) os0))) hb_57 (by exact s_bst_Tree_insert hrc hw p0 p0o0 p1 (⟨p3.key, p3.top, p4, p3.cell⟩ : Tbst_node) f0_1 f0_2 f0o0_0 hx8) ?_
  rintro v8 S8 h8 e8 w8 ⟨q8_y0_1, t8_y0_1, q8_y0_2, t8_y0_2, q8_y0o0_0, t8_y0o0_0, v8_y1_4, v8_r, t8_r, rfl, rfl, f8_0, f8_1, f8_2, f8_3⟩
  simp only [List.cons_append, List.nil_append]
  refine gA rfl rfl ?_
  refine go_nil ?_
  obtain rfl := someI hF
  refine gs_sub (.cons_cons _ (.cons_cons _ (.cons_cons _ (.cons_cons _ (.cons_cons _ (.cons_cons _ (.cons_cons _ (.cons _ (.refl _))))))))) ?_
  exact g_ret (rst rfl rs0) (fun h1 hf hs => ⟨[[⟨bp0, .cells [.pointer (some ⟨bp0o0, 0, none⟩), .slice q8_y0_1 x8.2.1.nodes.length x8.2.1.nodes.length, .slice q8_y0_2 x8.2.1.infos.length x8.2.1.infos.length] 83⟩], t8_y0_1, t8_y0_2, [⟨bp0o0, .cells [.slice q8_y0o0_0 x8.2.2.1.cells.length x8.2.2.1.cells.length, .int .i64 x8.2.2.1.count] 94⟩], t8_y0o0_0, [⟨bp1, .cells [.bool x8.2.2.2.told_Ok, .string x8.2.2.2.told_Key, .int .u64 x8.2.2.2.told_Val, .int .i64 x8.2.2.2.told_Err, v8_y1_4] 114⟩], t8_r], _, hf, e8, w8, hs, (ndb (by intro e; cases e) (ndt f8_0 (ndt f8_1 (ndb (by intro e; cases e) (ndt f8_2 (ndb (by intro e; cases e) (ndc f8_3 nd0))))))), ⟨_, _, _, _, _, _, _, _, _, rfl, rfl, f8_0, f8_1, f8_2, f8_3⟩⟩)
theorem s_bst_Tree_call_bst_Tree_Insert_1 (n : Nat) {h : Heap} (hw : Wf h) (p0 : Obst_Tree) (p0o0 : Omem_Mem) (p1 : ByteArray) (p2c0 : Int) {bp0 : Nat} {q0_1 : Option Addr} {t0_1 : List Blk} {q0_2 : Option Addr} {t0_2 : List Blk} {bp0o0 : Nat} {q0o0_0 : Option Addr} {t0o0_0 : List Blk} {b2c0 : Nat} {b2c1 : Nat} (f0_1 : AccR R_Tbst_node 89 h t0_1 (.slice q0_1 p0.nodes.length p0.nodes.length) p0.nodes) (f0_2 : AccR R_Tbst_info 86 h t0_2 (.slice q0_2 p0.infos.length p0.infos.length) p0.infos) (f0o0_0 : AccR (RI_ .u64 29) 29 h t0o0_0 (.slice q0o0_0 p0o0.cells.length p0o0.cells.length) p0o0.cells) (g2c0 : BK h b2c0 [.int .u64 p2c0] 29) (g2c1 : BK h b2c1 [.pointer (some ⟨bp0, 0, none⟩)] 24) {r : Obst_Call_2 × Obst_Tree × Omem_Mem} (hF : F_bst_Tree_call_bst_Tree_Insert_1 n p0 p0o0 p1 p2c0 = some r) :
    EvO EE 47 [.pointer (some ⟨bp0, 0, none⟩), .string p1, .func (.func 56) #[] #[.pointer (some ⟨b2c0, 0, none⟩), .pointer (some ⟨b2c1, 0, none⟩)]] [[⟨bp0, .cells [.pointer (some ⟨bp0o0, 0, none⟩), .slice q0_1 p0.nodes.length p0.nodes.length, .slice q0_2 p0.infos.length p0.infos.length] 83⟩], t0_1, t0_2, [⟨bp0o0, .cells [.slice q0o0_0 p0o0.cells.length p0o0.cells.length, .int .i64 p0o0.count] 94⟩], t0o0_0] h (fun v S h1 => ∃ qy0_1 ty0_1 qy0_2 ty0_2 qy0o0_0 ty0o0_0 bw0 vw0_4 tw0_4, v = .pointer (some ⟨bw0, 0, none⟩) ∧ S = [[⟨bp0, .cells [.pointer (some ⟨bp0o0, 0, none⟩), .slice qy0_1 r.2.1.nodes.length r.2.1.nodes.length, .slice qy0_2 r.2.1.infos.length r.2.1.infos.length] 83⟩], ty0_1, ty0_2, [⟨bp0o0, .cells [.slice qy0o0_0 r.2.2.cells.length r.2.2.cells.length, .int .i64 r.2.2.count] 94⟩], ty0o0_0, [⟨bw0, .cells [.bool r.1.told_Ok, .string r.1.told_Key, .int .u64 r.1.told_Val, .int .i64 r.1.told_Err, vw0_4] 114⟩], tw0_4] ∧ AccR R_Tbst_node 89 h1 ty0_1 (.slice qy0_1 r.2.1.nodes.length r.2.1.nodes.length) r.2.1.nodes ∧ AccR R_Tbst_info 86 h1 ty0_2 (.slice qy0_2 r.2.1.infos.length r.2.1.infos.length) r.2.1.infos ∧ AccR (RI_ .u64 29) 29 h1 ty0o0_0 (.slice qy0o0_0 r.2.2.cells.length r.2.2.cells.length) r.2.2.cells ∧ OC h1 bp0 bw0 tw0_4 r.1.next vw0_4) := by
  unfold F_bst_Tree_call_bst_Tree_Insert_1 at hF
  refine evo_of rfl at_47 rfl rfl ?_
  refine go_seq ?_
  refine go_region ?_
  refine gAc rfl rfl ?_
  refine go_nil ?_
  refine go_seq ?_
  refine go_seq ?_
  refine go_region ?_
  refine gM rfl rfl ?_
  refine gr rfl (r_bin (v := .bool false) (ot rfl) (oc rfl) (by first | rfl | kernel_rfl)) ?_
  refine go_nil ?_
  refine g_cond (b := false) (ot rfl) (fun hc4 => ?_) (fun hc4 => ?_)
  · cases hc4
  refine go_skip ?_
  refine go_seq ?_
  refine go_region ?_
  refine gM rfl rfl ?_
  refine gr rfl (r_build (op1 (ot rfl) op0) rfl) ?_
  refine gr rfl (r_build (op1 (ot rfl) op0) rfl) ?_
  refine gs_box rfl (ot rfl) rfl ?_; intro b13_5
  refine gA rfl rfl ?_
  refine go_nil ?_
  refine go_seq ?_
  refine go_region ?_
  refine gM rfl rfl ?_
  refine gM rfl rfl ?_
  refine gM rfl rfl ?_
  refine gM rfl rfl ?_
  refine gr rfl (r_build (op1 (ot rfl) op0) rfl) ?_
  replace hF := obind hF
  obtain ⟨x6, hx6, hF⟩ := hF
  refine gs_call EE_fr hw (.cons (.s (.z)) (.cons (.s (.z)) (.cons (.s (.z)) (.cons (.s (.z)) (.cons (.s (.z)) (.cons .z .nil)))))) (fun _ h => by cases h; rfl) (ot rfl) (os1 (ot rfl) (os1 (ot rfl) os0)) hb_56 (by exact s_bst_Tree_Insert_1 (F_step_ok n) hw p0 p0o0 (⟨false, p1, 0, 0⟩ : Obst_Call) (⟨p1, 0, 0, 0⟩ : Tbst_node) p2c0 f0_1 f0_2 f0o0_0 g2c0 g2c1 hx6) ?_
  rintro v6 S6 h6 e6 w6 ⟨q6_y0_1, t6_y0_1, q6_y0_2, t6_y0_2, q6_y0o0_0, t6_y0o0_0, v6_y1_4, v6_r, t6_r, rfl, rfl, f6_0, f6_1, f6_2, f6_3⟩
  simp only [List.cons_append, List.nil_append]
  refine gr rfl (r_nilck (ot rfl)) ?_
  refine gr rfl (r_fa (ot rfl) (fa_114_1 _ _)) ?_
  refine gs_store (ot rfl) (ot rfl) sz_102 (OC.sz f6_3) (OC.one f6_3) rfl (OC.okc f6_3) rfl (.s (.s (.s (.s (.s (.z)))))) ?_
  refine go_nil ?_
  refine go_seq ?_
  refine go_region ?_
  refine gM rfl rfl ?_
  refine gA rfl rfl ?_
  refine go_nil ?_
  obtain rfl := someI hF
  exact g_ret (rst rfl rs0) (fun h1 hf hs => ⟨[[⟨bp0, .cells [.pointer (some ⟨bp0o0, 0, none⟩), .slice q6_y0_1 x6.2.1.nodes.length x6.2.1.nodes.length, .slice q6_y0_2 x6.2.1.infos.length x6.2.1.infos.length] 83⟩], t6_y0_1, t6_y0_2, [⟨bp0o0, .cells [.slice q6_y0o0_0 x6.2.2.1.cells.length x6.2.2.1.cells.length, .int .i64 x6.2.2.1.count] 94⟩], t6_y0o0_0, [⟨b13_5, .cells [.bool x6.2.2.2.told_Ok, .string x6.2.2.2.told_Key, .int .u64 x6.2.2.2.told_Val, .int .i64 x6.2.2.2.told_Err, v6] 114⟩], t6_r], _, hf, e6, w6, hs, (ndb (by intro e; cases e) (ndt f6_0 (ndt f6_1 (ndb (by intro e; cases e) (ndt f6_2 (ndb (by intro e; cases e) (ndc f6_3 nd0))))))), ⟨_, _, _, _, _, _, _, _, _, rfl, rfl, f6_0, f6_1, f6_2, f6_3⟩⟩)
theorem s_bst_Tree_Insert (n : Nat) {h : Heap} (hw : Wf h) (p0 : Obst_Tree) (p0o0 : Omem_Mem) (p1 : ByteArray) (p2 : Int) {bp0 : Nat} {q0_1 : Option Addr} {t0_1 : List Blk} {q0_2 : Option Addr} {t0_2 : List Blk} {bp0o0 : Nat} {q0o0_0 : Option Addr} {t0o0_0 : List Blk} (f0_1 : AccR R_Tbst_node 89 h t0_1 (.slice q0_1 p0.nodes.length p0.nodes.length) p0.nodes) (f0_2 : AccR R_Tbst_info 86 h t0_2 (.slice q0_2 p0.infos.length p0.infos.length) p0.infos) (f0o0_0 : AccR (RI_ .u64 29) 29 h t0o0_0 (.slice q0o0_0 p0o0.cells.length p0o0.cells.length) p0o0.cells) {r : Obst_Call_2 × Obst_Tree × Omem_Mem} (hF : F_bst_Tree_Insert n p0 p0o0 p1 p2 = some r) :
    EvO EE 22 [.pointer (some ⟨bp0, 0, none⟩), .string p1, .int .u64 p2] [[⟨bp0, .cells [.pointer (some ⟨bp0o0, 0, none⟩), .slice q0_1 p0.nodes.length p0.nodes.length, .slice q0_2 p0.infos.length p0.infos.length] 83⟩], t0_1, t0_2, [⟨bp0o0, .cells [.slice q0o0_0 p0o0.cells.length p0o0.cells.length, .int .i64 p0o0.count] 94⟩], t0o0_0] h (fun v S h1 => ∃ qy0_1 ty0_1 qy0_2 ty0_2 qy0o0_0 ty0o0_0 bw0 vw0_4 tw0_4, v = .pointer (some ⟨bw0, 0, none⟩) ∧ S = [[⟨bp0, .cells [.pointer (some ⟨bp0o0, 0, none⟩), .slice qy0_1 r.2.1.nodes.length r.2.1.nodes.length, .slice qy0_2 r.2.1.infos.length r.2.1.infos.length] 83⟩], ty0_1, ty0_2, [⟨bp0o0, .cells [.slice qy0o0_0 r.2.2.cells.length r.2.2.cells.length, .int .i64 r.2.2.count] 94⟩], ty0o0_0, [⟨bw0, .cells [.bool r.1.told_Ok, .string r.1.told_Key, .int .u64 r.1.told_Val, .int .i64 r.1.told_Err, vw0_4] 114⟩], tw0_4] ∧ AccR R_Tbst_node 89 h1 ty0_1 (.slice qy0_1 r.2.1.nodes.length r.2.1.nodes.length) r.2.1.nodes ∧ AccR R_Tbst_info 86 h1 ty0_2 (.slice qy0_2 r.2.1.infos.length r.2.1.infos.length) r.2.1.infos ∧ AccR (RI_ .u64 29) 29 h1 ty0o0_0 (.slice qy0o0_0 r.2.2.cells.length r.2.2.cells.length) r.2.2.cells ∧ OC h1 bp0 bw0 tw0_4 r.1.next vw0_4) := by
  unfold F_bst_Tree_Insert at hF
  refine evo_of rfl at_22 rfl rfl ?_
  refine go_seq ?_
  refine go_region ?_
  refine gs_box rfl (ot rfl) rfl ?_; intro b3_4
  refine gs_box rfl (ot rfl) rfl ?_; intro b5_5
  refine gAc rfl rfl ?_
  refine go_nil ?_
  refine go_seq ?_
  refine go_region ?_
  refine gr rfl (r_load (ot rfl) (lm_s (mem_seg 1 rfl) ag_24 rfl)) ?_
  refine gM rfl rfl ?_
  refine gr rfl (r_func os0 (os1 (ot rfl) (os1 (ot rfl) os0))) ?_
  refine gs_pub .z (fun h7 e7 w7 hb7 => ?_)
  have g7_ : BK h7 b5_5 [.int .u64 p2] 29 := hb7
  refine gs_pub .z (fun h8 e8 w8 hb8 => ?_)
  have g8_ : BK h8 b3_4 [.pointer (some ⟨bp0, 0, none⟩)] 24 := hb8
  replace hF := obind hF
  obtain ⟨x6, hx6, hF⟩ := hF
  refine gs_call EE_fr w8 (.cons .z (.cons .z (.cons .z (.cons .z (.cons .z .nil))))) (fun _ h => by cases h; rfl) of (os1 (ot rfl) (os1 (ot rfl) (os1 (ot rfl) os0))) hb_47 (by exact s_bst_Tree_call_bst_Tree_Insert_1 n w8 p0 p0o0 p1 p2 ((f0_1.ext e7.kn).ext e8.kn) ((f0_2.ext e7.kn).ext e8.kn) ((f0o0_0.ext e7.kn).ext e8.kn) (g7_.ext e8.kn) g8_ hx6) ?_
  rintro v6 S6 h6 e6 w6 ⟨q6_y0_1, t6_y0_1, q6_y0_2, t6_y0_2, q6_y0o0_0, t6_y0o0_0, b6_w0, v6_w0_4, t6_w0_4, rfl, rfl, f6_0, f6_1, f6_2, f6_3⟩
  simp only [List.cons_append, List.nil_append]
  refine gA rfl rfl ?_
  refine go_nil ?_
  obtain rfl := someI hF
  exact g_ret (rst rfl rs0) (fun h1 hf hs => ⟨[[⟨bp0, .cells [.pointer (some ⟨bp0o0, 0, none⟩), .slice q6_y0_1 x6.2.1.nodes.length x6.2.1.nodes.length, .slice q6_y0_2 x6.2.1.infos.length x6.2.1.infos.length] 83⟩], t6_y0_1, t6_y0_2, [⟨bp0o0, .cells [.slice q6_y0o0_0 x6.2.2.cells.length x6.2.2.cells.length, .int .i64 x6.2.2.count] 94⟩], t6_y0o0_0, [⟨b6_w0, .cells [.bool x6.1.told_Ok, .string x6.1.told_Key, .int .u64 x6.1.told_Val, .int .i64 x6.1.told_Err, v6_w0_4] 114⟩], t6_w0_4], _, hf, (e7.trans (e8.trans e6)), w6, hs, (ndb (by intro e; cases e) (ndt f6_0 (ndt f6_1 (ndb (by intro e; cases e) (ndt f6_2 (ndb (by intro e; cases e) (ndc f6_3 nd0))))))), ⟨_, _, _, _, _, _, _, _, _, rfl, rfl, f6_0, f6_1, f6_2, f6_3⟩⟩)
end Go.Proofs.Ytndhbaidibioeaa.V
