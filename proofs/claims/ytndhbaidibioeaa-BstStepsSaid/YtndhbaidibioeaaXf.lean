/- Walks.
   No condition: these are laws of the clean machine and of this program. -/
import Derived.Test.YtndhbaidibioeaaXe
namespace Go.Proofs.Ytndhbaidibioeaa.V
open Go
set_option linter.unusedVariables false
set_option linter.unusedSimpArgs false
set_option maxRecDepth 100000
set_option maxHeartbeats 4000000
theorem s_mem_Mem_Count {h : Heap} (hw : Wf h) (p0 : Omem_Mem) {bp0 : Nat} {q0_0 : Option Addr} {t0_0 : List Blk} (f0_0 : AccR (RI_ .u64 29) 29 h t0_0 (.slice q0_0 p0.cells.length p0.cells.length) p0.cells) {r : Int × Omem_Mem} (hF : F_mem_Mem_Count p0 = some r) :
    EvO EE 24 [.pointer (some ⟨bp0, 0, none⟩)] [[⟨bp0, .cells [.slice q0_0 p0.cells.length p0.cells.length, .int .i64 p0.count] 94⟩], t0_0] h (fun v S h1 => ∃ qy0_0 ty0_0, v = .int .i64 r.1 ∧ S = [[⟨bp0, .cells [.slice qy0_0 r.2.cells.length r.2.cells.length, .int .i64 r.2.count] 94⟩], ty0_0] ∧ AccR (RI_ .u64 29) 29 h1 ty0_0 (.slice qy0_0 r.2.cells.length r.2.cells.length) r.2.cells) := by
  unfold F_mem_Mem_Count at hF
  refine evo_of rfl at_24 rfl rfl ?_
  refine go_seq ?_
  refine go_region ?_
  refine gAc rfl rfl ?_
  refine go_nil ?_
  refine go_seq ?_
  refine go_seq ?_
  refine go_region ?_
  refine gM rfl rfl ?_
  refine gr rfl (r_bin (v := .bool false) (ot rfl) (oc rfl) (by first | rfl | kernel_rfl)) ?_
  refine go_nil ?_
  refine g_cond (b := false) (ot rfl) (fun hc2 => ?_) (fun hc2 => ?_)
  · cases hc2
  refine go_skip ?_
  refine go_seq ?_
  refine go_region ?_
  refine gM rfl rfl ?_
  refine gr rfl (r_nilck (ot rfl)) ?_
  refine gr rfl (r_fa (ot rfl) (fa_94_1 _ _)) ?_
  refine gr rfl (r_load (ot rfl) (lm_s (mem_seg 0 rfl) ag_3 rfl)) ?_
  refine gA rfl rfl ?_
  refine go_nil ?_
  obtain rfl := someI hF
  exact g_ret (rst rfl rs0) (fun h1 hf hs => ⟨[[⟨bp0, .cells [.slice q0_0 p0.cells.length p0.cells.length, .int .i64 p0.count] 94⟩], t0_0], _, hf, (HExt.refl _), hw, hs, (ndb (by intro e; cases e) (ndt f0_0 nd0)), ⟨_, _, rfl, rfl, f0_0⟩⟩)
theorem s_law15_BstSteps (n : Nat) {h : Heap} (hw : Wf h) (p0 : (List Timpostlaw15_Deed)) (p1 : A2_Timpostlaw15_Deed) (p2 : (List Bool)) {a0_0 : Option Addr} {c0_0 : Nat} {a2_0 : Option Addr} {c2_0 : Nat} (f0_0 : RL R_Timpostlaw15_Deed h a0_0 c0_0 p0) (f2_0 : RL (RB_ 4) h a2_0 c2_0 p2) {r : Bool} (hF : F_law15_BstSteps n p0 p1 p2 = some r) :
    Ev EE 5 [.slice a0_0 p0.length c0_0, .agg #[.int .i64 p1.x0.Kind, .string p1.x0.Key, .int .u64 p1.x0.Val, .int .i64 p1.x1.Kind, .string p1.x1.Key, .int .u64 p1.x1.Val], .slice a2_0 p2.length c2_0] h (fun v _ => v = .bool r) := by
  unfold F_law15_BstSteps at hF
  refine ev_of hw rfl at_5 rfl rfl (go_seg0 ?_)
  refine go_seq ?_
  refine go_region ?_
  refine gs_box rfl (ot rfl) rfl ?_; intro b4_4
  refine gAc rfl rfl ?_
  refine go_nil ?_
  refine go_seq ?_
  refine go_region ?_
  refine g_callp EE_fr rfl of os0 hb_9 (fun _ => rfl) (fun hf kn w => by exact known_evp rfl hf w) ?_
  refine gA rfl rfl ?_
  refine go_nil ?_
  refine go_seq ?_
  refine go_region ?_
  refine gM rfl rfl ?_
  replace hF := obind hF
  obtain ⟨x6, hx6, hF⟩ := hF
  refine gs_call EE_fr hw .nil (fun _ h => by cases h; rfl) of (os1 (ot rfl) os0) hb_19 (by exact s_law15_ran n hw p0 f0_0 hx6) ?_
  rintro v6 S6 h6 e6 w6 ⟨b6_w0, q6_w0_1, t6_w0_1, q6_w0_2, t6_w0_2, b6_w0o0, q6_w0o0_0, t6_w0o0_0, rfl, rfl, f6_0, f6_1, f6_2⟩
  simp only [List.cons_append, List.nil_append]
  refine gM rfl rfl ?_
  refine gE rfl rfl rfl ?_
  refine gE rfl rfl rfl ?_
  refine gA rfl rfl ?_
  refine gA rfl rfl ?_
  refine go_nil ?_
  refine go_seq ?_
  refine go_regA1 (L := [(0, []), (1, []), (2, []), (4, []), (5, []), (6, []), (8, []), (9, []), (10, []), (11, []), (3, [6, 11]), (7, [11]), (12, []), (13, []), (14, [])]) (by kernel_rfl) (by kernel_rfl) (fun _ => rfl) ?_; intro b38_7
  refine go_sop rfl rfl ?_
  refine gM rfl rfl ?_
  refine go_nil ?_
  refine go_sop rfl rfl ?_
  refine gr rfl (r_ia (ot rfl) (oc rfl) (ja_54_0 _ _)) ?_
  refine go_nil ?_
  refine go_sop rfl rfl ?_
  refine gr rfl (r_load (ot rfl) (lm_a (vs := [_, _, _]) (mem_seg 6 rfl) ag_37 sz_37 rfl rfl)) ?_
  refine go_nil ?_
  refine go_sop rfl rfl ?_
  refine gM rfl rfl ?_
  refine go_nil ?_
  refine go_sop rfl rfl ?_
  refine gr rfl (r_ia (ot rfl) (oc rfl) (ja_54_1 _ _)) ?_
  refine go_nil ?_
  refine go_sop rfl rfl ?_
  refine gr rfl (r_load (ot rfl) (lm_a (vs := [_, _, _]) (mem_seg 6 rfl) ag_37 sz_37 rfl rfl)) ?_
  refine go_nil ?_
  refine go_sop rfl rfl ?_
  refine gM rfl rfl ?_
  refine go_nil ?_
  refine go_sop rfl rfl ?_
  refine gr rfl (r_ia (ot rfl) (oc rfl) (ja_54_0 _ _)) ?_
  refine go_nil ?_
  refine go_sop rfl rfl ?_
  refine gr rfl (r_fa (ot rfl) (fa_37_1 _ _)) ?_
  refine go_nil ?_
  refine go_sop rfl rfl ?_
  refine gr rfl (r_load (ot rfl) (lm_s (mem_seg 6 rfl) ag_9 rfl)) ?_
  refine go_nil ?_
  refine go_sopc [(6, .agg #[.int .i64 p1.x1.Kind, .string p1.x1.Key, .int .u64 p1.x1.Val]), (11, .string p1.x0.Key)] rfl rfl rfl (rc1 rfl (r_load (ot rfl) (lm_a (vs := [_, _, _]) (mem_seg 6 rfl) ag_37 sz_37 rfl rfl)) (rc1 rfl (r_load (ot rfl) (lm_s (mem_seg 6 rfl) ag_9 rfl)) rc0)) (vq1 (veq_agg _ _ (va1 (veq_int _ _ _) (va1 (veq_str _ _) (va1 (veq_int _ _ _) (va0 _))))) (vq1 (veq_str _ _) vq0)) rfl ?_
  replace hF := obind hF
  obtain ⟨x8, hx8, hF⟩ := hF
  refine gs_call EE_fr w6 (.cons (.s (.z)) (.cons (.s (.z)) (.cons (.s (.z)) (.cons (.s (.z)) (.cons (.s (.z)) .nil))))) (fun _ h => by cases h; rfl) of (os1 (ot rfl) (os1 (ot rfl) os0)) hb_13 (by exact s_law15_begun n w6 (⟨x6.1.nodes, x6.1.infos⟩ : Obst_Tree) (⟨x6.2.cells, x6.2.count⟩ : Omem_Mem) p1.x0 f6_0 f6_1 f6_2 hx8) ?_
  rintro v8 S8 h8 e8 w8 ⟨q8_y0_1, t8_y0_1, q8_y0_2, t8_y0_2, q8_y0o0_0, t8_y0o0_0, b8_w0, v8_w0_4, t8_w0_4, rfl, rfl, f8_0, f8_1, f8_2, f8_3⟩
  simp only [List.cons_append, List.nil_append]
  refine go_nil ?_
  refine go_rck (rc1 rfl (r_load (ot rfl) (lm_a (vs := [_, _, _]) (mem_seg 8 rfl) ag_37 sz_37 rfl rfl)) (rc1 rfl (r_load (ot rfl) (lm_s (mem_seg 8 rfl) ag_9 rfl)) rc0)) ?_
  refine go_sopc [(11, .string p1.x0.Key)] rfl rfl rfl (rc1 rfl (r_load (ot rfl) (lm_s (mem_seg 8 rfl) ag_9 rfl)) rc0) (vq1 (veq_str _ _) vq0) rfl ?_
  replace hF := obind hF
  obtain ⟨x9, hx9, hF⟩ := hF
  refine gs_call EE_fr w8 (.cons .z (.cons .z (.cons .z (.cons .z (.cons .z .nil))))) (fun _ h => by cases h; rfl) of (os1 (ot rfl) (os1 (ot rfl) os0)) hb_13 (by exact s_law15_begun n w8 (⟨x8.2.1.nodes, x8.2.1.infos⟩ : Obst_Tree) (⟨x8.2.2.cells, x8.2.2.count⟩ : Omem_Mem) p1.x1 f8_0 f8_1 f8_2 hx9) ?_
  rintro v9 S9 h9 e9 w9 ⟨q9_y0_1, t9_y0_1, q9_y0_2, t9_y0_2, q9_y0o0_0, t9_y0o0_0, b9_w0, v9_w0_4, t9_w0_4, rfl, rfl, f9_0, f9_1, f9_2, f9_3⟩
  simp only [List.cons_append, List.nil_append]
  refine go_nil ?_
  refine go_rck (rc1 rfl (r_load (ot rfl) (lm_s (mem_seg 10 rfl) ag_9 rfl)) rc0) ?_
  refine go_sop rfl rfl ?_
  replace hF := obind hF
  obtain ⟨x10, hx10, hF⟩ := hF
  refine gs_call EE_fr w9 (.cons .z (.cons .z (.cons .z (.cons .z (.cons .z .nil))))) (fun _ h => by cases h; rfl) of (os1 (ot rfl) (os1 (ot rfl) os0)) hb_20 (by exact s_bst_Tree_Seek n w9 (⟨x9.2.1.nodes, x9.2.1.infos⟩ : Obst_Tree) (⟨x9.2.2.cells, x9.2.2.count⟩ : Omem_Mem) p1.x0.Key f9_0 f9_1 f9_2 hx10) ?_
  rintro v10 S10 h10 e10 w10 ⟨q10_y0_1, t10_y0_1, q10_y0_2, t10_y0_2, q10_y0o0_0, t10_y0o0_0, b10_w0, v10_w0_4, t10_w0_4, rfl, rfl, f10_0, f10_1, f10_2, f10_3⟩
  simp only [List.cons_append, List.nil_append]
  refine go_nil ?_
  refine go_sbslice (cs := [.pointer (some ⟨b8_w0, 0, none⟩), .pointer (some ⟨b9_w0, 0, none⟩), .pointer (some ⟨b10_w0, 0, none⟩)]) rfl rfl rfl (op1 (ot rfl) (op1 (ot rfl) (op1 (ot rfl) op0))) ut_56 sz_34 zo_34 rfl rfl (.s (.s (.s (.s (.s (.s (.s (.s (.s (.s (.s (.z)))))))))))) ?_
  refine go_sop rfl rfl ?_
  refine gA rfl rfl ?_
  refine go_nil ?_
  refine go_snil ?_
  refine go_seq ?_
  refine go_seq ?_
  refine go_region ?_
  refine gAc rfl rfl ?_
  refine go_nil ?_
  replace hF := obind hF
  obtain ⟨s11, hF, hK11⟩ := hF
  refine go_joinc (β := ((List Tbst_node) × (List Tbst_info) × (List Int) × Int × Bool × ByteArray × Int × Int × (Option Clo) × Bool × ByteArray × Int × Int × (Option Clo) × Bool × ByteArray × Int × Int × (Option Clo)) × Option Addr × List Blk × Option Addr × List Blk × Option Addr × List Blk × Value × List Blk × Value × List Blk × Value × List Blk) (fun s h' => s11 = .go s.1 ∧ AccR R_Tbst_node 89 h' s.2.2.1 (.slice s.2.1 s.1.1.length s.1.1.length) s.1.1 ∧ AccR R_Tbst_info 86 h' s.2.2.2.2.1 (.slice s.2.2.2.1 s.1.2.1.length s.1.2.1.length) s.1.2.1 ∧ AccR (RI_ .u64 29) 29 h' s.2.2.2.2.2.2.1 (.slice s.2.2.2.2.2.1 s.1.2.2.1.length s.1.2.2.1.length) s.1.2.2.1 ∧ OC h' b6_w0 b10_w0 s.2.2.2.2.2.2.2.2.1 s.1.2.2.2.2.2.2.2.2.1 s.2.2.2.2.2.2.2.1 ∧ OC h' b6_w0 b9_w0 s.2.2.2.2.2.2.2.2.2.2.1 s.1.2.2.2.2.2.2.2.2.2.2.2.2.2.1 s.2.2.2.2.2.2.2.2.2.1 ∧ OC h' b6_w0 b8_w0 s.2.2.2.2.2.2.2.2.2.2.2.2 s.1.2.2.2.2.2.2.2.2.2.2.2.2.2.2.2.2.2.2 s.2.2.2.2.2.2.2.2.2.2.2.1) (fun s => [(6, true, .bool false), (7, true, .bool true)]) (fun s => (List.flatten [[⟨b6_w0, .cells [.pointer (some ⟨b6_w0o0, 0, none⟩), .slice s.2.1 s.1.1.length s.1.1.length, .slice s.2.2.2.1 s.1.2.1.length s.1.2.1.length] 83⟩], s.2.2.1, s.2.2.2.2.1, [⟨b6_w0o0, .cells [.slice s.2.2.2.2.2.1 s.1.2.2.1.length s.1.2.2.1.length, .int .i64 s.1.2.2.2.1] 94⟩], s.2.2.2.2.2.2.1, [⟨b10_w0, .cells [.bool s.1.2.2.2.2.1, .string s.1.2.2.2.2.2.1, .int .u64 s.1.2.2.2.2.2.2.1, .int .i64 s.1.2.2.2.2.2.2.2.1, s.2.2.2.2.2.2.2.1] 114⟩], s.2.2.2.2.2.2.2.2.1, [⟨b9_w0, .cells [.bool s.1.2.2.2.2.2.2.2.2.2.1, .string s.1.2.2.2.2.2.2.2.2.2.2.1, .int .u64 s.1.2.2.2.2.2.2.2.2.2.2.2.1, .int .i64 s.1.2.2.2.2.2.2.2.2.2.2.2.2.1, s.2.2.2.2.2.2.2.2.2.1] 114⟩], s.2.2.2.2.2.2.2.2.2.2.1, [⟨b8_w0, .cells [.bool s.1.2.2.2.2.2.2.2.2.2.2.2.2.2.2.1, .string s.1.2.2.2.2.2.2.2.2.2.2.2.2.2.2.2.1, .int .u64 s.1.2.2.2.2.2.2.2.2.2.2.2.2.2.2.2.2.1, .int .i64 s.1.2.2.2.2.2.2.2.2.2.2.2.2.2.2.2.2.2.1, s.2.2.2.2.2.2.2.2.2.2.2.1] 114⟩], s.2.2.2.2.2.2.2.2.2.2.2.2, [⟨b38_7, .cells [.pointer (some ⟨b8_w0, 0, none⟩), .pointer (some ⟨b9_w0, 0, none⟩), .pointer (some ⟨b10_w0, 0, none⟩)] 34⟩], [⟨b4_4, .cells [.int .i64 p1.x0.Kind, .string p1.x0.Key, .int .u64 p1.x0.Val, .int .i64 p1.x1.Kind, .string p1.x1.Key, .int .u64 p1.x1.Val] 54⟩]] : List Blk)) ?_ (fun J11 => ?_)
  ·
    rintro ⟨⟨x11_0, x11_1, x11_2, x11_3, x11_4, x11_5, x11_6, x11_7, x11_8, x11_9, x11_10, x11_11, x11_12, x11_13, x11_14, x11_15, x11_16, x11_17, x11_18⟩, a11_0, a11_1, a11_2, a11_3, a11_4, a11_5, a11_6, a11_7, a11_8, a11_9, a11_10, a11_11⟩ h11 e11 w11 ⟨hs11, f11_0, f11_1, f11_2, f11_8, f11_13, f11_18⟩
    subst hs11
    replace hF := lpgo hK11
    refine go_seq ?_
    refine go_region ?_
    refine gM rfl rfl ?_
    refine gA rfl rfl ?_
    refine go_nil ?_
    obtain rfl := someI hF
    exact g_ret (rst rfl rs0) (fun h1 hf hs => ⟨(e6.trans (e8.trans (e9.trans (e10.trans (e11.trans hs.hext))))), rfl⟩)
  ·
    refine go_block ?_
    refine go_loop (α := Nat × Int × (List Tbst_node) × (List Tbst_info) × (List Int) × Int × Bool × ByteArray × Int × Int × (Option Clo) × Bool × ByteArray × Int × Int × (Option Clo) × Bool × ByteArray × Int × Int × (Option Clo) × Option Addr × List Blk × Option Addr × List Blk × Option Addr × List Blk × Value × List Blk × Value × List Blk × Value × List Blk × Heap) (fun a => HExt h10 a.2.2.2.2.2.2.2.2.2.2.2.2.2.2.2.2.2.2.2.2.2.2.2.2.2.2.2.2.2.2.2.2.2 ∧ Wf a.2.2.2.2.2.2.2.2.2.2.2.2.2.2.2.2.2.2.2.2.2.2.2.2.2.2.2.2.2.2.2.2.2 ∧ F_law15_BstSteps_L1 n p2 a.1 a.2.1 a.2.2.1 a.2.2.2.1 a.2.2.2.2.1 a.2.2.2.2.2.1 a.2.2.2.2.2.2.1 a.2.2.2.2.2.2.2.1 a.2.2.2.2.2.2.2.2.1 a.2.2.2.2.2.2.2.2.2.1 a.2.2.2.2.2.2.2.2.2.2.1 a.2.2.2.2.2.2.2.2.2.2.2.1 a.2.2.2.2.2.2.2.2.2.2.2.2.1 a.2.2.2.2.2.2.2.2.2.2.2.2.2.1 a.2.2.2.2.2.2.2.2.2.2.2.2.2.2.1 a.2.2.2.2.2.2.2.2.2.2.2.2.2.2.2.1 a.2.2.2.2.2.2.2.2.2.2.2.2.2.2.2.2.1 a.2.2.2.2.2.2.2.2.2.2.2.2.2.2.2.2.2.1 a.2.2.2.2.2.2.2.2.2.2.2.2.2.2.2.2.2.2.1 a.2.2.2.2.2.2.2.2.2.2.2.2.2.2.2.2.2.2.2.1 a.2.2.2.2.2.2.2.2.2.2.2.2.2.2.2.2.2.2.2.2.1 = some s11 ∧ AccR R_Tbst_node 89 a.2.2.2.2.2.2.2.2.2.2.2.2.2.2.2.2.2.2.2.2.2.2.2.2.2.2.2.2.2.2.2.2.2 a.2.2.2.2.2.2.2.2.2.2.2.2.2.2.2.2.2.2.2.2.2.2.1 (.slice a.2.2.2.2.2.2.2.2.2.2.2.2.2.2.2.2.2.2.2.2.2.1 a.2.2.1.length a.2.2.1.length) a.2.2.1 ∧ AccR R_Tbst_info 86 a.2.2.2.2.2.2.2.2.2.2.2.2.2.2.2.2.2.2.2.2.2.2.2.2.2.2.2.2.2.2.2.2.2 a.2.2.2.2.2.2.2.2.2.2.2.2.2.2.2.2.2.2.2.2.2.2.2.2.1 (.slice a.2.2.2.2.2.2.2.2.2.2.2.2.2.2.2.2.2.2.2.2.2.2.2.1 a.2.2.2.1.length a.2.2.2.1.length) a.2.2.2.1 ∧ AccR (RI_ .u64 29) 29 a.2.2.2.2.2.2.2.2.2.2.2.2.2.2.2.2.2.2.2.2.2.2.2.2.2.2.2.2.2.2.2.2.2 a.2.2.2.2.2.2.2.2.2.2.2.2.2.2.2.2.2.2.2.2.2.2.2.2.2.2.1 (.slice a.2.2.2.2.2.2.2.2.2.2.2.2.2.2.2.2.2.2.2.2.2.2.2.2.2.1 a.2.2.2.2.1.length a.2.2.2.2.1.length) a.2.2.2.2.1 ∧ OC a.2.2.2.2.2.2.2.2.2.2.2.2.2.2.2.2.2.2.2.2.2.2.2.2.2.2.2.2.2.2.2.2.2 b6_w0 b10_w0 a.2.2.2.2.2.2.2.2.2.2.2.2.2.2.2.2.2.2.2.2.2.2.2.2.2.2.2.2.1 a.2.2.2.2.2.2.2.2.2.2.1 a.2.2.2.2.2.2.2.2.2.2.2.2.2.2.2.2.2.2.2.2.2.2.2.2.2.2.2.1 ∧ OC a.2.2.2.2.2.2.2.2.2.2.2.2.2.2.2.2.2.2.2.2.2.2.2.2.2.2.2.2.2.2.2.2.2 b6_w0 b9_w0 a.2.2.2.2.2.2.2.2.2.2.2.2.2.2.2.2.2.2.2.2.2.2.2.2.2.2.2.2.2.2.1 a.2.2.2.2.2.2.2.2.2.2.2.2.2.2.2.1 a.2.2.2.2.2.2.2.2.2.2.2.2.2.2.2.2.2.2.2.2.2.2.2.2.2.2.2.2.2.1 ∧ OC a.2.2.2.2.2.2.2.2.2.2.2.2.2.2.2.2.2.2.2.2.2.2.2.2.2.2.2.2.2.2.2.2.2 b6_w0 b8_w0 a.2.2.2.2.2.2.2.2.2.2.2.2.2.2.2.2.2.2.2.2.2.2.2.2.2.2.2.2.2.2.2.2.1 a.2.2.2.2.2.2.2.2.2.2.2.2.2.2.2.2.2.2.2.2.1 a.2.2.2.2.2.2.2.2.2.2.2.2.2.2.2.2.2.2.2.2.2.2.2.2.2.2.2.2.2.2.2.1) (fun a => a.1) (fun a => [(2, true, .slice a2_0 p2.length c2_0), (6, true, .bool false), (7, true, .bool true), (9, true, .pointer (some ⟨b6_w0o0, 0, none⟩)), (10, true, .slice (some ⟨b38_7, 0, none⟩) 3 3), (11, true, .int .i64 a.2.1)]) (fun a => (List.flatten [[⟨b6_w0, .cells [.pointer (some ⟨b6_w0o0, 0, none⟩), .slice a.2.2.2.2.2.2.2.2.2.2.2.2.2.2.2.2.2.2.2.2.2.1 a.2.2.1.length a.2.2.1.length, .slice a.2.2.2.2.2.2.2.2.2.2.2.2.2.2.2.2.2.2.2.2.2.2.2.1 a.2.2.2.1.length a.2.2.2.1.length] 83⟩], a.2.2.2.2.2.2.2.2.2.2.2.2.2.2.2.2.2.2.2.2.2.2.1, a.2.2.2.2.2.2.2.2.2.2.2.2.2.2.2.2.2.2.2.2.2.2.2.2.1, [⟨b6_w0o0, .cells [.slice a.2.2.2.2.2.2.2.2.2.2.2.2.2.2.2.2.2.2.2.2.2.2.2.2.2.1 a.2.2.2.2.1.length a.2.2.2.2.1.length, .int .i64 a.2.2.2.2.2.1] 94⟩], a.2.2.2.2.2.2.2.2.2.2.2.2.2.2.2.2.2.2.2.2.2.2.2.2.2.2.1, [⟨b10_w0, .cells [.bool a.2.2.2.2.2.2.1, .string a.2.2.2.2.2.2.2.1, .int .u64 a.2.2.2.2.2.2.2.2.1, .int .i64 a.2.2.2.2.2.2.2.2.2.1, a.2.2.2.2.2.2.2.2.2.2.2.2.2.2.2.2.2.2.2.2.2.2.2.2.2.2.2.1] 114⟩], a.2.2.2.2.2.2.2.2.2.2.2.2.2.2.2.2.2.2.2.2.2.2.2.2.2.2.2.2.1, [⟨b9_w0, .cells [.bool a.2.2.2.2.2.2.2.2.2.2.2.1, .string a.2.2.2.2.2.2.2.2.2.2.2.2.1, .int .u64 a.2.2.2.2.2.2.2.2.2.2.2.2.2.1, .int .i64 a.2.2.2.2.2.2.2.2.2.2.2.2.2.2.1, a.2.2.2.2.2.2.2.2.2.2.2.2.2.2.2.2.2.2.2.2.2.2.2.2.2.2.2.2.2.1] 114⟩], a.2.2.2.2.2.2.2.2.2.2.2.2.2.2.2.2.2.2.2.2.2.2.2.2.2.2.2.2.2.2.1, [⟨b8_w0, .cells [.bool a.2.2.2.2.2.2.2.2.2.2.2.2.2.2.2.2.1, .string a.2.2.2.2.2.2.2.2.2.2.2.2.2.2.2.2.2.1, .int .u64 a.2.2.2.2.2.2.2.2.2.2.2.2.2.2.2.2.2.2.1, .int .i64 a.2.2.2.2.2.2.2.2.2.2.2.2.2.2.2.2.2.2.2.1, a.2.2.2.2.2.2.2.2.2.2.2.2.2.2.2.2.2.2.2.2.2.2.2.2.2.2.2.2.2.2.2.1] 114⟩], a.2.2.2.2.2.2.2.2.2.2.2.2.2.2.2.2.2.2.2.2.2.2.2.2.2.2.2.2.2.2.2.2.1, [⟨b38_7, .cells [.pointer (some ⟨b8_w0, 0, none⟩), .pointer (some ⟨b9_w0, 0, none⟩), .pointer (some ⟨b10_w0, 0, none⟩)] 34⟩], [⟨b4_4, .cells [.int .i64 p1.x0.Kind, .string p1.x0.Key, .int .u64 p1.x0.Val, .int .i64 p1.x1.Kind, .string p1.x1.Key, .int .u64 p1.x1.Val] 54⟩]] : List Blk)) (fun a => a.2.2.2.2.2.2.2.2.2.2.2.2.2.2.2.2.2.2.2.2.2.2.2.2.2.2.2.2.2.2.2.2.2) ?_ (n, 0, x10.2.1.nodes, x10.2.1.infos, x10.2.2.cells, x10.2.2.count, x10.1.told_Ok, x10.1.told_Key, x10.1.told_Val, x10.1.told_Err, x10.1.next, x9.1.told_Ok, x9.1.told_Key, x9.1.told_Val, x9.1.told_Err, x9.1.next, x8.1.told_Ok, x8.1.told_Key, x8.1.told_Val, x8.1.told_Err, x8.1.next, q10_y0_1, t10_y0_1, q10_y0_2, t10_y0_2, q10_y0o0_0, t10_y0o0_0, v10_w0_4, t10_w0_4, v9_w0_4, t9_w0_4, v8_w0_4, t8_w0_4, h10) ⟨HExt.refl _, w10, hF, f10_0, f10_1, f10_2, f10_3, (f9_3.ext e10.kn), ((f8_3.ext e9.kn).ext e10.kn)⟩ (Sub.cons (Sub.cons (Sub.cons (Sub.cons (Sub.cons (Sub.cons (Sub.nil _) rfl) rfl) rfl) rfl) rfl) rfl) rfl rfl
    rintro ⟨m12, y12_0, y12_1, y12_2, y12_3, y12_4, y12_5, y12_6, y12_7, y12_8, y12_9, y12_10, y12_11, y12_12, y12_13, y12_14, y12_15, y12_16, y12_17, y12_18, y12_19, a12_0, a12_1, a12_2, a12_3, a12_4, a12_5, a12_6, a12_7, a12_8, a12_9, a12_10, a12_11, h12⟩ ⟨e12, w12, hF, f12_1, f12_2, f12_3, f12_9, f12_14, f12_19⟩ ih12
    rcases m12 with _ | m12
    ·
      rw [F_law15_BstSteps_L1.eq_1] at hF; cases hF
    ·
      rw [F_law15_BstSteps_L1.eq_2] at hF
      refine go_seq ?_
      refine go_seq ?_
      refine go_region ?_
      refine gM rfl rfl ?_
      refine gr rfl (r_bin (ot rfl) (oc rfl) rfl) ?_
      refine go_nil ?_
      refine g_cond (b := (decide (y12_0 < 600))) (ot rfl) (fun hc13 => ?_) (fun hc13 => ?_)
      ·
        replace hF := ifT hc13 hF
        refine go_skip ?_
        refine go_seq ?_
        replace hF := obind hF
        obtain ⟨s14, hF, hK14⟩ := hF
        refine go_joinc (β := (Int × Int × Bool × Bool × Bool × Bool × Bool × (List Tbst_node) × (List Tbst_info) × (List Int) × Int × Bool × ByteArray × Int × Int × (Option Clo) × Bool × ByteArray × Int × Int × (Option Clo) × Bool × ByteArray × Int × Int × (Option Clo)) × Option Addr × List Blk × Option Addr × List Blk × Option Addr × List Blk × Value × List Blk × Value × List Blk × Value × List Blk) (fun s h' => s14 = .go s.1 ∧ AccR R_Tbst_node 89 h' s.2.2.1 (.slice s.2.1 s.1.2.2.2.2.2.2.2.1.length s.1.2.2.2.2.2.2.2.1.length) s.1.2.2.2.2.2.2.2.1 ∧ AccR R_Tbst_info 86 h' s.2.2.2.2.1 (.slice s.2.2.2.1 s.1.2.2.2.2.2.2.2.2.1.length s.1.2.2.2.2.2.2.2.2.1.length) s.1.2.2.2.2.2.2.2.2.1 ∧ AccR (RI_ .u64 29) 29 h' s.2.2.2.2.2.2.1 (.slice s.2.2.2.2.2.1 s.1.2.2.2.2.2.2.2.2.2.1.length s.1.2.2.2.2.2.2.2.2.2.1.length) s.1.2.2.2.2.2.2.2.2.2.1 ∧ OC h' b6_w0 b10_w0 s.2.2.2.2.2.2.2.2.1 s.1.2.2.2.2.2.2.2.2.2.2.2.2.2.2.2.1 s.2.2.2.2.2.2.2.1 ∧ OC h' b6_w0 b9_w0 s.2.2.2.2.2.2.2.2.2.2.1 s.1.2.2.2.2.2.2.2.2.2.2.2.2.2.2.2.2.2.2.2.2.1 s.2.2.2.2.2.2.2.2.2.1 ∧ OC h' b6_w0 b8_w0 s.2.2.2.2.2.2.2.2.2.2.2.2 s.1.2.2.2.2.2.2.2.2.2.2.2.2.2.2.2.2.2.2.2.2.2.2.2.2.2 s.2.2.2.2.2.2.2.2.2.2.2.1) (fun s => [(2, true, .slice a2_0 p2.length c2_0), (6, true, .bool false), (7, true, .bool true), (9, true, .pointer (some ⟨b6_w0o0, 0, none⟩)), (10, true, .slice (some ⟨b38_7, 0, none⟩) 3 3), (11, true, .int .i64 y12_0), (12, true, .int .i64 s.1.1), (13, true, .int .i64 s.1.2.1), (15, true, .bool s.1.2.2.1), (16, true, .bool s.1.2.2.2.1), (18, true, .bool s.1.2.2.2.2.1), (39, true, .int .i64 y12_0), (40, true, .bool (decide (y12_0 < 600))), (43, true, .int .i64 y12_0), (44, true, .int .i64 (Int.tmod y12_0 3)), (45, true, .int .i64 y12_0), (46, true, .slice a2_0 p2.length c2_0), (47, true, .int .i64 (p2.length : Int)), (48, true, .bool (decide (y12_0 < (p2.length : Int)))), (49, true, .bool s.1.2.2.2.2.2.1), (54, true, .bool s.1.2.2.2.2.2.2.1)]) (fun s => (List.flatten [[⟨b6_w0, .cells [.pointer (some ⟨b6_w0o0, 0, none⟩), .slice s.2.1 s.1.2.2.2.2.2.2.2.1.length s.1.2.2.2.2.2.2.2.1.length, .slice s.2.2.2.1 s.1.2.2.2.2.2.2.2.2.1.length s.1.2.2.2.2.2.2.2.2.1.length] 83⟩], s.2.2.1, s.2.2.2.2.1, [⟨b6_w0o0, .cells [.slice s.2.2.2.2.2.1 s.1.2.2.2.2.2.2.2.2.2.1.length s.1.2.2.2.2.2.2.2.2.2.1.length, .int .i64 s.1.2.2.2.2.2.2.2.2.2.2.1] 94⟩], s.2.2.2.2.2.2.1, [⟨b10_w0, .cells [.bool s.1.2.2.2.2.2.2.2.2.2.2.2.1, .string s.1.2.2.2.2.2.2.2.2.2.2.2.2.1, .int .u64 s.1.2.2.2.2.2.2.2.2.2.2.2.2.2.1, .int .i64 s.1.2.2.2.2.2.2.2.2.2.2.2.2.2.2.1, s.2.2.2.2.2.2.2.1] 114⟩], s.2.2.2.2.2.2.2.2.1, [⟨b9_w0, .cells [.bool s.1.2.2.2.2.2.2.2.2.2.2.2.2.2.2.2.2.1, .string s.1.2.2.2.2.2.2.2.2.2.2.2.2.2.2.2.2.2.1, .int .u64 s.1.2.2.2.2.2.2.2.2.2.2.2.2.2.2.2.2.2.2.1, .int .i64 s.1.2.2.2.2.2.2.2.2.2.2.2.2.2.2.2.2.2.2.2.1, s.2.2.2.2.2.2.2.2.2.1] 114⟩], s.2.2.2.2.2.2.2.2.2.2.1, [⟨b8_w0, .cells [.bool s.1.2.2.2.2.2.2.2.2.2.2.2.2.2.2.2.2.2.2.2.2.2.1, .string s.1.2.2.2.2.2.2.2.2.2.2.2.2.2.2.2.2.2.2.2.2.2.2.1, .int .u64 s.1.2.2.2.2.2.2.2.2.2.2.2.2.2.2.2.2.2.2.2.2.2.2.2.1, .int .i64 s.1.2.2.2.2.2.2.2.2.2.2.2.2.2.2.2.2.2.2.2.2.2.2.2.2.1, s.2.2.2.2.2.2.2.2.2.2.2.1] 114⟩], s.2.2.2.2.2.2.2.2.2.2.2.2, [⟨b38_7, .cells [.pointer (some ⟨b8_w0, 0, none⟩), .pointer (some ⟨b9_w0, 0, none⟩), .pointer (some ⟨b10_w0, 0, none⟩)] 34⟩], [⟨b4_4, .cells [.int .i64 p1.x0.Kind, .string p1.x0.Key, .int .u64 p1.x0.Val, .int .i64 p1.x1.Kind, .string p1.x1.Key, .int .u64 p1.x1.Val] 54⟩]] : List Blk)) ?_ (fun J14 => ?_)
        ·
          rintro ⟨⟨x14_0, x14_1, x14_2, x14_3, x14_4, x14_5, x14_6, x14_7, x14_8, x14_9, x14_10, x14_11, x14_12, x14_13, x14_14, x14_15, x14_16, x14_17, x14_18, x14_19, x14_20, x14_21, x14_22, x14_23, x14_24, x14_25⟩, a14_0, a14_1, a14_2, a14_3, a14_4, a14_5, a14_6, a14_7, a14_8, a14_9, a14_10, a14_11⟩ h14 e14 w14 ⟨hs14, f14_7, f14_8, f14_9, f14_15, f14_20, f14_25⟩
          subst hs14
          replace hF := lpgo2 hK14
          refine go_region ?_
          refine gM rfl rfl ?_
          refine gr rfl (r_bin (ot rfl) (oc rfl) rfl) ?_
          refine gA rfl rfl ?_
          refine go_nil ?_
          exact Goes.weak (ih12 (m12, (IntKind.i64.wrap (y12_0 + 1)), x14_7, x14_8, x14_9, x14_10, x14_11, x14_12, x14_13, x14_14, x14_15, x14_16, x14_17, x14_18, x14_19, x14_20, x14_21, x14_22, x14_23, x14_24, x14_25, a14_0, a14_1, a14_2, a14_3, a14_4, a14_5, a14_6, a14_7, a14_8, a14_9, a14_10, a14_11, h14) ⟨(e12.trans e14), w14, hF, f14_7, f14_8, f14_9, f14_15, f14_20, f14_25⟩ (Nat.lt_succ_self _)) (Sub.cons (Sub.cons (Sub.cons (Sub.cons (Sub.cons (Sub.cons (Sub.nil _) rfl) rfl) rfl) rfl) rfl) rfl)
        ·
          refine go_block ?_
          refine go_seq ?_
          refine go_region ?_
          refine gM rfl rfl ?_
          refine gr rfl (r_bin (ot rfl) (oc rfl) rfl) ?_
          refine gA rfl rfl ?_
          refine go_nil ?_
          refine go_seq ?_
          refine go_seq ?_
          refine go_region ?_
          refine gM rfl rfl ?_
          refine gM rfl rfl ?_
          refine gr rfl (r_len rfl (os1 (ot rfl) os0) (fun _ _ => ln_55)) ?_
          refine gr rfl (r_bin (ot rfl) (ot rfl) rfl) ?_
          refine gM rfl rfl ?_
          replace hF := obind hF
          obtain ⟨s16, hF, hK16⟩ := hF
          refine go_joinr 5 (β := Unit) (fun s h' => True) (fun s => [(2, true, .slice a2_0 p2.length c2_0), (6, true, .bool false), (7, true, .bool true), (9, true, .pointer (some ⟨b6_w0o0, 0, none⟩)), (10, true, .slice (some ⟨b38_7, 0, none⟩) 3 3), (11, true, .int .i64 y12_0), (12, true, .int .i64 (Int.tmod y12_0 3)), (39, true, .int .i64 y12_0), (40, true, .bool (decide (y12_0 < 600))), (43, true, .int .i64 y12_0), (44, true, .int .i64 (Int.tmod y12_0 3)), (45, true, .int .i64 y12_0), (46, true, .slice a2_0 p2.length c2_0), (47, true, .int .i64 (p2.length : Int)), (48, true, .bool (decide (y12_0 < (p2.length : Int)))), (49, true, .bool s16.1), (54, true, .bool s16.2)]) (fun s => (List.flatten [[⟨b6_w0, .cells [.pointer (some ⟨b6_w0o0, 0, none⟩), .slice a12_0 y12_1.length y12_1.length, .slice a12_2 y12_2.length y12_2.length] 83⟩], a12_1, a12_3, [⟨b6_w0o0, .cells [.slice a12_4 y12_3.length y12_3.length, .int .i64 y12_4] 94⟩], a12_5, [⟨b10_w0, .cells [.bool y12_5, .string y12_6, .int .u64 y12_7, .int .i64 y12_8, a12_6] 114⟩], a12_7, [⟨b9_w0, .cells [.bool y12_10, .string y12_11, .int .u64 y12_12, .int .i64 y12_13, a12_8] 114⟩], a12_9, [⟨b8_w0, .cells [.bool y12_15, .string y12_16, .int .u64 y12_17, .int .i64 y12_18, a12_10] 114⟩], a12_11, [⟨b38_7, .cells [.pointer (some ⟨b8_w0, 0, none⟩), .pointer (some ⟨b9_w0, 0, none⟩), .pointer (some ⟨b10_w0, 0, none⟩)] 34⟩], [⟨b4_4, .cells [.int .i64 p1.x0.Kind, .string p1.x0.Key, .int .u64 p1.x0.Val, .int .i64 p1.x1.Kind, .string p1.x1.Key, .int .u64 p1.x1.Val] 54⟩]] : List Blk)) ?_ (fun J16 => ?_)
          ·
            rintro _ h16 e16 w16 _
            replace hF := hK16
            refine go_nil ?_
            replace hF := obind hF
            obtain ⟨s18, hF, hK18⟩ := hF
            refine go_joinc (β := Unit) (fun s h' => True) (fun s => [(2, true, .slice a2_0 p2.length c2_0), (6, true, .bool false), (7, true, .bool true), (9, true, .pointer (some ⟨b6_w0o0, 0, none⟩)), (10, true, .slice (some ⟨b38_7, 0, none⟩) 3 3), (11, true, .int .i64 y12_0), (12, true, .int .i64 s18), (39, true, .int .i64 y12_0), (40, true, .bool (decide (y12_0 < 600))), (43, true, .int .i64 y12_0), (44, true, .int .i64 (Int.tmod y12_0 3)), (45, true, .int .i64 y12_0), (46, true, .slice a2_0 p2.length c2_0), (47, true, .int .i64 (p2.length : Int)), (48, true, .bool (decide (y12_0 < (p2.length : Int)))), (49, true, .bool s16.1), (54, true, .bool s16.2)]) (fun s => (List.flatten [[⟨b6_w0, .cells [.pointer (some ⟨b6_w0o0, 0, none⟩), .slice a12_0 y12_1.length y12_1.length, .slice a12_2 y12_2.length y12_2.length] 83⟩], a12_1, a12_3, [⟨b6_w0o0, .cells [.slice a12_4 y12_3.length y12_3.length, .int .i64 y12_4] 94⟩], a12_5, [⟨b10_w0, .cells [.bool y12_5, .string y12_6, .int .u64 y12_7, .int .i64 y12_8, a12_6] 114⟩], a12_7, [⟨b9_w0, .cells [.bool y12_10, .string y12_11, .int .u64 y12_12, .int .i64 y12_13, a12_8] 114⟩], a12_9, [⟨b8_w0, .cells [.bool y12_15, .string y12_16, .int .u64 y12_17, .int .i64 y12_18, a12_10] 114⟩], a12_11, [⟨b38_7, .cells [.pointer (some ⟨b8_w0, 0, none⟩), .pointer (some ⟨b9_w0, 0, none⟩), .pointer (some ⟨b10_w0, 0, none⟩)] 34⟩], [⟨b4_4, .cells [.int .i64 p1.x0.Kind, .string p1.x0.Key, .int .u64 p1.x0.Val, .int .i64 p1.x1.Kind, .string p1.x1.Key, .int .u64 p1.x1.Val] 54⟩]] : List Blk)) ?_ (fun J18 => ?_)
            ·
              rintro _ h18 e18 w18 _
              replace hF := hK18
              refine go_seq ?_
              refine go_region ?_
              refine gM rfl rfl ?_
              replace hF := obind hF
              obtain ⟨x19, hx19, hF⟩ := hF
              refine gs_call EE_fr w18 (.cons (.s (.s (.s (.z)))) (.cons (.s (.s (.s (.z)))) .nil)) (fun _ h => by cases h; rfl) of (os1 (ot rfl) os0) hb_24 (by exact s_mem_Mem_Count w18 (⟨y12_3, y12_4⟩ : Omem_Mem) ((f12_3.ext e16.kn).ext e18.kn) hx19) ?_
              rintro v19 S19 h19 e19 w19 ⟨q19_y0_0, t19_y0_0, rfl, rfl, f19_0⟩
              simp only [List.cons_append, List.nil_append]
              refine gA rfl rfl ?_
              refine go_nil ?_
              refine go_seq ?_
              refine go_region ?_
              refine gM rfl rfl ?_
              refine gM rfl rfl ?_
              by_cases hk20_0 : s18 = ((0 : Nat) : Int)
              ·
                replace hF := ifP hk20_0 hF
                refine gr rfl (r_ia (ot rfl) (ot rfl) (ia_eq hk20_0 (ia_of ut_56 sz_34 (by decide) rfl))) ?_
                refine go_cast (.pointer (some ⟨b38_7, 0, none⟩)) rfl ?_
                refine gr rfl (r_load (ot rfl) (lm_s (mem_seg 11 rfl) ag_34 rfl)) ?_
                replace hF := obind hF
                obtain ⟨x21, hx21, hF⟩ := hF
                refine gs_call EE_fr w19 (.cons (.s (.s (.z))) (.cons (.s (.s (.z))) (.cons (.s (.s (.z))) (.cons .z (.cons .z (.cons (.s (.s (.s (.s (.z))))) (.cons (.s (.s (.s (.s (.z))))) .nil))))))) (fun _ h => by cases h; rfl) of (os1 (ot rfl) os0) hb_25 (by exact s_bst_Call_Answer w19 (⟨y12_1, y12_2⟩ : Obst_Tree) (⟨x19.2.cells, x19.2.count⟩ : Omem_Mem) (⟨y12_15, y12_16, y12_17, y12_18, y12_19⟩ : Obst_Call_2) (((f12_1.ext e16.kn).ext e18.kn).ext e19.kn) (((f12_2.ext e16.kn).ext e18.kn).ext e19.kn) f19_0 (((f12_19.ext e16.kn).ext e18.kn).ext e19.kn) hx21) ?_
                rintro v21 S21 h21 e21 w21 ⟨q21_y0_1, t21_y0_1, q21_y0_2, t21_y0_2, q21_y0o0_0, t21_y0o0_0, v21_y1_4, t21_y1_4, rfl, rfl, f21_0, f21_1, f21_2, f21_3⟩
                simp only [List.cons_append, List.nil_append]
                refine gM rfl rfl ?_
                refine gE rfl rfl rfl ?_
                refine gE rfl rfl rfl ?_
                refine gs_alloc rfl zo_32 rfl ?_; intro b14_22
                refine gs_store (ot rfl) (ot rfl) sz_32 rfl rfl rfl rfl rfl .z ?_
                refine gA rfl rfl ?_
                refine go_nil ?_
                refine go_seq ?_
                refine go_region ?_
                refine gM rfl rfl ?_
                refine gM rfl rfl ?_
                refine gr rfl (r_ia (ot rfl) (ot rfl) (ia_eq hk20_0 (ia_of ut_56 sz_34 (by decide) rfl))) ?_
                refine go_cast (.pointer (some ⟨b38_7, 0, none⟩)) rfl ?_
                refine gr rfl (r_load (ot rfl) (lm_s (mem_seg 12 rfl) ag_34 rfl)) ?_
                replace hF := obind hF
                obtain ⟨x24, hx24, hF⟩ := hF
                refine gs_call EE_fr w21 (.cons (.s (.z)) (.cons (.s (.z)) (.cons (.s (.z)) (.cons (.s (.z)) (.cons (.s (.z)) (.cons (.s (.z)) (.cons (.s (.z)) .nil))))))) (fun _ h => by cases h; rfl) of (os1 (ot rfl) os0) hb_21 (by exact s_bst_Call_Step n w21 (⟨x21.2.2.1.nodes, x21.2.2.1.infos⟩ : Obst_Tree) (⟨x21.2.2.2.1.cells, x21.2.2.2.1.count⟩ : Omem_Mem) (⟨x21.2.2.2.2.told_Ok, x21.2.2.2.2.told_Key, x21.2.2.2.2.told_Val, x21.2.2.2.2.told_Err, x21.2.2.2.2.next⟩ : Obst_Call_2) f21_0 f21_1 f21_2 f21_3 hx24) ?_
                rintro v24 S24 h24 e24 w24 ⟨q24_y0_1, t24_y0_1, q24_y0_2, t24_y0_2, q24_y0o0_0, t24_y0o0_0, v24_y1_4, t24_y1_4, rfl, rfl, f24_0, f24_1, f24_2, f24_3⟩
                simp only [List.cons_append, List.nil_append]
                refine gA rfl rfl ?_
                refine go_nil ?_
                refine go_seq ?_
                refine go_region ?_
                refine gM rfl rfl ?_
                refine gM rfl rfl ?_
                refine gr rfl (r_ia (ot rfl) (ot rfl) (ia_eq hk20_0 (ia_of ut_56 sz_34 (by decide) rfl))) ?_
                refine go_cast (.pointer (some ⟨b38_7, 0, none⟩)) rfl ?_
                refine gr rfl (r_load (ot rfl) (lm_s (mem_seg 12 rfl) ag_34 rfl)) ?_
                replace hF := obind hF
                obtain ⟨x26, hx26, hF⟩ := hF
                refine gs_call EE_fr w24 (.cons .z (.cons .z (.cons .z (.cons .z (.cons .z (.cons .z (.cons .z .nil))))))) (fun _ h => by cases h; rfl) of (os1 (ot rfl) os0) hb_25 (by exact s_bst_Call_Answer w24 (⟨x24.2.1.nodes, x24.2.1.infos⟩ : Obst_Tree) (⟨x24.2.2.1.cells, x24.2.2.1.count⟩ : Omem_Mem) (⟨x24.2.2.2.told_Ok, x24.2.2.2.told_Key, x24.2.2.2.told_Val, x24.2.2.2.told_Err, x24.2.2.2.next⟩ : Obst_Call_2) f24_0 f24_1 f24_2 f24_3 hx26) ?_
                rintro v26 S26 h26 e26 w26 ⟨q26_y0_1, t26_y0_1, q26_y0_2, t26_y0_2, q26_y0o0_0, t26_y0o0_0, v26_y1_4, t26_y1_4, rfl, rfl, f26_0, f26_1, f26_2, f26_3⟩
                simp only [List.cons_append, List.nil_append]
                refine gM rfl rfl ?_
                refine gE rfl rfl rfl ?_
                refine gE rfl rfl rfl ?_
                refine gs_alloc rfl zo_32 rfl ?_; intro b17_27
                refine gs_store (ot rfl) (ot rfl) sz_32 rfl rfl rfl rfl rfl .z ?_
                refine gA rfl rfl ?_
                refine go_nil ?_
                refine go_seq ?_
                refine go_region ?_
                refine gM rfl rfl ?_
                replace hF := obind hF
                obtain ⟨x28, hx28, hF⟩ := hF
                refine gs_call EE_fr w26 (.cons (.s (.s (.s (.s (.z))))) (.cons (.s (.s (.s (.s (.z))))) .nil)) (fun _ h => by cases h; rfl) of (os1 (ot rfl) os0) hb_24 (by exact s_mem_Mem_Count w26 (⟨x26.2.2.2.1.cells, x26.2.2.2.1.count⟩ : Omem_Mem) f26_2 hx28) ?_
                rintro v28 S28 h28 e28 w28 ⟨q28_y0_0, t28_y0_0, rfl, rfl, f28_0⟩
                simp only [List.cons_append, List.nil_append]
                refine gM rfl rfl ?_
                refine gr rfl (r_bin (ot rfl) (oc rfl) rfl) ?_
                refine gr rfl (r_bin (ot rfl) (ot rfl) rfl) ?_
                refine gM rfl rfl ?_
                replace hF := obind hF
                obtain ⟨s30, hF, hK30⟩ := hF
                refine go_joinr 8 (β := Option Addr × List Blk) (fun s h' => AccR (RI_ .u64 29) 29 h' s.2 (.slice s.1 s30.2.2.1.length s30.2.2.1.length) s30.2.2.1) (fun s => [(2, true, .slice a2_0 p2.length c2_0), (6, true, .bool false), (7, true, .bool true), (9, true, .pointer (some ⟨b6_w0o0, 0, none⟩)), (10, true, .slice (some ⟨b38_7, 0, none⟩) 3 3), (11, true, .int .i64 y12_0), (12, true, .int .i64 s18), (13, true, .int .i64 x19.1), (14, true, .pointer (some ⟨b14_22, 0, none⟩)), (15, true, .bool x21.2.1), (16, true, .bool x24.1), (17, true, .pointer (some ⟨b17_27, 0, none⟩)), (18, true, .bool x26.2.1), (39, true, .int .i64 y12_0), (40, true, .bool (decide (y12_0 < 600))), (43, true, .int .i64 y12_0), (44, true, .int .i64 (Int.tmod y12_0 3)), (45, true, .int .i64 y12_0), (46, true, .slice a2_0 p2.length c2_0), (47, true, .int .i64 (p2.length : Int)), (48, true, .bool (decide (y12_0 < (p2.length : Int)))), (49, true, .bool s16.1), (54, true, .bool s16.2), (55, true, .pointer (some ⟨b6_w0o0, 0, none⟩)), (56, true, .int .i64 x19.1), (57, true, .tuple #[.agg #[.bool x21.1.Ok, .string x21.1.Key, .int .u64 x21.1.Val, .int .i64 x21.1.Err], .bool x21.2.1]), (58, true, .slice (some ⟨b38_7, 0, none⟩) 3 3), (59, true, .int .i64 s18), (60, true, .pointer (some ⟨b38_7, 0, none⟩)), (61, true, .pointer (some ⟨b8_w0, 0, none⟩)), (62, true, .tuple #[.agg #[.bool x21.1.Ok, .string x21.1.Key, .int .u64 x21.1.Val, .int .i64 x21.1.Err], .bool x21.2.1]), (63, true, .agg #[.bool x21.1.Ok, .string x21.1.Key, .int .u64 x21.1.Val, .int .i64 x21.1.Err]), (64, true, .bool x21.2.1), (65, true, .slice (some ⟨b38_7, 0, none⟩) 3 3), (66, true, .int .i64 s18), (67, true, .pointer (some ⟨b38_7, 0, none⟩)), (68, true, .pointer (some ⟨b8_w0, 0, none⟩)), (69, true, .bool x24.1), (70, true, .tuple #[.agg #[.bool x26.1.Ok, .string x26.1.Key, .int .u64 x26.1.Val, .int .i64 x26.1.Err], .bool x26.2.1]), (71, true, .slice (some ⟨b38_7, 0, none⟩) 3 3), (72, true, .int .i64 s18), (73, true, .pointer (some ⟨b38_7, 0, none⟩)), (74, true, .pointer (some ⟨b8_w0, 0, none⟩)), (75, true, .tuple #[.agg #[.bool x26.1.Ok, .string x26.1.Key, .int .u64 x26.1.Val, .int .i64 x26.1.Err], .bool x26.2.1]), (76, true, .agg #[.bool x26.1.Ok, .string x26.1.Key, .int .u64 x26.1.Val, .int .i64 x26.1.Err]), (77, true, .bool x26.2.1), (78, true, .pointer (some ⟨b6_w0o0, 0, none⟩)), (79, true, .int .i64 x28.1), (80, true, .int .i64 x19.1), (81, true, .int .i64 (IntKind.i64.wrap (x19.1 + 1))), (82, true, .bool (decide (x28.1 > (IntKind.i64.wrap (x19.1 + 1))))), (83, true, .bool s30.1), (91, true, .bool s30.2.1)]) (fun s => (List.flatten [[⟨b6_w0o0, .cells [.slice s.1 s30.2.2.1.length s30.2.2.1.length, .int .i64 s30.2.2.2] 94⟩], s.2, [⟨b17_27, .cells [.bool x26.1.Ok, .string x26.1.Key, .int .u64 x26.1.Val, .int .i64 x26.1.Err] 32⟩], [⟨b6_w0, .cells [.pointer (some ⟨b6_w0o0, 0, none⟩), .slice q26_y0_1 x26.2.2.1.nodes.length x26.2.2.1.nodes.length, .slice q26_y0_2 x26.2.2.1.infos.length x26.2.2.1.infos.length] 83⟩], t26_y0_1, t26_y0_2, [⟨b8_w0, .cells [.bool x26.2.2.2.2.told_Ok, .string x26.2.2.2.2.told_Key, .int .u64 x26.2.2.2.2.told_Val, .int .i64 x26.2.2.2.2.told_Err, v26_y1_4] 114⟩], t26_y1_4, [⟨b14_22, .cells [.bool x21.1.Ok, .string x21.1.Key, .int .u64 x21.1.Val, .int .i64 x21.1.Err] 32⟩], [⟨b10_w0, .cells [.bool y12_5, .string y12_6, .int .u64 y12_7, .int .i64 y12_8, a12_6] 114⟩], a12_7, [⟨b9_w0, .cells [.bool y12_10, .string y12_11, .int .u64 y12_12, .int .i64 y12_13, a12_8] 114⟩], a12_9, [⟨b38_7, .cells [.pointer (some ⟨b8_w0, 0, none⟩), .pointer (some ⟨b9_w0, 0, none⟩), .pointer (some ⟨b10_w0, 0, none⟩)] 34⟩], [⟨b4_4, .cells [.int .i64 p1.x0.Kind, .string p1.x0.Key, .int .u64 p1.x0.Val, .int .i64 p1.x1.Kind, .string p1.x1.Key, .int .u64 p1.x1.Val] 54⟩]] : List Blk)) ?_ (fun J30 => ?_)
                ·
                  rintro ⟨a30_0, a30_1⟩ h30 e30 w30 f30_2
                  replace hF := hK30
                  refine gM rfl rfl ?_
                  refine grf rfl rfl rfl rfl (r_move (ot rfl)) ?_
                  refine grf rfl rfl rfl rfl (r_move (ot rfl)) ?_
                  refine grf rfl rfl rfl rfl (r_bin (og rfl id) (og rfl id) bu_4) ?_
                  refine gr rfl (r_pickb (ot rfl) (oc rfl) (og rfl id)) ?_
                  refine go_nil ?_
                  refine g_cond (b := (bif s30.2.1 then true else (!(x24.1 == x26.2.1)))) (ot rfl) (fun hc31 => ?_) (fun hc31 => ?_)
                  ·
                    replace hF := ifT hc31 hF
                    refine go_seq ?_
                    refine go_region ?_
                    refine gAc rfl rfl ?_
                    refine go_nil ?_
                    obtain rfl := someI hF
                    obtain rfl := someI hK14
                    obtain rfl := someI hK11
                    exact g_ret (rst rfl rs0) (fun h1 hf hs => ⟨(e6.trans (e8.trans (e9.trans (e10.trans (e12.trans (e16.trans (e18.trans (e19.trans (e21.trans (e24.trans (e26.trans (e28.trans (e30.trans hs.hext))))))))))))), rfl⟩)
                  ·
                    replace hF := ifF hc31 hF
                    refine go_skip ?_
                    refine go_endb ?_
                    obtain rfl := someI hF
                    refine gs_sub (.cons_cons _ (.cons_cons _ (.cons _ (.cons_cons _ (.cons_cons _ (.cons_cons _ (.cons_cons _ (.cons_cons _ (.cons _ (.cons_cons _ (.cons_cons _ (.cons_cons _ (.cons_cons _ (.cons_cons _ (.cons_cons _ (.refl _)))))))))))))))) ?_
                    refine gs_perm (perm_of (d := []) _ [2, 3, 4, 0, 1, 7, 8, 9, 10, 5, 6, 11, 12] rfl) ?_
                    exact Goes.weak (J14 ((s18, x19.1, x21.2.1, x24.1, x26.2.1, s16.1, s16.2, x26.2.2.1.nodes, x26.2.2.1.infos, s30.2.2.1, s30.2.2.2, y12_5, y12_6, y12_7, y12_8, y12_9, y12_10, y12_11, y12_12, y12_13, y12_14, x26.2.2.2.2.told_Ok, x26.2.2.2.2.told_Key, x26.2.2.2.2.told_Val, x26.2.2.2.2.told_Err, x26.2.2.2.2.next), q26_y0_1, t26_y0_1, q26_y0_2, t26_y0_2, a30_0, a30_1, a12_6, a12_7, a12_8, a12_9, v26_y1_4, t26_y1_4) _ (e16.trans (e18.trans (e19.trans (e21.trans (e24.trans (e26.trans (e28.trans e30))))))) w30 ⟨rfl, ((f26_0.ext e28.kn).ext e30.kn), ((f26_1.ext e28.kn).ext e30.kn), f30_2, ((((((((f12_9.ext e16.kn).ext e18.kn).ext e19.kn).ext e21.kn).ext e24.kn).ext e26.kn).ext e28.kn).ext e30.kn), ((((((((f12_14.ext e16.kn).ext e18.kn).ext e19.kn).ext e21.kn).ext e24.kn).ext e26.kn).ext e28.kn).ext e30.kn), ((f26_3.ext e28.kn).ext e30.kn)⟩) (Sub.cons (Sub.cons (Sub.cons (Sub.cons (Sub.cons (Sub.cons (Sub.cons (Sub.cons (Sub.cons (Sub.cons (Sub.cons (Sub.cons (Sub.cons (Sub.cons (Sub.cons (Sub.cons (Sub.cons (Sub.cons (Sub.cons (Sub.cons (Sub.cons (Sub.nil _) rfl) rfl) rfl) rfl) rfl) rfl) rfl) rfl) rfl) rfl) rfl) rfl) rfl) rfl) rfl) rfl) rfl) rfl) rfl) rfl) rfl)
                ·
                  rcases Bool.eq_false_or_eq_true (decide (x28.1 > (IntKind.i64.wrap (x19.1 + 1)))) with hb29 | hb29
                  ·
                    replace hF := ifT hb29 hF
                    refine go_re 83 (v2 := .bool true) rfl (congrArg Value.bool hb29) ?_
                    refine g_no rfl rfl rfl rfl rfl ?_
                    refine g_no rfl rfl rfl rfl rfl ?_
                    refine g_nu rfl rfl rfl rfl ?_
                    refine g_nu rfl rfl rfl rfl ?_
                    refine g_nu rfl rfl rfl rfl ?_
                    refine g_nu rfl rfl rfl rfl ?_
                    refine g_no rfl rfl rfl rfl rfl ?_
                    refine gr rfl (r_pkT (ot rfl) (oc rfl)) ?_
                    obtain rfl := someI hF
                    exact Goes.weak (J30 (q28_y0_0, t28_y0_0) _ (HExt.refl _) w28 f28_0) (Sub.cons (Sub.cons (Sub.cons (Sub.cons (Sub.cons (Sub.cons (Sub.cons (Sub.cons (Sub.cons (Sub.cons (Sub.cons (Sub.cons (Sub.cons (Sub.cons (Sub.cons (Sub.cons (Sub.cons (Sub.cons (Sub.cons (Sub.cons (Sub.cons (Sub.cons (Sub.cons (Sub.cons (Sub.cons (Sub.cons (Sub.cons (Sub.cons (Sub.cons (Sub.cons (Sub.cons (Sub.cons (Sub.cons (Sub.cons (Sub.cons (Sub.cons (Sub.cons (Sub.cons (Sub.cons (Sub.cons (Sub.cons (Sub.cons (Sub.cons (Sub.cons (Sub.cons (Sub.cons (Sub.cons (Sub.cons (Sub.cons (Sub.cons (Sub.cons (Sub.cons (Sub.cons (Sub.nil _) rfl) rfl) rfl) rfl) rfl) rfl) rfl) rfl) rfl) rfl) rfl) rfl) rfl) rfl) rfl) rfl) rfl) rfl) rfl) rfl) rfl) rfl) rfl) rfl) rfl) rfl) rfl) rfl) rfl) rfl) rfl) rfl) rfl) rfl) rfl) rfl) rfl) rfl) rfl) rfl) rfl) rfl) rfl) rfl) rfl) rfl) rfl) rfl) rfl) rfl) rfl) rfl) rfl)
                  ·
                    replace hF := ifF hb29 hF
                    refine go_re 83 (v2 := .bool false) rfl (congrArg Value.bool hb29) ?_
                    refine g_do rfl rfl rfl ?_
                    refine gM rfl rfl ?_
                    refine g_do rfl rfl rfl ?_
                    refine gM rfl rfl ?_
                    replace hF := obind hF
                    obtain ⟨s33, hF, hK33⟩ := hF
                    refine go_joinr 5 (β := Option Addr × List Blk) (fun s h' => AccR (RI_ .u64 29) 29 h' s.2 (.slice s.1 s33.2.2.1.length s33.2.2.1.length) s33.2.2.1) (fun s => [(2, true, .slice a2_0 p2.length c2_0), (6, true, .bool false), (7, true, .bool true), (9, true, .pointer (some ⟨b6_w0o0, 0, none⟩)), (10, true, .slice (some ⟨b38_7, 0, none⟩) 3 3), (11, true, .int .i64 y12_0), (12, true, .int .i64 s18), (13, true, .int .i64 x19.1), (14, true, .pointer (some ⟨b14_22, 0, none⟩)), (15, true, .bool x21.2.1), (16, true, .bool x24.1), (17, true, .pointer (some ⟨b17_27, 0, none⟩)), (18, true, .bool x26.2.1), (39, true, .int .i64 y12_0), (40, true, .bool (decide (y12_0 < 600))), (43, true, .int .i64 y12_0), (44, true, .int .i64 (Int.tmod y12_0 3)), (45, true, .int .i64 y12_0), (46, true, .slice a2_0 p2.length c2_0), (47, true, .int .i64 (p2.length : Int)), (48, true, .bool (decide (y12_0 < (p2.length : Int)))), (49, true, .bool s16.1), (54, true, .bool s16.2), (55, true, .pointer (some ⟨b6_w0o0, 0, none⟩)), (56, true, .int .i64 x19.1), (57, true, .tuple #[.agg #[.bool x21.1.Ok, .string x21.1.Key, .int .u64 x21.1.Val, .int .i64 x21.1.Err], .bool x21.2.1]), (58, true, .slice (some ⟨b38_7, 0, none⟩) 3 3), (59, true, .int .i64 s18), (60, true, .pointer (some ⟨b38_7, 0, none⟩)), (61, true, .pointer (some ⟨b8_w0, 0, none⟩)), (62, true, .tuple #[.agg #[.bool x21.1.Ok, .string x21.1.Key, .int .u64 x21.1.Val, .int .i64 x21.1.Err], .bool x21.2.1]), (63, true, .agg #[.bool x21.1.Ok, .string x21.1.Key, .int .u64 x21.1.Val, .int .i64 x21.1.Err]), (64, true, .bool x21.2.1), (65, true, .slice (some ⟨b38_7, 0, none⟩) 3 3), (66, true, .int .i64 s18), (67, true, .pointer (some ⟨b38_7, 0, none⟩)), (68, true, .pointer (some ⟨b8_w0, 0, none⟩)), (69, true, .bool x24.1), (70, true, .tuple #[.agg #[.bool x26.1.Ok, .string x26.1.Key, .int .u64 x26.1.Val, .int .i64 x26.1.Err], .bool x26.2.1]), (71, true, .slice (some ⟨b38_7, 0, none⟩) 3 3), (72, true, .int .i64 s18), (73, true, .pointer (some ⟨b38_7, 0, none⟩)), (74, true, .pointer (some ⟨b8_w0, 0, none⟩)), (75, true, .tuple #[.agg #[.bool x26.1.Ok, .string x26.1.Key, .int .u64 x26.1.Val, .int .i64 x26.1.Err], .bool x26.2.1]), (76, true, .agg #[.bool x26.1.Ok, .string x26.1.Key, .int .u64 x26.1.Val, .int .i64 x26.1.Err]), (77, true, .bool x26.2.1), (78, true, .pointer (some ⟨b6_w0o0, 0, none⟩)), (79, true, .int .i64 x28.1), (80, true, .int .i64 x19.1), (81, true, .int .i64 (IntKind.i64.wrap (x19.1 + 1))), (82, true, .bool (decide (x28.1 > (IntKind.i64.wrap (x19.1 + 1))))), (83, true, .bool false), (84, true, .bool x21.2.1), (85, true, .bool s33.1), (90, true, .bool s33.2.1)]) (fun s => (List.flatten [[⟨b6_w0o0, .cells [.slice s.1 s33.2.2.1.length s33.2.2.1.length, .int .i64 s33.2.2.2] 94⟩], s.2, [⟨b17_27, .cells [.bool x26.1.Ok, .string x26.1.Key, .int .u64 x26.1.Val, .int .i64 x26.1.Err] 32⟩], [⟨b6_w0, .cells [.pointer (some ⟨b6_w0o0, 0, none⟩), .slice q26_y0_1 x26.2.2.1.nodes.length x26.2.2.1.nodes.length, .slice q26_y0_2 x26.2.2.1.infos.length x26.2.2.1.infos.length] 83⟩], t26_y0_1, t26_y0_2, [⟨b8_w0, .cells [.bool x26.2.2.2.2.told_Ok, .string x26.2.2.2.2.told_Key, .int .u64 x26.2.2.2.2.told_Val, .int .i64 x26.2.2.2.2.told_Err, v26_y1_4] 114⟩], t26_y1_4, [⟨b14_22, .cells [.bool x21.1.Ok, .string x21.1.Key, .int .u64 x21.1.Val, .int .i64 x21.1.Err] 32⟩], [⟨b10_w0, .cells [.bool y12_5, .string y12_6, .int .u64 y12_7, .int .i64 y12_8, a12_6] 114⟩], a12_7, [⟨b9_w0, .cells [.bool y12_10, .string y12_11, .int .u64 y12_12, .int .i64 y12_13, a12_8] 114⟩], a12_9, [⟨b38_7, .cells [.pointer (some ⟨b8_w0, 0, none⟩), .pointer (some ⟨b9_w0, 0, none⟩), .pointer (some ⟨b10_w0, 0, none⟩)] 34⟩], [⟨b4_4, .cells [.int .i64 p1.x0.Kind, .string p1.x0.Key, .int .u64 p1.x0.Val, .int .i64 p1.x1.Kind, .string p1.x1.Key, .int .u64 p1.x1.Val] 54⟩]] : List Blk)) ?_ (fun J33 => ?_)
                    ·
                      rintro ⟨a33_0, a33_1⟩ h33 e33 w33 f33_2
                      replace hF := hK33
                      refine gr rfl (r_pkF (ot rfl) (ot rfl)) ?_
                      obtain rfl := someI hF
                      exact Goes.weak (J30 (a33_0, a33_1) _ e33 w33 f33_2) (Sub.cons (Sub.cons (Sub.cons (Sub.cons (Sub.cons (Sub.cons (Sub.cons (Sub.cons (Sub.cons (Sub.cons (Sub.cons (Sub.cons (Sub.cons (Sub.cons (Sub.cons (Sub.cons (Sub.cons (Sub.cons (Sub.cons (Sub.cons (Sub.cons (Sub.cons (Sub.cons (Sub.cons (Sub.cons (Sub.cons (Sub.cons (Sub.cons (Sub.cons (Sub.cons (Sub.cons (Sub.cons (Sub.cons (Sub.cons (Sub.cons (Sub.cons (Sub.cons (Sub.cons (Sub.cons (Sub.cons (Sub.cons (Sub.cons (Sub.cons (Sub.cons (Sub.cons (Sub.cons (Sub.cons (Sub.cons (Sub.cons (Sub.cons (Sub.cons (Sub.cons (Sub.cons (Sub.nil _) rfl) rfl) rfl) rfl) rfl) rfl) rfl) rfl) rfl) rfl) rfl) rfl) rfl) rfl) rfl) rfl) rfl) rfl) rfl) rfl) rfl) rfl) rfl) rfl) rfl) rfl) rfl) rfl) rfl) rfl) rfl) rfl) rfl) rfl) rfl) rfl) rfl) rfl) rfl) rfl) rfl) rfl) rfl) rfl) rfl) rfl) rfl) rfl) rfl) rfl) rfl) rfl) rfl)
                    ·
                      rcases Bool.eq_false_or_eq_true x21.2.1 with hb32 | hb32
                      ·
                        replace hF := ifT hb32 hF
                        refine go_re 85 (v2 := .bool true) rfl (congrArg Value.bool hb32) ?_
                        refine g_do rfl rfl rfl ?_
                        refine gM rfl rfl ?_
                        refine g_do rfl rfl rfl ?_
                        replace hF := obind hF
                        obtain ⟨x34, hx34, hF⟩ := hF
                        refine gs_call EE_fr w28 (.cons .z (.cons .z .nil)) (fun _ h => by cases h; rfl) of (os1 (ot rfl) os0) hb_24 (by exact s_mem_Mem_Count w28 (⟨x28.2.cells, x28.2.count⟩ : Omem_Mem) f28_0 hx34) ?_
                        rintro v34 S34 h34 e34 w34 ⟨q34_y0_0, t34_y0_0, rfl, rfl, f34_0⟩
                        simp only [List.cons_append, List.nil_append]
                        refine g_do rfl rfl rfl ?_
                        refine gM rfl rfl ?_
                        refine g_do rfl rfl rfl ?_
                        refine gr rfl (r_bin (ot rfl) (ot rfl) rfl) ?_
                        refine g_do rfl rfl rfl ?_
                        refine gr rfl (r_pkT (ot rfl) (ot rfl)) ?_
                        obtain rfl := someI hF
                        exact Goes.weak (J33 (q34_y0_0, t34_y0_0) _ e34 w34 f34_0) (Sub.cons (Sub.cons (Sub.cons (Sub.cons (Sub.cons (Sub.cons (Sub.cons (Sub.cons (Sub.cons (Sub.cons (Sub.cons (Sub.cons (Sub.cons (Sub.cons (Sub.cons (Sub.cons (Sub.cons (Sub.cons (Sub.cons (Sub.cons (Sub.cons (Sub.cons (Sub.cons (Sub.cons (Sub.cons (Sub.cons (Sub.cons (Sub.cons (Sub.cons (Sub.cons (Sub.cons (Sub.cons (Sub.cons (Sub.cons (Sub.cons (Sub.cons (Sub.cons (Sub.cons (Sub.cons (Sub.cons (Sub.cons (Sub.cons (Sub.cons (Sub.cons (Sub.cons (Sub.cons (Sub.cons (Sub.cons (Sub.cons (Sub.cons (Sub.cons (Sub.cons (Sub.cons (Sub.cons (Sub.cons (Sub.nil _) rfl) rfl) rfl) rfl) rfl) rfl) rfl) rfl) rfl) rfl) rfl) rfl) rfl) rfl) rfl) rfl) rfl) rfl) rfl) rfl) rfl) rfl) rfl) rfl) rfl) rfl) rfl) rfl) rfl) rfl) rfl) rfl) rfl) rfl) rfl) rfl) rfl) rfl) rfl) rfl) rfl) rfl) rfl) rfl) rfl) rfl) rfl) rfl) rfl) rfl) rfl) rfl) rfl) rfl) rfl)
                      ·
                        replace hF := ifF hb32 hF
                        refine go_re 85 (v2 := .bool false) rfl (congrArg Value.bool hb32) ?_
                        refine g_no rfl rfl rfl rfl rfl ?_
                        refine g_no rfl rfl rfl rfl rfl ?_
                        refine g_no rfl rfl rfl rfl rfl ?_
                        refine g_no rfl rfl rfl rfl rfl ?_
                        refine g_do rfl rfl rfl ?_
                        refine gr rfl (r_pkF (ot rfl) (oc rfl)) ?_
                        obtain rfl := someI hF
                        exact Goes.weak (J33 (q28_y0_0, t28_y0_0) _ (HExt.refl _) w28 f28_0) (Sub.cons (Sub.cons (Sub.cons (Sub.cons (Sub.cons (Sub.cons (Sub.cons (Sub.cons (Sub.cons (Sub.cons (Sub.cons (Sub.cons (Sub.cons (Sub.cons (Sub.cons (Sub.cons (Sub.cons (Sub.cons (Sub.cons (Sub.cons (Sub.cons (Sub.cons (Sub.cons (Sub.cons (Sub.cons (Sub.cons (Sub.cons (Sub.cons (Sub.cons (Sub.cons (Sub.cons (Sub.cons (Sub.cons (Sub.cons (Sub.cons (Sub.cons (Sub.cons (Sub.cons (Sub.cons (Sub.cons (Sub.cons (Sub.cons (Sub.cons (Sub.cons (Sub.cons (Sub.cons (Sub.cons (Sub.cons (Sub.cons (Sub.cons (Sub.cons (Sub.cons (Sub.cons (Sub.cons (Sub.cons (Sub.nil _) rfl) rfl) rfl) rfl) rfl) rfl) rfl) rfl) rfl) rfl) rfl) rfl) rfl) rfl) rfl) rfl) rfl) rfl) rfl) rfl) rfl) rfl) rfl) rfl) rfl) rfl) rfl) rfl) rfl) rfl) rfl) rfl) rfl) rfl) rfl) rfl) rfl) rfl) rfl) rfl) rfl) rfl) rfl) rfl) rfl) rfl) rfl) rfl) rfl) rfl) rfl) rfl) rfl) rfl) rfl)
              replace hF := ifN hk20_0 hF
              by_cases hk20_1 : s18 = ((1 : Nat) : Int)
              ·
                replace hF := ifP hk20_1 hF
                refine gr rfl (r_ia (ot rfl) (ot rfl) (ia_eq hk20_1 (ia_of ut_56 sz_34 (by decide) rfl))) ?_
                refine go_cast (.pointer (some ⟨b38_7, 1, none⟩)) rfl ?_
                refine gr rfl (r_load (ot rfl) (lm_s (mem_seg 11 rfl) ag_34 rfl)) ?_
                replace hF := obind hF
                obtain ⟨x35, hx35, hF⟩ := hF
                refine gs_call EE_fr w19 (.cons (.s (.s (.z))) (.cons (.s (.s (.z))) (.cons (.s (.s (.z))) (.cons .z (.cons .z (.cons (.s (.s (.z))) (.cons (.s (.s (.z))) .nil))))))) (fun _ h => by cases h; rfl) of (os1 (ot rfl) os0) hb_25 (by exact s_bst_Call_Answer w19 (⟨y12_1, y12_2⟩ : Obst_Tree) (⟨x19.2.cells, x19.2.count⟩ : Omem_Mem) (⟨y12_10, y12_11, y12_12, y12_13, y12_14⟩ : Obst_Call_2) (((f12_1.ext e16.kn).ext e18.kn).ext e19.kn) (((f12_2.ext e16.kn).ext e18.kn).ext e19.kn) f19_0 (((f12_14.ext e16.kn).ext e18.kn).ext e19.kn) hx35) ?_
                rintro v35 S35 h35 e35 w35 ⟨q35_y0_1, t35_y0_1, q35_y0_2, t35_y0_2, q35_y0o0_0, t35_y0o0_0, v35_y1_4, t35_y1_4, rfl, rfl, f35_0, f35_1, f35_2, f35_3⟩
                simp only [List.cons_append, List.nil_append]
                refine gM rfl rfl ?_
                refine gE rfl rfl rfl ?_
                refine gE rfl rfl rfl ?_
                refine gs_alloc rfl zo_32 rfl ?_; intro b14_36
                refine gs_store (ot rfl) (ot rfl) sz_32 rfl rfl rfl rfl rfl .z ?_
                refine gA rfl rfl ?_
                refine go_nil ?_
                refine go_seq ?_
                refine go_region ?_
                refine gM rfl rfl ?_
                refine gM rfl rfl ?_
                refine gr rfl (r_ia (ot rfl) (ot rfl) (ia_eq hk20_1 (ia_of ut_56 sz_34 (by decide) rfl))) ?_
                refine go_cast (.pointer (some ⟨b38_7, 1, none⟩)) rfl ?_
                refine gr rfl (r_load (ot rfl) (lm_s (mem_seg 12 rfl) ag_34 rfl)) ?_
                replace hF := obind hF
                obtain ⟨x38, hx38, hF⟩ := hF
                refine gs_call EE_fr w35 (.cons (.s (.z)) (.cons (.s (.z)) (.cons (.s (.z)) (.cons (.s (.z)) (.cons (.s (.z)) (.cons (.s (.z)) (.cons (.s (.z)) .nil))))))) (fun _ h => by cases h; rfl) of (os1 (ot rfl) os0) hb_21 (by exact s_bst_Call_Step n w35 (⟨x35.2.2.1.nodes, x35.2.2.1.infos⟩ : Obst_Tree) (⟨x35.2.2.2.1.cells, x35.2.2.2.1.count⟩ : Omem_Mem) (⟨x35.2.2.2.2.told_Ok, x35.2.2.2.2.told_Key, x35.2.2.2.2.told_Val, x35.2.2.2.2.told_Err, x35.2.2.2.2.next⟩ : Obst_Call_2) f35_0 f35_1 f35_2 f35_3 hx38) ?_
                rintro v38 S38 h38 e38 w38 ⟨q38_y0_1, t38_y0_1, q38_y0_2, t38_y0_2, q38_y0o0_0, t38_y0o0_0, v38_y1_4, t38_y1_4, rfl, rfl, f38_0, f38_1, f38_2, f38_3⟩
                simp only [List.cons_append, List.nil_append]
                refine gA rfl rfl ?_
                refine go_nil ?_
                refine go_seq ?_
                refine go_region ?_
                refine gM rfl rfl ?_
                refine gM rfl rfl ?_
                refine gr rfl (r_ia (ot rfl) (ot rfl) (ia_eq hk20_1 (ia_of ut_56 sz_34 (by decide) rfl))) ?_
                refine go_cast (.pointer (some ⟨b38_7, 1, none⟩)) rfl ?_
                refine gr rfl (r_load (ot rfl) (lm_s (mem_seg 12 rfl) ag_34 rfl)) ?_
                replace hF := obind hF
                obtain ⟨x40, hx40, hF⟩ := hF
                refine gs_call EE_fr w38 (.cons .z (.cons .z (.cons .z (.cons .z (.cons .z (.cons .z (.cons .z .nil))))))) (fun _ h => by cases h; rfl) of (os1 (ot rfl) os0) hb_25 (by exact s_bst_Call_Answer w38 (⟨x38.2.1.nodes, x38.2.1.infos⟩ : Obst_Tree) (⟨x38.2.2.1.cells, x38.2.2.1.count⟩ : Omem_Mem) (⟨x38.2.2.2.told_Ok, x38.2.2.2.told_Key, x38.2.2.2.told_Val, x38.2.2.2.told_Err, x38.2.2.2.next⟩ : Obst_Call_2) f38_0 f38_1 f38_2 f38_3 hx40) ?_
                rintro v40 S40 h40 e40 w40 ⟨q40_y0_1, t40_y0_1, q40_y0_2, t40_y0_2, q40_y0o0_0, t40_y0o0_0, v40_y1_4, t40_y1_4, rfl, rfl, f40_0, f40_1, f40_2, f40_3⟩
                simp only [List.cons_append, List.nil_append]
                refine gM rfl rfl ?_
                refine gE rfl rfl rfl ?_
                refine gE rfl rfl rfl ?_
                refine gs_alloc rfl zo_32 rfl ?_; intro b17_41
                refine gs_store (ot rfl) (ot rfl) sz_32 rfl rfl rfl rfl rfl .z ?_
                refine gA rfl rfl ?_
                refine go_nil ?_
                refine go_seq ?_
                refine go_region ?_
                refine gM rfl rfl ?_
                replace hF := obind hF
                obtain ⟨x42, hx42, hF⟩ := hF
                refine gs_call EE_fr w40 (.cons (.s (.s (.s (.s (.z))))) (.cons (.s (.s (.s (.s (.z))))) .nil)) (fun _ h => by cases h; rfl) of (os1 (ot rfl) os0) hb_24 (by exact s_mem_Mem_Count w40 (⟨x40.2.2.2.1.cells, x40.2.2.2.1.count⟩ : Omem_Mem) f40_2 hx42) ?_
                rintro v42 S42 h42 e42 w42 ⟨q42_y0_0, t42_y0_0, rfl, rfl, f42_0⟩
                simp only [List.cons_append, List.nil_append]
                refine gM rfl rfl ?_
                refine gr rfl (r_bin (ot rfl) (oc rfl) rfl) ?_
                refine gr rfl (r_bin (ot rfl) (ot rfl) rfl) ?_
                refine gM rfl rfl ?_
                replace hF := obind hF
                obtain ⟨s44, hF, hK44⟩ := hF
                refine go_joinr 8 (β := Option Addr × List Blk) (fun s h' => AccR (RI_ .u64 29) 29 h' s.2 (.slice s.1 s44.2.2.1.length s44.2.2.1.length) s44.2.2.1) (fun s => [(2, true, .slice a2_0 p2.length c2_0), (6, true, .bool false), (7, true, .bool true), (9, true, .pointer (some ⟨b6_w0o0, 0, none⟩)), (10, true, .slice (some ⟨b38_7, 0, none⟩) 3 3), (11, true, .int .i64 y12_0), (12, true, .int .i64 s18), (13, true, .int .i64 x19.1), (14, true, .pointer (some ⟨b14_36, 0, none⟩)), (15, true, .bool x35.2.1), (16, true, .bool x38.1), (17, true, .pointer (some ⟨b17_41, 0, none⟩)), (18, true, .bool x40.2.1), (39, true, .int .i64 y12_0), (40, true, .bool (decide (y12_0 < 600))), (43, true, .int .i64 y12_0), (44, true, .int .i64 (Int.tmod y12_0 3)), (45, true, .int .i64 y12_0), (46, true, .slice a2_0 p2.length c2_0), (47, true, .int .i64 (p2.length : Int)), (48, true, .bool (decide (y12_0 < (p2.length : Int)))), (49, true, .bool s16.1), (54, true, .bool s16.2), (55, true, .pointer (some ⟨b6_w0o0, 0, none⟩)), (56, true, .int .i64 x19.1), (57, true, .tuple #[.agg #[.bool x35.1.Ok, .string x35.1.Key, .int .u64 x35.1.Val, .int .i64 x35.1.Err], .bool x35.2.1]), (58, true, .slice (some ⟨b38_7, 0, none⟩) 3 3), (59, true, .int .i64 s18), (60, true, .pointer (some ⟨b38_7, 1, none⟩)), (61, true, .pointer (some ⟨b9_w0, 0, none⟩)), (62, true, .tuple #[.agg #[.bool x35.1.Ok, .string x35.1.Key, .int .u64 x35.1.Val, .int .i64 x35.1.Err], .bool x35.2.1]), (63, true, .agg #[.bool x35.1.Ok, .string x35.1.Key, .int .u64 x35.1.Val, .int .i64 x35.1.Err]), (64, true, .bool x35.2.1), (65, true, .slice (some ⟨b38_7, 0, none⟩) 3 3), (66, true, .int .i64 s18), (67, true, .pointer (some ⟨b38_7, 1, none⟩)), (68, true, .pointer (some ⟨b9_w0, 0, none⟩)), (69, true, .bool x38.1), (70, true, .tuple #[.agg #[.bool x40.1.Ok, .string x40.1.Key, .int .u64 x40.1.Val, .int .i64 x40.1.Err], .bool x40.2.1]), (71, true, .slice (some ⟨b38_7, 0, none⟩) 3 3), (72, true, .int .i64 s18), (73, true, .pointer (some ⟨b38_7, 1, none⟩)), (74, true, .pointer (some ⟨b9_w0, 0, none⟩)), (75, true, .tuple #[.agg #[.bool x40.1.Ok, .string x40.1.Key, .int .u64 x40.1.Val, .int .i64 x40.1.Err], .bool x40.2.1]), (76, true, .agg #[.bool x40.1.Ok, .string x40.1.Key, .int .u64 x40.1.Val, .int .i64 x40.1.Err]), (77, true, .bool x40.2.1), (78, true, .pointer (some ⟨b6_w0o0, 0, none⟩)), (79, true, .int .i64 x42.1), (80, true, .int .i64 x19.1), (81, true, .int .i64 (IntKind.i64.wrap (x19.1 + 1))), (82, true, .bool (decide (x42.1 > (IntKind.i64.wrap (x19.1 + 1))))), (83, true, .bool s44.1), (91, true, .bool s44.2.1)]) (fun s => (List.flatten [[⟨b6_w0o0, .cells [.slice s.1 s44.2.2.1.length s44.2.2.1.length, .int .i64 s44.2.2.2] 94⟩], s.2, [⟨b17_41, .cells [.bool x40.1.Ok, .string x40.1.Key, .int .u64 x40.1.Val, .int .i64 x40.1.Err] 32⟩], [⟨b6_w0, .cells [.pointer (some ⟨b6_w0o0, 0, none⟩), .slice q40_y0_1 x40.2.2.1.nodes.length x40.2.2.1.nodes.length, .slice q40_y0_2 x40.2.2.1.infos.length x40.2.2.1.infos.length] 83⟩], t40_y0_1, t40_y0_2, [⟨b9_w0, .cells [.bool x40.2.2.2.2.told_Ok, .string x40.2.2.2.2.told_Key, .int .u64 x40.2.2.2.2.told_Val, .int .i64 x40.2.2.2.2.told_Err, v40_y1_4] 114⟩], t40_y1_4, [⟨b14_36, .cells [.bool x35.1.Ok, .string x35.1.Key, .int .u64 x35.1.Val, .int .i64 x35.1.Err] 32⟩], [⟨b10_w0, .cells [.bool y12_5, .string y12_6, .int .u64 y12_7, .int .i64 y12_8, a12_6] 114⟩], a12_7, [⟨b8_w0, .cells [.bool y12_15, .string y12_16, .int .u64 y12_17, .int .i64 y12_18, a12_10] 114⟩], a12_11, [⟨b38_7, .cells [.pointer (some ⟨b8_w0, 0, none⟩), .pointer (some ⟨b9_w0, 0, none⟩), .pointer (some ⟨b10_w0, 0, none⟩)] 34⟩], [⟨b4_4, .cells [.int .i64 p1.x0.Kind, .string p1.x0.Key, .int .u64 p1.x0.Val, .int .i64 p1.x1.Kind, .string p1.x1.Key, .int .u64 p1.x1.Val] 54⟩]] : List Blk)) ?_ (fun J44 => ?_)
                ·
                  rintro ⟨a44_0, a44_1⟩ h44 e44 w44 f44_2
                  replace hF := hK44
                  refine gM rfl rfl ?_
                  refine grf rfl rfl rfl rfl (r_move (ot rfl)) ?_
                  refine grf rfl rfl rfl rfl (r_move (ot rfl)) ?_
                  refine grf rfl rfl rfl rfl (r_bin (og rfl id) (og rfl id) bu_4) ?_
                  refine gr rfl (r_pickb (ot rfl) (oc rfl) (og rfl id)) ?_
                  refine go_nil ?_
                  refine g_cond (b := (bif s44.2.1 then true else (!(x38.1 == x40.2.1)))) (ot rfl) (fun hc45 => ?_) (fun hc45 => ?_)
                  ·
                    replace hF := ifT hc45 hF
                    refine go_seq ?_
                    refine go_region ?_
                    refine gAc rfl rfl ?_
                    refine go_nil ?_
                    obtain rfl := someI hF
                    obtain rfl := someI hK14
                    obtain rfl := someI hK11
                    exact g_ret (rst rfl rs0) (fun h1 hf hs => ⟨(e6.trans (e8.trans (e9.trans (e10.trans (e12.trans (e16.trans (e18.trans (e19.trans (e35.trans (e38.trans (e40.trans (e42.trans (e44.trans hs.hext))))))))))))), rfl⟩)
                  ·
                    replace hF := ifF hc45 hF
                    refine go_skip ?_
                    refine go_endb ?_
                    obtain rfl := someI hF
                    refine gs_sub (.cons_cons _ (.cons_cons _ (.cons _ (.cons_cons _ (.cons_cons _ (.cons_cons _ (.cons_cons _ (.cons_cons _ (.cons _ (.cons_cons _ (.cons_cons _ (.cons_cons _ (.cons_cons _ (.cons_cons _ (.cons_cons _ (.refl _)))))))))))))))) ?_
                    refine gs_perm (perm_of (d := []) _ [2, 3, 4, 0, 1, 7, 8, 5, 6, 9, 10, 11, 12] rfl) ?_
                    exact Goes.weak (J14 ((s18, x19.1, x35.2.1, x38.1, x40.2.1, s16.1, s16.2, x40.2.2.1.nodes, x40.2.2.1.infos, s44.2.2.1, s44.2.2.2, y12_5, y12_6, y12_7, y12_8, y12_9, x40.2.2.2.2.told_Ok, x40.2.2.2.2.told_Key, x40.2.2.2.2.told_Val, x40.2.2.2.2.told_Err, x40.2.2.2.2.next, y12_15, y12_16, y12_17, y12_18, y12_19), q40_y0_1, t40_y0_1, q40_y0_2, t40_y0_2, a44_0, a44_1, a12_6, a12_7, v40_y1_4, t40_y1_4, a12_10, a12_11) _ (e16.trans (e18.trans (e19.trans (e35.trans (e38.trans (e40.trans (e42.trans e44))))))) w44 ⟨rfl, ((f40_0.ext e42.kn).ext e44.kn), ((f40_1.ext e42.kn).ext e44.kn), f44_2, ((((((((f12_9.ext e16.kn).ext e18.kn).ext e19.kn).ext e35.kn).ext e38.kn).ext e40.kn).ext e42.kn).ext e44.kn), ((f40_3.ext e42.kn).ext e44.kn), ((((((((f12_19.ext e16.kn).ext e18.kn).ext e19.kn).ext e35.kn).ext e38.kn).ext e40.kn).ext e42.kn).ext e44.kn)⟩) (Sub.cons (Sub.cons (Sub.cons (Sub.cons (Sub.cons (Sub.cons (Sub.cons (Sub.cons (Sub.cons (Sub.cons (Sub.cons (Sub.cons (Sub.cons (Sub.cons (Sub.cons (Sub.cons (Sub.cons (Sub.cons (Sub.cons (Sub.cons (Sub.cons (Sub.nil _) rfl) rfl) rfl) rfl) rfl) rfl) rfl) rfl) rfl) rfl) rfl) rfl) rfl) rfl) rfl) rfl) rfl) rfl) rfl) rfl) rfl)
                ·
                  rcases Bool.eq_false_or_eq_true (decide (x42.1 > (IntKind.i64.wrap (x19.1 + 1)))) with hb43 | hb43
                  ·
                    replace hF := ifT hb43 hF
                    refine go_re 83 (v2 := .bool true) rfl (congrArg Value.bool hb43) ?_
                    refine g_no rfl rfl rfl rfl rfl ?_
                    refine g_no rfl rfl rfl rfl rfl ?_
                    refine g_nu rfl rfl rfl rfl ?_
                    refine g_nu rfl rfl rfl rfl ?_
                    refine g_nu rfl rfl rfl rfl ?_
                    refine g_nu rfl rfl rfl rfl ?_
                    refine g_no rfl rfl rfl rfl rfl ?_
                    refine gr rfl (r_pkT (ot rfl) (oc rfl)) ?_
                    obtain rfl := someI hF
                    exact Goes.weak (J44 (q42_y0_0, t42_y0_0) _ (HExt.refl _) w42 f42_0) (Sub.cons (Sub.cons (Sub.cons (Sub.cons (Sub.cons (Sub.cons (Sub.cons (Sub.cons (Sub.cons (Sub.cons (Sub.cons (Sub.cons (Sub.cons (Sub.cons (Sub.cons (Sub.cons (Sub.cons (Sub.cons (Sub.cons (Sub.cons (Sub.cons (Sub.cons (Sub.cons (Sub.cons (Sub.cons (Sub.cons (Sub.cons (Sub.cons (Sub.cons (Sub.cons (Sub.cons (Sub.cons (Sub.cons (Sub.cons (Sub.cons (Sub.cons (Sub.cons (Sub.cons (Sub.cons (Sub.cons (Sub.cons (Sub.cons (Sub.cons (Sub.cons (Sub.cons (Sub.cons (Sub.cons (Sub.cons (Sub.cons (Sub.cons (Sub.cons (Sub.cons (Sub.cons (Sub.nil _) rfl) rfl) rfl) rfl) rfl) rfl) rfl) rfl) rfl) rfl) rfl) rfl) rfl) rfl) rfl) rfl) rfl) rfl) rfl) rfl) rfl) rfl) rfl) rfl) rfl) rfl) rfl) rfl) rfl) rfl) rfl) rfl) rfl) rfl) rfl) rfl) rfl) rfl) rfl) rfl) rfl) rfl) rfl) rfl) rfl) rfl) rfl) rfl) rfl) rfl) rfl) rfl) rfl)
                  ·
                    replace hF := ifF hb43 hF
                    refine go_re 83 (v2 := .bool false) rfl (congrArg Value.bool hb43) ?_
                    refine g_do rfl rfl rfl ?_
                    refine gM rfl rfl ?_
                    refine g_do rfl rfl rfl ?_
                    refine gM rfl rfl ?_
                    replace hF := obind hF
                    obtain ⟨s47, hF, hK47⟩ := hF
                    refine go_joinr 5 (β := Option Addr × List Blk) (fun s h' => AccR (RI_ .u64 29) 29 h' s.2 (.slice s.1 s47.2.2.1.length s47.2.2.1.length) s47.2.2.1) (fun s => [(2, true, .slice a2_0 p2.length c2_0), (6, true, .bool false), (7, true, .bool true), (9, true, .pointer (some ⟨b6_w0o0, 0, none⟩)), (10, true, .slice (some ⟨b38_7, 0, none⟩) 3 3), (11, true, .int .i64 y12_0), (12, true, .int .i64 s18), (13, true, .int .i64 x19.1), (14, true, .pointer (some ⟨b14_36, 0, none⟩)), (15, true, .bool x35.2.1), (16, true, .bool x38.1), (17, true, .pointer (some ⟨b17_41, 0, none⟩)), (18, true, .bool x40.2.1), (39, true, .int .i64 y12_0), (40, true, .bool (decide (y12_0 < 600))), (43, true, .int .i64 y12_0), (44, true, .int .i64 (Int.tmod y12_0 3)), (45, true, .int .i64 y12_0), (46, true, .slice a2_0 p2.length c2_0), (47, true, .int .i64 (p2.length : Int)), (48, true, .bool (decide (y12_0 < (p2.length : Int)))), (49, true, .bool s16.1), (54, true, .bool s16.2), (55, true, .pointer (some ⟨b6_w0o0, 0, none⟩)), (56, true, .int .i64 x19.1), (57, true, .tuple #[.agg #[.bool x35.1.Ok, .string x35.1.Key, .int .u64 x35.1.Val, .int .i64 x35.1.Err], .bool x35.2.1]), (58, true, .slice (some ⟨b38_7, 0, none⟩) 3 3), (59, true, .int .i64 s18), (60, true, .pointer (some ⟨b38_7, 1, none⟩)), (61, true, .pointer (some ⟨b9_w0, 0, none⟩)), (62, true, .tuple #[.agg #[.bool x35.1.Ok, .string x35.1.Key, .int .u64 x35.1.Val, .int .i64 x35.1.Err], .bool x35.2.1]), (63, true, .agg #[.bool x35.1.Ok, .string x35.1.Key, .int .u64 x35.1.Val, .int .i64 x35.1.Err]), (64, true, .bool x35.2.1), (65, true, .slice (some ⟨b38_7, 0, none⟩) 3 3), (66, true, .int .i64 s18), (67, true, .pointer (some ⟨b38_7, 1, none⟩)), (68, true, .pointer (some ⟨b9_w0, 0, none⟩)), (69, true, .bool x38.1), (70, true, .tuple #[.agg #[.bool x40.1.Ok, .string x40.1.Key, .int .u64 x40.1.Val, .int .i64 x40.1.Err], .bool x40.2.1]), (71, true, .slice (some ⟨b38_7, 0, none⟩) 3 3), (72, true, .int .i64 s18), (73, true, .pointer (some ⟨b38_7, 1, none⟩)), (74, true, .pointer (some ⟨b9_w0, 0, none⟩)), (75, true, .tuple #[.agg #[.bool x40.1.Ok, .string x40.1.Key, .int .u64 x40.1.Val, .int .i64 x40.1.Err], .bool x40.2.1]), (76, true, .agg #[.bool x40.1.Ok, .string x40.1.Key, .int .u64 x40.1.Val, .int .i64 x40.1.Err]), (77, true, .bool x40.2.1), (78, true, .pointer (some ⟨b6_w0o0, 0, none⟩)), (79, true, .int .i64 x42.1), (80, true, .int .i64 x19.1), (81, true, .int .i64 (IntKind.i64.wrap (x19.1 + 1))), (82, true, .bool (decide (x42.1 > (IntKind.i64.wrap (x19.1 + 1))))), (83, true, .bool false), (84, true, .bool x35.2.1), (85, true, .bool s47.1), (90, true, .bool s47.2.1)]) (fun s => (List.flatten [[⟨b6_w0o0, .cells [.slice s.1 s47.2.2.1.length s47.2.2.1.length, .int .i64 s47.2.2.2] 94⟩], s.2, [⟨b17_41, .cells [.bool x40.1.Ok, .string x40.1.Key, .int .u64 x40.1.Val, .int .i64 x40.1.Err] 32⟩], [⟨b6_w0, .cells [.pointer (some ⟨b6_w0o0, 0, none⟩), .slice q40_y0_1 x40.2.2.1.nodes.length x40.2.2.1.nodes.length, .slice q40_y0_2 x40.2.2.1.infos.length x40.2.2.1.infos.length] 83⟩], t40_y0_1, t40_y0_2, [⟨b9_w0, .cells [.bool x40.2.2.2.2.told_Ok, .string x40.2.2.2.2.told_Key, .int .u64 x40.2.2.2.2.told_Val, .int .i64 x40.2.2.2.2.told_Err, v40_y1_4] 114⟩], t40_y1_4, [⟨b14_36, .cells [.bool x35.1.Ok, .string x35.1.Key, .int .u64 x35.1.Val, .int .i64 x35.1.Err] 32⟩], [⟨b10_w0, .cells [.bool y12_5, .string y12_6, .int .u64 y12_7, .int .i64 y12_8, a12_6] 114⟩], a12_7, [⟨b8_w0, .cells [.bool y12_15, .string y12_16, .int .u64 y12_17, .int .i64 y12_18, a12_10] 114⟩], a12_11, [⟨b38_7, .cells [.pointer (some ⟨b8_w0, 0, none⟩), .pointer (some ⟨b9_w0, 0, none⟩), .pointer (some ⟨b10_w0, 0, none⟩)] 34⟩], [⟨b4_4, .cells [.int .i64 p1.x0.Kind, .string p1.x0.Key, .int .u64 p1.x0.Val, .int .i64 p1.x1.Kind, .string p1.x1.Key, .int .u64 p1.x1.Val] 54⟩]] : List Blk)) ?_ (fun J47 => ?_)
                    ·
                      rintro ⟨a47_0, a47_1⟩ h47 e47 w47 f47_2
                      replace hF := hK47
                      refine gr rfl (r_pkF (ot rfl) (ot rfl)) ?_
                      obtain rfl := someI hF
                      exact Goes.weak (J44 (a47_0, a47_1) _ e47 w47 f47_2) (Sub.cons (Sub.cons (Sub.cons (Sub.cons (Sub.cons (Sub.cons (Sub.cons (Sub.cons (Sub.cons (Sub.cons (Sub.cons (Sub.cons (Sub.cons (Sub.cons (Sub.cons (Sub.cons (Sub.cons (Sub.cons (Sub.cons (Sub.cons (Sub.cons (Sub.cons (Sub.cons (Sub.cons (Sub.cons (Sub.cons (Sub.cons (Sub.cons (Sub.cons (Sub.cons (Sub.cons (Sub.cons (Sub.cons (Sub.cons (Sub.cons (Sub.cons (Sub.cons (Sub.cons (Sub.cons (Sub.cons (Sub.cons (Sub.cons (Sub.cons (Sub.cons (Sub.cons (Sub.cons (Sub.cons (Sub.cons (Sub.cons (Sub.cons (Sub.cons (Sub.cons (Sub.cons (Sub.nil _) rfl) rfl) rfl) rfl) rfl) rfl) rfl) rfl) rfl) rfl) rfl) rfl) rfl) rfl) rfl) rfl) rfl) rfl) rfl) rfl) rfl) rfl) rfl) rfl) rfl) rfl) rfl) rfl) rfl) rfl) rfl) rfl) rfl) rfl) rfl) rfl) rfl) rfl) rfl) rfl) rfl) rfl) rfl) rfl) rfl) rfl) rfl) rfl) rfl) rfl) rfl) rfl) rfl)
                    ·
                      rcases Bool.eq_false_or_eq_true x35.2.1 with hb46 | hb46
                      ·
                        replace hF := ifT hb46 hF
                        refine go_re 85 (v2 := .bool true) rfl (congrArg Value.bool hb46) ?_
                        refine g_do rfl rfl rfl ?_
                        refine gM rfl rfl ?_
                        refine g_do rfl rfl rfl ?_
                        replace hF := obind hF
                        obtain ⟨x48, hx48, hF⟩ := hF
                        refine gs_call EE_fr w42 (.cons .z (.cons .z .nil)) (fun _ h => by cases h; rfl) of (os1 (ot rfl) os0) hb_24 (by exact s_mem_Mem_Count w42 (⟨x42.2.cells, x42.2.count⟩ : Omem_Mem) f42_0 hx48) ?_
                        rintro v48 S48 h48 e48 w48 ⟨q48_y0_0, t48_y0_0, rfl, rfl, f48_0⟩
                        simp only [List.cons_append, List.nil_append]
                        refine g_do rfl rfl rfl ?_
                        refine gM rfl rfl ?_
                        refine g_do rfl rfl rfl ?_
                        refine gr rfl (r_bin (ot rfl) (ot rfl) rfl) ?_
                        refine g_do rfl rfl rfl ?_
                        refine gr rfl (r_pkT (ot rfl) (ot rfl)) ?_
                        obtain rfl := someI hF
                        exact Goes.weak (J47 (q48_y0_0, t48_y0_0) _ e48 w48 f48_0) (Sub.cons (Sub.cons (Sub.cons (Sub.cons (Sub.cons (Sub.cons (Sub.cons (Sub.cons (Sub.cons (Sub.cons (Sub.cons (Sub.cons (Sub.cons (Sub.cons (Sub.cons (Sub.cons (Sub.cons (Sub.cons (Sub.cons (Sub.cons (Sub.cons (Sub.cons (Sub.cons (Sub.cons (Sub.cons (Sub.cons (Sub.cons (Sub.cons (Sub.cons (Sub.cons (Sub.cons (Sub.cons (Sub.cons (Sub.cons (Sub.cons (Sub.cons (Sub.cons (Sub.cons (Sub.cons (Sub.cons (Sub.cons (Sub.cons (Sub.cons (Sub.cons (Sub.cons (Sub.cons (Sub.cons (Sub.cons (Sub.cons (Sub.cons (Sub.cons (Sub.cons (Sub.cons (Sub.cons (Sub.cons (Sub.nil _) rfl) rfl) rfl) rfl) rfl) rfl) rfl) rfl) rfl) rfl) rfl) rfl) rfl) rfl) rfl) rfl) rfl) rfl) rfl) rfl) rfl) rfl) rfl) rfl) rfl) rfl) rfl) rfl) rfl) rfl) rfl) rfl) rfl) rfl) rfl) rfl) rfl) rfl) rfl) rfl) rfl) rfl) rfl) rfl) rfl) rfl) rfl) rfl) rfl) rfl) rfl) rfl) rfl) rfl) rfl)
                      ·
                        replace hF := ifF hb46 hF
                        refine go_re 85 (v2 := .bool false) rfl (congrArg Value.bool hb46) ?_
                        refine g_no rfl rfl rfl rfl rfl ?_
                        refine g_no rfl rfl rfl rfl rfl ?_
                        refine g_no rfl rfl rfl rfl rfl ?_
                        refine g_no rfl rfl rfl rfl rfl ?_
                        refine g_do rfl rfl rfl ?_
                        refine gr rfl (r_pkF (ot rfl) (oc rfl)) ?_
                        obtain rfl := someI hF
                        exact Goes.weak (J47 (q42_y0_0, t42_y0_0) _ (HExt.refl _) w42 f42_0) (Sub.cons (Sub.cons (Sub.cons (Sub.cons (Sub.cons (Sub.cons (Sub.cons (Sub.cons (Sub.cons (Sub.cons (Sub.cons (Sub.cons (Sub.cons (Sub.cons (Sub.cons (Sub.cons (Sub.cons (Sub.cons (Sub.cons (Sub.cons (Sub.cons (Sub.cons (Sub.cons (Sub.cons (Sub.cons (Sub.cons (Sub.cons (Sub.cons (Sub.cons (Sub.cons (Sub.cons (Sub.cons (Sub.cons (Sub.cons (Sub.cons (Sub.cons (Sub.cons (Sub.cons (Sub.cons (Sub.cons (Sub.cons (Sub.cons (Sub.cons (Sub.cons (Sub.cons (Sub.cons (Sub.cons (Sub.cons (Sub.cons (Sub.cons (Sub.cons (Sub.cons (Sub.cons (Sub.cons (Sub.cons (Sub.nil _) rfl) rfl) rfl) rfl) rfl) rfl) rfl) rfl) rfl) rfl) rfl) rfl) rfl) rfl) rfl) rfl) rfl) rfl) rfl) rfl) rfl) rfl) rfl) rfl) rfl) rfl) rfl) rfl) rfl) rfl) rfl) rfl) rfl) rfl) rfl) rfl) rfl) rfl) rfl) rfl) rfl) rfl) rfl) rfl) rfl) rfl) rfl) rfl) rfl) rfl) rfl) rfl) rfl) rfl) rfl)
              replace hF := ifN hk20_1 hF
              by_cases hk20_2 : s18 = ((2 : Nat) : Int)
              ·
                replace hF := ifP hk20_2 hF
                refine gr rfl (r_ia (ot rfl) (ot rfl) (ia_eq hk20_2 (ia_of ut_56 sz_34 (by decide) rfl))) ?_
                refine go_cast (.pointer (some ⟨b38_7, 2, none⟩)) rfl ?_
                refine gr rfl (r_load (ot rfl) (lm_s (mem_seg 11 rfl) ag_34 rfl)) ?_
                replace hF := obind hF
                obtain ⟨x49, hx49, hF⟩ := hF
                refine gs_call EE_fr w19 (.cons (.s (.s (.z))) (.cons (.s (.s (.z))) (.cons (.s (.s (.z))) (.cons .z (.cons .z (.cons .z (.cons .z .nil))))))) (fun _ h => by cases h; rfl) of (os1 (ot rfl) os0) hb_25 (by exact s_bst_Call_Answer w19 (⟨y12_1, y12_2⟩ : Obst_Tree) (⟨x19.2.cells, x19.2.count⟩ : Omem_Mem) (⟨y12_5, y12_6, y12_7, y12_8, y12_9⟩ : Obst_Call_2) (((f12_1.ext e16.kn).ext e18.kn).ext e19.kn) (((f12_2.ext e16.kn).ext e18.kn).ext e19.kn) f19_0 (((f12_9.ext e16.kn).ext e18.kn).ext e19.kn) hx49) ?_
                rintro v49 S49 h49 e49 w49 ⟨q49_y0_1, t49_y0_1, q49_y0_2, t49_y0_2, q49_y0o0_0, t49_y0o0_0, v49_y1_4, t49_y1_4, rfl, rfl, f49_0, f49_1, f49_2, f49_3⟩
                simp only [List.cons_append, List.nil_append]
                refine gM rfl rfl ?_
                refine gE rfl rfl rfl ?_
                refine gE rfl rfl rfl ?_
                refine gs_alloc rfl zo_32 rfl ?_; intro b14_50
                refine gs_store (ot rfl) (ot rfl) sz_32 rfl rfl rfl rfl rfl .z ?_
                refine gA rfl rfl ?_
                refine go_nil ?_
                refine go_seq ?_
                refine go_region ?_
                refine gM rfl rfl ?_
                refine gM rfl rfl ?_
                refine gr rfl (r_ia (ot rfl) (ot rfl) (ia_eq hk20_2 (ia_of ut_56 sz_34 (by decide) rfl))) ?_
                refine go_cast (.pointer (some ⟨b38_7, 2, none⟩)) rfl ?_
                refine gr rfl (r_load (ot rfl) (lm_s (mem_seg 12 rfl) ag_34 rfl)) ?_
                replace hF := obind hF
                obtain ⟨x52, hx52, hF⟩ := hF
                refine gs_call EE_fr w49 (.cons (.s (.z)) (.cons (.s (.z)) (.cons (.s (.z)) (.cons (.s (.z)) (.cons (.s (.z)) (.cons (.s (.z)) (.cons (.s (.z)) .nil))))))) (fun _ h => by cases h; rfl) of (os1 (ot rfl) os0) hb_21 (by exact s_bst_Call_Step n w49 (⟨x49.2.2.1.nodes, x49.2.2.1.infos⟩ : Obst_Tree) (⟨x49.2.2.2.1.cells, x49.2.2.2.1.count⟩ : Omem_Mem) (⟨x49.2.2.2.2.told_Ok, x49.2.2.2.2.told_Key, x49.2.2.2.2.told_Val, x49.2.2.2.2.told_Err, x49.2.2.2.2.next⟩ : Obst_Call_2) f49_0 f49_1 f49_2 f49_3 hx52) ?_
                rintro v52 S52 h52 e52 w52 ⟨q52_y0_1, t52_y0_1, q52_y0_2, t52_y0_2, q52_y0o0_0, t52_y0o0_0, v52_y1_4, t52_y1_4, rfl, rfl, f52_0, f52_1, f52_2, f52_3⟩
                simp only [List.cons_append, List.nil_append]
                refine gA rfl rfl ?_
                refine go_nil ?_
                refine go_seq ?_
                refine go_region ?_
                refine gM rfl rfl ?_
                refine gM rfl rfl ?_
                refine gr rfl (r_ia (ot rfl) (ot rfl) (ia_eq hk20_2 (ia_of ut_56 sz_34 (by decide) rfl))) ?_
                refine go_cast (.pointer (some ⟨b38_7, 2, none⟩)) rfl ?_
                refine gr rfl (r_load (ot rfl) (lm_s (mem_seg 12 rfl) ag_34 rfl)) ?_
                replace hF := obind hF
                obtain ⟨x54, hx54, hF⟩ := hF
                refine gs_call EE_fr w52 (.cons .z (.cons .z (.cons .z (.cons .z (.cons .z (.cons .z (.cons .z .nil))))))) (fun _ h => by cases h; rfl) of (os1 (ot rfl) os0) hb_25 (by exact s_bst_Call_Answer w52 (⟨x52.2.1.nodes, x52.2.1.infos⟩ : Obst_Tree) (⟨x52.2.2.1.cells, x52.2.2.1.count⟩ : Omem_Mem) (⟨x52.2.2.2.told_Ok, x52.2.2.2.told_Key, x52.2.2.2.told_Val, x52.2.2.2.told_Err, x52.2.2.2.next⟩ : Obst_Call_2) f52_0 f52_1 f52_2 f52_3 hx54) ?_
                rintro v54 S54 h54 e54 w54 ⟨q54_y0_1, t54_y0_1, q54_y0_2, t54_y0_2, q54_y0o0_0, t54_y0o0_0, v54_y1_4, t54_y1_4, rfl, rfl, f54_0, f54_1, f54_2, f54_3⟩
                simp only [List.cons_append, List.nil_append]
                refine gM rfl rfl ?_
                refine gE rfl rfl rfl ?_
                refine gE rfl rfl rfl ?_
                refine gs_alloc rfl zo_32 rfl ?_; intro b17_55
                refine gs_store (ot rfl) (ot rfl) sz_32 rfl rfl rfl rfl rfl .z ?_
                refine gA rfl rfl ?_
                refine go_nil ?_
                refine go_seq ?_
                refine go_region ?_
                refine gM rfl rfl ?_
                replace hF := obind hF
                obtain ⟨x56, hx56, hF⟩ := hF
                refine gs_call EE_fr w54 (.cons (.s (.s (.s (.s (.z))))) (.cons (.s (.s (.s (.s (.z))))) .nil)) (fun _ h => by cases h; rfl) of (os1 (ot rfl) os0) hb_24 (by exact s_mem_Mem_Count w54 (⟨x54.2.2.2.1.cells, x54.2.2.2.1.count⟩ : Omem_Mem) f54_2 hx56) ?_
                rintro v56 S56 h56 e56 w56 ⟨q56_y0_0, t56_y0_0, rfl, rfl, f56_0⟩
                simp only [List.cons_append, List.nil_append]
                refine gM rfl rfl ?_
                refine gr rfl (r_bin (ot rfl) (oc rfl) rfl) ?_
                refine gr rfl (r_bin (ot rfl) (ot rfl) rfl) ?_
                refine gM rfl rfl ?_
                replace hF := obind hF
                obtain ⟨s58, hF, hK58⟩ := hF
                refine go_joinr 8 (β := Option Addr × List Blk) (fun s h' => AccR (RI_ .u64 29) 29 h' s.2 (.slice s.1 s58.2.2.1.length s58.2.2.1.length) s58.2.2.1) (fun s => [(2, true, .slice a2_0 p2.length c2_0), (6, true, .bool false), (7, true, .bool true), (9, true, .pointer (some ⟨b6_w0o0, 0, none⟩)), (10, true, .slice (some ⟨b38_7, 0, none⟩) 3 3), (11, true, .int .i64 y12_0), (12, true, .int .i64 s18), (13, true, .int .i64 x19.1), (14, true, .pointer (some ⟨b14_50, 0, none⟩)), (15, true, .bool x49.2.1), (16, true, .bool x52.1), (17, true, .pointer (some ⟨b17_55, 0, none⟩)), (18, true, .bool x54.2.1), (39, true, .int .i64 y12_0), (40, true, .bool (decide (y12_0 < 600))), (43, true, .int .i64 y12_0), (44, true, .int .i64 (Int.tmod y12_0 3)), (45, true, .int .i64 y12_0), (46, true, .slice a2_0 p2.length c2_0), (47, true, .int .i64 (p2.length : Int)), (48, true, .bool (decide (y12_0 < (p2.length : Int)))), (49, true, .bool s16.1), (54, true, .bool s16.2), (55, true, .pointer (some ⟨b6_w0o0, 0, none⟩)), (56, true, .int .i64 x19.1), (57, true, .tuple #[.agg #[.bool x49.1.Ok, .string x49.1.Key, .int .u64 x49.1.Val, .int .i64 x49.1.Err], .bool x49.2.1]), (58, true, .slice (some ⟨b38_7, 0, none⟩) 3 3), (59, true, .int .i64 s18), (60, true, .pointer (some ⟨b38_7, 2, none⟩)), (61, true, .pointer (some ⟨b10_w0, 0, none⟩)), (62, true, .tuple #[.agg #[.bool x49.1.Ok, .string x49.1.Key, .int .u64 x49.1.Val, .int .i64 x49.1.Err], .bool x49.2.1]), (63, true, .agg #[.bool x49.1.Ok, .string x49.1.Key, .int .u64 x49.1.Val, .int .i64 x49.1.Err]), (64, true, .bool x49.2.1), (65, true, .slice (some ⟨b38_7, 0, none⟩) 3 3), (66, true, .int .i64 s18), (67, true, .pointer (some ⟨b38_7, 2, none⟩)), (68, true, .pointer (some ⟨b10_w0, 0, none⟩)), (69, true, .bool x52.1), (70, true, .tuple #[.agg #[.bool x54.1.Ok, .string x54.1.Key, .int .u64 x54.1.Val, .int .i64 x54.1.Err], .bool x54.2.1]), (71, true, .slice (some ⟨b38_7, 0, none⟩) 3 3), (72, true, .int .i64 s18), (73, true, .pointer (some ⟨b38_7, 2, none⟩)), (74, true, .pointer (some ⟨b10_w0, 0, none⟩)), (75, true, .tuple #[.agg #[.bool x54.1.Ok, .string x54.1.Key, .int .u64 x54.1.Val, .int .i64 x54.1.Err], .bool x54.2.1]), (76, true, .agg #[.bool x54.1.Ok, .string x54.1.Key, .int .u64 x54.1.Val, .int .i64 x54.1.Err]), (77, true, .bool x54.2.1), (78, true, .pointer (some ⟨b6_w0o0, 0, none⟩)), (79, true, .int .i64 x56.1), (80, true, .int .i64 x19.1), (81, true, .int .i64 (IntKind.i64.wrap (x19.1 + 1))), (82, true, .bool (decide (x56.1 > (IntKind.i64.wrap (x19.1 + 1))))), (83, true, .bool s58.1), (91, true, .bool s58.2.1)]) (fun s => (List.flatten [[⟨b6_w0o0, .cells [.slice s.1 s58.2.2.1.length s58.2.2.1.length, .int .i64 s58.2.2.2] 94⟩], s.2, [⟨b17_55, .cells [.bool x54.1.Ok, .string x54.1.Key, .int .u64 x54.1.Val, .int .i64 x54.1.Err] 32⟩], [⟨b6_w0, .cells [.pointer (some ⟨b6_w0o0, 0, none⟩), .slice q54_y0_1 x54.2.2.1.nodes.length x54.2.2.1.nodes.length, .slice q54_y0_2 x54.2.2.1.infos.length x54.2.2.1.infos.length] 83⟩], t54_y0_1, t54_y0_2, [⟨b10_w0, .cells [.bool x54.2.2.2.2.told_Ok, .string x54.2.2.2.2.told_Key, .int .u64 x54.2.2.2.2.told_Val, .int .i64 x54.2.2.2.2.told_Err, v54_y1_4] 114⟩], t54_y1_4, [⟨b14_50, .cells [.bool x49.1.Ok, .string x49.1.Key, .int .u64 x49.1.Val, .int .i64 x49.1.Err] 32⟩], [⟨b9_w0, .cells [.bool y12_10, .string y12_11, .int .u64 y12_12, .int .i64 y12_13, a12_8] 114⟩], a12_9, [⟨b8_w0, .cells [.bool y12_15, .string y12_16, .int .u64 y12_17, .int .i64 y12_18, a12_10] 114⟩], a12_11, [⟨b38_7, .cells [.pointer (some ⟨b8_w0, 0, none⟩), .pointer (some ⟨b9_w0, 0, none⟩), .pointer (some ⟨b10_w0, 0, none⟩)] 34⟩], [⟨b4_4, .cells [.int .i64 p1.x0.Kind, .string p1.x0.Key, .int .u64 p1.x0.Val, .int .i64 p1.x1.Kind, .string p1.x1.Key, .int .u64 p1.x1.Val] 54⟩]] : List Blk)) ?_ (fun J58 => ?_)
                ·
                  rintro ⟨a58_0, a58_1⟩ h58 e58 w58 f58_2
                  replace hF := hK58
                  refine gM rfl rfl ?_
                  refine grf rfl rfl rfl rfl (r_move (ot rfl)) ?_
                  refine grf rfl rfl rfl rfl (r_move (ot rfl)) ?_
                  refine grf rfl rfl rfl rfl (r_bin (og rfl id) (og rfl id) bu_4) ?_
                  refine gr rfl (r_pickb (ot rfl) (oc rfl) (og rfl id)) ?_
                  refine go_nil ?_
                  refine g_cond (b := (bif s58.2.1 then true else (!(x52.1 == x54.2.1)))) (ot rfl) (fun hc59 => ?_) (fun hc59 => ?_)
                  ·
                    replace hF := ifT hc59 hF
                    refine go_seq ?_
                    refine go_region ?_
                    refine gAc rfl rfl ?_
                    refine go_nil ?_
                    obtain rfl := someI hF
                    obtain rfl := someI hK14
                    obtain rfl := someI hK11
                    exact g_ret (rst rfl rs0) (fun h1 hf hs => ⟨(e6.trans (e8.trans (e9.trans (e10.trans (e12.trans (e16.trans (e18.trans (e19.trans (e49.trans (e52.trans (e54.trans (e56.trans (e58.trans hs.hext))))))))))))), rfl⟩)
                  ·
                    replace hF := ifF hc59 hF
                    refine go_skip ?_
                    refine go_endb ?_
                    obtain rfl := someI hF
                    refine gs_sub (.cons_cons _ (.cons_cons _ (.cons _ (.cons_cons _ (.cons_cons _ (.cons_cons _ (.cons_cons _ (.cons_cons _ (.cons _ (.cons_cons _ (.cons_cons _ (.cons_cons _ (.cons_cons _ (.cons_cons _ (.cons_cons _ (.refl _)))))))))))))))) ?_
                    refine gs_perm (perm_of (d := []) _ [2, 3, 4, 0, 1, 5, 6, 7, 8, 9, 10, 11, 12] rfl) ?_
                    exact Goes.weak (J14 ((s18, x19.1, x49.2.1, x52.1, x54.2.1, s16.1, s16.2, x54.2.2.1.nodes, x54.2.2.1.infos, s58.2.2.1, s58.2.2.2, x54.2.2.2.2.told_Ok, x54.2.2.2.2.told_Key, x54.2.2.2.2.told_Val, x54.2.2.2.2.told_Err, x54.2.2.2.2.next, y12_10, y12_11, y12_12, y12_13, y12_14, y12_15, y12_16, y12_17, y12_18, y12_19), q54_y0_1, t54_y0_1, q54_y0_2, t54_y0_2, a58_0, a58_1, v54_y1_4, t54_y1_4, a12_8, a12_9, a12_10, a12_11) _ (e16.trans (e18.trans (e19.trans (e49.trans (e52.trans (e54.trans (e56.trans e58))))))) w58 ⟨rfl, ((f54_0.ext e56.kn).ext e58.kn), ((f54_1.ext e56.kn).ext e58.kn), f58_2, ((f54_3.ext e56.kn).ext e58.kn), ((((((((f12_14.ext e16.kn).ext e18.kn).ext e19.kn).ext e49.kn).ext e52.kn).ext e54.kn).ext e56.kn).ext e58.kn), ((((((((f12_19.ext e16.kn).ext e18.kn).ext e19.kn).ext e49.kn).ext e52.kn).ext e54.kn).ext e56.kn).ext e58.kn)⟩) (Sub.cons (Sub.cons (Sub.cons (Sub.cons (Sub.cons (Sub.cons (Sub.cons (Sub.cons (Sub.cons (Sub.cons (Sub.cons (Sub.cons (Sub.cons (Sub.cons (Sub.cons (Sub.cons (Sub.cons (Sub.cons (Sub.cons (Sub.cons (Sub.cons (Sub.nil _) rfl) rfl) rfl) rfl) rfl) rfl) rfl) rfl) rfl) rfl) rfl) rfl) rfl) rfl) rfl) rfl) rfl) rfl) rfl) rfl) rfl)
                ·
                  rcases Bool.eq_false_or_eq_true (decide (x56.1 > (IntKind.i64.wrap (x19.1 + 1)))) with hb57 | hb57
                  ·
                    replace hF := ifT hb57 hF
                    refine go_re 83 (v2 := .bool true) rfl (congrArg Value.bool hb57) ?_
                    refine g_no rfl rfl rfl rfl rfl ?_
                    refine g_no rfl rfl rfl rfl rfl ?_
                    refine g_nu rfl rfl rfl rfl ?_
                    refine g_nu rfl rfl rfl rfl ?_
                    refine g_nu rfl rfl rfl rfl ?_
                    refine g_nu rfl rfl rfl rfl ?_
                    refine g_no rfl rfl rfl rfl rfl ?_
                    refine gr rfl (r_pkT (ot rfl) (oc rfl)) ?_
                    obtain rfl := someI hF
                    exact Goes.weak (J58 (q56_y0_0, t56_y0_0) _ (HExt.refl _) w56 f56_0) (Sub.cons (Sub.cons (Sub.cons (Sub.cons (Sub.cons (Sub.cons (Sub.cons (Sub.cons (Sub.cons (Sub.cons (Sub.cons (Sub.cons (Sub.cons (Sub.cons (Sub.cons (Sub.cons (Sub.cons (Sub.cons (Sub.cons (Sub.cons (Sub.cons (Sub.cons (Sub.cons (Sub.cons (Sub.cons (Sub.cons (Sub.cons (Sub.cons (Sub.cons (Sub.cons (Sub.cons (Sub.cons (Sub.cons (Sub.cons (Sub.cons (Sub.cons (Sub.cons (Sub.cons (Sub.cons (Sub.cons (Sub.cons (Sub.cons (Sub.cons (Sub.cons (Sub.cons (Sub.cons (Sub.cons (Sub.cons (Sub.cons (Sub.cons (Sub.cons (Sub.cons (Sub.cons (Sub.nil _) rfl) rfl) rfl) rfl) rfl) rfl) rfl) rfl) rfl) rfl) rfl) rfl) rfl) rfl) rfl) rfl) rfl) rfl) rfl) rfl) rfl) rfl) rfl) rfl) rfl) rfl) rfl) rfl) rfl) rfl) rfl) rfl) rfl) rfl) rfl) rfl) rfl) rfl) rfl) rfl) rfl) rfl) rfl) rfl) rfl) rfl) rfl) rfl) rfl) rfl) rfl) rfl) rfl)
                  ·
                    replace hF := ifF hb57 hF
                    refine go_re 83 (v2 := .bool false) rfl (congrArg Value.bool hb57) ?_
                    refine g_do rfl rfl rfl ?_
                    refine gM rfl rfl ?_
                    refine g_do rfl rfl rfl ?_
                    refine gM rfl rfl ?_
                    replace hF := obind hF
                    obtain ⟨s61, hF, hK61⟩ := hF
                    refine go_joinr 5 (β := Option Addr × List Blk) (fun s h' => AccR (RI_ .u64 29) 29 h' s.2 (.slice s.1 s61.2.2.1.length s61.2.2.1.length) s61.2.2.1) (fun s => [(2, true, .slice a2_0 p2.length c2_0), (6, true, .bool false), (7, true, .bool true), (9, true, .pointer (some ⟨b6_w0o0, 0, none⟩)), (10, true, .slice (some ⟨b38_7, 0, none⟩) 3 3), (11, true, .int .i64 y12_0), (12, true, .int .i64 s18), (13, true, .int .i64 x19.1), (14, true, .pointer (some ⟨b14_50, 0, none⟩)), (15, true, .bool x49.2.1), (16, true, .bool x52.1), (17, true, .pointer (some ⟨b17_55, 0, none⟩)), (18, true, .bool x54.2.1), (39, true, .int .i64 y12_0), (40, true, .bool (decide (y12_0 < 600))), (43, true, .int .i64 y12_0), (44, true, .int .i64 (Int.tmod y12_0 3)), (45, true, .int .i64 y12_0), (46, true, .slice a2_0 p2.length c2_0), (47, true, .int .i64 (p2.length : Int)), (48, true, .bool (decide (y12_0 < (p2.length : Int)))), (49, true, .bool s16.1), (54, true, .bool s16.2), (55, true, .pointer (some ⟨b6_w0o0, 0, none⟩)), (56, true, .int .i64 x19.1), (57, true, .tuple #[.agg #[.bool x49.1.Ok, .string x49.1.Key, .int .u64 x49.1.Val, .int .i64 x49.1.Err], .bool x49.2.1]), (58, true, .slice (some ⟨b38_7, 0, none⟩) 3 3), (59, true, .int .i64 s18), (60, true, .pointer (some ⟨b38_7, 2, none⟩)), (61, true, .pointer (some ⟨b10_w0, 0, none⟩)), (62, true, .tuple #[.agg #[.bool x49.1.Ok, .string x49.1.Key, .int .u64 x49.1.Val, .int .i64 x49.1.Err], .bool x49.2.1]), (63, true, .agg #[.bool x49.1.Ok, .string x49.1.Key, .int .u64 x49.1.Val, .int .i64 x49.1.Err]), (64, true, .bool x49.2.1), (65, true, .slice (some ⟨b38_7, 0, none⟩) 3 3), (66, true, .int .i64 s18), (67, true, .pointer (some ⟨b38_7, 2, none⟩)), (68, true, .pointer (some ⟨b10_w0, 0, none⟩)), (69, true, .bool x52.1), (70, true, .tuple #[.agg #[.bool x54.1.Ok, .string x54.1.Key, .int .u64 x54.1.Val, .int .i64 x54.1.Err], .bool x54.2.1]), (71, true, .slice (some ⟨b38_7, 0, none⟩) 3 3), (72, true, .int .i64 s18), (73, true, .pointer (some ⟨b38_7, 2, none⟩)), (74, true, .pointer (some ⟨b10_w0, 0, none⟩)), (75, true, .tuple #[.agg #[.bool x54.1.Ok, .string x54.1.Key, .int .u64 x54.1.Val, .int .i64 x54.1.Err], .bool x54.2.1]), (76, true, .agg #[.bool x54.1.Ok, .string x54.1.Key, .int .u64 x54.1.Val, .int .i64 x54.1.Err]), (77, true, .bool x54.2.1), (78, true, .pointer (some ⟨b6_w0o0, 0, none⟩)), (79, true, .int .i64 x56.1), (80, true, .int .i64 x19.1), (81, true, .int .i64 (IntKind.i64.wrap (x19.1 + 1))), (82, true, .bool (decide (x56.1 > (IntKind.i64.wrap (x19.1 + 1))))), (83, true, .bool false), (84, true, .bool x49.2.1), (85, true, .bool s61.1), (90, true, .bool s61.2.1)]) (fun s => (List.flatten [[⟨b6_w0o0, .cells [.slice s.1 s61.2.2.1.length s61.2.2.1.length, .int .i64 s61.2.2.2] 94⟩], s.2, [⟨b17_55, .cells [.bool x54.1.Ok, .string x54.1.Key, .int .u64 x54.1.Val, .int .i64 x54.1.Err] 32⟩], [⟨b6_w0, .cells [.pointer (some ⟨b6_w0o0, 0, none⟩), .slice q54_y0_1 x54.2.2.1.nodes.length x54.2.2.1.nodes.length, .slice q54_y0_2 x54.2.2.1.infos.length x54.2.2.1.infos.length] 83⟩], t54_y0_1, t54_y0_2, [⟨b10_w0, .cells [.bool x54.2.2.2.2.told_Ok, .string x54.2.2.2.2.told_Key, .int .u64 x54.2.2.2.2.told_Val, .int .i64 x54.2.2.2.2.told_Err, v54_y1_4] 114⟩], t54_y1_4, [⟨b14_50, .cells [.bool x49.1.Ok, .string x49.1.Key, .int .u64 x49.1.Val, .int .i64 x49.1.Err] 32⟩], [⟨b9_w0, .cells [.bool y12_10, .string y12_11, .int .u64 y12_12, .int .i64 y12_13, a12_8] 114⟩], a12_9, [⟨b8_w0, .cells [.bool y12_15, .string y12_16, .int .u64 y12_17, .int .i64 y12_18, a12_10] 114⟩], a12_11, [⟨b38_7, .cells [.pointer (some ⟨b8_w0, 0, none⟩), .pointer (some ⟨b9_w0, 0, none⟩), .pointer (some ⟨b10_w0, 0, none⟩)] 34⟩], [⟨b4_4, .cells [.int .i64 p1.x0.Kind, .string p1.x0.Key, .int .u64 p1.x0.Val, .int .i64 p1.x1.Kind, .string p1.x1.Key, .int .u64 p1.x1.Val] 54⟩]] : List Blk)) ?_ (fun J61 => ?_)
                    ·
                      rintro ⟨a61_0, a61_1⟩ h61 e61 w61 f61_2
                      replace hF := hK61
                      refine gr rfl (r_pkF (ot rfl) (ot rfl)) ?_
                      obtain rfl := someI hF
                      exact Goes.weak (J58 (a61_0, a61_1) _ e61 w61 f61_2) (Sub.cons (Sub.cons (Sub.cons (Sub.cons (Sub.cons (Sub.cons (Sub.cons (Sub.cons (Sub.cons (Sub.cons (Sub.cons (Sub.cons (Sub.cons (Sub.cons (Sub.cons (Sub.cons (Sub.cons (Sub.cons (Sub.cons (Sub.cons (Sub.cons (Sub.cons (Sub.cons (Sub.cons (Sub.cons (Sub.cons (Sub.cons (Sub.cons (Sub.cons (Sub.cons (Sub.cons (Sub.cons (Sub.cons (Sub.cons (Sub.cons (Sub.cons (Sub.cons (Sub.cons (Sub.cons (Sub.cons (Sub.cons (Sub.cons (Sub.cons (Sub.cons (Sub.cons (Sub.cons (Sub.cons (Sub.cons (Sub.cons (Sub.cons (Sub.cons (Sub.cons (Sub.cons (Sub.nil _) rfl) rfl) rfl) rfl) rfl) rfl) rfl) rfl) rfl) rfl) rfl) rfl) rfl) rfl) rfl) rfl) rfl) rfl) rfl) rfl) rfl) rfl) rfl) rfl) rfl) rfl) rfl) rfl) rfl) rfl) rfl) rfl) rfl) rfl) rfl) rfl) rfl) rfl) rfl) rfl) rfl) rfl) rfl) rfl) rfl) rfl) rfl) rfl) rfl) rfl) rfl) rfl) rfl)
                    ·
                      rcases Bool.eq_false_or_eq_true x49.2.1 with hb60 | hb60
                      ·
                        replace hF := ifT hb60 hF
                        refine go_re 85 (v2 := .bool true) rfl (congrArg Value.bool hb60) ?_
                        refine g_do rfl rfl rfl ?_
                        refine gM rfl rfl ?_
                        refine g_do rfl rfl rfl ?_
                        replace hF := obind hF
                        obtain ⟨x62, hx62, hF⟩ := hF
                        refine gs_call EE_fr w56 (.cons .z (.cons .z .nil)) (fun _ h => by cases h; rfl) of (os1 (ot rfl) os0) hb_24 (by exact s_mem_Mem_Count w56 (⟨x56.2.cells, x56.2.count⟩ : Omem_Mem) f56_0 hx62) ?_
                        rintro v62 S62 h62 e62 w62 ⟨q62_y0_0, t62_y0_0, rfl, rfl, f62_0⟩
                        simp only [List.cons_append, List.nil_append]
                        refine g_do rfl rfl rfl ?_
                        refine gM rfl rfl ?_
                        refine g_do rfl rfl rfl ?_
                        refine gr rfl (r_bin (ot rfl) (ot rfl) rfl) ?_
                        refine g_do rfl rfl rfl ?_
                        refine gr rfl (r_pkT (ot rfl) (ot rfl)) ?_
                        obtain rfl := someI hF
                        exact Goes.weak (J61 (q62_y0_0, t62_y0_0) _ e62 w62 f62_0) (Sub.cons (Sub.cons (Sub.cons (Sub.cons (Sub.cons (Sub.cons (Sub.cons (Sub.cons (Sub.cons (Sub.cons (Sub.cons (Sub.cons (Sub.cons (Sub.cons (Sub.cons (Sub.cons (Sub.cons (Sub.cons (Sub.cons (Sub.cons (Sub.cons (Sub.cons (Sub.cons (Sub.cons (Sub.cons (Sub.cons (Sub.cons (Sub.cons (Sub.cons (Sub.cons (Sub.cons (Sub.cons (Sub.cons (Sub.cons (Sub.cons (Sub.cons (Sub.cons (Sub.cons (Sub.cons (Sub.cons (Sub.cons (Sub.cons (Sub.cons (Sub.cons (Sub.cons (Sub.cons (Sub.cons (Sub.cons (Sub.cons (Sub.cons (Sub.cons (Sub.cons (Sub.cons (Sub.cons (Sub.cons (Sub.nil _) rfl) rfl) rfl) rfl) rfl) rfl) rfl) rfl) rfl) rfl) rfl) rfl) rfl) rfl) rfl) rfl) rfl) rfl) rfl) rfl) rfl) rfl) rfl) rfl) rfl) rfl) rfl) rfl) rfl) rfl) rfl) rfl) rfl) rfl) rfl) rfl) rfl) rfl) rfl) rfl) rfl) rfl) rfl) rfl) rfl) rfl) rfl) rfl) rfl) rfl) rfl) rfl) rfl) rfl) rfl)
                      ·
                        replace hF := ifF hb60 hF
                        refine go_re 85 (v2 := .bool false) rfl (congrArg Value.bool hb60) ?_
                        refine g_no rfl rfl rfl rfl rfl ?_
                        refine g_no rfl rfl rfl rfl rfl ?_
                        refine g_no rfl rfl rfl rfl rfl ?_
                        refine g_no rfl rfl rfl rfl rfl ?_
                        refine g_do rfl rfl rfl ?_
                        refine gr rfl (r_pkF (ot rfl) (oc rfl)) ?_
                        obtain rfl := someI hF
                        exact Goes.weak (J61 (q56_y0_0, t56_y0_0) _ (HExt.refl _) w56 f56_0) (Sub.cons (Sub.cons (Sub.cons (Sub.cons (Sub.cons (Sub.cons (Sub.cons (Sub.cons (Sub.cons (Sub.cons (Sub.cons (Sub.cons (Sub.cons (Sub.cons (Sub.cons (Sub.cons (Sub.cons (Sub.cons (Sub.cons (Sub.cons (Sub.cons (Sub.cons (Sub.cons (Sub.cons (Sub.cons (Sub.cons (Sub.cons (Sub.cons (Sub.cons (Sub.cons (Sub.cons (Sub.cons (Sub.cons (Sub.cons (Sub.cons (Sub.cons (Sub.cons (Sub.cons (Sub.cons (Sub.cons (Sub.cons (Sub.cons (Sub.cons (Sub.cons (Sub.cons (Sub.cons (Sub.cons (Sub.cons (Sub.cons (Sub.cons (Sub.cons (Sub.cons (Sub.cons (Sub.cons (Sub.cons (Sub.nil _) rfl) rfl) rfl) rfl) rfl) rfl) rfl) rfl) rfl) rfl) rfl) rfl) rfl) rfl) rfl) rfl) rfl) rfl) rfl) rfl) rfl) rfl) rfl) rfl) rfl) rfl) rfl) rfl) rfl) rfl) rfl) rfl) rfl) rfl) rfl) rfl) rfl) rfl) rfl) rfl) rfl) rfl) rfl) rfl) rfl) rfl) rfl) rfl) rfl) rfl) rfl) rfl) rfl) rfl) rfl)
              replace hF := ifN hk20_2 hF
              cases hF
            ·
              refine g_cond (b := s16.2) (ot rfl) (fun hc17 => ?_) (fun hc17 => ?_)
              ·
                replace hF := ifT hc17 hF
                refine go_region ?_
                refine gAc rfl rfl ?_
                refine go_nil ?_
                obtain rfl := someI hF
                exact Goes.weak (J18 () _ (HExt.refl _) w16 trivial) (Sub.cons (Sub.cons (Sub.cons (Sub.cons (Sub.cons (Sub.cons (Sub.cons (Sub.cons (Sub.cons (Sub.cons (Sub.cons (Sub.cons (Sub.cons (Sub.cons (Sub.cons (Sub.cons (Sub.cons (Sub.nil _) rfl) rfl) rfl) rfl) rfl) rfl) rfl) rfl) rfl) rfl) rfl) rfl) rfl) rfl) rfl) rfl) rfl)
              ·
                replace hF := ifF hc17 hF
                refine go_skip ?_
                obtain rfl := someI hF
                exact Goes.weak (J18 () _ (HExt.refl _) w16 trivial) (Sub.cons (Sub.cons (Sub.cons (Sub.cons (Sub.cons (Sub.cons (Sub.cons (Sub.cons (Sub.cons (Sub.cons (Sub.cons (Sub.cons (Sub.cons (Sub.cons (Sub.cons (Sub.cons (Sub.cons (Sub.nil _) rfl) rfl) rfl) rfl) rfl) rfl) rfl) rfl) rfl) rfl) rfl) rfl) rfl) rfl) rfl) rfl) rfl)
          ·
            rcases Bool.eq_false_or_eq_true (decide (y12_0 < (p2.length : Int))) with hb15 | hb15
            ·
              replace hF := ifT hb15 hF
              refine go_re 49 (v2 := .bool true) rfl (congrArg Value.bool hb15) ?_
              refine g_do rfl rfl rfl ?_
              refine gM rfl rfl ?_
              refine g_do rfl rfl rfl ?_
              refine gM rfl rfl ?_
              refine g_do rfl rfl rfl ?_
              replace hF := obind hF
              obtain ⟨x63, hx63, hF⟩ := hF
              obtain ⟨q63, row63, i63, cl63, rc63, sp63⟩ := ix (ik := .i64) (cap := c2_0) (E := EE) (((((f2_0.ext e6.kn).ext e8.kn).ext e9.kn).ext e10.kn).ext e12.kn) hx63 ut_55 sz_4 rfl
              obtain rfl := rc63
              refine gr rfl (r_ia (ot rfl) (ot rfl) i63) ?_
              refine g_do rfl rfl rfl ?_
              refine gr rfl (r_load (ot rfl) (v := .bool x63) (lo_e (fun hf kn => ld_one ag_4 (kn.cellsAt cl63)))) ?_
              refine gr rfl (r_pkT (ot rfl) (ot rfl)) ?_
              obtain rfl := someI hF
              exact Goes.weak (J16 () _ (HExt.refl _) w12 trivial) (Sub.cons (Sub.cons (Sub.cons (Sub.cons (Sub.cons (Sub.cons (Sub.cons (Sub.cons (Sub.cons (Sub.cons (Sub.cons (Sub.cons (Sub.cons (Sub.cons (Sub.cons (Sub.cons (Sub.cons (Sub.nil _) rfl) rfl) rfl) rfl) rfl) rfl) rfl) rfl) rfl) rfl) rfl) rfl) rfl) rfl) rfl) rfl) rfl)
            ·
              replace hF := ifF hb15 hF
              refine go_re 49 (v2 := .bool false) rfl (congrArg Value.bool hb15) ?_
              refine g_no rfl rfl rfl rfl rfl ?_
              refine g_no rfl rfl rfl rfl rfl ?_
              refine g_no rfl rfl rfl rfl rfl ?_
              refine g_no rfl rfl rfl rfl rfl ?_
              refine gr rfl (r_pkF (ot rfl) (oc rfl)) ?_
              obtain rfl := someI hF
              exact Goes.weak (J16 () _ (HExt.refl _) w12 trivial) (Sub.cons (Sub.cons (Sub.cons (Sub.cons (Sub.cons (Sub.cons (Sub.cons (Sub.cons (Sub.cons (Sub.cons (Sub.cons (Sub.cons (Sub.cons (Sub.cons (Sub.cons (Sub.cons (Sub.cons (Sub.nil _) rfl) rfl) rfl) rfl) rfl) rfl) rfl) rfl) rfl) rfl) rfl) rfl) rfl) rfl) rfl) rfl) rfl)
      ·
        replace hF := ifF hc13 hF
        refine go_exit rfl ?_
        obtain rfl := someI hF
        exact Goes.weak (J11 ((y12_1, y12_2, y12_3, y12_4, y12_5, y12_6, y12_7, y12_8, y12_9, y12_10, y12_11, y12_12, y12_13, y12_14, y12_15, y12_16, y12_17, y12_18, y12_19), a12_0, a12_1, a12_2, a12_3, a12_4, a12_5, a12_6, a12_7, a12_8, a12_9, a12_10, a12_11) _ e12 w12 ⟨rfl, f12_1, f12_2, f12_3, f12_9, f12_14, f12_19⟩) (Sub.cons (Sub.cons (Sub.nil _) rfl) rfl)
end Go.Proofs.Ytndhbaidibioeaa.V
