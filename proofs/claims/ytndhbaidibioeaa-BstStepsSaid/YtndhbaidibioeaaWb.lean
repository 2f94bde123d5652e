/- Walks.
   No condition: these are laws of the clean machine and of this program. -/
import Derived.Test.YtndhbaidibioeaaWa
namespace Go.Proofs.Ytndhbaidibioeaa.V
open Go
set_option linter.unusedVariables false
set_option linter.unusedSimpArgs false
set_option maxRecDepth 100000
set_option maxHeartbeats 4000000
theorem s_bst_Tree_insert_2 {rc : RC} (hrc : RCok rc) {h : Heap} (hw : Wf h) (p0 : Obst_Tree) (p0o0 : Omem_Mem) (p1 : Obst_Call) (p2 : Tbst_seen) (p4 : Tbst_node) (p6 : Clo) {bp0 : Nat} {q0_1 : Option Addr} {t0_1 : List Blk} {q0_2 : Option Addr} {t0_2 : List Blk} {bp0o0 : Nat} {q0o0_0 : Option Addr} {t0o0_0 : List Blk} {bp1 : Nat} {v1_4 : Value} {b3 : Nat} {b4 : Nat} {b5 : Nat} {b6 : Nat} {v6 : Value} (f0_1 : AccR R_Tbst_node 89 h t0_1 (.slice q0_1 p0.nodes.length p0.nodes.length) p0.nodes) (f0_2 : AccR R_Tbst_info 86 h t0_2 (.slice q0_2 p0.infos.length p0.infos.length) p0.infos) (f0o0_0 : AccR (RI_ .u64 29) 29 h t0o0_0 (.slice q0o0_0 p0o0.cells.length p0o0.cells.length) p0o0.cells) (g3 : BK h b3 [.pointer (some ⟨bp0, 0, none⟩)] 24) (g4 : BK h b4 [.string p4.key, .int .i64 p4.top, .int .u64 p4.val, .int .i64 p4.cell] 89) (g5 : BK h b5 [.pointer (some ⟨bp1, 0, none⟩)] 34) (g6 : BK h b6 [v6] 101) (c6 : CO h bp0 bp1 [] p6 v6) {r : (Option Clo) × Obst_Tree × Omem_Mem × Obst_Call} (hF : F_bst_Tree_insert_2 rc p0 p0o0 p1 p2 p4 p6 = some r) :
    EvO EE 75 [.agg #[.int .i64 p2.grand, .int .i64 p2.parent, .int .i64 p2.leaf, .int .u64 p2.grandWord, .int .u64 p2.parentWord, .int .i64 p2.turn], .pointer (some ⟨b3, 0, none⟩), .pointer (some ⟨b4, 0, none⟩), .pointer (some ⟨b5, 0, none⟩), .pointer (some ⟨b6, 0, none⟩)] [[⟨bp0, .cells [.pointer (some ⟨bp0o0, 0, none⟩), .slice q0_1 p0.nodes.length p0.nodes.length, .slice q0_2 p0.infos.length p0.infos.length] 83⟩], t0_1, t0_2, [⟨bp0o0, .cells [.slice q0o0_0 p0o0.cells.length p0o0.cells.length, .int .i64 p0o0.count] 94⟩], t0o0_0, [⟨bp1, .cells [.bool p1.told_Ok, .string p1.told_Key, .int .u64 p1.told_Val, .int .i64 p1.told_Err, v1_4] 114⟩]] h (fun v S h1 => ∃ qy0_1 ty0_1 qy0_2 ty0_2 qy0o0_0 ty0o0_0 vy1_4 vr tr, v = vr ∧ S = [[⟨bp0, .cells [.pointer (some ⟨bp0o0, 0, none⟩), .slice qy0_1 r.2.1.nodes.length r.2.1.nodes.length, .slice qy0_2 r.2.1.infos.length r.2.1.infos.length] 83⟩], ty0_1, ty0_2, [⟨bp0o0, .cells [.slice qy0o0_0 r.2.2.1.cells.length r.2.2.1.cells.length, .int .i64 r.2.2.1.count] 94⟩], ty0o0_0, [⟨bp1, .cells [.bool r.2.2.2.told_Ok, .string r.2.2.2.told_Key, .int .u64 r.2.2.2.told_Val, .int .i64 r.2.2.2.told_Err, vy1_4] 114⟩], tr] ∧ AccR R_Tbst_node 89 h1 ty0_1 (.slice qy0_1 r.2.1.nodes.length r.2.1.nodes.length) r.2.1.nodes ∧ AccR R_Tbst_info 86 h1 ty0_2 (.slice qy0_2 r.2.1.infos.length r.2.1.infos.length) r.2.1.infos ∧ AccR (RI_ .u64 29) 29 h1 ty0o0_0 (.slice qy0o0_0 r.2.2.1.cells.length r.2.2.1.cells.length) r.2.2.1.cells ∧ OC h1 bp0 bp1 tr r.1 vr) := by
  unfold F_bst_Tree_insert_2 at hF
  refine evo_of rfl at_75 rfl rfl ?_
  refine go_seq ?_
  refine go_region ?_
  refine gs_box rfl (ot rfl) rfl ?_; intro b5_8
  refine gAc rfl rfl ?_
  refine go_nil ?_
  refine go_seq ?_
  refine go_block ?_
  refine go_seq ?_
  refine go_region ?_
  refine gr rfl (r_load (ot rfl) (v := .pointer (some ⟨bp0, 0, none⟩)) (lo_e (fun hf kn => ld_cell ag_24 (g3.ext kn) rfl))) ?_
  refine gr rfl (r_fa (ot rfl) (fa_105_2 _ _)) ?_
  refine gr rfl (r_load (ot rfl) (lm_s (mem_seg 0 rfl) ag_3 rfl)) ?_
  refine gr rfl (r_load (ot rfl) (v := .agg #[.string p4.key, .int .i64 p4.top, .int .u64 p4.val, .int .i64 p4.cell]) (lo_e (fun hf kn => ld_bk ag_89 sz_89 (g4.ext kn) (Nat.le_of_ble_eq_true rfl) rfl))) ?_
  replace hF := obind hF
  obtain ⟨x9, hx9, hF⟩ := hF
  refine gs_call EE_fr hw (.cons (.s (.z)) (.cons (.s (.z)) (.cons (.s (.z)) (.cons (.s (.z)) (.cons (.s (.z)) .nil))))) (fun _ h => by cases h; rfl) of (os1 (ot rfl) (os1 (ot rfl) (os1 (ot rfl) os0))) hb_61 (by exact s_bst_Tree_is hw p0 p0o0 p2.leaf p4 f0_1 f0_2 f0o0_0 hx9) ?_
  rintro v9 S9 h9 e9 w9 ⟨q9_y0_1, t9_y0_1, q9_y0_2, t9_y0_2, q9_y0o0_0, t9_y0o0_0, rfl, rfl, f9_0, f9_1, f9_2⟩
  simp only [List.cons_append, List.nil_append]
  refine gA rfl rfl ?_
  refine go_nil ?_
  refine g_cond (b := x9.1) (ot rfl) (fun hc10 => ?_) (fun hc10 => ?_)
  ·
    replace hF := ifT hc10 hF
    refine go_seq ?_
    refine go_regions (L := [(0, []), (1, []), (2, []), (3, []), (4, []), (5, []), (6, []), (7, []), (8, []), (9, []), (10, []), (11, [])]) (by kernel_rfl) (by kernel_rfl) (fun _ => rfl) ?_
    refine go_sop rfl rfl ?_
    refine gr rfl (r_load (ot rfl) (v := .pointer (some ⟨bp1, 0, none⟩)) (lo_e (fun hf kn => ld_cell ag_34 ((g5.ext e9.kn).ext kn) rfl))) ?_
    refine go_nil ?_
    refine go_sop rfl rfl ?_
    refine gr rfl (r_load (ot rfl) (v := .pointer (some ⟨bp0, 0, none⟩)) (lo_e (fun hf kn => ld_cell ag_24 ((g3.ext e9.kn).ext kn) rfl))) ?_
    refine go_nil ?_
    refine go_sop rfl rfl ?_
    refine gr rfl (r_nilck (ot rfl)) ?_
    refine go_nil ?_
    refine go_sop rfl rfl ?_
    refine gr rfl (r_fa (ot rfl) (fa_83_1 _ _)) ?_
    refine go_nil ?_
    refine go_sop rfl rfl ?_
    refine gr rfl (r_load (ot rfl) (lm_s (mem_seg 0 rfl) ag_80 rfl)) ?_
    refine go_nil ?_
    refine go_sop rfl rfl ?_
    refine gr rfl (r_fa (ot rfl) (fa_105_2 _ _)) ?_
    refine go_nil ?_
    refine go_sop rfl rfl ?_
    refine gr rfl (r_load (ot rfl) (lm_s (mem_seg 5 rfl) ag_3 rfl)) ?_
    refine go_nil ?_
    refine go_sop rfl rfl ?_
    replace hF := obind hF
    obtain ⟨x11, hx11, hF⟩ := hF
    obtain ⟨bb11, rw11, row11, hp11, ht11, hR11, hw11, rc11, hz11, hi11, hd11, hb11, hl11⟩ := AccR.at_ f9_0 hx11
    have hF11_ := hF
    subst hp11; subst ht11
    replace hF := hF11_
    obtain rfl := rc11
    refine gr rfl (r_ia (ot rfl) (ot rfl) (ia_acc (k := 4) ut_80 sz_89 hz11 hi11)) ?_
    refine go_nil ?_
    refine go_sop rfl rfl ?_
    refine gr rfl (r_fa (ot rfl) (fa_89_2 _ _)) ?_
    refine go_nil ?_
    refine go_sop rfl rfl ?_
    refine gr rfl (r_load (ot rfl) (lm_s (mem_seg 1 rfl) ag_29 (acc_cell (j := 2) hd11 rfl))) ?_
    refine go_nil ?_
    refine go_sop rfl rfl ?_
    replace hF := obind hF
    obtain ⟨x12, hx12, hF⟩ := hF
    refine gs_call EE_fr w9 (.cons .z (.cons .z (.cons .z (.cons .z (.cons .z (.cons (.s (.z)) .nil)))))) (fun _ h => by cases h; rfl) of (os1 (ot rfl) (os1 (oc rfl) (os1 (ot rfl) os0))) hb_53 (by exact s_bst_Call_tell hrc w9 (⟨x9.2.1.nodes, x9.2.1.infos⟩ : Obst_Tree) (⟨x9.2.2.cells, x9.2.2.count⟩ : Omem_Mem) p1 false x11.val f9_0 f9_1 f9_2 hx12) ?_
    rintro v12 S12 h12 e12 w12 ⟨q12_y0_1, t12_y0_1, q12_y0_2, t12_y0_2, q12_y0o0_0, t12_y0o0_0, v12_y1_4, v12_r, t12_r, rfl, rfl, f12_0, f12_1, f12_2, f12_3⟩
    simp only [List.cons_append, List.nil_append]
    refine go_nil ?_
    refine go_sop rfl rfl ?_
    refine gA rfl rfl ?_
    refine go_nil ?_
    refine go_snil ?_
    obtain rfl := someI hF
    refine gs_sub (.cons_cons _ (.cons_cons _ (.cons_cons _ (.cons_cons _ (.cons_cons _ (.cons_cons _ (.cons_cons _ (.cons _ (.refl _))))))))) ?_
    exact g_ret (rst rfl rs0) (fun h1 hf hs => ⟨[[⟨bp0, .cells [.pointer (some ⟨bp0o0, 0, none⟩), .slice q12_y0_1 x12.2.1.nodes.length x12.2.1.nodes.length, .slice q12_y0_2 x12.2.1.infos.length x12.2.1.infos.length] 83⟩], t12_y0_1, t12_y0_2, [⟨bp0o0, .cells [.slice q12_y0o0_0 x12.2.2.1.cells.length x12.2.2.1.cells.length, .int .i64 x12.2.2.1.count] 94⟩], t12_y0o0_0, [⟨bp1, .cells [.bool x12.2.2.2.told_Ok, .string x12.2.2.2.told_Key, .int .u64 x12.2.2.2.told_Val, .int .i64 x12.2.2.2.told_Err, v12_y1_4] 114⟩], t12_r], _, hf, (e9.trans e12), w12, hs, (ndb (by intro e; cases e) (ndt f12_0 (ndt f12_1 (ndb (by intro e; cases e) (ndt f12_2 (ndb (by intro e; cases e) (ndc f12_3 nd0))))))), ⟨_, _, _, _, _, _, _, _, _, rfl, rfl, f12_0, f12_1, f12_2, f12_3⟩⟩)
  ·
    replace hF := ifF hc10 hF
    refine go_seq ?_
    refine go_region ?_
    refine gr rfl (r_fa (ot rfl) (fa_105_4 _ _)) ?_
    refine gr rfl (r_load (ot rfl) (lm_s (mem_seg 5 rfl) ag_29 rfl)) ?_
    replace hF := obind hF
    obtain ⟨x13, hx13, hF⟩ := hF
    refine g_callp (v := .int .i64 x13) EE_fr rfl of (os1 (ot rfl) os0) hb_76 (fun _ => rfl) (fun hf kn w => by exact s_word_State w p2.parentWord  hx13) ?_
    refine gr rfl (r_bin (ot rfl) (oc rfl) rfl) ?_
    refine gA rfl rfl ?_
    refine go_nil ?_
    refine g_cond (b := (x13 != 0)) (ot rfl) (fun hc14 => ?_) (fun hc14 => ?_)
    ·
      replace hF := ifT hc14 hF
      refine go_seq ?_
      refine go_region ?_
      refine gr rfl (r_load (ot rfl) (v := .pointer (some ⟨bp0, 0, none⟩)) (lo_e (fun hf kn => ld_cell ag_24 ((g3.ext e9.kn).ext kn) rfl))) ?_
      refine gr rfl (r_fa (ot rfl) (fa_105_4 _ _)) ?_
      refine gr rfl (r_load (ot rfl) (lm_s (mem_seg 5 rfl) ag_29 rfl)) ?_
      refine gr rfl (r_load (ot rfl) (v := v6) (lo_e (fun hf kn => ld_cell ag_101 ((g6.ext e9.kn).ext kn) rfl))) ?_
      replace hF := obind hF
      obtain ⟨x15, hx15, hF⟩ := hF
      refine gs_call EE_fr w9 (.cons .z (.cons .z (.cons .z (.cons .z (.cons .z (.cons (.s (.z)) .nil)))))) (fun _ h => by cases h; rfl) of (os1 (ot rfl) (os1 (ot rfl) (os1 (ot rfl) os0))) hb_77 (by exact s_bst_Tree_help hrc w9 (⟨x9.2.1.nodes, x9.2.1.infos⟩ : Obst_Tree) (⟨x9.2.2.cells, x9.2.2.count⟩ : Omem_Mem) p1 p2.parentWord p6 f9_0 f9_1 f9_2 (c6.ext e9.kn) hx15) ?_
      rintro v15 S15 h15 e15 w15 ⟨q15_y0_1, t15_y0_1, q15_y0_2, t15_y0_2, q15_y0o0_0, t15_y0o0_0, v15_y1_4, v15_r, t15_r, rfl, rfl, f15_0, f15_1, f15_2, f15_3⟩
      simp only [List.cons_append, List.nil_append]
      refine gA rfl rfl ?_
      refine go_nil ?_
      obtain rfl := someI hF
      refine gs_sub (.cons_cons _ (.cons_cons _ (.cons_cons _ (.cons_cons _ (.cons_cons _ (.cons_cons _ (.cons_cons _ (.cons _ (.refl _))))))))) ?_
      exact g_ret (rst rfl rs0) (fun h1 hf hs => ⟨[[⟨bp0, .cells [.pointer (some ⟨bp0o0, 0, none⟩), .slice q15_y0_1 x15.2.1.nodes.length x15.2.1.nodes.length, .slice q15_y0_2 x15.2.1.infos.length x15.2.1.infos.length] 83⟩], t15_y0_1, t15_y0_2, [⟨bp0o0, .cells [.slice q15_y0o0_0 x15.2.2.1.cells.length x15.2.2.1.cells.length, .int .i64 x15.2.2.1.count] 94⟩], t15_y0o0_0, [⟨bp1, .cells [.bool x15.2.2.2.told_Ok, .string x15.2.2.2.told_Key, .int .u64 x15.2.2.2.told_Val, .int .i64 x15.2.2.2.told_Err, v15_y1_4] 114⟩], t15_r], _, hf, (e9.trans e15), w15, hs, (ndb (by intro e; cases e) (ndt f15_0 (ndt f15_1 (ndb (by intro e; cases e) (ndt f15_2 (ndb (by intro e; cases e) (ndc f15_3 nd0))))))), ⟨_, _, _, _, _, _, _, _, _, rfl, rfl, f15_0, f15_1, f15_2, f15_3⟩⟩)
    ·
      replace hF := ifF hc14 hF
      refine go_skip ?_
      refine go_endb ?_
      refine go_seq ?_
      refine go_region ?_
      refine gr rfl (r_load (ot rfl) (v := .pointer (some ⟨bp0, 0, none⟩)) (lo_e (fun hf kn => ld_cell ag_24 ((g3.ext e9.kn).ext kn) rfl))) ?_
      refine gr rfl (r_nilck (ot rfl)) ?_
      refine gr rfl (r_fa (ot rfl) (fa_83_0 _ _)) ?_
      refine gr rfl (r_load (ot rfl) (lm_s (mem_seg 0 rfl) ag_26 rfl)) ?_
      replace hF := obind hF
      obtain ⟨x16, hx16, hF⟩ := hF
      refine gs_call EE_fr w9 (.cons (.s (.s (.s (.z)))) (.cons (.s (.s (.s (.z)))) .nil)) (fun _ h => by cases h; rfl) of (os1 (ot rfl) (os1 (oc rfl) os0)) hb_38 (by exact s_mem_Mem_Grow w9 (⟨x9.2.2.cells, x9.2.2.count⟩ : Omem_Mem) 3 f9_2 hx16) ?_
      rintro v16 S16 h16 e16 w16 ⟨q16_y0_0, t16_y0_0, rfl, rfl, f16_0⟩
      simp only [List.cons_append, List.nil_append]
      refine gM rfl rfl ?_
      refine gE rfl rfl rfl ?_
      refine gE rfl rfl rfl ?_
      refine gA rfl rfl ?_
      refine gA rfl rfl ?_
      refine go_nil ?_
      refine go_seq ?_
      refine go_seq ?_
      refine go_region ?_
      refine gM rfl rfl ?_
      refine gr rfl (r_bin (ot rfl) (oc rfl) rfl) ?_
      refine go_nil ?_
      refine g_cond (b := (x16.2.1 != 0)) (ot rfl) (fun hc17 => ?_) (fun hc17 => ?_)
      ·
        replace hF := ifT hc17 hF
        refine go_seq ?_
        refine go_region ?_
        refine gr rfl (r_load (ot rfl) (v := .pointer (some ⟨bp1, 0, none⟩)) (lo_e (fun hf kn => ld_cell ag_34 (((g5.ext e9.kn).ext e16.kn).ext kn) rfl))) ?_
        refine gr rfl (r_fa (ot rfl) (fa_89_0 _ _)) ?_
        refine gr rfl (r_load (ot rfl) (v := .string p4.key) (lo_e (fun hf kn => ld_cell ag_9 (((g4.ext e9.kn).ext e16.kn).ext kn) rfl))) ?_
        refine gM rfl rfl ?_
        refine gr rfl (r_build (op1 (ot rfl) (op1 (ot rfl) op0)) rfl) ?_
        refine gr rfl (r_nilck (ot rfl)) ?_
        refine gr rfl (r_fa (ot rfl) (fa_114_0 _ _)) ?_
        refine gs_store (ot rfl) (ot rfl) sz_32 rfl rfl rfl rfl rfl (.s (.s (.s (.s (.s (.s (.z))))))) ?_
        refine go_nil ?_
        refine go_seq ?_
        refine go_region ?_
        refine gAc rfl rfl ?_
        refine go_nil ?_
        obtain rfl := someI hF
        refine gs_sub (.cons_cons _ (.cons_cons _ (.cons_cons _ (.cons_cons _ (.cons_cons _ (.cons _ (.cons_cons _ (.refl _)))))))) ?_
        refine gs_perm (perm_of (d := []) _ [2, 3, 4, 0, 1, 5] rfl) ?_
        exact g_ret (rst rfl rs0) (fun h1 hf hs => ⟨[[⟨bp0, .cells [.pointer (some ⟨bp0o0, 0, none⟩), .slice q9_y0_1 x9.2.1.nodes.length x9.2.1.nodes.length, .slice q9_y0_2 x9.2.1.infos.length x9.2.1.infos.length] 83⟩], t9_y0_1, t9_y0_2, [⟨bp0o0, .cells [.slice q16_y0_0 x16.2.2.cells.length x16.2.2.cells.length, .int .i64 x16.2.2.count] 94⟩], t16_y0_0, [⟨bp1, .cells [.bool false, .string p4.key, .int .u64 0, .int .i64 x16.2.1, v1_4] 114⟩], []], _, hf, (e9.trans e16), w16, hs, (ndb (by intro e; cases e) (ndt (f9_0.ext e16.kn) (ndt (f9_1.ext e16.kn) (ndb (by intro e; cases e) (ndt f16_0 (ndb (by intro e; cases e) (nde nd0))))))), ⟨_, _, _, _, _, _, _, _, _, rfl, rfl, (f9_0.ext e16.kn), (f9_1.ext e16.kn), f16_0, OC.none⟩⟩)
      ·
        replace hF := ifF hc17 hF
        refine go_skip ?_
        refine go_seq ?_
        refine go_region ?_
        refine gr rfl (r_load (ot rfl) (v := .pointer (some ⟨bp0, 0, none⟩)) (lo_e (fun hf kn => ld_cell ag_24 (((g3.ext e9.kn).ext e16.kn).ext kn) rfl))) ?_
        refine gr rfl (r_load (ot rfl) (v := .pointer (some ⟨bp1, 0, none⟩)) (lo_e (fun hf kn => ld_cell ag_34 (((g5.ext e9.kn).ext e16.kn).ext kn) rfl))) ?_
        refine gr rfl (r_load (ot rfl) (v := .agg #[.string p4.key, .int .i64 p4.top, .int .u64 p4.val, .int .i64 p4.cell]) (lo_e (fun hf kn => ld_bk ag_89 sz_89 (((g4.ext e9.kn).ext e16.kn).ext kn) (Nat.le_of_ble_eq_true rfl) rfl))) ?_
        refine gr rfl (r_load (ot rfl) (lm_w (mem_seg 5 rfl) ag_105 sz_105 rfl)) ?_
        refine gM rfl rfl ?_
        replace hF := obind hF
        obtain ⟨x18, hx18, hF⟩ := hF
        refine gs_call EE_fr w16 (.cons (.s (.s (.z))) (.cons (.s (.s (.z))) (.cons (.s (.s (.z))) (.cons .z (.cons .z (.cons (.s (.z)) .nil)))))) (fun _ h => by cases h; rfl) of (os1 (ot rfl) (os1 (ot rfl) (os1 (ot rfl) (os1 (ot rfl) (os1 (ot rfl) os0))))) hb_78 (by exact s_bst_Tree_grow hrc w16 (⟨x9.2.1.nodes, x9.2.1.infos⟩ : Obst_Tree) (⟨x16.2.2.cells, x16.2.2.count⟩ : Omem_Mem) p1 p4 p2 x16.1 (f9_0.ext e16.kn) (f9_1.ext e16.kn) f16_0 hx18) ?_
        rintro v18 S18 h18 e18 w18 ⟨q18_y0_1, t18_y0_1, q18_y0_2, t18_y0_2, q18_y0o0_0, t18_y0o0_0, v18_y1_4, v18_r, t18_r, rfl, rfl, f18_0, f18_1, f18_2, f18_3⟩
        simp only [List.cons_append, List.nil_append]
        refine gA rfl rfl ?_
        refine go_nil ?_
        obtain rfl := someI hF
        refine gs_sub (.cons_cons _ (.cons_cons _ (.cons_cons _ (.cons_cons _ (.cons_cons _ (.cons_cons _ (.cons_cons _ (.cons _ (.refl _))))))))) ?_
        exact g_ret (rst rfl rs0) (fun h1 hf hs => ⟨[[⟨bp0, .cells [.pointer (some ⟨bp0o0, 0, none⟩), .slice q18_y0_1 x18.2.1.nodes.length x18.2.1.nodes.length, .slice q18_y0_2 x18.2.1.infos.length x18.2.1.infos.length] 83⟩], t18_y0_1, t18_y0_2, [⟨bp0o0, .cells [.slice q18_y0o0_0 x18.2.2.1.cells.length x18.2.2.1.cells.length, .int .i64 x18.2.2.1.count] 94⟩], t18_y0o0_0, [⟨bp1, .cells [.bool x18.2.2.2.told_Ok, .string x18.2.2.2.told_Key, .int .u64 x18.2.2.2.told_Val, .int .i64 x18.2.2.2.told_Err, v18_y1_4] 114⟩], t18_r], _, hf, (e9.trans (e16.trans e18)), w18, hs, (ndb (by intro e; cases e) (ndt f18_0 (ndt f18_1 (ndb (by intro e; cases e) (ndt f18_2 (ndb (by intro e; cases e) (ndc f18_3 nd0))))))), ⟨_, _, _, _, _, _, _, _, _, rfl, rfl, f18_0, f18_1, f18_2, f18_3⟩⟩)
theorem s_bst_Tree_remove {rc : RC} (hrc : RCok rc) {h : Heap} (hw : Wf h) (p0 : Obst_Tree) (p0o0 : Omem_Mem) (p1 : Obst_Call) (p4 : Tbst_node) {bp0 : Nat} {q0_1 : Option Addr} {t0_1 : List Blk} {q0_2 : Option Addr} {t0_2 : List Blk} {bp0o0 : Nat} {q0o0_0 : Option Addr} {t0o0_0 : List Blk} {bp1 : Nat} {v1_4 : Value} (f0_1 : AccR R_Tbst_node 89 h t0_1 (.slice q0_1 p0.nodes.length p0.nodes.length) p0.nodes) (f0_2 : AccR R_Tbst_info 86 h t0_2 (.slice q0_2 p0.infos.length p0.infos.length) p0.infos) (f0o0_0 : AccR (RI_ .u64 29) 29 h t0o0_0 (.slice q0o0_0 p0o0.cells.length p0o0.cells.length) p0o0.cells) {r : (Option Clo) × Obst_Tree × Omem_Mem × Obst_Call} (hF : F_bst_Tree_remove rc p0 p0o0 p1 p4 = some r) :
    EvO EE 67 [.pointer (some ⟨bp0, 0, none⟩), .pointer (some ⟨bp1, 0, none⟩), .agg #[.string p4.key, .int .i64 p4.top, .int .u64 p4.val, .int .i64 p4.cell]] [[⟨bp0, .cells [.pointer (some ⟨bp0o0, 0, none⟩), .slice q0_1 p0.nodes.length p0.nodes.length, .slice q0_2 p0.infos.length p0.infos.length] 83⟩], t0_1, t0_2, [⟨bp0o0, .cells [.slice q0o0_0 p0o0.cells.length p0o0.cells.length, .int .i64 p0o0.count] 94⟩], t0o0_0, [⟨bp1, .cells [.bool p1.told_Ok, .string p1.told_Key, .int .u64 p1.told_Val, .int .i64 p1.told_Err, v1_4] 114⟩]] h (fun v S h1 => ∃ qy0_1 ty0_1 qy0_2 ty0_2 qy0o0_0 ty0o0_0 vy1_4 vr tr, v = vr ∧ S = [[⟨bp0, .cells [.pointer (some ⟨bp0o0, 0, none⟩), .slice qy0_1 r.2.1.nodes.length r.2.1.nodes.length, .slice qy0_2 r.2.1.infos.length r.2.1.infos.length] 83⟩], ty0_1, ty0_2, [⟨bp0o0, .cells [.slice qy0o0_0 r.2.2.1.cells.length r.2.2.1.cells.length, .int .i64 r.2.2.1.count] 94⟩], ty0o0_0, [⟨bp1, .cells [.bool r.2.2.2.told_Ok, .string r.2.2.2.told_Key, .int .u64 r.2.2.2.told_Val, .int .i64 r.2.2.2.told_Err, vy1_4] 114⟩], tr] ∧ AccR R_Tbst_node 89 h1 ty0_1 (.slice qy0_1 r.2.1.nodes.length r.2.1.nodes.length) r.2.1.nodes ∧ AccR R_Tbst_info 86 h1 ty0_2 (.slice qy0_2 r.2.1.infos.length r.2.1.infos.length) r.2.1.infos ∧ AccR (RI_ .u64 29) 29 h1 ty0o0_0 (.slice qy0o0_0 r.2.2.1.cells.length r.2.2.1.cells.length) r.2.2.1.cells ∧ OC h1 bp0 bp1 tr r.1 vr) := by
  unfold F_bst_Tree_remove at hF
  refine evo_of rfl at_67 rfl rfl ?_
  refine go_seq ?_
  refine go_region ?_
  refine gs_box rfl (ot rfl) rfl ?_; intro b3_6
  refine gs_box rfl (ot rfl) rfl ?_; intro b4_7
  refine gs_box rfl (ot rfl) rfl ?_; intro b5_8
  refine gAc rfl rfl ?_
  refine go_nil ?_
  refine go_seq ?_
  refine go_region ?_
  refine gr rfl (r_func os0 (os1 (ot rfl) (os1 (ot rfl) (os1 (ot rfl) os0)))) ?_
  refine gs_alloc rfl zo_101 rfl ?_; intro b7_9
  refine gs_store (ot rfl) (ot rfl) sz_101 rfl rfl rfl rfl rfl .z ?_
  refine go_nil ?_
  refine go_seq ?_
  refine go_region ?_
  refine gr rfl (r_load (ot rfl) (lm_s (mem_seg 3 rfl) ag_24 rfl)) ?_
  refine gr rfl (r_load (ot rfl) (lm_w (mem_seg 1 rfl) ag_89 sz_89 rfl)) ?_
  refine gr rfl (r_func os0 (os1 (ot rfl) (os1 (ot rfl) (os1 (ot rfl) (os1 (ot rfl) os0))))) ?_
  refine gs_pub (.s (.s (.s (.z)))) (fun h11 e11 w11 hb11 => ?_)
  have g11_ : BK h11 b3_6 [.pointer (some ⟨bp0, 0, none⟩)] 24 := hb11
  refine gs_pub (.s (.z)) (fun h12 e12 w12 hb12 => ?_)
  have g12_ : BK h12 b5_8 [.string p4.key, .int .i64 p4.top, .int .u64 p4.val, .int .i64 p4.cell] 89 := hb12
  refine gs_pub (.s (.z)) (fun h13 e13 w13 hb13 => ?_)
  have g13_ : BK h13 b4_7 [.pointer (some ⟨bp1, 0, none⟩)] 34 := hb13
  have co14 : CO h13 bp0 bp1 [] (Clo.c_remove_1 p4) (.func (.func 85) #[] #[.pointer (some ⟨b3_6, 0, none⟩), .pointer (some ⟨b4_7, 0, none⟩), .pointer (some ⟨b5_8, 0, none⟩)]) := CO.c_remove_1 ((g11_.ext e12.kn).ext e13.kn) g13_ (g12_.ext e13.kn)
  refine gs_pub .z (fun h15 e15 w15 hb15 => ?_)
  have g15_ : BK h15 b7_9 [(.func (.func 85) #[] #[.pointer (some ⟨b3_6, 0, none⟩), .pointer (some ⟨b4_7, 0, none⟩), .pointer (some ⟨b5_8, 0, none⟩)])] 101 := hb15
  have co16 : CO h15 bp0 bp1 [] (Clo.c_remove_2 p4 (Clo.c_remove_1 p4)) (.func (.func 86) #[] #[.pointer (some ⟨b3_6, 0, none⟩), .pointer (some ⟨b5_8, 0, none⟩), .pointer (some ⟨b4_7, 0, none⟩), .pointer (some ⟨b7_9, 0, none⟩)]) := CO.c_remove_2 (((g11_.ext e12.kn).ext e13.kn).ext e15.kn) ((g12_.ext e13.kn).ext e15.kn) (g13_.ext e15.kn) g15_ (co14.ext e15.kn)
  replace hF := obind hF
  obtain ⟨x10, hx10, hF⟩ := hF
  refine gs_call EE_fr w15 (.cons .z (.cons .z (.cons .z (.cons .z (.cons .z (.cons .z .nil)))))) (fun _ h => by cases h; rfl) of (os1 (ot rfl) (os1 (ot rfl) (os1 (ot rfl) os0))) hb_49 (by exact s_bst_Tree_search hrc w15 p0 p0o0 p1 p4 (Clo.c_remove_2 p4 (Clo.c_remove_1 p4)) ((((f0_1.ext e11.kn).ext e12.kn).ext e13.kn).ext e15.kn) ((((f0_2.ext e11.kn).ext e12.kn).ext e13.kn).ext e15.kn) ((((f0o0_0.ext e11.kn).ext e12.kn).ext e13.kn).ext e15.kn) co16 hx10) ?_
  rintro v10 S10 h10 e10 w10 ⟨q10_y0_1, t10_y0_1, q10_y0_2, t10_y0_2, q10_y0o0_0, t10_y0o0_0, v10_y1_4, v10_r, t10_r, rfl, rfl, f10_0, f10_1, f10_2, f10_3⟩
  simp only [List.cons_append, List.nil_append]
  refine gA rfl rfl ?_
  refine go_nil ?_
  obtain rfl := someI hF
  exact g_ret (rst rfl rs0) (fun h1 hf hs => ⟨[[⟨bp0, .cells [.pointer (some ⟨bp0o0, 0, none⟩), .slice q10_y0_1 x10.2.1.nodes.length x10.2.1.nodes.length, .slice q10_y0_2 x10.2.1.infos.length x10.2.1.infos.length] 83⟩], t10_y0_1, t10_y0_2, [⟨bp0o0, .cells [.slice q10_y0o0_0 x10.2.2.1.cells.length x10.2.2.1.cells.length, .int .i64 x10.2.2.1.count] 94⟩], t10_y0o0_0, [⟨bp1, .cells [.bool x10.2.2.2.told_Ok, .string x10.2.2.2.told_Key, .int .u64 x10.2.2.2.told_Val, .int .i64 x10.2.2.2.told_Err, v10_y1_4] 114⟩], t10_r], _, hf, (e11.trans (e12.trans (e13.trans (e15.trans e10)))), w10, hs, (ndb (by intro e; cases e) (ndt f10_0 (ndt f10_1 (ndb (by intro e; cases e) (ndt f10_2 (ndb (by intro e; cases e) (ndc f10_3 nd0))))))), ⟨_, _, _, _, _, _, _, _, _, rfl, rfl, f10_0, f10_1, f10_2, f10_3⟩⟩)
theorem s_bst_Tree_remove_1 {rc : RC} (hrc : RCok rc) {h : Heap} (hw : Wf h) (p0 : Obst_Tree) (p0o0 : Omem_Mem) (p1 : Obst_Call) (p4 : Tbst_node) {bp0 : Nat} {q0_1 : Option Addr} {t0_1 : List Blk} {q0_2 : Option Addr} {t0_2 : List Blk} {bp0o0 : Nat} {q0o0_0 : Option Addr} {t0o0_0 : List Blk} {bp1 : Nat} {v1_4 : Value} {b2 : Nat} {b3 : Nat} {b4 : Nat} (f0_1 : AccR R_Tbst_node 89 h t0_1 (.slice q0_1 p0.nodes.length p0.nodes.length) p0.nodes) (f0_2 : AccR R_Tbst_info 86 h t0_2 (.slice q0_2 p0.infos.length p0.infos.length) p0.infos) (f0o0_0 : AccR (RI_ .u64 29) 29 h t0o0_0 (.slice q0o0_0 p0o0.cells.length p0o0.cells.length) p0o0.cells) (g2 : BK h b2 [.pointer (some ⟨bp0, 0, none⟩)] 24) (g3 : BK h b3 [.pointer (some ⟨bp1, 0, none⟩)] 34) (g4 : BK h b4 [.string p4.key, .int .i64 p4.top, .int .u64 p4.val, .int .i64 p4.cell] 89) {r : (Option Clo) × Obst_Tree × Omem_Mem × Obst_Call} (hF : F_bst_Tree_remove_1 rc p0 p0o0 p1 p4 = some r) :
    EvO EE 85 [.pointer (some ⟨b2, 0, none⟩), .pointer (some ⟨b3, 0, none⟩), .pointer (some ⟨b4, 0, none⟩)] [[⟨bp0, .cells [.pointer (some ⟨bp0o0, 0, none⟩), .slice q0_1 p0.nodes.length p0.nodes.length, .slice q0_2 p0.infos.length p0.infos.length] 83⟩], t0_1, t0_2, [⟨bp0o0, .cells [.slice q0o0_0 p0o0.cells.length p0o0.cells.length, .int .i64 p0o0.count] 94⟩], t0o0_0, [⟨bp1, .cells [.bool p1.told_Ok, .string p1.told_Key, .int .u64 p1.told_Val, .int .i64 p1.told_Err, v1_4] 114⟩]] h (fun v S h1 => ∃ qy0_1 ty0_1 qy0_2 ty0_2 qy0o0_0 ty0o0_0 vy1_4 vr tr, v = vr ∧ S = [[⟨bp0, .cells [.pointer (some ⟨bp0o0, 0, none⟩), .slice qy0_1 r.2.1.nodes.length r.2.1.nodes.length, .slice qy0_2 r.2.1.infos.length r.2.1.infos.length] 83⟩], ty0_1, ty0_2, [⟨bp0o0, .cells [.slice qy0o0_0 r.2.2.1.cells.length r.2.2.1.cells.length, .int .i64 r.2.2.1.count] 94⟩], ty0o0_0, [⟨bp1, .cells [.bool r.2.2.2.told_Ok, .string r.2.2.2.told_Key, .int .u64 r.2.2.2.told_Val, .int .i64 r.2.2.2.told_Err, vy1_4] 114⟩], tr] ∧ AccR R_Tbst_node 89 h1 ty0_1 (.slice qy0_1 r.2.1.nodes.length r.2.1.nodes.length) r.2.1.nodes ∧ AccR R_Tbst_info 86 h1 ty0_2 (.slice qy0_2 r.2.1.infos.length r.2.1.infos.length) r.2.1.infos ∧ AccR (RI_ .u64 29) 29 h1 ty0o0_0 (.slice qy0o0_0 r.2.2.1.cells.length r.2.2.1.cells.length) r.2.2.1.cells ∧ OC h1 bp0 bp1 tr r.1 vr) := by
  unfold F_bst_Tree_remove_1 at hF
  refine evo_of rfl at_85 rfl rfl ?_
  refine go_seq ?_
  refine go_region ?_
  refine gAc rfl rfl ?_
  refine go_nil ?_
  refine go_seq ?_
  refine go_region ?_
  refine gr rfl (r_load (ot rfl) (v := .pointer (some ⟨bp0, 0, none⟩)) (lo_e (fun hf kn => ld_cell ag_24 (g2.ext kn) rfl))) ?_
  refine gr rfl (r_load (ot rfl) (v := .pointer (some ⟨bp1, 0, none⟩)) (lo_e (fun hf kn => ld_cell ag_34 (g3.ext kn) rfl))) ?_
  refine gr rfl (r_load (ot rfl) (v := .agg #[.string p4.key, .int .i64 p4.top, .int .u64 p4.val, .int .i64 p4.cell]) (lo_e (fun hf kn => ld_bk ag_89 sz_89 (g4.ext kn) (Nat.le_of_ble_eq_true rfl) rfl))) ?_
  replace hF := obind hF
  obtain ⟨x6, hx6, hF⟩ := hF
  refine gs_call EE_fr hw (.cons .z (.cons .z (.cons .z (.cons .z (.cons .z (.cons .z .nil)))))) (fun _ h => by cases h; rfl) of (os1 (ot rfl) (os1 (ot rfl) (os1 (ot rfl) os0))) hb_67 (by exact s_bst_Tree_remove hrc hw p0 p0o0 p1 p4 f0_1 f0_2 f0o0_0 hx6) ?_
  rintro v6 S6 h6 e6 w6 ⟨q6_y0_1, t6_y0_1, q6_y0_2, t6_y0_2, q6_y0o0_0, t6_y0o0_0, v6_y1_4, v6_r, t6_r, rfl, rfl, f6_0, f6_1, f6_2, f6_3⟩
  simp only [List.cons_append, List.nil_append]
  refine gA rfl rfl ?_
  refine go_nil ?_
  obtain rfl := someI hF
  exact g_ret (rst rfl rs0) (fun h1 hf hs => ⟨[[⟨bp0, .cells [.pointer (some ⟨bp0o0, 0, none⟩), .slice q6_y0_1 x6.2.1.nodes.length x6.2.1.nodes.length, .slice q6_y0_2 x6.2.1.infos.length x6.2.1.infos.length] 83⟩], t6_y0_1, t6_y0_2, [⟨bp0o0, .cells [.slice q6_y0o0_0 x6.2.2.1.cells.length x6.2.2.1.cells.length, .int .i64 x6.2.2.1.count] 94⟩], t6_y0o0_0, [⟨bp1, .cells [.bool x6.2.2.2.told_Ok, .string x6.2.2.2.told_Key, .int .u64 x6.2.2.2.told_Val, .int .i64 x6.2.2.2.told_Err, v6_y1_4] 114⟩], t6_r], _, hf, e6, w6, hs, (ndb (by intro e; cases e) (ndt f6_0 (ndt f6_1 (ndb (by intro e; cases e) (ndt f6_2 (ndb (by intro e; cases e) (ndc f6_3 nd0))))))), ⟨_, _, _, _, _, _, _, _, _, rfl, rfl, f6_0, f6_1, f6_2, f6_3⟩⟩)
theorem s_bst_Tree_remove_2 {rc : RC} (hrc : RCok rc) {h : Heap} (hw : Wf h) (p0 : Obst_Tree) (p0o0 : Omem_Mem) (p1 : Obst_Call) (p2 : Tbst_seen) (p4 : Tbst_node) (p6 : Clo) {bp0 : Nat} {q0_1 : Option Addr} {t0_1 : List Blk} {q0_2 : Option Addr} {t0_2 : List Blk} {bp0o0 : Nat} {q0o0_0 : Option Addr} {t0o0_0 : List Blk} {bp1 : Nat} {v1_4 : Value} {b3 : Nat} {b4 : Nat} {b5 : Nat} {b6 : Nat} {v6 : Value} (f0_1 : AccR R_Tbst_node 89 h t0_1 (.slice q0_1 p0.nodes.length p0.nodes.length) p0.nodes) (f0_2 : AccR R_Tbst_info 86 h t0_2 (.slice q0_2 p0.infos.length p0.infos.length) p0.infos) (f0o0_0 : AccR (RI_ .u64 29) 29 h t0o0_0 (.slice q0o0_0 p0o0.cells.length p0o0.cells.length) p0o0.cells) (g3 : BK h b3 [.pointer (some ⟨bp0, 0, none⟩)] 24) (g4 : BK h b4 [.string p4.key, .int .i64 p4.top, .int .u64 p4.val, .int .i64 p4.cell] 89) (g5 : BK h b5 [.pointer (some ⟨bp1, 0, none⟩)] 34) (g6 : BK h b6 [v6] 101) (c6 : CO h bp0 bp1 [] p6 v6) {r : (Option Clo) × Obst_Tree × Omem_Mem × Obst_Call} (hF : F_bst_Tree_remove_2 rc p0 p0o0 p1 p2 p4 p6 = some r) :
    EvO EE 86 [.agg #[.int .i64 p2.grand, .int .i64 p2.parent, .int .i64 p2.leaf, .int .u64 p2.grandWord, .int .u64 p2.parentWord, .int .i64 p2.turn], .pointer (some ⟨b3, 0, none⟩), .pointer (some ⟨b4, 0, none⟩), .pointer (some ⟨b5, 0, none⟩), .pointer (some ⟨b6, 0, none⟩)] [[⟨bp0, .cells [.pointer (some ⟨bp0o0, 0, none⟩), .slice q0_1 p0.nodes.length p0.nodes.length, .slice q0_2 p0.infos.length p0.infos.length] 83⟩], t0_1, t0_2, [⟨bp0o0, .cells [.slice q0o0_0 p0o0.cells.length p0o0.cells.length, .int .i64 p0o0.count] 94⟩], t0o0_0, [⟨bp1, .cells [.bool p1.told_Ok, .string p1.told_Key, .int .u64 p1.told_Val, .int .i64 p1.told_Err, v1_4] 114⟩]] h (fun v S h1 => ∃ qy0_1 ty0_1 qy0_2 ty0_2 qy0o0_0 ty0o0_0 vy1_4 vr tr, v = vr ∧ S = [[⟨bp0, .cells [.pointer (some ⟨bp0o0, 0, none⟩), .slice qy0_1 r.2.1.nodes.length r.2.1.nodes.length, .slice qy0_2 r.2.1.infos.length r.2.1.infos.length] 83⟩], ty0_1, ty0_2, [⟨bp0o0, .cells [.slice qy0o0_0 r.2.2.1.cells.length r.2.2.1.cells.length, .int .i64 r.2.2.1.count] 94⟩], ty0o0_0, [⟨bp1, .cells [.bool r.2.2.2.told_Ok, .string r.2.2.2.told_Key, .int .u64 r.2.2.2.told_Val, .int .i64 r.2.2.2.told_Err, vy1_4] 114⟩], tr] ∧ AccR R_Tbst_node 89 h1 ty0_1 (.slice qy0_1 r.2.1.nodes.length r.2.1.nodes.length) r.2.1.nodes ∧ AccR R_Tbst_info 86 h1 ty0_2 (.slice qy0_2 r.2.1.infos.length r.2.1.infos.length) r.2.1.infos ∧ AccR (RI_ .u64 29) 29 h1 ty0o0_0 (.slice qy0o0_0 r.2.2.1.cells.length r.2.2.1.cells.length) r.2.2.1.cells ∧ OC h1 bp0 bp1 tr r.1 vr) := by
  unfold F_bst_Tree_remove_2 at hF
  refine evo_of rfl at_86 rfl rfl ?_
  refine go_seq ?_
  refine go_region ?_
  refine gs_box rfl (ot rfl) rfl ?_; intro b5_8
  refine gAc rfl rfl ?_
  refine go_nil ?_
  refine go_seq ?_
  refine go_block ?_
  refine go_seq ?_
  refine go_region ?_
  refine gr rfl (r_load (ot rfl) (v := .pointer (some ⟨bp0, 0, none⟩)) (lo_e (fun hf kn => ld_cell ag_24 (g3.ext kn) rfl))) ?_
  refine gr rfl (r_fa (ot rfl) (fa_105_2 _ _)) ?_
  refine gr rfl (r_load (ot rfl) (lm_s (mem_seg 0 rfl) ag_3 rfl)) ?_
  refine gr rfl (r_load (ot rfl) (v := .agg #[.string p4.key, .int .i64 p4.top, .int .u64 p4.val, .int .i64 p4.cell]) (lo_e (fun hf kn => ld_bk ag_89 sz_89 (g4.ext kn) (Nat.le_of_ble_eq_true rfl) rfl))) ?_
  replace hF := obind hF
  obtain ⟨x9, hx9, hF⟩ := hF
  refine gs_call EE_fr hw (.cons (.s (.z)) (.cons (.s (.z)) (.cons (.s (.z)) (.cons (.s (.z)) (.cons (.s (.z)) .nil))))) (fun _ h => by cases h; rfl) of (os1 (ot rfl) (os1 (ot rfl) (os1 (ot rfl) os0))) hb_61 (by exact s_bst_Tree_is hw p0 p0o0 p2.leaf p4 f0_1 f0_2 f0o0_0 hx9) ?_
  rintro v9 S9 h9 e9 w9 ⟨q9_y0_1, t9_y0_1, q9_y0_2, t9_y0_2, q9_y0o0_0, t9_y0o0_0, rfl, rfl, f9_0, f9_1, f9_2⟩
  simp only [List.cons_append, List.nil_append]
  refine gr rfl (r_un (ot rfl) rfl) ?_
  refine gA rfl rfl ?_
  refine go_nil ?_
  refine g_cond (b := (!x9.1)) (ot rfl) (fun hc10 => ?_) (fun hc10 => ?_)
  ·
    replace hF := ifT hc10 hF
    refine go_seq ?_
    refine go_region ?_
    refine gr rfl (r_load (ot rfl) (v := .pointer (some ⟨bp1, 0, none⟩)) (lo_e (fun hf kn => ld_cell ag_34 ((g5.ext e9.kn).ext kn) rfl))) ?_
    replace hF := obind hF
    obtain ⟨x11, hx11, hF⟩ := hF
    refine gs_call EE_fr w9 (.cons .z (.cons .z (.cons .z (.cons .z (.cons .z (.cons (.s (.z)) .nil)))))) (fun _ h => by cases h; rfl) of (os1 (ot rfl) (os1 (oc rfl) (os1 (oc rfl) os0))) hb_53 (by exact s_bst_Call_tell hrc w9 (⟨x9.2.1.nodes, x9.2.1.infos⟩ : Obst_Tree) (⟨x9.2.2.cells, x9.2.2.count⟩ : Omem_Mem) p1 false 0 f9_0 f9_1 f9_2 hx11) ?_
    rintro v11 S11 h11 e11 w11 ⟨q11_y0_1, t11_y0_1, q11_y0_2, t11_y0_2, q11_y0o0_0, t11_y0o0_0, v11_y1_4, v11_r, t11_r, rfl, rfl, f11_0, f11_1, f11_2, f11_3⟩
    simp only [List.cons_append, List.nil_append]
    refine gA rfl rfl ?_
    refine go_nil ?_
    obtain rfl := someI hF
    refine gs_sub (.cons_cons _ (.cons_cons _ (.cons_cons _ (.cons_cons _ (.cons_cons _ (.cons_cons _ (.cons_cons _ (.cons _ (.refl _))))))))) ?_
    exact g_ret (rst rfl rs0) (fun h1 hf hs => ⟨[[⟨bp0, .cells [.pointer (some ⟨bp0o0, 0, none⟩), .slice q11_y0_1 x11.2.1.nodes.length x11.2.1.nodes.length, .slice q11_y0_2 x11.2.1.infos.length x11.2.1.infos.length] 83⟩], t11_y0_1, t11_y0_2, [⟨bp0o0, .cells [.slice q11_y0o0_0 x11.2.2.1.cells.length x11.2.2.1.cells.length, .int .i64 x11.2.2.1.count] 94⟩], t11_y0o0_0, [⟨bp1, .cells [.bool x11.2.2.2.told_Ok, .string x11.2.2.2.told_Key, .int .u64 x11.2.2.2.told_Val, .int .i64 x11.2.2.2.told_Err, v11_y1_4] 114⟩], t11_r], _, hf, (e9.trans e11), w11, hs, (ndb (by intro e; cases e) (ndt f11_0 (ndt f11_1 (ndb (by intro e; cases e) (ndt f11_2 (ndb (by intro e; cases e) (ndc f11_3 nd0))))))), ⟨_, _, _, _, _, _, _, _, _, rfl, rfl, f11_0, f11_1, f11_2, f11_3⟩⟩)
  ·
    replace hF := ifF hc10 hF
    refine go_seq ?_
    refine go_region ?_
    refine gr rfl (r_fa (ot rfl) (fa_105_3 _ _)) ?_
    refine gr rfl (r_load (ot rfl) (lm_s (mem_seg 5 rfl) ag_29 rfl)) ?_
    replace hF := obind hF
    obtain ⟨x12, hx12, hF⟩ := hF
    refine g_callp (v := .int .i64 x12) EE_fr rfl of (os1 (ot rfl) os0) hb_76 (fun _ => rfl) (fun hf kn w => by exact s_word_State w p2.grandWord  hx12) ?_
    refine gr rfl (r_bin (ot rfl) (oc rfl) rfl) ?_
    refine gA rfl rfl ?_
    refine go_nil ?_
    refine g_cond (b := (x12 != 0)) (ot rfl) (fun hc13 => ?_) (fun hc13 => ?_)
    ·
      replace hF := ifT hc13 hF
      refine go_seq ?_
      refine go_region ?_
      refine gr rfl (r_load (ot rfl) (v := .pointer (some ⟨bp0, 0, none⟩)) (lo_e (fun hf kn => ld_cell ag_24 ((g3.ext e9.kn).ext kn) rfl))) ?_
      refine gr rfl (r_fa (ot rfl) (fa_105_3 _ _)) ?_
      refine gr rfl (r_load (ot rfl) (lm_s (mem_seg 5 rfl) ag_29 rfl)) ?_
      refine gr rfl (r_load (ot rfl) (v := v6) (lo_e (fun hf kn => ld_cell ag_101 ((g6.ext e9.kn).ext kn) rfl))) ?_
      replace hF := obind hF
      obtain ⟨x14, hx14, hF⟩ := hF
      refine gs_call EE_fr w9 (.cons .z (.cons .z (.cons .z (.cons .z (.cons .z (.cons (.s (.z)) .nil)))))) (fun _ h => by cases h; rfl) of (os1 (ot rfl) (os1 (ot rfl) (os1 (ot rfl) os0))) hb_77 (by exact s_bst_Tree_help hrc w9 (⟨x9.2.1.nodes, x9.2.1.infos⟩ : Obst_Tree) (⟨x9.2.2.cells, x9.2.2.count⟩ : Omem_Mem) p1 p2.grandWord p6 f9_0 f9_1 f9_2 (c6.ext e9.kn) hx14) ?_
      rintro v14 S14 h14 e14 w14 ⟨q14_y0_1, t14_y0_1, q14_y0_2, t14_y0_2, q14_y0o0_0, t14_y0o0_0, v14_y1_4, v14_r, t14_r, rfl, rfl, f14_0, f14_1, f14_2, f14_3⟩
      simp only [List.cons_append, List.nil_append]
      refine gA rfl rfl ?_
      refine go_nil ?_
      obtain rfl := someI hF
      refine gs_sub (.cons_cons _ (.cons_cons _ (.cons_cons _ (.cons_cons _ (.cons_cons _ (.cons_cons _ (.cons_cons _ (.cons _ (.refl _))))))))) ?_
      exact g_ret (rst rfl rs0) (fun h1 hf hs => ⟨[[⟨bp0, .cells [.pointer (some ⟨bp0o0, 0, none⟩), .slice q14_y0_1 x14.2.1.nodes.length x14.2.1.nodes.length, .slice q14_y0_2 x14.2.1.infos.length x14.2.1.infos.length] 83⟩], t14_y0_1, t14_y0_2, [⟨bp0o0, .cells [.slice q14_y0o0_0 x14.2.2.1.cells.length x14.2.2.1.cells.length, .int .i64 x14.2.2.1.count] 94⟩], t14_y0o0_0, [⟨bp1, .cells [.bool x14.2.2.2.told_Ok, .string x14.2.2.2.told_Key, .int .u64 x14.2.2.2.told_Val, .int .i64 x14.2.2.2.told_Err, v14_y1_4] 114⟩], t14_r], _, hf, (e9.trans e14), w14, hs, (ndb (by intro e; cases e) (ndt f14_0 (ndt f14_1 (ndb (by intro e; cases e) (ndt f14_2 (ndb (by intro e; cases e) (ndc f14_3 nd0))))))), ⟨_, _, _, _, _, _, _, _, _, rfl, rfl, f14_0, f14_1, f14_2, f14_3⟩⟩)
    ·
      replace hF := ifF hc13 hF
      refine go_seq ?_
      refine go_region ?_
      refine gr rfl (r_fa (ot rfl) (fa_105_4 _ _)) ?_
      refine gr rfl (r_load (ot rfl) (lm_s (mem_seg 5 rfl) ag_29 rfl)) ?_
      replace hF := obind hF
      obtain ⟨x15, hx15, hF⟩ := hF
      refine g_callp (v := .int .i64 x15) EE_fr rfl of (os1 (ot rfl) os0) hb_76 (fun _ => rfl) (fun hf kn w => by exact s_word_State w p2.parentWord  hx15) ?_
      refine gr rfl (r_bin (ot rfl) (oc rfl) rfl) ?_
      refine gA rfl rfl ?_
      refine go_nil ?_
      refine g_cond (b := (x15 != 0)) (ot rfl) (fun hc16 => ?_) (fun hc16 => ?_)
      ·
        replace hF := ifT hc16 hF
        refine go_seq ?_
        refine go_region ?_
        refine gr rfl (r_load (ot rfl) (v := .pointer (some ⟨bp0, 0, none⟩)) (lo_e (fun hf kn => ld_cell ag_24 ((g3.ext e9.kn).ext kn) rfl))) ?_
        refine gr rfl (r_fa (ot rfl) (fa_105_4 _ _)) ?_
        refine gr rfl (r_load (ot rfl) (lm_s (mem_seg 5 rfl) ag_29 rfl)) ?_
        refine gr rfl (r_load (ot rfl) (v := v6) (lo_e (fun hf kn => ld_cell ag_101 ((g6.ext e9.kn).ext kn) rfl))) ?_
        replace hF := obind hF
        obtain ⟨x17, hx17, hF⟩ := hF
        refine gs_call EE_fr w9 (.cons .z (.cons .z (.cons .z (.cons .z (.cons .z (.cons (.s (.z)) .nil)))))) (fun _ h => by cases h; rfl) of (os1 (ot rfl) (os1 (ot rfl) (os1 (ot rfl) os0))) hb_77 (by exact s_bst_Tree_help hrc w9 (⟨x9.2.1.nodes, x9.2.1.infos⟩ : Obst_Tree) (⟨x9.2.2.cells, x9.2.2.count⟩ : Omem_Mem) p1 p2.parentWord p6 f9_0 f9_1 f9_2 (c6.ext e9.kn) hx17) ?_
        rintro v17 S17 h17 e17 w17 ⟨q17_y0_1, t17_y0_1, q17_y0_2, t17_y0_2, q17_y0o0_0, t17_y0o0_0, v17_y1_4, v17_r, t17_r, rfl, rfl, f17_0, f17_1, f17_2, f17_3⟩
        simp only [List.cons_append, List.nil_append]
        refine gA rfl rfl ?_
        refine go_nil ?_
        obtain rfl := someI hF
        refine gs_sub (.cons_cons _ (.cons_cons _ (.cons_cons _ (.cons_cons _ (.cons_cons _ (.cons_cons _ (.cons_cons _ (.cons _ (.refl _))))))))) ?_
        exact g_ret (rst rfl rs0) (fun h1 hf hs => ⟨[[⟨bp0, .cells [.pointer (some ⟨bp0o0, 0, none⟩), .slice q17_y0_1 x17.2.1.nodes.length x17.2.1.nodes.length, .slice q17_y0_2 x17.2.1.infos.length x17.2.1.infos.length] 83⟩], t17_y0_1, t17_y0_2, [⟨bp0o0, .cells [.slice q17_y0o0_0 x17.2.2.1.cells.length x17.2.2.1.cells.length, .int .i64 x17.2.2.1.count] 94⟩], t17_y0o0_0, [⟨bp1, .cells [.bool x17.2.2.2.told_Ok, .string x17.2.2.2.told_Key, .int .u64 x17.2.2.2.told_Val, .int .i64 x17.2.2.2.told_Err, v17_y1_4] 114⟩], t17_r], _, hf, (e9.trans e17), w17, hs, (ndb (by intro e; cases e) (ndt f17_0 (ndt f17_1 (ndb (by intro e; cases e) (ndt f17_2 (ndb (by intro e; cases e) (ndc f17_3 nd0))))))), ⟨_, _, _, _, _, _, _, _, _, rfl, rfl, f17_0, f17_1, f17_2, f17_3⟩⟩)
      ·
        replace hF := ifF hc16 hF
        refine go_skip ?_
        refine go_endb ?_
        refine go_seq ?_
        refine go_region ?_
        refine gr rfl (r_load (ot rfl) (v := .pointer (some ⟨bp0, 0, none⟩)) (lo_e (fun hf kn => ld_cell ag_24 ((g3.ext e9.kn).ext kn) rfl))) ?_
        refine gr rfl (r_fa (ot rfl) (fa_105_0 _ _)) ?_
        refine gr rfl (r_load (ot rfl) (lm_s (mem_seg 5 rfl) ag_3 rfl)) ?_
        refine gr rfl (r_fa (ot rfl) (fa_105_1 _ _)) ?_
        refine gr rfl (r_load (ot rfl) (lm_s (mem_seg 5 rfl) ag_3 rfl)) ?_
        refine gr rfl (r_fa (ot rfl) (fa_105_2 _ _)) ?_
        refine gr rfl (r_load (ot rfl) (lm_s (mem_seg 5 rfl) ag_3 rfl)) ?_
        refine gr rfl (r_fa (ot rfl) (fa_105_4 _ _)) ?_
        refine gr rfl (r_load (ot rfl) (lm_s (mem_seg 5 rfl) ag_29 rfl)) ?_
        refine gr rfl (r_build (op1 (ot rfl) (op1 (ot rfl) (op1 (ot rfl) (op1 (oc rfl) (op1 (ot rfl) op0))))) rfl) ?_
        replace hF := obind hF
        obtain ⟨x18, hx18, hF⟩ := hF
        refine gs_call EE_fr w9 (.cons .z (.cons .z (.cons .z (.cons .z (.cons .z .nil))))) (fun _ h => by cases h; rfl) of (os1 (ot rfl) (os1 (ot rfl) os0)) hb_39 (by exact s_bst_Tree_info w9 (⟨x9.2.1.nodes, x9.2.1.infos⟩ : Obst_Tree) (⟨x9.2.2.cells, x9.2.2.count⟩ : Omem_Mem) (⟨p2.grand, p2.parent, p2.leaf, 0, p2.parentWord⟩ : Tbst_info) f9_0 f9_1 f9_2 hx18) ?_
        rintro v18 S18 h18 e18 w18 ⟨q18_y0_1, t18_y0_1, q18_y0_2, t18_y0_2, q18_y0o0_0, t18_y0o0_0, rfl, rfl, f18_0, f18_1, f18_2⟩
        simp only [List.cons_append, List.nil_append]
        refine gs_alloc rfl zo_3 rfl ?_; intro b7_19
        refine gs_store (ot rfl) (ot rfl) sz_3 rfl rfl rfl rfl rfl .z ?_
        refine go_nil ?_
        refine go_seq ?_
        refine go_regA1 (L := [(0, []), (1, []), (2, []), (3, []), (4, []), (5, []), (6, []), (7, []), (8, []), (9, []), (10, [])]) (by kernel_rfl) (by kernel_rfl) (fun _ => rfl) ?_; intro b8_20
        refine go_sop rfl rfl ?_
        refine gr rfl (r_load (ot rfl) (v := .pointer (some ⟨bp0, 0, none⟩)) (lo_e (fun hf kn => ld_cell ag_24 (((g3.ext e9.kn).ext e18.kn).ext kn) rfl))) ?_
        refine go_nil ?_
        refine go_sop rfl rfl ?_
        refine gr rfl (r_nilck (ot rfl)) ?_
        refine go_nil ?_
        refine go_sop rfl rfl ?_
        refine gr rfl (r_fa (ot rfl) (fa_83_1 _ _)) ?_
        refine go_nil ?_
        refine go_sop rfl rfl ?_
        refine gr rfl (r_load (ot rfl) (lm_s (mem_seg 2 rfl) ag_80 rfl)) ?_
        refine go_nil ?_
        refine go_sop rfl rfl ?_
        refine gr rfl (r_fa (ot rfl) (fa_105_2 _ _)) ?_
        refine go_nil ?_
        refine go_sop rfl rfl ?_
        refine gr rfl (r_load (ot rfl) (lm_s (mem_seg 7 rfl) ag_3 rfl)) ?_
        refine go_nil ?_
        refine go_sop rfl rfl ?_
        replace hF := obind hF
        obtain ⟨x21, hx21, hF⟩ := hF
        obtain ⟨bb21, rw21, row21, hp21, ht21, hR21, hw21, rc21, hz21, hi21, hd21, hb21, hl21⟩ := AccR.at_ f18_0 hx21
        have hF21_ := hF
        subst hp21; subst ht21
        replace hF := hF21_
        obtain rfl := rc21
        refine gr rfl (r_ia (ot rfl) (ot rfl) (ia_acc (k := 4) ut_80 sz_89 hz21 hi21)) ?_
        refine go_nil ?_
        refine go_sop rfl rfl ?_
        refine gr rfl (r_fa (ot rfl) (fa_89_2 _ _)) ?_
        refine go_nil ?_
        refine go_sop rfl rfl ?_
        refine gr rfl (r_load (ot rfl) (lm_s (mem_seg 3 rfl) ag_29 (acc_cell (j := 2) hd21 rfl))) ?_
        refine go_nil ?_
        refine go_salloc rfl rfl rfl zo_29 rfl .z ?_
        refine go_sop rfl rfl ?_
        refine gs_store (ot rfl) (ot rfl) sz_29 rfl rfl rfl rfl rfl .z ?_
        refine go_nil ?_
        refine go_snil ?_
        refine go_seq ?_
        refine go_region ?_
        refine gr rfl (r_func os0 (os1 (ot rfl) (os1 (ot rfl) (os1 (ot rfl) (os1 (ot rfl) (os1 (ot rfl) (os1 (ot rfl) os0))))))) ?_
        refine gA rfl rfl ?_
        refine go_nil ?_
        refine gs_pub (.s (.s (.s (.s (.s (.s (.s (.z)))))))) (fun h22 e22 w22 hb22 => ?_)
        have g22_ : BK h22 b5_8 [.int .i64 p2.grand, .int .i64 p2.parent, .int .i64 p2.leaf, .int .u64 p2.grandWord, .int .u64 p2.parentWord, .int .i64 p2.turn] 105 := hb22
        refine gs_pub (.s (.z)) (fun h23 e23 w23 hb23 => ?_)
        have g23_ : BK h23 b7_19 [.int .i64 x18.1] 3 := hb23
        refine gs_pub .z (fun h24 e24 w24 hb24 => ?_)
        have g24_ : BK h24 b8_20 [.int .u64 x21.val] 29 := hb24
        have co25 : CO h24 bp0 bp1 [] (Clo.c_remove_2_1 p2 x18.1 p6 x21.val) (.func (.func 87) #[] #[.pointer (some ⟨b3, 0, none⟩), .pointer (some ⟨b5_8, 0, none⟩), .pointer (some ⟨b7_19, 0, none⟩), .pointer (some ⟨b6, 0, none⟩), .pointer (some ⟨b5, 0, none⟩), .pointer (some ⟨b8_20, 0, none⟩)]) := CO.c_remove_2_1 (((((g3.ext e9.kn).ext e18.kn).ext e22.kn).ext e23.kn).ext e24.kn) ((g22_.ext e23.kn).ext e24.kn) (g23_.ext e24.kn) (((((g6.ext e9.kn).ext e18.kn).ext e22.kn).ext e23.kn).ext e24.kn) (((((c6.ext e9.kn).ext e18.kn).ext e22.kn).ext e23.kn).ext e24.kn) (((((g5.ext e9.kn).ext e18.kn).ext e22.kn).ext e23.kn).ext e24.kn) g24_
        obtain rfl := someI hF
        exact g_ret (rst rfl rs0) (fun h1 hf hs => ⟨[[⟨bp0, .cells [.pointer (some ⟨bp0o0, 0, none⟩), .slice (some ⟨bb21, 0, some 0⟩) x18.2.1.nodes.length x18.2.1.nodes.length, .slice q18_y0_2 x18.2.1.infos.length x18.2.1.infos.length] 83⟩], [⟨bb21, .cells rw21.flatten 89⟩], t18_y0_2, [⟨bp0o0, .cells [.slice q18_y0o0_0 x18.2.2.cells.length x18.2.2.cells.length, .int .i64 x18.2.2.count] 94⟩], t18_y0o0_0, [⟨bp1, .cells [.bool p1.told_Ok, .string p1.told_Key, .int .u64 p1.told_Val, .int .i64 p1.told_Err, v1_4] 114⟩], []], _, hf, (e9.trans (e18.trans (e22.trans (e23.trans e24)))), w24, hs, (ndb (by intro e; cases e) (ndt (((f18_0.ext e22.kn).ext e23.kn).ext e24.kn) (ndt (((f18_1.ext e22.kn).ext e23.kn).ext e24.kn) (ndb (by intro e; cases e) (ndt (((f18_2.ext e22.kn).ext e23.kn).ext e24.kn) (ndb (by intro e; cases e) (nde nd0))))))), ⟨_, _, _, _, _, _, _, _, _, rfl, rfl, (((f18_0.ext e22.kn).ext e23.kn).ext e24.kn), (((f18_1.ext e22.kn).ext e23.kn).ext e24.kn), (((f18_2.ext e22.kn).ext e23.kn).ext e24.kn), (OC.some co25)⟩⟩)
theorem s_mem_Mem_CAS {h : Heap} (hw : Wf h) (p0 : Omem_Mem) (p1 : Int) (p2 : Int) (p3 : Int) {bp0 : Nat} {q0_0 : Option Addr} {t0_0 : List Blk} (f0_0 : AccR (RI_ .u64 29) 29 h t0_0 (.slice q0_0 p0.cells.length p0.cells.length) p0.cells) {r : Int × Bool × Omem_Mem} (hF : F_mem_Mem_CAS p0 p1 p2 p3 = some r) :
    EvO EE 88 [.pointer (some ⟨bp0, 0, none⟩), .int .i64 p1, .int .u64 p2, .int .u64 p3] [[⟨bp0, .cells [.slice q0_0 p0.cells.length p0.cells.length, .int .i64 p0.count] 94⟩], t0_0] h (fun v S h1 => ∃ qy0_0 ty0_0, v = .tuple #[.int .u64 r.1, .bool r.2.1] ∧ S = [[⟨bp0, .cells [.slice qy0_0 r.2.2.cells.length r.2.2.cells.length, .int .i64 r.2.2.count] 94⟩], ty0_0] ∧ AccR (RI_ .u64 29) 29 h1 ty0_0 (.slice qy0_0 r.2.2.cells.length r.2.2.cells.length) r.2.2.cells) := by
  unfold F_mem_Mem_CAS at hF
  refine evo_of rfl at_88 rfl rfl ?_
  refine go_seq ?_
  refine go_region ?_
  refine gAc rfl rfl ?_
  refine gAc rfl rfl ?_
  refine go_nil ?_
  refine go_seq ?_
  refine go_region ?_
  refine gM rfl rfl ?_
  refine gM rfl rfl ?_
  cases hx5 : getI p0.cells p1 with
  | none =>
    rw [hx5] at hF
    dsimp only at hF
    refine gs_call EE_fr hw (.cons .z .nil) (fun _ h => by cases h; rfl) of (os1 (ot rfl) (os1 (ot rfl) os0)) hb_69 (by exact s_mem_at_bad hw (getI_bad hx5)) ?_
    rintro v5 S5 h5 e5 w5 ⟨rfl, rfl⟩
    simp only [List.cons_append, List.nil_append]
    refine gA rfl rfl ?_
    refine go_nil ?_
    refine go_seq ?_
    refine go_seq ?_
    refine go_region ?_
    refine gM rfl rfl ?_
    refine gr rfl (r_bin (v := .bool true) (ot rfl) (oc rfl) (by first | rfl | kernel_rfl)) ?_
    refine go_nil ?_
    refine g_cond (b := true) (ot rfl) (fun hc6 => ?_) (fun hc6 => ?_)
    rotate_left
    · cases hc6
    refine go_seq ?_
    refine go_region ?_
    refine gAc rfl rfl ?_
    refine gAc rfl rfl ?_
    refine go_nil ?_
    obtain rfl := someI hF
    exact g_ret (rst rfl (rst rfl rs0)) (fun h1 hf hs => ⟨[[⟨bp0, .cells [.slice q0_0 p0.cells.length p0.cells.length, .int .i64 p0.count] 94⟩], t0_0], _, hf, e5, w5, hs, (ndb (by intro e; cases e) (ndt (f0_0.ext e5.kn) nd0)), ⟨_, _, rfl, rfl, (f0_0.ext e5.kn)⟩⟩)
  | some x5 =>
    rw [hx5] at hF
    dsimp only at hF
    obtain ⟨bb5, rw5, row5, hp5, ht5, hR5, hw5, rc5, hz5, hi5, hd5, hb5, hl5⟩ := AccR.at_ f0_0 hx5
    have hF5_ := hF
    subst hp5; subst ht5
    replace hF := hF5_
    obtain rfl := rc5
    refine gs_call EE_fr hw (.cons .z .nil) (fun _ h => by cases h; rfl) of (os1 (ot rfl) (os1 (ot rfl) os0)) hb_69 (by exact s_mem_at_ok hw hz5 hi5) ?_
    rintro v5 S5 h5 e5 w5 ⟨rfl, rfl⟩
    simp only [List.cons_append, List.nil_append]
    refine gA rfl rfl ?_
    refine go_nil ?_
    refine go_seq ?_
    refine go_seq ?_
    refine go_region ?_
    refine gM rfl rfl ?_
    refine gr rfl (r_bin (v := .bool false) (ot rfl) (oc rfl) (by first | rfl | kernel_rfl)) ?_
    refine go_nil ?_
    refine g_cond (b := false) (ot rfl) (fun hc7 => ?_) (fun hc7 => ?_)
    · cases hc7
    refine go_skip ?_
    refine go_seq ?_
    refine go_region ?_
    refine gM rfl rfl ?_
    refine gr rfl (r_nilck (ot rfl)) ?_
    refine gr rfl (r_load (ot rfl) (lm_s (mem_seg 1 rfl) ag_29 (acc_cell (j := 0) hd5 rfl))) ?_
    refine gA rfl rfl ?_
    refine go_nil ?_
    refine go_seq ?_
    refine go_seq ?_
    refine go_region ?_
    refine gM rfl rfl ?_
    refine gM rfl rfl ?_
    refine gr rfl (r_bin (ot rfl) (ot rfl) rfl) ?_
    refine go_nil ?_
    replace hF := obind hF
    obtain ⟨s9, hF, hK9⟩ := hF
    refine go_joinc (β := Option Addr × List Blk) (fun s h' => AccR (RI_ .u64 29) 29 h' s.2 (.slice s.1 s9.length s9.length) s9) (fun s => [(2, true, .int .u64 p2), (8, true, .int .u64 0), (9, true, .bool false), (11, true, .int .u64 x5)]) (fun s => (List.flatten [[⟨bp0, .cells [.slice s.1 s9.length s9.length, .int .i64 (IntKind.i64.wrap (p0.count + 1))] 94⟩], s.2] : List Blk)) ?_ (fun J9 => ?_)
    ·
      rintro ⟨a9_0, a9_1⟩ h9 e9 w9 f9_0
      replace hF := hK9
      refine go_seq ?_
      refine go_region ?_
      refine gM rfl rfl ?_
      refine gM rfl rfl ?_
      refine gM rfl rfl ?_
      refine gr rfl (r_bin (ot rfl) (ot rfl) rfl) ?_
      refine gA rfl rfl ?_
      refine gA rfl rfl ?_
      refine go_nil ?_
      obtain rfl := someI hF
      exact g_ret (rst rfl (rst rfl rs0)) (fun h1 hf hs => ⟨[[⟨bp0, .cells [.slice a9_0 s9.length s9.length, .int .i64 (IntKind.i64.wrap (p0.count + 1))] 94⟩], a9_1], _, hf, (e5.trans e9), w9, hs, (ndb (by intro e; cases e) (ndt f9_0 nd0)), ⟨_, _, rfl, rfl, f9_0⟩⟩)
    ·
      refine g_cond (b := (x5 == p2)) (ot rfl) (fun hc8 => ?_) (fun hc8 => ?_)
      ·
        replace hF := ifT hc8 hF
        refine go_region ?_
        refine gM rfl rfl ?_
        refine gM rfl rfl ?_
        refine gr rfl (r_nilck (ot rfl)) ?_
        have hc10 : (RI_ .u64 29).C h5 [.int .u64 p3] p3 := rfl
        have hR10 : Rws (RI_ .u64 29) h5 (rw5.set p1.toNat [.int .u64 p3]) (setI p0.cells p1 p3) := Rws.set (hR5.ext e5.kn) hc10 _
        have hq10 := (List.getElem?_eq_some_iff.mp hw5).1
        have hl10 : (setI p0.cells p1 p3).length < 9223372036854775808 := by rw [setI_len]; exact hl5
        have f10_ : AccR (RI_ .u64 29) 29 h5 [⟨bb5, .cells (rw5.set p1.toNat [.int .u64 p3]).flatten 29⟩] (.slice (some ⟨bb5, 0, some 0⟩) (setI p0.cells p1 p3).length (setI p0.cells p1 p3).length) (setI p0.cells p1 p3) := AccR.set_ hl5 (hR5.ext e5.kn) rfl hc10
        obtain ⟨hd10, hb10⟩ := flat_at_set (row' := [.int .u64 p3]) (hR5.ext e5.kn).k hq10 rfl
        have hw10 : (rw5.set p1.toNat [.int .u64 p3])[p1.toNat]? = some [.int .u64 p3] := List.getElem?_set_self hq10
        refine gs_store (vs := [.int .u64 p3]) (cs' := (rw5.set p1.toNat [.int .u64 p3]).flatten) (ot rfl) (ot rfl) sz_29 rfl rfl (acc_ble (j := 0) (m := 1) hb5 (by decide)) rfl (flat_splice_part (j := 0) _ _ (hR5.ext e5.kn).k hw5 (Nat.le_of_ble_eq_true rfl)) (.s (.z)) ?_
        refine gs_retell (segs' := [[⟨bp0, .cells [.slice (some ⟨bb5, 0, some 0⟩) (setI p0.cells p1 p3).length (setI p0.cells p1 p3).length, .int .i64 (IntKind.i64.wrap (p0.count + 1))] 94⟩], [⟨bb5, .cells (rw5.set p1.toNat [.int .u64 p3]).flatten 29⟩]]) (by simp only [setI_len]) ?_
        refine go_nil ?_
        obtain rfl := someI hF
        exact Goes.weak (J9 ((some ⟨bb5, 0, some 0⟩), [⟨bb5, .cells (rw5.set p1.toNat [.int .u64 p3]).flatten 29⟩]) _ (HExt.refl _) w5 f10_) (Sub.cons (Sub.cons (Sub.cons (Sub.cons (Sub.nil _) rfl) rfl) rfl) rfl)
      ·
        replace hF := ifF hc8 hF
        refine go_skip ?_
        obtain rfl := someI hF
        exact Goes.weak (J9 ((some ⟨bb5, 0, some 0⟩), [⟨bb5, .cells rw5.flatten 29⟩]) _ (HExt.refl _) w5 (f0_0.ext e5.kn)) (Sub.cons (Sub.cons (Sub.cons (Sub.cons (Sub.nil _) rfl) rfl) rfl) rfl)
theorem s_bst_Tree_remove_2_1 {rc : RC} (hrc : RCok rc) {h : Heap} (hw : Wf h) (p0 : Obst_Tree) (p0o0 : Omem_Mem) (p1 : Obst_Call) (p3 : Tbst_seen) (p4 : Int) (p5 : Clo) (p7 : Int) {bp0 : Nat} {q0_1 : Option Addr} {t0_1 : List Blk} {q0_2 : Option Addr} {t0_2 : List Blk} {bp0o0 : Nat} {q0o0_0 : Option Addr} {t0o0_0 : List Blk} {bp1 : Nat} {v1_4 : Value} {b2 : Nat} {b3 : Nat} {b4 : Nat} {b5 : Nat} {v5 : Value} {b6 : Nat} {b7 : Nat} (f0_1 : AccR R_Tbst_node 89 h t0_1 (.slice q0_1 p0.nodes.length p0.nodes.length) p0.nodes) (f0_2 : AccR R_Tbst_info 86 h t0_2 (.slice q0_2 p0.infos.length p0.infos.length) p0.infos) (f0o0_0 : AccR (RI_ .u64 29) 29 h t0o0_0 (.slice q0o0_0 p0o0.cells.length p0o0.cells.length) p0o0.cells) (g2 : BK h b2 [.pointer (some ⟨bp0, 0, none⟩)] 24) (g3 : BK h b3 [.int .i64 p3.grand, .int .i64 p3.parent, .int .i64 p3.leaf, .int .u64 p3.grandWord, .int .u64 p3.parentWord, .int .i64 p3.turn] 105) (g4 : BK h b4 [.int .i64 p4] 3) (g5 : BK h b5 [v5] 101) (c5 : CO h bp0 bp1 [] p5 v5) (g6 : BK h b6 [.pointer (some ⟨bp1, 0, none⟩)] 34) (g7 : BK h b7 [.int .u64 p7] 29) {r : (Option Clo) × Obst_Tree × Omem_Mem × Obst_Call} (hF : F_bst_Tree_remove_2_1 rc p0 p0o0 p1 p3 p4 p5 p7 = some r) :
    EvO EE 87 [.pointer (some ⟨b2, 0, none⟩), .pointer (some ⟨b3, 0, none⟩), .pointer (some ⟨b4, 0, none⟩), .pointer (some ⟨b5, 0, none⟩), .pointer (some ⟨b6, 0, none⟩), .pointer (some ⟨b7, 0, none⟩)] [[⟨bp0, .cells [.pointer (some ⟨bp0o0, 0, none⟩), .slice q0_1 p0.nodes.length p0.nodes.length, .slice q0_2 p0.infos.length p0.infos.length] 83⟩], t0_1, t0_2, [⟨bp0o0, .cells [.slice q0o0_0 p0o0.cells.length p0o0.cells.length, .int .i64 p0o0.count] 94⟩], t0o0_0, [⟨bp1, .cells [.bool p1.told_Ok, .string p1.told_Key, .int .u64 p1.told_Val, .int .i64 p1.told_Err, v1_4] 114⟩]] h (fun v S h1 => ∃ qy0_1 ty0_1 qy0_2 ty0_2 qy0o0_0 ty0o0_0 vy1_4 vr tr, v = vr ∧ S = [[⟨bp0, .cells [.pointer (some ⟨bp0o0, 0, none⟩), .slice qy0_1 r.2.1.nodes.length r.2.1.nodes.length, .slice qy0_2 r.2.1.infos.length r.2.1.infos.length] 83⟩], ty0_1, ty0_2, [⟨bp0o0, .cells [.slice qy0o0_0 r.2.2.1.cells.length r.2.2.1.cells.length, .int .i64 r.2.2.1.count] 94⟩], ty0o0_0, [⟨bp1, .cells [.bool r.2.2.2.told_Ok, .string r.2.2.2.told_Key, .int .u64 r.2.2.2.told_Val, .int .i64 r.2.2.2.told_Err, vy1_4] 114⟩], tr] ∧ AccR R_Tbst_node 89 h1 ty0_1 (.slice qy0_1 r.2.1.nodes.length r.2.1.nodes.length) r.2.1.nodes ∧ AccR R_Tbst_info 86 h1 ty0_2 (.slice qy0_2 r.2.1.infos.length r.2.1.infos.length) r.2.1.infos ∧ AccR (RI_ .u64 29) 29 h1 ty0o0_0 (.slice qy0o0_0 r.2.2.1.cells.length r.2.2.1.cells.length) r.2.2.1.cells ∧ OC h1 bp0 bp1 tr r.1 vr) := by
  unfold F_bst_Tree_remove_2_1 at hF
  refine evo_of rfl at_87 rfl rfl ?_
  refine go_seq ?_
  refine go_region ?_
  refine gAc rfl rfl ?_
  refine go_nil ?_
  refine go_seq ?_
  refine go_regions (L := [(0, []), (1, []), (2, []), (3, []), (4, []), (5, []), (6, []), (8, []), (9, []), (10, []), (7, [0, 3, 9, 10]), (11, [0, 3, 9]), (12, []), (13, []), (14, []), (15, []), (16, []), (17, [])]) (by kernel_rfl) (by kernel_rfl) (fun _ => rfl) ?_
  refine go_sop rfl rfl ?_
  refine gr rfl (r_load (ot rfl) (v := .pointer (some ⟨bp0, 0, none⟩)) (lo_e (fun hf kn => ld_cell ag_24 (g2.ext kn) rfl))) ?_
  refine go_nil ?_
  refine go_sop rfl rfl ?_
  refine gr rfl (r_nilck (ot rfl)) ?_
  refine go_nil ?_
  refine go_sop rfl rfl ?_
  refine gr rfl (r_fa (ot rfl) (fa_83_0 _ _)) ?_
  refine go_nil ?_
  refine go_sop rfl rfl ?_
  refine gr rfl (r_load (ot rfl) (lm_s (mem_seg 0 rfl) ag_26 rfl)) ?_
  refine go_nil ?_
  refine go_sop rfl rfl ?_
  refine gr rfl (r_load (ot rfl) (v := .pointer (some ⟨bp0, 0, none⟩)) (lo_e (fun hf kn => ld_cell ag_24 (g2.ext kn) rfl))) ?_
  refine go_nil ?_
  refine go_sop rfl rfl ?_
  refine gr rfl (r_fa (ot rfl) (fa_105_0 _ _)) ?_
  refine go_nil ?_
  refine go_sop rfl rfl ?_
  refine gr rfl (r_load (ot rfl) (v := .int .i64 p3.grand) (lo_e (fun hf kn => ld_cell ag_3 (g3.ext kn) rfl))) ?_
  refine go_nil ?_
  refine go_sop rfl rfl ?_
  refine gr rfl (r_fa (ot rfl) (fa_105_3 _ _)) ?_
  refine go_nil ?_
  refine go_sop rfl rfl ?_
  refine gr rfl (r_load (ot rfl) (v := .int .u64 p3.grandWord) (lo_e (fun hf kn => ld_cell ag_29 (g3.ext kn) rfl))) ?_
  refine go_nil ?_
  refine go_sop rfl rfl ?_
  refine gr rfl (r_load (ot rfl) (v := .int .i64 p4) (lo_e (fun hf kn => ld_cell ag_3 (g4.ext kn) rfl))) ?_
  refine go_nil ?_
  refine go_sopc [(0, .pointer (some ⟨bp0, 0, none⟩)), (3, .pointer (some ⟨bp0o0, 0, none⟩)), (9, .int .u64 p3.grandWord), (10, .int .i64 p4)] rfl rfl rfl (rc1 rfl (r_load (ot rfl) (v := .pointer (some ⟨bp0, 0, none⟩)) (lo_e (fun hf kn => ld_cell ag_24 (g2.ext kn) rfl))) (rc1 rfl (r_load (ot rfl) (lm_s (mem_seg 0 rfl) ag_26 rfl)) (rc1 rfl (r_load (ot rfl) (v := .int .u64 p3.grandWord) (lo_e (fun hf kn => ld_cell ag_29 (g3.ext kn) rfl))) (rc1 rfl (r_load (ot rfl) (v := .int .i64 p4) (lo_e (fun hf kn => ld_cell ag_3 (g4.ext kn) rfl))) rc0)))) (vq1 (veq_ptr _ _) (vq1 (veq_ptr _ _) (vq1 (veq_int _ _ _) (vq1 (veq_int _ _ _) vq0)))) rfl ?_
  replace hF := obind hF
  obtain ⟨x9, hx9, hF⟩ := hF
  refine gs_call EE_fr hw (.cons .z (.cons .z (.cons .z (.cons .z (.cons .z .nil))))) (fun _ h => by cases h; rfl) of (os1 (ot rfl) (os1 (ot rfl) (os1 (oc rfl) os0))) hb_55 (by exact s_bst_Tree_cell hw p0 p0o0 p3.grand 0 f0_1 f0_2 f0o0_0 hx9) ?_
  rintro v9 S9 h9 e9 w9 ⟨q9_y0_1, t9_y0_1, q9_y0_2, t9_y0_2, q9_y0o0_0, t9_y0o0_0, rfl, rfl, f9_0, f9_1, f9_2⟩
  simp only [List.cons_append, List.nil_append]
  refine go_nil ?_
  refine go_rck (rc1 rfl (r_load (ot rfl) (v := .pointer (some ⟨bp0, 0, none⟩)) (lo_e (fun hf kn => ld_cell ag_24 ((g2.ext e9.kn).ext kn) rfl))) (rc1 rfl (r_load (ot rfl) (lm_s (mem_seg 0 rfl) ag_26 rfl)) (rc1 rfl (r_load (ot rfl) (v := .int .u64 p3.grandWord) (lo_e (fun hf kn => ld_cell ag_29 ((g3.ext e9.kn).ext kn) rfl))) (rc1 rfl (r_load (ot rfl) (v := .int .i64 p4) (lo_e (fun hf kn => ld_cell ag_3 ((g4.ext e9.kn).ext kn) rfl))) rc0)))) ?_
  refine go_sopc [(0, .pointer (some ⟨bp0, 0, none⟩)), (3, .pointer (some ⟨bp0o0, 0, none⟩)), (9, .int .u64 p3.grandWord)] rfl rfl rfl (rc1 rfl (r_load (ot rfl) (v := .pointer (some ⟨bp0, 0, none⟩)) (lo_e (fun hf kn => ld_cell ag_24 ((g2.ext e9.kn).ext kn) rfl))) (rc1 rfl (r_load (ot rfl) (lm_s (mem_seg 0 rfl) ag_26 rfl)) (rc1 rfl (r_load (ot rfl) (v := .int .u64 p3.grandWord) (lo_e (fun hf kn => ld_cell ag_29 ((g3.ext e9.kn).ext kn) rfl))) rc0))) (vq1 (veq_ptr _ _) (vq1 (veq_ptr _ _) (vq1 (veq_int _ _ _) vq0))) rfl ?_
  replace hF := obind hF
  obtain ⟨x10, hx10, hF⟩ := hF
  refine g_callp (v := .int .u64 x10) EE_fr rfl of (os1 (oc rfl) (os1 (ot rfl) os0)) hb_89 (fun _ => rfl) (fun hf kn w => by exact s_word_Pack w 2 p4  hx10) ?_
  refine go_nil ?_
  refine go_rck (rc1 rfl (r_load (ot rfl) (v := .pointer (some ⟨bp0, 0, none⟩)) (lo_e (fun hf kn => ld_cell ag_24 ((g2.ext e9.kn).ext kn) rfl))) (rc1 rfl (r_load (ot rfl) (lm_s (mem_seg 0 rfl) ag_26 rfl)) (rc1 rfl (r_load (ot rfl) (v := .int .u64 p3.grandWord) (lo_e (fun hf kn => ld_cell ag_29 ((g3.ext e9.kn).ext kn) rfl))) rc0))) ?_
  refine go_sop rfl rfl ?_
  replace hF := obind hF
  obtain ⟨x11, hx11, hF⟩ := hF
  refine gs_call EE_fr w9 (.cons (.s (.s (.s (.z)))) (.cons (.s (.s (.s (.z)))) .nil)) (fun _ h => by cases h; rfl) of (os1 (ot rfl) (os1 (ot rfl) (os1 (ot rfl) (os1 (ot rfl) os0)))) hb_88 (by exact s_mem_Mem_CAS w9 (⟨x9.2.2.cells, x9.2.2.count⟩ : Omem_Mem) x9.1 p3.grandWord x10 f9_2 hx11) ?_
  rintro v11 S11 h11 e11 w11 ⟨q11_y0_0, t11_y0_0, rfl, rfl, f11_0⟩
  simp only [List.cons_append, List.nil_append]
  refine go_nil ?_
  refine go_sop rfl rfl ?_
  refine gM rfl rfl ?_
  refine go_nil ?_
  refine go_sop rfl rfl ?_
  refine gE rfl rfl rfl ?_
  refine go_nil ?_
  refine go_sop rfl rfl ?_
  refine gE rfl rfl rfl ?_
  refine go_nil ?_
  refine go_sop rfl rfl ?_
  refine gA rfl rfl ?_
  refine go_nil ?_
  refine go_sop rfl rfl ?_
  refine gA rfl rfl ?_
  refine go_nil ?_
  refine go_snil ?_
  refine go_seq ?_
  refine go_seq ?_
  refine go_region ?_
  refine gM rfl rfl ?_
  refine gr rfl (r_un (ot rfl) rfl) ?_
  refine go_nil ?_
  refine g_cond (b := (!x11.2.1)) (ot rfl) (fun hc12 => ?_) (fun hc12 => ?_)
  ·
    replace hF := ifT hc12 hF
    refine go_seq ?_
    refine go_region ?_
    refine gr rfl (r_load (ot rfl) (v := .pointer (some ⟨bp0, 0, none⟩)) (lo_e (fun hf kn => ld_cell ag_24 (((g2.ext e9.kn).ext e11.kn).ext kn) rfl))) ?_
    refine gM rfl rfl ?_
    refine gr rfl (r_load (ot rfl) (v := v5) (lo_e (fun hf kn => ld_cell ag_101 (((g5.ext e9.kn).ext e11.kn).ext kn) rfl))) ?_
    replace hF := obind hF
    obtain ⟨x13, hx13, hF⟩ := hF
    refine gs_call EE_fr w11 (.cons (.s (.s (.z))) (.cons (.s (.s (.z))) (.cons (.s (.s (.z))) (.cons .z (.cons .z (.cons .z .nil)))))) (fun _ h => by cases h; rfl) of (os1 (ot rfl) (os1 (ot rfl) (os1 (ot rfl) os0))) hb_77 (by exact s_bst_Tree_help hrc w11 (⟨x9.2.1.nodes, x9.2.1.infos⟩ : Obst_Tree) (⟨x11.2.2.cells, x11.2.2.count⟩ : Omem_Mem) p1 x11.1 p5 (f9_0.ext e11.kn) (f9_1.ext e11.kn) f11_0 ((c5.ext e9.kn).ext e11.kn) hx13) ?_
    rintro v13 S13 h13 e13 w13 ⟨q13_y0_1, t13_y0_1, q13_y0_2, t13_y0_2, q13_y0o0_0, t13_y0o0_0, v13_y1_4, v13_r, t13_r, rfl, rfl, f13_0, f13_1, f13_2, f13_3⟩
    simp only [List.cons_append, List.nil_append]
    refine gA rfl rfl ?_
    refine go_nil ?_
    obtain rfl := someI hF
    exact g_ret (rst rfl rs0) (fun h1 hf hs => ⟨[[⟨bp0, .cells [.pointer (some ⟨bp0o0, 0, none⟩), .slice q13_y0_1 x13.2.1.nodes.length x13.2.1.nodes.length, .slice q13_y0_2 x13.2.1.infos.length x13.2.1.infos.length] 83⟩], t13_y0_1, t13_y0_2, [⟨bp0o0, .cells [.slice q13_y0o0_0 x13.2.2.1.cells.length x13.2.2.1.cells.length, .int .i64 x13.2.2.1.count] 94⟩], t13_y0o0_0, [⟨bp1, .cells [.bool x13.2.2.2.told_Ok, .string x13.2.2.2.told_Key, .int .u64 x13.2.2.2.told_Val, .int .i64 x13.2.2.2.told_Err, v13_y1_4] 114⟩], t13_r], _, hf, (e9.trans (e11.trans e13)), w13, hs, (ndb (by intro e; cases e) (ndt f13_0 (ndt f13_1 (ndb (by intro e; cases e) (ndt f13_2 (ndb (by intro e; cases e) (ndc f13_3 nd0))))))), ⟨_, _, _, _, _, _, _, _, _, rfl, rfl, f13_0, f13_1, f13_2, f13_3⟩⟩)
  ·
    replace hF := ifF hc12 hF
    refine go_skip ?_
    refine go_seq ?_
    refine go_region ?_
    refine gr rfl (r_load (ot rfl) (v := .pointer (some ⟨bp0, 0, none⟩)) (lo_e (fun hf kn => ld_cell ag_24 (((g2.ext e9.kn).ext e11.kn).ext kn) rfl))) ?_
    refine gr rfl (r_load (ot rfl) (v := .int .i64 p4) (lo_e (fun hf kn => ld_cell ag_3 (((g4.ext e9.kn).ext e11.kn).ext kn) rfl))) ?_
    refine gr rfl (r_func os0 (os1 (ot rfl) (os1 (ot rfl) (os1 (ot rfl) os0)))) ?_
    have co15 : CO h11 bp0 bp1 [] (Clo.c_remove_2_1_1 p5 p7) (.func (.func 91) #[] #[.pointer (some ⟨b5, 0, none⟩), .pointer (some ⟨b6, 0, none⟩), .pointer (some ⟨b7, 0, none⟩)]) := CO.c_remove_2_1_1 ((g5.ext e9.kn).ext e11.kn) ((c5.ext e9.kn).ext e11.kn) ((g6.ext e9.kn).ext e11.kn) ((g7.ext e9.kn).ext e11.kn)
    replace hF := obind hF
    obtain ⟨x14, hx14, hF⟩ := hF
    refine gs_call EE_fr w11 (.cons (.s (.s (.z))) (.cons (.s (.s (.z))) (.cons (.s (.s (.z))) (.cons .z (.cons .z (.cons .z .nil)))))) (fun _ h => by cases h; rfl) of (os1 (ot rfl) (os1 (ot rfl) (os1 (ot rfl) os0))) hb_90 (by exact s_bst_Tree_loses hrc w11 (⟨x9.2.1.nodes, x9.2.1.infos⟩ : Obst_Tree) (⟨x11.2.2.cells, x11.2.2.count⟩ : Omem_Mem) p1 p4 (Clo.c_remove_2_1_1 p5 p7) (f9_0.ext e11.kn) (f9_1.ext e11.kn) f11_0 co15 hx14) ?_
    rintro v14 S14 h14 e14 w14 ⟨q14_y0_1, t14_y0_1, q14_y0_2, t14_y0_2, q14_y0o0_0, t14_y0o0_0, v14_y1_4, v14_r, t14_r, rfl, rfl, f14_0, f14_1, f14_2, f14_3⟩
    simp only [List.cons_append, List.nil_append]
    refine gA rfl rfl ?_
    refine go_nil ?_
    obtain rfl := someI hF
    exact g_ret (rst rfl rs0) (fun h1 hf hs => ⟨[[⟨bp0, .cells [.pointer (some ⟨bp0o0, 0, none⟩), .slice q14_y0_1 x14.2.1.nodes.length x14.2.1.nodes.length, .slice q14_y0_2 x14.2.1.infos.length x14.2.1.infos.length] 83⟩], t14_y0_1, t14_y0_2, [⟨bp0o0, .cells [.slice q14_y0o0_0 x14.2.2.1.cells.length x14.2.2.1.cells.length, .int .i64 x14.2.2.1.count] 94⟩], t14_y0o0_0, [⟨bp1, .cells [.bool x14.2.2.2.told_Ok, .string x14.2.2.2.told_Key, .int .u64 x14.2.2.2.told_Val, .int .i64 x14.2.2.2.told_Err, v14_y1_4] 114⟩], t14_r], _, hf, (e9.trans (e11.trans e14)), w14, hs, (ndb (by intro e; cases e) (ndt f14_0 (ndt f14_1 (ndb (by intro e; cases e) (ndt f14_2 (ndb (by intro e; cases e) (ndc f14_3 nd0))))))), ⟨_, _, _, _, _, _, _, _, _, rfl, rfl, f14_0, f14_1, f14_2, f14_3⟩⟩)
theorem s_bst_Tree_remove_2_1_1 {rc : RC} (hrc : RCok rc) {h : Heap} (hw : Wf h) (p0 : Obst_Tree) (p0o0 : Omem_Mem) (p1 : Obst_Call) (p2 : Bool) (p3 : Clo) (p5 : Int) {bp0 : Nat} {q0_1 : Option Addr} {t0_1 : List Blk} {q0_2 : Option Addr} {t0_2 : List Blk} {bp0o0 : Nat} {q0o0_0 : Option Addr} {t0o0_0 : List Blk} {bp1 : Nat} {v1_4 : Value} {b3 : Nat} {v3 : Value} {b4 : Nat} {b5 : Nat} (f0_1 : AccR R_Tbst_node 89 h t0_1 (.slice q0_1 p0.nodes.length p0.nodes.length) p0.nodes) (f0_2 : AccR R_Tbst_info 86 h t0_2 (.slice q0_2 p0.infos.length p0.infos.length) p0.infos) (f0o0_0 : AccR (RI_ .u64 29) 29 h t0o0_0 (.slice q0o0_0 p0o0.cells.length p0o0.cells.length) p0o0.cells) (g3 : BK h b3 [v3] 101) (c3 : CO h bp0 bp1 [] p3 v3) (g4 : BK h b4 [.pointer (some ⟨bp1, 0, none⟩)] 34) (g5 : BK h b5 [.int .u64 p5] 29) {r : (Option Clo) × Obst_Tree × Omem_Mem × Obst_Call} (hF : F_bst_Tree_remove_2_1_1 rc p0 p0o0 p1 p2 p3 p5 = some r) :
    EvO EE 91 [.bool p2, .pointer (some ⟨b3, 0, none⟩), .pointer (some ⟨b4, 0, none⟩), .pointer (some ⟨b5, 0, none⟩)] [[⟨bp0, .cells [.pointer (some ⟨bp0o0, 0, none⟩), .slice q0_1 p0.nodes.length p0.nodes.length, .slice q0_2 p0.infos.length p0.infos.length] 83⟩], t0_1, t0_2, [⟨bp0o0, .cells [.slice q0o0_0 p0o0.cells.length p0o0.cells.length, .int .i64 p0o0.count] 94⟩], t0o0_0, [⟨bp1, .cells [.bool p1.told_Ok, .string p1.told_Key, .int .u64 p1.told_Val, .int .i64 p1.told_Err, v1_4] 114⟩]] h (fun v S h1 => ∃ qy0_1 ty0_1 qy0_2 ty0_2 qy0o0_0 ty0o0_0 vy1_4 vr tr, v = vr ∧ S = [[⟨bp0, .cells [.pointer (some ⟨bp0o0, 0, none⟩), .slice qy0_1 r.2.1.nodes.length r.2.1.nodes.length, .slice qy0_2 r.2.1.infos.length r.2.1.infos.length] 83⟩], ty0_1, ty0_2, [⟨bp0o0, .cells [.slice qy0o0_0 r.2.2.1.cells.length r.2.2.1.cells.length, .int .i64 r.2.2.1.count] 94⟩], ty0o0_0, [⟨bp1, .cells [.bool r.2.2.2.told_Ok, .string r.2.2.2.told_Key, .int .u64 r.2.2.2.told_Val, .int .i64 r.2.2.2.told_Err, vy1_4] 114⟩], tr] ∧ AccR R_Tbst_node 89 h1 ty0_1 (.slice qy0_1 r.2.1.nodes.length r.2.1.nodes.length) r.2.1.nodes ∧ AccR R_Tbst_info 86 h1 ty0_2 (.slice qy0_2 r.2.1.infos.length r.2.1.infos.length) r.2.1.infos ∧ AccR (RI_ .u64 29) 29 h1 ty0o0_0 (.slice qy0o0_0 r.2.2.1.cells.length r.2.2.1.cells.length) r.2.2.1.cells ∧ OC h1 bp0 bp1 tr r.1 vr) := by
  unfold F_bst_Tree_remove_2_1_1 at hF
  refine evo_of rfl at_91 rfl rfl ?_
  refine go_seq ?_
  refine go_region ?_
  refine gAc rfl rfl ?_
  refine go_nil ?_
  refine go_seq ?_
  refine go_seq ?_
  refine go_region ?_
  refine gM rfl rfl ?_
  refine gr rfl (r_un (ot rfl) rfl) ?_
  refine go_nil ?_
  refine g_cond (b := (!p2)) (ot rfl) (fun hc7 => ?_) (fun hc7 => ?_)
  ·
    replace hF := ifT hc7 hF
    refine go_seq ?_
    refine go_region ?_
    refine gr rfl (r_load (ot rfl) (v := v3) (lo_e (fun hf kn => ld_cell ag_101 (g3.ext kn) rfl))) ?_
    replace hF := obind hF
    obtain ⟨x8, hx8, hF⟩ := hF
    refine gs_calld EE_fr hw (.cons .z (.cons .z (.cons .z (.cons .z (.cons .z (.cons .z (.emp .nil))))))) (fun _ h => by cases h; rfl) (ot rfl) os0 (by exact hrc hw p0 p0o0 p1 f0_1 f0_2 f0o0_0 p3 Arg.u [] c3 hx8) ?_
    rintro v8 S8 h8 e8 w8 ⟨q8_y0_1, t8_y0_1, q8_y0_2, t8_y0_2, q8_y0o0_0, t8_y0o0_0, v8_y1_4, v8_r, t8_r, rfl, rfl, f8_0, f8_1, f8_2, f8_3⟩
    simp only [List.cons_append, List.nil_append]
    refine gA rfl rfl ?_
    refine go_nil ?_
    obtain rfl := someI hF
    exact g_ret (rst rfl rs0) (fun h1 hf hs => ⟨[[⟨bp0, .cells [.pointer (some ⟨bp0o0, 0, none⟩), .slice q8_y0_1 x8.2.1.nodes.length x8.2.1.nodes.length, .slice q8_y0_2 x8.2.1.infos.length x8.2.1.infos.length] 83⟩], t8_y0_1, t8_y0_2, [⟨bp0o0, .cells [.slice q8_y0o0_0 x8.2.2.1.cells.length x8.2.2.1.cells.length, .int .i64 x8.2.2.1.count] 94⟩], t8_y0o0_0, [⟨bp1, .cells [.bool x8.2.2.2.told_Ok, .string x8.2.2.2.told_Key, .int .u64 x8.2.2.2.told_Val, .int .i64 x8.2.2.2.told_Err, v8_y1_4] 114⟩], t8_r], _, hf, e8, w8, hs, (ndb (by intro e; cases e) (ndt f8_0 (ndt f8_1 (ndb (by intro e; cases e) (ndt f8_2 (ndb (by intro e; cases e) (ndc f8_3 nd0))))))), ⟨_, _, _, _, _, _, _, _, _, rfl, rfl, f8_0, f8_1, f8_2, f8_3⟩⟩)
  ·
    replace hF := ifF hc7 hF
    refine go_skip ?_
    refine go_seq ?_
    refine go_region ?_
    refine gr rfl (r_load (ot rfl) (v := .pointer (some ⟨bp1, 0, none⟩)) (lo_e (fun hf kn => ld_cell ag_34 (g4.ext kn) rfl))) ?_
    refine gr rfl (r_load (ot rfl) (v := .int .u64 p5) (lo_e (fun hf kn => ld_cell ag_29 (g5.ext kn) rfl))) ?_
    replace hF := obind hF
    obtain ⟨x9, hx9, hF⟩ := hF
    refine gs_call EE_fr hw (.cons .z (.cons .z (.cons .z (.cons .z (.cons .z (.cons .z .nil)))))) (fun _ h => by cases h; rfl) of (os1 (ot rfl) (os1 (oc rfl) (os1 (ot rfl) os0))) hb_53 (by exact s_bst_Call_tell hrc hw p0 p0o0 p1 true p5 f0_1 f0_2 f0o0_0 hx9) ?_
    rintro v9 S9 h9 e9 w9 ⟨q9_y0_1, t9_y0_1, q9_y0_2, t9_y0_2, q9_y0o0_0, t9_y0o0_0, v9_y1_4, v9_r, t9_r, rfl, rfl, f9_0, f9_1, f9_2, f9_3⟩
    simp only [List.cons_append, List.nil_append]
    refine gA rfl rfl ?_
    refine go_nil ?_
    obtain rfl := someI hF
    exact g_ret (rst rfl rs0) (fun h1 hf hs => ⟨[[⟨bp0, .cells [.pointer (some ⟨bp0o0, 0, none⟩), .slice q9_y0_1 x9.2.1.nodes.length x9.2.1.nodes.length, .slice q9_y0_2 x9.2.1.infos.length x9.2.1.infos.length] 83⟩], t9_y0_1, t9_y0_2, [⟨bp0o0, .cells [.slice q9_y0o0_0 x9.2.2.1.cells.length x9.2.2.1.cells.length, .int .i64 x9.2.2.1.count] 94⟩], t9_y0o0_0, [⟨bp1, .cells [.bool x9.2.2.2.told_Ok, .string x9.2.2.2.told_Key, .int .u64 x9.2.2.2.told_Val, .int .i64 x9.2.2.2.told_Err, v9_y1_4] 114⟩], t9_r], _, hf, e9, w9, hs, (ndb (by intro e; cases e) (ndt f9_0 (ndt f9_1 (ndb (by intro e; cases e) (ndt f9_2 (ndb (by intro e; cases e) (ndc f9_3 nd0))))))), ⟨_, _, _, _, _, _, _, _, _, rfl, rfl, f9_0, f9_1, f9_2, f9_3⟩⟩)
theorem s_bst_Tree_down_1 {rc : RC} (hrc : RCok rc) {h : Heap} (hw : Wf h) (p0 : Obst_Tree) (p0o0 : Omem_Mem) (p1 : Obst_Call) (p3 : Tbst_seen) (p4 : Tbst_node) (p5 : Clo) {bp0 : Nat} {q0_1 : Option Addr} {t0_1 : List Blk} {q0_2 : Option Addr} {t0_2 : List Blk} {bp0o0 : Nat} {q0o0_0 : Option Addr} {t0o0_0 : List Blk} {bp1 : Nat} {v1_4 : Value} {b2 : Nat} {bo3 : Nat} {b4 : Nat} {b5 : Nat} {v5 : Value} (f0_1 : AccR R_Tbst_node 89 h t0_1 (.slice q0_1 p0.nodes.length p0.nodes.length) p0.nodes) (f0_2 : AccR R_Tbst_info 86 h t0_2 (.slice q0_2 p0.infos.length p0.infos.length) p0.infos) (f0o0_0 : AccR (RI_ .u64 29) 29 h t0o0_0 (.slice q0o0_0 p0o0.cells.length p0o0.cells.length) p0o0.cells) (g2 : BK h b2 [.pointer (some ⟨bp0, 0, none⟩)] 24) (g4 : BK h b4 [.string p4.key, .int .i64 p4.top, .int .u64 p4.val, .int .i64 p4.cell] 89) (g5 : BK h b5 [v5] 111) (c5 : CO h bp0 bp1 [] p5 v5) {r : (Option Clo) × Obst_Tree × Omem_Mem × Obst_Call} (hF : F_bst_Tree_down_1 rc p0 p0o0 p1 p3 p4 p5 = some r) :
    EvO EE 92 [.pointer (some ⟨b2, 0, none⟩), .pointer (some ⟨bo3, 0, none⟩), .pointer (some ⟨b4, 0, none⟩), .pointer (some ⟨b5, 0, none⟩)] [[⟨bp0, .cells [.pointer (some ⟨bp0o0, 0, none⟩), .slice q0_1 p0.nodes.length p0.nodes.length, .slice q0_2 p0.infos.length p0.infos.length] 83⟩], t0_1, t0_2, [⟨bp0o0, .cells [.slice q0o0_0 p0o0.cells.length p0o0.cells.length, .int .i64 p0o0.count] 94⟩], t0o0_0, [⟨bp1, .cells [.bool p1.told_Ok, .string p1.told_Key, .int .u64 p1.told_Val, .int .i64 p1.told_Err, v1_4] 114⟩], [⟨bo3, .cells [.int .i64 p3.grand, .int .i64 p3.parent, .int .i64 p3.leaf, .int .u64 p3.grandWord, .int .u64 p3.parentWord, .int .i64 p3.turn] 105⟩]] h (fun v S h1 => ∃ qy0_1 ty0_1 qy0_2 ty0_2 qy0o0_0 ty0o0_0 vy1_4 vr tr, v = vr ∧ S = [[⟨bp0, .cells [.pointer (some ⟨bp0o0, 0, none⟩), .slice qy0_1 r.2.1.nodes.length r.2.1.nodes.length, .slice qy0_2 r.2.1.infos.length r.2.1.infos.length] 83⟩], ty0_1, ty0_2, [⟨bp0o0, .cells [.slice qy0o0_0 r.2.2.1.cells.length r.2.2.1.cells.length, .int .i64 r.2.2.1.count] 94⟩], ty0o0_0, [⟨bp1, .cells [.bool r.2.2.2.told_Ok, .string r.2.2.2.told_Key, .int .u64 r.2.2.2.told_Val, .int .i64 r.2.2.2.told_Err, vy1_4] 114⟩], tr] ∧ AccR R_Tbst_node 89 h1 ty0_1 (.slice qy0_1 r.2.1.nodes.length r.2.1.nodes.length) r.2.1.nodes ∧ AccR R_Tbst_info 86 h1 ty0_2 (.slice qy0_2 r.2.1.infos.length r.2.1.infos.length) r.2.1.infos ∧ AccR (RI_ .u64 29) 29 h1 ty0o0_0 (.slice qy0o0_0 r.2.2.1.cells.length r.2.2.1.cells.length) r.2.2.1.cells ∧ OC h1 bp0 bp1 tr r.1 vr) := by
  unfold F_bst_Tree_down_1 at hF
  refine evo_of rfl at_92 rfl rfl ?_
  refine go_seq ?_
  refine go_region ?_
  refine gAc rfl rfl ?_
  refine go_nil ?_
  refine go_seq ?_
  refine go_regions (L := [(0, []), (1, []), (2, []), (3, []), (4, []), (5, []), (6, []), (7, [0, 3]), (8, []), (9, []), (10, []), (11, []), (12, []), (13, [])]) (by kernel_rfl) (by kernel_rfl) (fun _ => rfl) ?_
  refine go_sop rfl rfl ?_
  refine gr rfl (r_load (ot rfl) (v := .pointer (some ⟨bp0, 0, none⟩)) (lo_e (fun hf kn => ld_cell ag_24 (g2.ext kn) rfl))) ?_
  refine go_nil ?_
  refine go_sop rfl rfl ?_
  refine gr rfl (r_nilck (ot rfl)) ?_
  refine go_nil ?_
  refine go_sop rfl rfl ?_
  refine gr rfl (r_fa (ot rfl) (fa_83_0 _ _)) ?_
  refine go_nil ?_
  refine go_sop rfl rfl ?_
  refine gr rfl (r_load (ot rfl) (lm_s (mem_seg 0 rfl) ag_26 rfl)) ?_
  refine go_nil ?_
  refine go_sop rfl rfl ?_
  refine gr rfl (r_load (ot rfl) (v := .pointer (some ⟨bp0, 0, none⟩)) (lo_e (fun hf kn => ld_cell ag_24 (g2.ext kn) rfl))) ?_
  refine go_nil ?_
  refine go_sop rfl rfl ?_
  refine gr rfl (r_fa (ot rfl) (fa_105_1 _ _)) ?_
  refine go_nil ?_
  refine go_sop rfl rfl ?_
  refine gr rfl (r_load (ot rfl) (lm_s (mem_seg 6 rfl) ag_3 rfl)) ?_
  refine go_nil ?_
  refine go_sopc [(0, .pointer (some ⟨bp0, 0, none⟩)), (3, .pointer (some ⟨bp0o0, 0, none⟩))] rfl rfl rfl (rc1 rfl (r_load (ot rfl) (v := .pointer (some ⟨bp0, 0, none⟩)) (lo_e (fun hf kn => ld_cell ag_24 (g2.ext kn) rfl))) (rc1 rfl (r_load (ot rfl) (lm_s (mem_seg 0 rfl) ag_26 rfl)) rc0)) (vq1 (veq_ptr _ _) (vq1 (veq_ptr _ _) vq0)) rfl ?_
  replace hF := obind hF
  obtain ⟨x7, hx7, hF⟩ := hF
  refine gs_call EE_fr hw (.cons .z (.cons .z (.cons .z (.cons .z (.cons .z .nil))))) (fun _ h => by cases h; rfl) of (os1 (ot rfl) (os1 (ot rfl) (os1 (oc rfl) os0))) hb_55 (by exact s_bst_Tree_cell hw p0 p0o0 p3.parent 0 f0_1 f0_2 f0o0_0 hx7) ?_
  rintro v7 S7 h7 e7 w7 ⟨q7_y0_1, t7_y0_1, q7_y0_2, t7_y0_2, q7_y0o0_0, t7_y0o0_0, rfl, rfl, f7_0, f7_1, f7_2⟩
  simp only [List.cons_append, List.nil_append]
  refine go_nil ?_
  refine go_rck (rc1 rfl (r_load (ot rfl) (v := .pointer (some ⟨bp0, 0, none⟩)) (lo_e (fun hf kn => ld_cell ag_24 ((g2.ext e7.kn).ext kn) rfl))) (rc1 rfl (r_load (ot rfl) (lm_s (mem_seg 0 rfl) ag_26 rfl)) rc0)) ?_
  refine go_sop rfl rfl ?_
  replace hF := obind hF
  obtain ⟨x8, hx8, hF⟩ := hF
  refine gs_call EE_fr w7 (.cons (.s (.s (.s (.z)))) (.cons (.s (.s (.s (.z)))) .nil)) (fun _ h => by cases h; rfl) of (os1 (ot rfl) (os1 (ot rfl) os0)) hb_73 (by exact s_mem_Mem_Load w7 (⟨x7.2.2.cells, x7.2.2.count⟩ : Omem_Mem) x7.1 f7_2 hx8) ?_
  rintro v8 S8 h8 e8 w8 ⟨q8_y0_0, t8_y0_0, rfl, rfl, f8_0⟩
  simp only [List.cons_append, List.nil_append]
  refine go_nil ?_
  refine go_sop rfl rfl ?_
  refine gM rfl rfl ?_
  refine go_nil ?_
  refine go_sop rfl rfl ?_
  refine gE rfl rfl rfl ?_
  refine go_nil ?_
  refine go_sop rfl rfl ?_
  refine gE rfl rfl rfl ?_
  refine go_nil ?_
  refine go_sop rfl rfl ?_
  refine gr rfl (r_fa (ot rfl) (fa_105_4 _ _)) ?_
  refine go_nil ?_
  refine go_sop rfl rfl ?_
  refine gs_store (ot rfl) (ot rfl) sz_29 rfl rfl rfl rfl rfl (.s (.s (.s (.s (.s (.s (.z))))))) ?_
  refine go_nil ?_
  refine go_snil ?_
  refine go_seq ?_
  refine go_region ?_
  refine gr rfl (r_func os0 (os1 (ot rfl) (os1 (ot rfl) (os1 (ot rfl) (os1 (ot rfl) os0))))) ?_
  refine gA rfl rfl ?_
  refine go_nil ?_
  have co9 : CO h8 bp0 bp1 [⟨bo3, .cells [.int .i64 p3.grand, .int .i64 p3.parent, .int .i64 p3.leaf, .int .u64 p3.grandWord, .int .u64 x8.1, .int .i64 p3.turn] 105⟩] (Clo.c_down_1_1 (⟨p3.grand, p3.parent, p3.leaf, p3.grandWord, x8.1, p3.turn⟩ : Tbst_seen) p4 p5) (.func (.func 93) #[] #[.pointer (some ⟨b2, 0, none⟩), .pointer (some ⟨bo3, 0, none⟩), .pointer (some ⟨b4, 0, none⟩), .pointer (some ⟨b5, 0, none⟩)]) := CO.c_down_1_1 (x0 := (⟨p3.grand, p3.parent, p3.leaf, p3.grandWord, x8.1, p3.turn⟩ : Tbst_seen)) ((g2.ext e7.kn).ext e8.kn) ((g4.ext e7.kn).ext e8.kn) ((g5.ext e7.kn).ext e8.kn) ((c5.ext e7.kn).ext e8.kn)
  obtain rfl := someI hF
  refine gs_perm (perm_of (d := []) _ [2, 3, 4, 0, 1, 5, 6] rfl) ?_
  exact g_ret (rst rfl rs0) (fun h1 hf hs => ⟨[[⟨bp0, .cells [.pointer (some ⟨bp0o0, 0, none⟩), .slice q7_y0_1 x7.2.1.nodes.length x7.2.1.nodes.length, .slice q7_y0_2 x7.2.1.infos.length x7.2.1.infos.length] 83⟩], t7_y0_1, t7_y0_2, [⟨bp0o0, .cells [.slice q8_y0_0 x8.2.2.cells.length x8.2.2.cells.length, .int .i64 x8.2.2.count] 94⟩], t8_y0_0, [⟨bp1, .cells [.bool p1.told_Ok, .string p1.told_Key, .int .u64 p1.told_Val, .int .i64 p1.told_Err, v1_4] 114⟩], [⟨bo3, .cells [.int .i64 p3.grand, .int .i64 p3.parent, .int .i64 p3.leaf, .int .u64 p3.grandWord, .int .u64 x8.1, .int .i64 p3.turn] 105⟩]], _, hf, (e7.trans e8), w8, hs, (ndb (by intro e; cases e) (ndt (f7_0.ext e8.kn) (ndt (f7_1.ext e8.kn) (ndb (by intro e; cases e) (ndt f8_0 (ndb (by intro e; cases e) (ndb (by intro e; cases e) nd0))))))), ⟨_, _, _, _, _, _, _, _, _, rfl, rfl, (f7_0.ext e8.kn), (f7_1.ext e8.kn), f8_0, (OC.some co9)⟩⟩)
theorem s_bst_Tree_side {h : Heap} (hw : Wf h) (p0 : Obst_Tree) (p0o0 : Omem_Mem) (p1 : Int) (p2 : Tbst_node) {bp0 : Nat} {q0_1 : Option Addr} {t0_1 : List Blk} {q0_2 : Option Addr} {t0_2 : List Blk} {bp0o0 : Nat} {q0o0_0 : Option Addr} {t0o0_0 : List Blk} (f0_1 : AccR R_Tbst_node 89 h t0_1 (.slice q0_1 p0.nodes.length p0.nodes.length) p0.nodes) (f0_2 : AccR R_Tbst_info 86 h t0_2 (.slice q0_2 p0.infos.length p0.infos.length) p0.infos) (f0o0_0 : AccR (RI_ .u64 29) 29 h t0o0_0 (.slice q0o0_0 p0o0.cells.length p0o0.cells.length) p0o0.cells) {r : Int × Obst_Tree × Omem_Mem} (hF : F_bst_Tree_side p0 p0o0 p1 p2 = some r) :
    EvO EE 94 [.pointer (some ⟨bp0, 0, none⟩), .int .i64 p1, .agg #[.string p2.key, .int .i64 p2.top, .int .u64 p2.val, .int .i64 p2.cell]] [[⟨bp0, .cells [.pointer (some ⟨bp0o0, 0, none⟩), .slice q0_1 p0.nodes.length p0.nodes.length, .slice q0_2 p0.infos.length p0.infos.length] 83⟩], t0_1, t0_2, [⟨bp0o0, .cells [.slice q0o0_0 p0o0.cells.length p0o0.cells.length, .int .i64 p0o0.count] 94⟩], t0o0_0] h (fun v S h1 => ∃ qy0_1 ty0_1 qy0_2 ty0_2 qy0o0_0 ty0o0_0, v = .int .i64 r.1 ∧ S = [[⟨bp0, .cells [.pointer (some ⟨bp0o0, 0, none⟩), .slice qy0_1 r.2.1.nodes.length r.2.1.nodes.length, .slice qy0_2 r.2.1.infos.length r.2.1.infos.length] 83⟩], ty0_1, ty0_2, [⟨bp0o0, .cells [.slice qy0o0_0 r.2.2.cells.length r.2.2.cells.length, .int .i64 r.2.2.count] 94⟩], ty0o0_0] ∧ AccR R_Tbst_node 89 h1 ty0_1 (.slice qy0_1 r.2.1.nodes.length r.2.1.nodes.length) r.2.1.nodes ∧ AccR R_Tbst_info 86 h1 ty0_2 (.slice qy0_2 r.2.1.infos.length r.2.1.infos.length) r.2.1.infos ∧ AccR (RI_ .u64 29) 29 h1 ty0o0_0 (.slice qy0o0_0 r.2.2.cells.length r.2.2.cells.length) r.2.2.cells) := by
  unfold F_bst_Tree_side at hF
  refine evo_of rfl at_94 rfl rfl ?_
  refine go_seq ?_
  refine go_region ?_
  refine gs_box rfl (ot rfl) rfl ?_; intro b5_4
  refine gAc rfl rfl ?_
  refine go_nil ?_
  refine go_seq ?_
  refine go_seq ?_
  refine go_regions (L := [(0, []), (1, []), (2, []), (3, []), (4, []), (5, []), (6, []), (7, []), (8, [])]) (by kernel_rfl) (by kernel_rfl) (fun _ => rfl) ?_
  refine go_sop rfl rfl ?_
  refine gr rfl (r_load (ot rfl) (lm_w (mem_seg 0 rfl) ag_89 sz_89 rfl)) ?_
  refine go_nil ?_
  refine go_sop rfl rfl ?_
  refine gM rfl rfl ?_
  refine go_nil ?_
  refine go_sop rfl rfl ?_
  refine gr rfl (r_nilck (ot rfl)) ?_
  refine go_nil ?_
  refine go_sop rfl rfl ?_
  refine gr rfl (r_fa (ot rfl) (fa_83_1 _ _)) ?_
  refine go_nil ?_
  refine go_sop rfl rfl ?_
  refine gr rfl (r_load (ot rfl) (lm_s (mem_seg 1 rfl) ag_80 rfl)) ?_
  refine go_nil ?_
  refine go_sop rfl rfl ?_
  refine gM rfl rfl ?_
  refine go_nil ?_
  refine go_sop rfl rfl ?_
  replace hF := obind hF
  obtain ⟨x5, hx5, hF⟩ := hF
  obtain ⟨bb5, rw5, row5, hp5, ht5, hR5, hw5, rc5, hz5, hi5, hd5, hb5, hl5⟩ := AccR.at_ f0_1 hx5
  have hF5_ := hF
  subst hp5; subst ht5
  replace hF := hF5_
  obtain rfl := rc5
  refine gr rfl (r_ia (ot rfl) (ot rfl) (ia_acc (k := 4) ut_80 sz_89 hz5 hi5)) ?_
  refine go_nil ?_
  refine go_sop rfl rfl ?_
  refine gr rfl (r_load (ot rfl) (lm_a (vs := [.string x5.key, .int .i64 x5.top, .int .u64 x5.val, .int .i64 x5.cell]) (mem_seg 2 rfl) ag_89 sz_89 (Nat.ble_eq_true_of_le hb5) hd5)) ?_
  refine go_nil ?_
  refine go_sop rfl rfl ?_
  replace hF := obind hF
  obtain ⟨x6, hx6, hF⟩ := hF
  refine g_callp (v := .bool x6) EE_fr rfl of (os1 (ot rfl) (os1 (ot rfl) os0)) hb_51 (fun _ => rfl) (fun hf kn w => by exact s_bst_node_less w p2 x5  hx6) ?_
  refine go_nil ?_
  refine go_snil ?_
  refine g_cond (b := x6) (ot rfl) (fun hc7 => ?_) (fun hc7 => ?_)
  ·
    replace hF := ifT hc7 hF
    refine go_seq ?_
    refine go_region ?_
    refine gM rfl rfl ?_
    refine gM rfl rfl ?_
    replace hF := obind hF
    obtain ⟨x8, hx8, hF⟩ := hF
    refine gs_call EE_fr hw (.cons (.s (.z)) (.cons (.s (.z)) (.cons (.s (.z)) (.cons (.s (.z)) (.cons (.s (.z)) .nil))))) (fun _ h => by cases h; rfl) of (os1 (ot rfl) (os1 (ot rfl) (os1 (oc rfl) os0))) hb_55 (by exact s_bst_Tree_cell hw p0 p0o0 p1 1 f0_1 f0_2 f0o0_0 hx8) ?_
    rintro v8 S8 h8 e8 w8 ⟨q8_y0_1, t8_y0_1, q8_y0_2, t8_y0_2, q8_y0o0_0, t8_y0o0_0, rfl, rfl, f8_0, f8_1, f8_2⟩
    simp only [List.cons_append, List.nil_append]
    refine gA rfl rfl ?_
    refine go_nil ?_
    obtain rfl := someI hF
    refine gs_sub (.cons_cons _ (.cons_cons _ (.cons_cons _ (.cons_cons _ (.cons_cons _ (.cons _ (.refl _))))))) ?_
    exact g_ret (rst rfl rs0) (fun h1 hf hs => ⟨[[⟨bp0, .cells [.pointer (some ⟨bp0o0, 0, none⟩), .slice q8_y0_1 x8.2.1.nodes.length x8.2.1.nodes.length, .slice q8_y0_2 x8.2.1.infos.length x8.2.1.infos.length] 83⟩], t8_y0_1, t8_y0_2, [⟨bp0o0, .cells [.slice q8_y0o0_0 x8.2.2.cells.length x8.2.2.cells.length, .int .i64 x8.2.2.count] 94⟩], t8_y0o0_0], _, hf, e8, w8, hs, (ndb (by intro e; cases e) (ndt f8_0 (ndt f8_1 (ndb (by intro e; cases e) (ndt f8_2 nd0))))), ⟨_, _, _, _, _, _, rfl, rfl, f8_0, f8_1, f8_2⟩⟩)
  ·
    replace hF := ifF hc7 hF
    refine go_skip ?_
    refine go_seq ?_
    refine go_region ?_
    refine gM rfl rfl ?_
    refine gM rfl rfl ?_
    replace hF := obind hF
    obtain ⟨x9, hx9, hF⟩ := hF
    refine gs_call EE_fr hw (.cons (.s (.z)) (.cons (.s (.z)) (.cons (.s (.z)) (.cons (.s (.z)) (.cons (.s (.z)) .nil))))) (fun _ h => by cases h; rfl) of (os1 (ot rfl) (os1 (ot rfl) (os1 (oc rfl) os0))) hb_55 (by exact s_bst_Tree_cell hw p0 p0o0 p1 2 f0_1 f0_2 f0o0_0 hx9) ?_
    rintro v9 S9 h9 e9 w9 ⟨q9_y0_1, t9_y0_1, q9_y0_2, t9_y0_2, q9_y0o0_0, t9_y0o0_0, rfl, rfl, f9_0, f9_1, f9_2⟩
    simp only [List.cons_append, List.nil_append]
    refine gA rfl rfl ?_
    refine go_nil ?_
    obtain rfl := someI hF
    refine gs_sub (.cons_cons _ (.cons_cons _ (.cons_cons _ (.cons_cons _ (.cons_cons _ (.cons _ (.refl _))))))) ?_
    exact g_ret (rst rfl rs0) (fun h1 hf hs => ⟨[[⟨bp0, .cells [.pointer (some ⟨bp0o0, 0, none⟩), .slice q9_y0_1 x9.2.1.nodes.length x9.2.1.nodes.length, .slice q9_y0_2 x9.2.1.infos.length x9.2.1.infos.length] 83⟩], t9_y0_1, t9_y0_2, [⟨bp0o0, .cells [.slice q9_y0o0_0 x9.2.2.cells.length x9.2.2.cells.length, .int .i64 x9.2.2.count] 94⟩], t9_y0o0_0], _, hf, e9, w9, hs, (ndb (by intro e; cases e) (ndt f9_0 (ndt f9_1 (ndb (by intro e; cases e) (ndt f9_2 nd0))))), ⟨_, _, _, _, _, _, rfl, rfl, f9_0, f9_1, f9_2⟩⟩)
theorem s_bst_Tree_down_1_1 {rc : RC} (hrc : RCok rc) {h : Heap} (hw : Wf h) (p0 : Obst_Tree) (p0o0 : Omem_Mem) (p1 : Obst_Call) (p3 : Tbst_seen) (p4 : Tbst_node) (p5 : Clo) {bp0 : Nat} {q0_1 : Option Addr} {t0_1 : List Blk} {q0_2 : Option Addr} {t0_2 : List Blk} {bp0o0 : Nat} {q0o0_0 : Option Addr} {t0o0_0 : List Blk} {bp1 : Nat} {v1_4 : Value} {b2 : Nat} {bo3 : Nat} {b4 : Nat} {b5 : Nat} {v5 : Value} (f0_1 : AccR R_Tbst_node 89 h t0_1 (.slice q0_1 p0.nodes.length p0.nodes.length) p0.nodes) (f0_2 : AccR R_Tbst_info 86 h t0_2 (.slice q0_2 p0.infos.length p0.infos.length) p0.infos) (f0o0_0 : AccR (RI_ .u64 29) 29 h t0o0_0 (.slice q0o0_0 p0o0.cells.length p0o0.cells.length) p0o0.cells) (g2 : BK h b2 [.pointer (some ⟨bp0, 0, none⟩)] 24) (g4 : BK h b4 [.string p4.key, .int .i64 p4.top, .int .u64 p4.val, .int .i64 p4.cell] 89) (g5 : BK h b5 [v5] 111) (c5 : CO h bp0 bp1 [] p5 v5) {r : (Option Clo) × Obst_Tree × Omem_Mem × Obst_Call} (hF : F_bst_Tree_down_1_1 rc p0 p0o0 p1 p3 p4 p5 = some r) :
    EvO EE 93 [.pointer (some ⟨b2, 0, none⟩), .pointer (some ⟨bo3, 0, none⟩), .pointer (some ⟨b4, 0, none⟩), .pointer (some ⟨b5, 0, none⟩)] [[⟨bp0, .cells [.pointer (some ⟨bp0o0, 0, none⟩), .slice q0_1 p0.nodes.length p0.nodes.length, .slice q0_2 p0.infos.length p0.infos.length] 83⟩], t0_1, t0_2, [⟨bp0o0, .cells [.slice q0o0_0 p0o0.cells.length p0o0.cells.length, .int .i64 p0o0.count] 94⟩], t0o0_0, [⟨bp1, .cells [.bool p1.told_Ok, .string p1.told_Key, .int .u64 p1.told_Val, .int .i64 p1.told_Err, v1_4] 114⟩], [⟨bo3, .cells [.int .i64 p3.grand, .int .i64 p3.parent, .int .i64 p3.leaf, .int .u64 p3.grandWord, .int .u64 p3.parentWord, .int .i64 p3.turn] 105⟩]] h (fun v S h1 => ∃ qy0_1 ty0_1 qy0_2 ty0_2 qy0o0_0 ty0o0_0 vy1_4 vr tr, v = vr ∧ S = [[⟨bp0, .cells [.pointer (some ⟨bp0o0, 0, none⟩), .slice qy0_1 r.2.1.nodes.length r.2.1.nodes.length, .slice qy0_2 r.2.1.infos.length r.2.1.infos.length] 83⟩], ty0_1, ty0_2, [⟨bp0o0, .cells [.slice qy0o0_0 r.2.2.1.cells.length r.2.2.1.cells.length, .int .i64 r.2.2.1.count] 94⟩], ty0o0_0, [⟨bp1, .cells [.bool r.2.2.2.told_Ok, .string r.2.2.2.told_Key, .int .u64 r.2.2.2.told_Val, .int .i64 r.2.2.2.told_Err, vy1_4] 114⟩], tr] ∧ AccR R_Tbst_node 89 h1 ty0_1 (.slice qy0_1 r.2.1.nodes.length r.2.1.nodes.length) r.2.1.nodes ∧ AccR R_Tbst_info 86 h1 ty0_2 (.slice qy0_2 r.2.1.infos.length r.2.1.infos.length) r.2.1.infos ∧ AccR (RI_ .u64 29) 29 h1 ty0o0_0 (.slice qy0o0_0 r.2.2.1.cells.length r.2.2.1.cells.length) r.2.2.1.cells ∧ OC h1 bp0 bp1 tr r.1 vr) := by
  unfold F_bst_Tree_down_1_1 at hF
  refine evo_of rfl at_93 rfl rfl ?_
  refine go_seq ?_
  refine go_region ?_
  refine gAc rfl rfl ?_
  refine go_nil ?_
  refine go_seq ?_
  refine go_region ?_
  refine gr rfl (r_load (ot rfl) (v := .pointer (some ⟨bp0, 0, none⟩)) (lo_e (fun hf kn => ld_cell ag_24 (g2.ext kn) rfl))) ?_
  refine gr rfl (r_fa (ot rfl) (fa_105_1 _ _)) ?_
  refine gr rfl (r_load (ot rfl) (lm_s (mem_seg 6 rfl) ag_3 rfl)) ?_
  refine gr rfl (r_load (ot rfl) (v := .agg #[.string p4.key, .int .i64 p4.top, .int .u64 p4.val, .int .i64 p4.cell]) (lo_e (fun hf kn => ld_bk ag_89 sz_89 (g4.ext kn) (Nat.le_of_ble_eq_true rfl) rfl))) ?_
  replace hF := obind hF
  obtain ⟨x7, hx7, hF⟩ := hF
  refine gs_call EE_fr hw (.cons .z (.cons .z (.cons .z (.cons .z (.cons .z .nil))))) (fun _ h => by cases h; rfl) of (os1 (ot rfl) (os1 (ot rfl) (os1 (ot rfl) os0))) hb_94 (by exact s_bst_Tree_side hw p0 p0o0 p3.parent p4 f0_1 f0_2 f0o0_0 hx7) ?_
  rintro v7 S7 h7 e7 w7 ⟨q7_y0_1, t7_y0_1, q7_y0_2, t7_y0_2, q7_y0o0_0, t7_y0o0_0, rfl, rfl, f7_0, f7_1, f7_2⟩
  simp only [List.cons_append, List.nil_append]
  refine gA rfl rfl ?_
  refine go_nil ?_
  refine go_seq ?_
  refine go_seq ?_
  refine go_region ?_
  refine gM rfl rfl ?_
  refine gr rfl (r_load (ot rfl) (v := .pointer (some ⟨bp0, 0, none⟩)) (lo_e (fun hf kn => ld_cell ag_24 ((g2.ext e7.kn).ext kn) rfl))) ?_
  refine gr rfl (r_fa (ot rfl) (fa_105_1 _ _)) ?_
  refine gr rfl (r_load (ot rfl) (lm_s (mem_seg 6 rfl) ag_3 rfl)) ?_
  replace hF := obind hF
  obtain ⟨x8, hx8, hF⟩ := hF
  refine gs_call EE_fr w7 (.cons .z (.cons .z (.cons .z (.cons .z (.cons .z .nil))))) (fun _ h => by cases h; rfl) of (os1 (ot rfl) (os1 (ot rfl) (os1 (oc rfl) os0))) hb_55 (by exact s_bst_Tree_cell w7 (⟨x7.2.1.nodes, x7.2.1.infos⟩ : Obst_Tree) (⟨x7.2.2.cells, x7.2.2.count⟩ : Omem_Mem) p3.parent 1 f7_0 f7_1 f7_2 hx8) ?_
  rintro v8 S8 h8 e8 w8 ⟨q8_y0_1, t8_y0_1, q8_y0_2, t8_y0_2, q8_y0o0_0, t8_y0o0_0, rfl, rfl, f8_0, f8_1, f8_2⟩
  simp only [List.cons_append, List.nil_append]
  refine gr rfl (r_bin (ot rfl) (ot rfl) rfl) ?_
  refine go_nil ?_
  replace hF := obind hF
  obtain ⟨s10, hF, hK10⟩ := hF
  refine go_joinc (β := Unit) (fun s h' => True) (fun s => [(0, true, .pointer (some ⟨b2, 0, none⟩)), (1, true, .pointer (some ⟨bo3, 0, none⟩)), (2, true, .pointer (some ⟨b4, 0, none⟩)), (3, true, .pointer (some ⟨b5, 0, none⟩)), (4, true, .nilFunc), (5, true, .int .i64 x7.1)]) (fun s => (List.flatten [[⟨bp0, .cells [.pointer (some ⟨bp0o0, 0, none⟩), .slice q8_y0_1 x8.2.1.nodes.length x8.2.1.nodes.length, .slice q8_y0_2 x8.2.1.infos.length x8.2.1.infos.length] 83⟩], t8_y0_1, t8_y0_2, [⟨bp0o0, .cells [.slice q8_y0o0_0 x8.2.2.cells.length x8.2.2.cells.length, .int .i64 x8.2.2.count] 94⟩], t8_y0o0_0, [⟨bp1, .cells [.bool p1.told_Ok, .string p1.told_Key, .int .u64 p1.told_Val, .int .i64 p1.told_Err, v1_4] 114⟩], [⟨bo3, .cells [.int .i64 p3.grand, .int .i64 p3.parent, .int .i64 p3.leaf, .int .u64 p3.grandWord, .int .u64 p3.parentWord, .int .i64 s10] 105⟩]] : List Blk)) ?_ (fun J10 => ?_)
  ·
    rintro _ h10 e10 w10 _
    replace hF := hK10
    refine go_seq ?_
    refine go_region ?_
    refine gr rfl (r_load (ot rfl) (v := .pointer (some ⟨bp0, 0, none⟩)) (lo_e (fun hf kn => ld_cell ag_24 ((((g2.ext e7.kn).ext e8.kn).ext e10.kn).ext kn) rfl))) ?_
    refine gr rfl (r_nilck (ot rfl)) ?_
    refine gr rfl (r_fa (ot rfl) (fa_83_0 _ _)) ?_
    refine gr rfl (r_load (ot rfl) (lm_s (mem_seg 0 rfl) ag_26 rfl)) ?_
    refine gM rfl rfl ?_
    replace hF := obind hF
    obtain ⟨x11, hx11, hF⟩ := hF
    refine gs_call EE_fr w10 (.cons (.s (.s (.s (.z)))) (.cons (.s (.s (.s (.z)))) .nil)) (fun _ h => by cases h; rfl) of (os1 (ot rfl) (os1 (ot rfl) os0)) hb_73 (by exact s_mem_Mem_Load w10 (⟨x8.2.2.cells, x8.2.2.count⟩ : Omem_Mem) x7.1 (f8_2.ext e10.kn) hx11) ?_
    rintro v11 S11 h11 e11 w11 ⟨q11_y0_0, t11_y0_0, rfl, rfl, f11_0⟩
    simp only [List.cons_append, List.nil_append]
    refine gM rfl rfl ?_
    refine gE rfl rfl rfl ?_
    refine gE rfl rfl rfl ?_
    refine gA rfl rfl ?_
    refine gA rfl rfl ?_
    refine go_nil ?_
    refine go_seq ?_
    refine go_region ?_
    refine gM rfl rfl ?_
    refine gr rfl (r_conv (ot rfl) rfl) ?_
    refine gr rfl (r_fa (ot rfl) (fa_105_2 _ _)) ?_
    refine gs_store (ot rfl) (ot rfl) sz_3 rfl rfl rfl rfl rfl (.s (.s (.s (.s (.s (.s (.z))))))) ?_
    refine go_nil ?_
    refine go_seq ?_
    refine go_region ?_
    refine gr rfl (r_load (ot rfl) (v := .pointer (some ⟨bp0, 0, none⟩)) (lo_e (fun hf kn => ld_cell ag_24 (((((g2.ext e7.kn).ext e8.kn).ext e10.kn).ext e11.kn).ext kn) rfl))) ?_
    refine gr rfl (r_load (ot rfl) (lm_w (mem_seg 6 rfl) ag_105 sz_105 rfl)) ?_
    refine gr rfl (r_load (ot rfl) (v := .agg #[.string p4.key, .int .i64 p4.top, .int .u64 p4.val, .int .i64 p4.cell]) (lo_e (fun hf kn => ld_bk ag_89 sz_89 (((((g4.ext e7.kn).ext e8.kn).ext e10.kn).ext e11.kn).ext kn) (Nat.le_of_ble_eq_true rfl) rfl))) ?_
    refine gr rfl (r_load (ot rfl) (v := v5) (lo_e (fun hf kn => ld_cell ag_111 (((((g5.ext e7.kn).ext e8.kn).ext e10.kn).ext e11.kn).ext kn) rfl))) ?_
    replace hF := obind hF
    obtain ⟨x12, hx12, hF⟩ := hF
    refine gs_call EE_fr w11 (.cons (.s (.s (.z))) (.cons (.s (.s (.z))) (.cons (.s (.s (.z))) (.cons .z (.cons .z (.cons .z .nil)))))) (fun _ h => by cases h; rfl) of (os1 (ot rfl) (os1 (ot rfl) (os1 (ot rfl) (os1 (ot rfl) os0)))) hb_71 (by exact s_bst_Tree_down hrc w11 (⟨x8.2.1.nodes, x8.2.1.infos⟩ : Obst_Tree) (⟨x11.2.2.cells, x11.2.2.count⟩ : Omem_Mem) p1 (⟨p3.grand, p3.parent, (IntKind.i64.wrap x11.1), p3.grandWord, p3.parentWord, s10⟩ : Tbst_seen) p4 p5 ((f8_0.ext e10.kn).ext e11.kn) ((f8_1.ext e10.kn).ext e11.kn) f11_0 ((((c5.ext e7.kn).ext e8.kn).ext e10.kn).ext e11.kn) hx12) ?_
    rintro v12 S12 h12 e12 w12 ⟨q12_y0_1, t12_y0_1, q12_y0_2, t12_y0_2, q12_y0o0_0, t12_y0o0_0, v12_y1_4, v12_r, t12_r, rfl, rfl, f12_0, f12_1, f12_2, f12_3⟩
    simp only [List.cons_append, List.nil_append]
    refine gA rfl rfl ?_
    refine go_nil ?_
    obtain rfl := someI hF
    refine gs_sub (.cons_cons _ (.cons_cons _ (.cons_cons _ (.cons_cons _ (.cons_cons _ (.cons_cons _ (.cons_cons _ (.cons _ (.refl _))))))))) ?_
    exact g_ret (rst rfl rs0) (fun h1 hf hs => ⟨[[⟨bp0, .cells [.pointer (some ⟨bp0o0, 0, none⟩), .slice q12_y0_1 x12.2.1.nodes.length x12.2.1.nodes.length, .slice q12_y0_2 x12.2.1.infos.length x12.2.1.infos.length] 83⟩], t12_y0_1, t12_y0_2, [⟨bp0o0, .cells [.slice q12_y0o0_0 x12.2.2.1.cells.length x12.2.2.1.cells.length, .int .i64 x12.2.2.1.count] 94⟩], t12_y0o0_0, [⟨bp1, .cells [.bool x12.2.2.2.told_Ok, .string x12.2.2.2.told_Key, .int .u64 x12.2.2.2.told_Val, .int .i64 x12.2.2.2.told_Err, v12_y1_4] 114⟩], t12_r], _, hf, (e7.trans (e8.trans (e10.trans (e11.trans e12)))), w12, hs, (ndb (by intro e; cases e) (ndt f12_0 (ndt f12_1 (ndb (by intro e; cases e) (ndt f12_2 (ndb (by intro e; cases e) (ndc f12_3 nd0))))))), ⟨_, _, _, _, _, _, _, _, _, rfl, rfl, f12_0, f12_1, f12_2, f12_3⟩⟩)
  ·
    refine g_cond (b := (x7.1 == x8.1)) (ot rfl) (fun hc9 => ?_) (fun hc9 => ?_)
    ·
      replace hF := ifT hc9 hF
      refine go_region ?_
      refine gr rfl (r_fa (ot rfl) (fa_105_1 _ _)) ?_
      refine gr rfl (r_load (ot rfl) (lm_s (mem_seg 6 rfl) ag_3 rfl)) ?_
      refine gr rfl (r_fa (ot rfl) (fa_105_5 _ _)) ?_
      refine gs_store (ot rfl) (ot rfl) sz_3 rfl rfl rfl rfl rfl (.s (.s (.s (.s (.s (.s (.z))))))) ?_
      refine go_nil ?_
      obtain rfl := someI hF
      exact Goes.weak (J10 () _ (HExt.refl _) w8 trivial) (Sub.cons (Sub.cons (Sub.cons (Sub.cons (Sub.cons (Sub.cons (Sub.nil _) rfl) rfl) rfl) rfl) rfl) rfl)
    ·
      replace hF := ifF hc9 hF
      refine go_skip ?_
      obtain rfl := someI hF
      exact Goes.weak (J10 () _ (HExt.refl _) w8 trivial) (Sub.cons (Sub.cons (Sub.cons (Sub.cons (Sub.cons (Sub.cons (Sub.nil _) rfl) rfl) rfl) rfl) rfl) rfl)
theorem s_bst_Tree_help_1 {rc : RC} (hrc : RCok rc) {h : Heap} (hw : Wf h) (p0 : Obst_Tree) (p0o0 : Omem_Mem) (p1 : Obst_Call) (p2 : Bool) (p3 : Clo) {bp0 : Nat} {q0_1 : Option Addr} {t0_1 : List Blk} {q0_2 : Option Addr} {t0_2 : List Blk} {bp0o0 : Nat} {q0o0_0 : Option Addr} {t0o0_0 : List Blk} {bp1 : Nat} {v1_4 : Value} {b3 : Nat} {v3 : Value} (f0_1 : AccR R_Tbst_node 89 h t0_1 (.slice q0_1 p0.nodes.length p0.nodes.length) p0.nodes) (f0_2 : AccR R_Tbst_info 86 h t0_2 (.slice q0_2 p0.infos.length p0.infos.length) p0.infos) (f0o0_0 : AccR (RI_ .u64 29) 29 h t0o0_0 (.slice q0o0_0 p0o0.cells.length p0o0.cells.length) p0o0.cells) (g3 : BK h b3 [v3] 101) (c3 : CO h bp0 bp1 [] p3 v3) {r : (Option Clo) × Obst_Tree × Omem_Mem × Obst_Call} (hF : F_bst_Tree_help_1 rc p0 p0o0 p1 p2 p3 = some r) :
    EvO EE 97 [.bool p2, .pointer (some ⟨b3, 0, none⟩)] [[⟨bp0, .cells [.pointer (some ⟨bp0o0, 0, none⟩), .slice q0_1 p0.nodes.length p0.nodes.length, .slice q0_2 p0.infos.length p0.infos.length] 83⟩], t0_1, t0_2, [⟨bp0o0, .cells [.slice q0o0_0 p0o0.cells.length p0o0.cells.length, .int .i64 p0o0.count] 94⟩], t0o0_0, [⟨bp1, .cells [.bool p1.told_Ok, .string p1.told_Key, .int .u64 p1.told_Val, .int .i64 p1.told_Err, v1_4] 114⟩]] h (fun v S h1 => ∃ qy0_1 ty0_1 qy0_2 ty0_2 qy0o0_0 ty0o0_0 vy1_4 vr tr, v = vr ∧ S = [[⟨bp0, .cells [.pointer (some ⟨bp0o0, 0, none⟩), .slice qy0_1 r.2.1.nodes.length r.2.1.nodes.length, .slice qy0_2 r.2.1.infos.length r.2.1.infos.length] 83⟩], ty0_1, ty0_2, [⟨bp0o0, .cells [.slice qy0o0_0 r.2.2.1.cells.length r.2.2.1.cells.length, .int .i64 r.2.2.1.count] 94⟩], ty0o0_0, [⟨bp1, .cells [.bool r.2.2.2.told_Ok, .string r.2.2.2.told_Key, .int .u64 r.2.2.2.told_Val, .int .i64 r.2.2.2.told_Err, vy1_4] 114⟩], tr] ∧ AccR R_Tbst_node 89 h1 ty0_1 (.slice qy0_1 r.2.1.nodes.length r.2.1.nodes.length) r.2.1.nodes ∧ AccR R_Tbst_info 86 h1 ty0_2 (.slice qy0_2 r.2.1.infos.length r.2.1.infos.length) r.2.1.infos ∧ AccR (RI_ .u64 29) 29 h1 ty0o0_0 (.slice qy0o0_0 r.2.2.1.cells.length r.2.2.1.cells.length) r.2.2.1.cells ∧ OC h1 bp0 bp1 tr r.1 vr) := by
  unfold F_bst_Tree_help_1 at hF
  refine evo_of rfl at_97 rfl rfl ?_
  refine go_seq ?_
  refine go_region ?_
  refine gAc rfl rfl ?_
  refine go_nil ?_
  refine go_seq ?_
  refine go_region ?_
  refine gr rfl (r_load (ot rfl) (v := v3) (lo_e (fun hf kn => ld_cell ag_101 (g3.ext kn) rfl))) ?_
  replace hF := obind hF
  obtain ⟨x5, hx5, hF⟩ := hF
  refine gs_calld EE_fr hw (.cons .z (.cons .z (.cons .z (.cons .z (.cons .z (.cons .z (.emp .nil))))))) (fun _ h => by cases h; rfl) (ot rfl) os0 (by exact hrc hw p0 p0o0 p1 f0_1 f0_2 f0o0_0 p3 Arg.u [] c3 hx5) ?_
  rintro v5 S5 h5 e5 w5 ⟨q5_y0_1, t5_y0_1, q5_y0_2, t5_y0_2, q5_y0o0_0, t5_y0o0_0, v5_y1_4, v5_r, t5_r, rfl, rfl, f5_0, f5_1, f5_2, f5_3⟩
  simp only [List.cons_append, List.nil_append]
  refine gA rfl rfl ?_
  refine go_nil ?_
  obtain rfl := someI hF
  exact g_ret (rst rfl rs0) (fun h1 hf hs => ⟨[[⟨bp0, .cells [.pointer (some ⟨bp0o0, 0, none⟩), .slice q5_y0_1 x5.2.1.nodes.length x5.2.1.nodes.length, .slice q5_y0_2 x5.2.1.infos.length x5.2.1.infos.length] 83⟩], t5_y0_1, t5_y0_2, [⟨bp0o0, .cells [.slice q5_y0o0_0 x5.2.2.1.cells.length x5.2.2.1.cells.length, .int .i64 x5.2.2.1.count] 94⟩], t5_y0o0_0, [⟨bp1, .cells [.bool x5.2.2.2.told_Ok, .string x5.2.2.2.told_Key, .int .u64 x5.2.2.2.told_Val, .int .i64 x5.2.2.2.told_Err, v5_y1_4] 114⟩], t5_r], _, hf, e5, w5, hs, (ndb (by intro e; cases e) (ndt f5_0 (ndt f5_1 (ndb (by intro e; cases e) (ndt f5_2 (ndb (by intro e; cases e) (ndc f5_3 nd0))))))), ⟨_, _, _, _, _, _, _, _, _, rfl, rfl, f5_0, f5_1, f5_2, f5_3⟩⟩)
theorem s_mem_Mem_Store {h : Heap} (hw : Wf h) (p0 : Omem_Mem) (p1 : Int) (p2 : Int) {bp0 : Nat} {q0_0 : Option Addr} {t0_0 : List Blk} (f0_0 : AccR (RI_ .u64 29) 29 h t0_0 (.slice q0_0 p0.cells.length p0.cells.length) p0.cells) {r : Int × Omem_Mem} (hF : F_mem_Mem_Store p0 p1 p2 = some r) :
    EvO EE 41 [.pointer (some ⟨bp0, 0, none⟩), .int .i64 p1, .int .u64 p2] [[⟨bp0, .cells [.slice q0_0 p0.cells.length p0.cells.length, .int .i64 p0.count] 94⟩], t0_0] h (fun v S h1 => ∃ qy0_0 ty0_0, v = .int .i64 r.1 ∧ S = [[⟨bp0, .cells [.slice qy0_0 r.2.cells.length r.2.cells.length, .int .i64 r.2.count] 94⟩], ty0_0] ∧ AccR (RI_ .u64 29) 29 h1 ty0_0 (.slice qy0_0 r.2.cells.length r.2.cells.length) r.2.cells) := by
  unfold F_mem_Mem_Store at hF
  refine evo_of rfl at_41 rfl rfl ?_
  refine go_seq ?_
  refine go_region ?_
  refine gAc rfl rfl ?_
  refine go_nil ?_
  refine go_seq ?_
  refine go_region ?_
  refine gM rfl rfl ?_
  refine gM rfl rfl ?_
  cases hx4 : getI p0.cells p1 with
  | none =>
    rw [hx4] at hF
    dsimp only at hF
    refine gs_call EE_fr hw (.cons .z .nil) (fun _ h => by cases h; rfl) of (os1 (ot rfl) (os1 (ot rfl) os0)) hb_69 (by exact s_mem_at_bad hw (getI_bad hx4)) ?_
    rintro v4 S4 h4 e4 w4 ⟨rfl, rfl⟩
    simp only [List.cons_append, List.nil_append]
    refine gA rfl rfl ?_
    refine go_nil ?_
    refine go_seq ?_
    refine go_seq ?_
    refine go_region ?_
    refine gM rfl rfl ?_
    refine gr rfl (r_bin (v := .bool true) (ot rfl) (oc rfl) (by first | rfl | kernel_rfl)) ?_
    refine go_nil ?_
    refine g_cond (b := true) (ot rfl) (fun hc5 => ?_) (fun hc5 => ?_)
    rotate_left
    · cases hc5
    refine go_seq ?_
    refine go_region ?_
    refine gAc rfl rfl ?_
    refine go_nil ?_
    obtain rfl := someI hF
    exact g_ret (rst rfl rs0) (fun h1 hf hs => ⟨[[⟨bp0, .cells [.slice q0_0 p0.cells.length p0.cells.length, .int .i64 p0.count] 94⟩], t0_0], _, hf, e4, w4, hs, (ndb (by intro e; cases e) (ndt (f0_0.ext e4.kn) nd0)), ⟨_, _, rfl, rfl, (f0_0.ext e4.kn)⟩⟩)
  | some x4 =>
    rw [hx4] at hF
    dsimp only at hF
    obtain ⟨bb4, rw4, row4, hp4, ht4, hR4, hw4, rc4, hz4, hi4, hd4, hb4, hl4⟩ := AccR.at_ f0_0 hx4
    have hF4_ := hF
    subst hp4; subst ht4
    replace hF := hF4_
    obtain rfl := rc4
    refine gs_call EE_fr hw (.cons .z .nil) (fun _ h => by cases h; rfl) of (os1 (ot rfl) (os1 (ot rfl) os0)) hb_69 (by exact s_mem_at_ok hw hz4 hi4) ?_
    rintro v4 S4 h4 e4 w4 ⟨rfl, rfl⟩
    simp only [List.cons_append, List.nil_append]
    refine gA rfl rfl ?_
    refine go_nil ?_
    refine go_seq ?_
    refine go_seq ?_
    refine go_region ?_
    refine gM rfl rfl ?_
    refine gr rfl (r_bin (v := .bool false) (ot rfl) (oc rfl) (by first | rfl | kernel_rfl)) ?_
    refine go_nil ?_
    refine g_cond (b := false) (ot rfl) (fun hc6 => ?_) (fun hc6 => ?_)
    · cases hc6
    refine go_skip ?_
    refine go_seq ?_
    refine go_region ?_
    refine gM rfl rfl ?_
    refine gM rfl rfl ?_
    refine gr rfl (r_nilck (ot rfl)) ?_
    have hc7 : (RI_ .u64 29).C h4 [.int .u64 p2] p2 := rfl
    have hR7 : Rws (RI_ .u64 29) h4 (rw4.set p1.toNat [.int .u64 p2]) (setI p0.cells p1 p2) := Rws.set (hR4.ext e4.kn) hc7 _
    have hq7 := (List.getElem?_eq_some_iff.mp hw4).1
    have hl7 : (setI p0.cells p1 p2).length < 9223372036854775808 := by rw [setI_len]; exact hl4
    have f7_ : AccR (RI_ .u64 29) 29 h4 [⟨bb4, .cells (rw4.set p1.toNat [.int .u64 p2]).flatten 29⟩] (.slice (some ⟨bb4, 0, some 0⟩) (setI p0.cells p1 p2).length (setI p0.cells p1 p2).length) (setI p0.cells p1 p2) := AccR.set_ hl4 (hR4.ext e4.kn) rfl hc7
    obtain ⟨hd7, hb7⟩ := flat_at_set (row' := [.int .u64 p2]) (hR4.ext e4.kn).k hq7 rfl
    have hw7 : (rw4.set p1.toNat [.int .u64 p2])[p1.toNat]? = some [.int .u64 p2] := List.getElem?_set_self hq7
    refine gs_store (vs := [.int .u64 p2]) (cs' := (rw4.set p1.toNat [.int .u64 p2]).flatten) (ot rfl) (ot rfl) sz_29 rfl rfl (acc_ble (j := 0) (m := 1) hb4 (by decide)) rfl (flat_splice_part (j := 0) _ _ (hR4.ext e4.kn).k hw4 (Nat.le_of_ble_eq_true rfl)) (.s (.z)) ?_
    refine gs_retell (segs' := [[⟨bp0, .cells [.slice (some ⟨bb4, 0, some 0⟩) (setI p0.cells p1 p2).length (setI p0.cells p1 p2).length, .int .i64 (IntKind.i64.wrap (p0.count + 1))] 94⟩], [⟨bb4, .cells (rw4.set p1.toNat [.int .u64 p2]).flatten 29⟩]]) (by simp only [setI_len]) ?_
    refine go_nil ?_
    refine go_seq ?_
    refine go_region ?_
    refine gAc rfl rfl ?_
    refine go_nil ?_
    obtain rfl := someI hF
    exact g_ret (rst rfl rs0) (fun h1 hf hs => ⟨[[⟨bp0, .cells [.slice (some ⟨bb4, 0, some 0⟩) (setI p0.cells p1 p2).length (setI p0.cells p1 p2).length, .int .i64 (IntKind.i64.wrap (p0.count + 1))] 94⟩], [⟨bb4, .cells (rw4.set p1.toNat [.int .u64 p2]).flatten 29⟩]], _, hf, e4, w4, hs, (ndb (by intro e; cases e) (ndt f7_ nd0)), ⟨_, _, rfl, rfl, f7_⟩⟩)
theorem s_bst_Tree_grow_1 {rc : RC} (hrc : RCok rc) {h : Heap} (hw : Wf h) (p0 : Obst_Tree) (p0o0 : Omem_Mem) (p1 : Obst_Call) (p3 : Int) (p4 : Int) (p5 : Int) (p6 : Tbst_seen) (p7 : Int) (p9 : Tbst_node) {bp0 : Nat} {q0_1 : Option Addr} {t0_1 : List Blk} {q0_2 : Option Addr} {t0_2 : List Blk} {bp0o0 : Nat} {q0o0_0 : Option Addr} {t0o0_0 : List Blk} {bp1 : Nat} {v1_4 : Value} {b2 : Nat} {b3 : Nat} {b4 : Nat} {b5 : Nat} {b6 : Nat} {b7 : Nat} {b8 : Nat} {b9 : Nat} (f0_1 : AccR R_Tbst_node 89 h t0_1 (.slice q0_1 p0.nodes.length p0.nodes.length) p0.nodes) (f0_2 : AccR R_Tbst_info 86 h t0_2 (.slice q0_2 p0.infos.length p0.infos.length) p0.infos) (f0o0_0 : AccR (RI_ .u64 29) 29 h t0o0_0 (.slice q0o0_0 p0o0.cells.length p0o0.cells.length) p0o0.cells) (g2 : BK h b2 [.pointer (some ⟨bp0, 0, none⟩)] 24) (g3 : BK h b3 [.int .i64 p3] 3) (g4 : BK h b4 [.int .i64 p4] 3) (g5 : BK h b5 [.int .i64 p5] 3) (g6 : BK h b6 [.int .i64 p6.grand, .int .i64 p6.parent, .int .i64 p6.leaf, .int .u64 p6.grandWord, .int .u64 p6.parentWord, .int .i64 p6.turn] 105) (g7 : BK h b7 [.int .i64 p7] 3) (g8 : BK h b8 [.pointer (some ⟨bp1, 0, none⟩)] 34) (g9 : BK h b9 [.string p9.key, .int .i64 p9.top, .int .u64 p9.val, .int .i64 p9.cell] 89) {r : (Option Clo) × Obst_Tree × Omem_Mem × Obst_Call} (hF : F_bst_Tree_grow_1 rc p0 p0o0 p1 p3 p4 p5 p6 p7 p9 = some r) :
    EvO EE 99 [.pointer (some ⟨b2, 0, none⟩), .pointer (some ⟨b3, 0, none⟩), .pointer (some ⟨b4, 0, none⟩), .pointer (some ⟨b5, 0, none⟩), .pointer (some ⟨b6, 0, none⟩), .pointer (some ⟨b7, 0, none⟩), .pointer (some ⟨b8, 0, none⟩), .pointer (some ⟨b9, 0, none⟩)] [[⟨bp0, .cells [.pointer (some ⟨bp0o0, 0, none⟩), .slice q0_1 p0.nodes.length p0.nodes.length, .slice q0_2 p0.infos.length p0.infos.length] 83⟩], t0_1, t0_2, [⟨bp0o0, .cells [.slice q0o0_0 p0o0.cells.length p0o0.cells.length, .int .i64 p0o0.count] 94⟩], t0o0_0, [⟨bp1, .cells [.bool p1.told_Ok, .string p1.told_Key, .int .u64 p1.told_Val, .int .i64 p1.told_Err, v1_4] 114⟩]] h (fun v S h1 => ∃ qy0_1 ty0_1 qy0_2 ty0_2 qy0o0_0 ty0o0_0 vy1_4 vr tr, v = vr ∧ S = [[⟨bp0, .cells [.pointer (some ⟨bp0o0, 0, none⟩), .slice qy0_1 r.2.1.nodes.length r.2.1.nodes.length, .slice qy0_2 r.2.1.infos.length r.2.1.infos.length] 83⟩], ty0_1, ty0_2, [⟨bp0o0, .cells [.slice qy0o0_0 r.2.2.1.cells.length r.2.2.1.cells.length, .int .i64 r.2.2.1.count] 94⟩], ty0o0_0, [⟨bp1, .cells [.bool r.2.2.2.told_Ok, .string r.2.2.2.told_Key, .int .u64 r.2.2.2.told_Val, .int .i64 r.2.2.2.told_Err, vy1_4] 114⟩], tr] ∧ AccR R_Tbst_node 89 h1 ty0_1 (.slice qy0_1 r.2.1.nodes.length r.2.1.nodes.length) r.2.1.nodes ∧ AccR R_Tbst_info 86 h1 ty0_2 (.slice qy0_2 r.2.1.infos.length r.2.1.infos.length) r.2.1.infos ∧ AccR (RI_ .u64 29) 29 h1 ty0o0_0 (.slice qy0o0_0 r.2.2.1.cells.length r.2.2.1.cells.length) r.2.2.1.cells ∧ OC h1 bp0 bp1 tr r.1 vr) := by
  unfold F_bst_Tree_grow_1 at hF
  refine evo_of rfl at_99 rfl rfl ?_
  refine go_seq ?_
  refine go_region ?_
  refine gAc rfl rfl ?_
  refine go_nil ?_
  refine go_seq ?_
  refine go_regions (L := [(0, []), (1, []), (2, []), (3, []), (4, []), (5, []), (6, []), (7, []), (8, [])]) (by kernel_rfl) (by kernel_rfl) (fun _ => rfl) ?_
  refine go_sop rfl rfl ?_
  refine gr rfl (r_load (ot rfl) (v := .pointer (some ⟨bp0, 0, none⟩)) (lo_e (fun hf kn => ld_cell ag_24 (g2.ext kn) rfl))) ?_
  refine go_nil ?_
  refine go_sop rfl rfl ?_
  refine gr rfl (r_nilck (ot rfl)) ?_
  refine go_nil ?_
  refine go_sop rfl rfl ?_
  refine gr rfl (r_fa (ot rfl) (fa_83_0 _ _)) ?_
  refine go_nil ?_
  refine go_sop rfl rfl ?_
  refine gr rfl (r_load (ot rfl) (lm_s (mem_seg 0 rfl) ag_26 rfl)) ?_
  refine go_nil ?_
  refine go_sop rfl rfl ?_
  refine gr rfl (r_load (ot rfl) (v := .int .i64 p3) (lo_e (fun hf kn => ld_cell ag_3 (g3.ext kn) rfl))) ?_
  refine go_nil ?_
  refine go_sop rfl rfl ?_
  refine gr rfl (r_bin (ot rfl) (oc rfl) rfl) ?_
  refine go_nil ?_
  refine go_sop rfl rfl ?_
  refine gr rfl (r_load (ot rfl) (v := .int .i64 p4) (lo_e (fun hf kn => ld_cell ag_3 (g4.ext kn) rfl))) ?_
  refine go_nil ?_
  refine go_sop rfl rfl ?_
  refine gr rfl (r_conv (ot rfl) rfl) ?_
  refine go_nil ?_
  refine go_sop rfl rfl ?_
  replace hF := obind hF
  obtain ⟨x11, hx11, hF⟩ := hF
  refine gs_call EE_fr hw (.cons (.s (.s (.s (.z)))) (.cons (.s (.s (.s (.z)))) .nil)) (fun _ h => by cases h; rfl) of (os1 (ot rfl) (os1 (ot rfl) (os1 (ot rfl) os0))) hb_41 (by exact s_mem_Mem_Store hw p0o0 (IntKind.i64.wrap (p3 + 1)) (IntKind.u64.wrap p4) f0o0_0 hx11) ?_
  rintro v11 S11 h11 e11 w11 ⟨q11_y0_0, t11_y0_0, rfl, rfl, f11_0⟩
  simp only [List.cons_append, List.nil_append]
  refine go_nil ?_
  refine go_snil ?_
  refine go_seq ?_
  refine go_region ?_
  refine gr rfl (r_func os0 (os1 (ot rfl) (os1 (ot rfl) (os1 (ot rfl) (os1 (ot rfl) (os1 (ot rfl) (os1 (ot rfl) (os1 (ot rfl) os0)))))))) ?_
  refine gA rfl rfl ?_
  refine go_nil ?_
  have co12 : CO h11 bp0 bp1 [] (Clo.c_grow_1_1 p3 p5 p6 p7 p9) (.func (.func 100) #[] #[.pointer (some ⟨b2, 0, none⟩), .pointer (some ⟨b3, 0, none⟩), .pointer (some ⟨b5, 0, none⟩), .pointer (some ⟨b6, 0, none⟩), .pointer (some ⟨b7, 0, none⟩), .pointer (some ⟨b8, 0, none⟩), .pointer (some ⟨b9, 0, none⟩)]) := CO.c_grow_1_1 (g2.ext e11.kn) (g3.ext e11.kn) (g5.ext e11.kn) (g6.ext e11.kn) (g7.ext e11.kn) (g8.ext e11.kn) (g9.ext e11.kn)
  obtain rfl := someI hF
  refine gs_perm (perm_of (d := []) _ [2, 3, 4, 0, 1, 5] rfl) ?_
  exact g_ret (rst rfl rs0) (fun h1 hf hs => ⟨[[⟨bp0, .cells [.pointer (some ⟨bp0o0, 0, none⟩), .slice q0_1 p0.nodes.length p0.nodes.length, .slice q0_2 p0.infos.length p0.infos.length] 83⟩], t0_1, t0_2, [⟨bp0o0, .cells [.slice q11_y0_0 x11.2.cells.length x11.2.cells.length, .int .i64 x11.2.count] 94⟩], t11_y0_0, [⟨bp1, .cells [.bool p1.told_Ok, .string p1.told_Key, .int .u64 p1.told_Val, .int .i64 p1.told_Err, v1_4] 114⟩], []], _, hf, e11, w11, hs, (ndb (by intro e; cases e) (ndt (f0_1.ext e11.kn) (ndt (f0_2.ext e11.kn) (ndb (by intro e; cases e) (ndt f11_0 (ndb (by intro e; cases e) (nde nd0))))))), ⟨_, _, _, _, _, _, _, _, _, rfl, rfl, (f0_1.ext e11.kn), (f0_2.ext e11.kn), f11_0, (OC.some co12)⟩⟩)
theorem s_bst_Tree_grow_1_1 {rc : RC} (hrc : RCok rc) {h : Heap} (hw : Wf h) (p0 : Obst_Tree) (p0o0 : Omem_Mem) (p1 : Obst_Call) (p3 : Int) (p4 : Int) (p5 : Tbst_seen) (p6 : Int) (p8 : Tbst_node) {bp0 : Nat} {q0_1 : Option Addr} {t0_1 : List Blk} {q0_2 : Option Addr} {t0_2 : List Blk} {bp0o0 : Nat} {q0o0_0 : Option Addr} {t0o0_0 : List Blk} {bp1 : Nat} {v1_4 : Value} {b2 : Nat} {b3 : Nat} {b4 : Nat} {b5 : Nat} {b6 : Nat} {b7 : Nat} {b8 : Nat} (f0_1 : AccR R_Tbst_node 89 h t0_1 (.slice q0_1 p0.nodes.length p0.nodes.length) p0.nodes) (f0_2 : AccR R_Tbst_info 86 h t0_2 (.slice q0_2 p0.infos.length p0.infos.length) p0.infos) (f0o0_0 : AccR (RI_ .u64 29) 29 h t0o0_0 (.slice q0o0_0 p0o0.cells.length p0o0.cells.length) p0o0.cells) (g2 : BK h b2 [.pointer (some ⟨bp0, 0, none⟩)] 24) (g3 : BK h b3 [.int .i64 p3] 3) (g4 : BK h b4 [.int .i64 p4] 3) (g5 : BK h b5 [.int .i64 p5.grand, .int .i64 p5.parent, .int .i64 p5.leaf, .int .u64 p5.grandWord, .int .u64 p5.parentWord, .int .i64 p5.turn] 105) (g6 : BK h b6 [.int .i64 p6] 3) (g7 : BK h b7 [.pointer (some ⟨bp1, 0, none⟩)] 34) (g8 : BK h b8 [.string p8.key, .int .i64 p8.top, .int .u64 p8.val, .int .i64 p8.cell] 89) {r : (Option Clo) × Obst_Tree × Omem_Mem × Obst_Call} (hF : F_bst_Tree_grow_1_1 rc p0 p0o0 p1 p3 p4 p5 p6 p8 = some r) :
    EvO EE 100 [.pointer (some ⟨b2, 0, none⟩), .pointer (some ⟨b3, 0, none⟩), .pointer (some ⟨b4, 0, none⟩), .pointer (some ⟨b5, 0, none⟩), .pointer (some ⟨b6, 0, none⟩), .pointer (some ⟨b7, 0, none⟩), .pointer (some ⟨b8, 0, none⟩)] [[⟨bp0, .cells [.pointer (some ⟨bp0o0, 0, none⟩), .slice q0_1 p0.nodes.length p0.nodes.length, .slice q0_2 p0.infos.length p0.infos.length] 83⟩], t0_1, t0_2, [⟨bp0o0, .cells [.slice q0o0_0 p0o0.cells.length p0o0.cells.length, .int .i64 p0o0.count] 94⟩], t0o0_0, [⟨bp1, .cells [.bool p1.told_Ok, .string p1.told_Key, .int .u64 p1.told_Val, .int .i64 p1.told_Err, v1_4] 114⟩]] h (fun v S h1 => ∃ qy0_1 ty0_1 qy0_2 ty0_2 qy0o0_0 ty0o0_0 vy1_4 vr tr, v = vr ∧ S = [[⟨bp0, .cells [.pointer (some ⟨bp0o0, 0, none⟩), .slice qy0_1 r.2.1.nodes.length r.2.1.nodes.length, .slice qy0_2 r.2.1.infos.length r.2.1.infos.length] 83⟩], ty0_1, ty0_2, [⟨bp0o0, .cells [.slice qy0o0_0 r.2.2.1.cells.length r.2.2.1.cells.length, .int .i64 r.2.2.1.count] 94⟩], ty0o0_0, [⟨bp1, .cells [.bool r.2.2.2.told_Ok, .string r.2.2.2.told_Key, .int .u64 r.2.2.2.told_Val, .int .i64 r.2.2.2.told_Err, vy1_4] 114⟩], tr] ∧ AccR R_Tbst_node 89 h1 ty0_1 (.slice qy0_1 r.2.1.nodes.length r.2.1.nodes.length) r.2.1.nodes ∧ AccR R_Tbst_info 86 h1 ty0_2 (.slice qy0_2 r.2.1.infos.length r.2.1.infos.length) r.2.1.infos ∧ AccR (RI_ .u64 29) 29 h1 ty0o0_0 (.slice qy0o0_0 r.2.2.1.cells.length r.2.2.1.cells.length) r.2.2.1.cells ∧ OC h1 bp0 bp1 tr r.1 vr) := by
  unfold F_bst_Tree_grow_1_1 at hF
  refine evo_of rfl at_100 rfl rfl ?_
  refine go_seq ?_
  refine go_region ?_
  refine gAc rfl rfl ?_
  refine go_nil ?_
  refine go_seq ?_
  refine go_regions (L := [(0, []), (1, []), (2, []), (3, []), (4, []), (5, []), (6, []), (7, []), (8, [])]) (by kernel_rfl) (by kernel_rfl) (fun _ => rfl) ?_
  refine go_sop rfl rfl ?_
  refine gr rfl (r_load (ot rfl) (v := .pointer (some ⟨bp0, 0, none⟩)) (lo_e (fun hf kn => ld_cell ag_24 (g2.ext kn) rfl))) ?_
  refine go_nil ?_
  refine go_sop rfl rfl ?_
  refine gr rfl (r_nilck (ot rfl)) ?_
  refine go_nil ?_
  refine go_sop rfl rfl ?_
  refine gr rfl (r_fa (ot rfl) (fa_83_0 _ _)) ?_
  refine go_nil ?_
  refine go_sop rfl rfl ?_
  refine gr rfl (r_load (ot rfl) (lm_s (mem_seg 0 rfl) ag_26 rfl)) ?_
  refine go_nil ?_
  refine go_sop rfl rfl ?_
  refine gr rfl (r_load (ot rfl) (v := .int .i64 p3) (lo_e (fun hf kn => ld_cell ag_3 (g3.ext kn) rfl))) ?_
  refine go_nil ?_
  refine go_sop rfl rfl ?_
  refine gr rfl (r_bin (ot rfl) (oc rfl) rfl) ?_
  refine go_nil ?_
  refine go_sop rfl rfl ?_
  refine gr rfl (r_load (ot rfl) (v := .int .i64 p4) (lo_e (fun hf kn => ld_cell ag_3 (g4.ext kn) rfl))) ?_
  refine go_nil ?_
  refine go_sop rfl rfl ?_
  refine gr rfl (r_conv (ot rfl) rfl) ?_
  refine go_nil ?_
  refine go_sop rfl rfl ?_
  replace hF := obind hF
  obtain ⟨x10, hx10, hF⟩ := hF
  refine gs_call EE_fr hw (.cons (.s (.s (.s (.z)))) (.cons (.s (.s (.s (.z)))) .nil)) (fun _ h => by cases h; rfl) of (os1 (ot rfl) (os1 (ot rfl) (os1 (ot rfl) os0))) hb_41 (by exact s_mem_Mem_Store hw p0o0 (IntKind.i64.wrap (p3 + 2)) (IntKind.u64.wrap p4) f0o0_0 hx10) ?_
  rintro v10 S10 h10 e10 w10 ⟨q10_y0_0, t10_y0_0, rfl, rfl, f10_0⟩
  simp only [List.cons_append, List.nil_append]
  refine go_nil ?_
  refine go_snil ?_
  refine go_seq ?_
  refine go_region ?_
  refine gr rfl (r_func os0 (os1 (ot rfl) (os1 (ot rfl) (os1 (ot rfl) (os1 (ot rfl) (os1 (ot rfl) os0)))))) ?_
  refine gA rfl rfl ?_
  refine go_nil ?_
  have co11 : CO h10 bp0 bp1 [] (Clo.c_grow_1_1_1 p5 p6 p8) (.func (.func 101) #[] #[.pointer (some ⟨b2, 0, none⟩), .pointer (some ⟨b5, 0, none⟩), .pointer (some ⟨b6, 0, none⟩), .pointer (some ⟨b7, 0, none⟩), .pointer (some ⟨b8, 0, none⟩)]) := CO.c_grow_1_1_1 (g2.ext e10.kn) (g5.ext e10.kn) (g6.ext e10.kn) (g7.ext e10.kn) (g8.ext e10.kn)
  obtain rfl := someI hF
  refine gs_perm (perm_of (d := []) _ [2, 3, 4, 0, 1, 5] rfl) ?_
  exact g_ret (rst rfl rs0) (fun h1 hf hs => ⟨[[⟨bp0, .cells [.pointer (some ⟨bp0o0, 0, none⟩), .slice q0_1 p0.nodes.length p0.nodes.length, .slice q0_2 p0.infos.length p0.infos.length] 83⟩], t0_1, t0_2, [⟨bp0o0, .cells [.slice q10_y0_0 x10.2.cells.length x10.2.cells.length, .int .i64 x10.2.count] 94⟩], t10_y0_0, [⟨bp1, .cells [.bool p1.told_Ok, .string p1.told_Key, .int .u64 p1.told_Val, .int .i64 p1.told_Err, v1_4] 114⟩], []], _, hf, e10, w10, hs, (ndb (by intro e; cases e) (ndt (f0_1.ext e10.kn) (ndt (f0_2.ext e10.kn) (ndb (by intro e; cases e) (ndt f10_0 (ndb (by intro e; cases e) (nde nd0))))))), ⟨_, _, _, _, _, _, _, _, _, rfl, rfl, (f0_1.ext e10.kn), (f0_2.ext e10.kn), f10_0, (OC.some co11)⟩⟩)
theorem s_bst_Tree_grow_1_1_1 {rc : RC} (hrc : RCok rc) {h : Heap} (hw : Wf h) (p0 : Obst_Tree) (p0o0 : Omem_Mem) (p1 : Obst_Call) (p3 : Tbst_seen) (p4 : Int) (p6 : Tbst_node) {bp0 : Nat} {q0_1 : Option Addr} {t0_1 : List Blk} {q0_2 : Option Addr} {t0_2 : List Blk} {bp0o0 : Nat} {q0o0_0 : Option Addr} {t0o0_0 : List Blk} {bp1 : Nat} {v1_4 : Value} {b2 : Nat} {b3 : Nat} {b4 : Nat} {b5 : Nat} {b6 : Nat} (f0_1 : AccR R_Tbst_node 89 h t0_1 (.slice q0_1 p0.nodes.length p0.nodes.length) p0.nodes) (f0_2 : AccR R_Tbst_info 86 h t0_2 (.slice q0_2 p0.infos.length p0.infos.length) p0.infos) (f0o0_0 : AccR (RI_ .u64 29) 29 h t0o0_0 (.slice q0o0_0 p0o0.cells.length p0o0.cells.length) p0o0.cells) (g2 : BK h b2 [.pointer (some ⟨bp0, 0, none⟩)] 24) (g3 : BK h b3 [.int .i64 p3.grand, .int .i64 p3.parent, .int .i64 p3.leaf, .int .u64 p3.grandWord, .int .u64 p3.parentWord, .int .i64 p3.turn] 105) (g4 : BK h b4 [.int .i64 p4] 3) (g5 : BK h b5 [.pointer (some ⟨bp1, 0, none⟩)] 34) (g6 : BK h b6 [.string p6.key, .int .i64 p6.top, .int .u64 p6.val, .int .i64 p6.cell] 89) {r : (Option Clo) × Obst_Tree × Omem_Mem × Obst_Call} (hF : F_bst_Tree_grow_1_1_1 rc p0 p0o0 p1 p3 p4 p6 = some r) :
    EvO EE 101 [.pointer (some ⟨b2, 0, none⟩), .pointer (some ⟨b3, 0, none⟩), .pointer (some ⟨b4, 0, none⟩), .pointer (some ⟨b5, 0, none⟩), .pointer (some ⟨b6, 0, none⟩)] [[⟨bp0, .cells [.pointer (some ⟨bp0o0, 0, none⟩), .slice q0_1 p0.nodes.length p0.nodes.length, .slice q0_2 p0.infos.length p0.infos.length] 83⟩], t0_1, t0_2, [⟨bp0o0, .cells [.slice q0o0_0 p0o0.cells.length p0o0.cells.length, .int .i64 p0o0.count] 94⟩], t0o0_0, [⟨bp1, .cells [.bool p1.told_Ok, .string p1.told_Key, .int .u64 p1.told_Val, .int .i64 p1.told_Err, v1_4] 114⟩]] h (fun v S h1 => ∃ qy0_1 ty0_1 qy0_2 ty0_2 qy0o0_0 ty0o0_0 vy1_4 vr tr, v = vr ∧ S = [[⟨bp0, .cells [.pointer (some ⟨bp0o0, 0, none⟩), .slice qy0_1 r.2.1.nodes.length r.2.1.nodes.length, .slice qy0_2 r.2.1.infos.length r.2.1.infos.length] 83⟩], ty0_1, ty0_2, [⟨bp0o0, .cells [.slice qy0o0_0 r.2.2.1.cells.length r.2.2.1.cells.length, .int .i64 r.2.2.1.count] 94⟩], ty0o0_0, [⟨bp1, .cells [.bool r.2.2.2.told_Ok, .string r.2.2.2.told_Key, .int .u64 r.2.2.2.told_Val, .int .i64 r.2.2.2.told_Err, vy1_4] 114⟩], tr] ∧ AccR R_Tbst_node 89 h1 ty0_1 (.slice qy0_1 r.2.1.nodes.length r.2.1.nodes.length) r.2.1.nodes ∧ AccR R_Tbst_info 86 h1 ty0_2 (.slice qy0_2 r.2.1.infos.length r.2.1.infos.length) r.2.1.infos ∧ AccR (RI_ .u64 29) 29 h1 ty0o0_0 (.slice qy0o0_0 r.2.2.1.cells.length r.2.2.1.cells.length) r.2.2.1.cells ∧ OC h1 bp0 bp1 tr r.1 vr) := by
  unfold F_bst_Tree_grow_1_1_1 at hF
  refine evo_of rfl at_101 rfl rfl ?_
  refine go_seq ?_
  refine go_region ?_
  refine gAc rfl rfl ?_
  refine go_nil ?_
  refine go_seq ?_
  refine go_regions (L := [(0, []), (1, []), (2, []), (3, []), (4, []), (5, []), (6, []), (8, []), (9, []), (10, []), (7, [0, 3, 9, 10]), (11, [0, 3, 9]), (12, []), (13, []), (14, []), (15, []), (16, []), (17, [])]) (by kernel_rfl) (by kernel_rfl) (fun _ => rfl) ?_
  refine go_sop rfl rfl ?_
  refine gr rfl (r_load (ot rfl) (v := .pointer (some ⟨bp0, 0, none⟩)) (lo_e (fun hf kn => ld_cell ag_24 (g2.ext kn) rfl))) ?_
  refine go_nil ?_
  refine go_sop rfl rfl ?_
  refine gr rfl (r_nilck (ot rfl)) ?_
  refine go_nil ?_
  refine go_sop rfl rfl ?_
  refine gr rfl (r_fa (ot rfl) (fa_83_0 _ _)) ?_
  refine go_nil ?_
  refine go_sop rfl rfl ?_
  refine gr rfl (r_load (ot rfl) (lm_s (mem_seg 0 rfl) ag_26 rfl)) ?_
  refine go_nil ?_
  refine go_sop rfl rfl ?_
  refine gr rfl (r_load (ot rfl) (v := .pointer (some ⟨bp0, 0, none⟩)) (lo_e (fun hf kn => ld_cell ag_24 (g2.ext kn) rfl))) ?_
  refine go_nil ?_
  refine go_sop rfl rfl ?_
  refine gr rfl (r_fa (ot rfl) (fa_105_1 _ _)) ?_
  refine go_nil ?_
  refine go_sop rfl rfl ?_
  refine gr rfl (r_load (ot rfl) (v := .int .i64 p3.parent) (lo_e (fun hf kn => ld_cell ag_3 (g3.ext kn) rfl))) ?_
  refine go_nil ?_
  refine go_sop rfl rfl ?_
  refine gr rfl (r_fa (ot rfl) (fa_105_4 _ _)) ?_
  refine go_nil ?_
  refine go_sop rfl rfl ?_
  refine gr rfl (r_load (ot rfl) (v := .int .u64 p3.parentWord) (lo_e (fun hf kn => ld_cell ag_29 (g3.ext kn) rfl))) ?_
  refine go_nil ?_
  refine go_sop rfl rfl ?_
  refine gr rfl (r_load (ot rfl) (v := .int .i64 p4) (lo_e (fun hf kn => ld_cell ag_3 (g4.ext kn) rfl))) ?_
  refine go_nil ?_
  refine go_sopc [(0, .pointer (some ⟨bp0, 0, none⟩)), (3, .pointer (some ⟨bp0o0, 0, none⟩)), (9, .int .u64 p3.parentWord), (10, .int .i64 p4)] rfl rfl rfl (rc1 rfl (r_load (ot rfl) (v := .pointer (some ⟨bp0, 0, none⟩)) (lo_e (fun hf kn => ld_cell ag_24 (g2.ext kn) rfl))) (rc1 rfl (r_load (ot rfl) (lm_s (mem_seg 0 rfl) ag_26 rfl)) (rc1 rfl (r_load (ot rfl) (v := .int .u64 p3.parentWord) (lo_e (fun hf kn => ld_cell ag_29 (g3.ext kn) rfl))) (rc1 rfl (r_load (ot rfl) (v := .int .i64 p4) (lo_e (fun hf kn => ld_cell ag_3 (g4.ext kn) rfl))) rc0)))) (vq1 (veq_ptr _ _) (vq1 (veq_ptr _ _) (vq1 (veq_int _ _ _) (vq1 (veq_int _ _ _) vq0)))) rfl ?_
  replace hF := obind hF
  obtain ⟨x8, hx8, hF⟩ := hF
  refine gs_call EE_fr hw (.cons .z (.cons .z (.cons .z (.cons .z (.cons .z .nil))))) (fun _ h => by cases h; rfl) of (os1 (ot rfl) (os1 (ot rfl) (os1 (oc rfl) os0))) hb_55 (by exact s_bst_Tree_cell hw p0 p0o0 p3.parent 0 f0_1 f0_2 f0o0_0 hx8) ?_
  rintro v8 S8 h8 e8 w8 ⟨q8_y0_1, t8_y0_1, q8_y0_2, t8_y0_2, q8_y0o0_0, t8_y0o0_0, rfl, rfl, f8_0, f8_1, f8_2⟩
  simp only [List.cons_append, List.nil_append]
  refine go_nil ?_
  refine go_rck (rc1 rfl (r_load (ot rfl) (v := .pointer (some ⟨bp0, 0, none⟩)) (lo_e (fun hf kn => ld_cell ag_24 ((g2.ext e8.kn).ext kn) rfl))) (rc1 rfl (r_load (ot rfl) (lm_s (mem_seg 0 rfl) ag_26 rfl)) (rc1 rfl (r_load (ot rfl) (v := .int .u64 p3.parentWord) (lo_e (fun hf kn => ld_cell ag_29 ((g3.ext e8.kn).ext kn) rfl))) (rc1 rfl (r_load (ot rfl) (v := .int .i64 p4) (lo_e (fun hf kn => ld_cell ag_3 ((g4.ext e8.kn).ext kn) rfl))) rc0)))) ?_
  refine go_sopc [(0, .pointer (some ⟨bp0, 0, none⟩)), (3, .pointer (some ⟨bp0o0, 0, none⟩)), (9, .int .u64 p3.parentWord)] rfl rfl rfl (rc1 rfl (r_load (ot rfl) (v := .pointer (some ⟨bp0, 0, none⟩)) (lo_e (fun hf kn => ld_cell ag_24 ((g2.ext e8.kn).ext kn) rfl))) (rc1 rfl (r_load (ot rfl) (lm_s (mem_seg 0 rfl) ag_26 rfl)) (rc1 rfl (r_load (ot rfl) (v := .int .u64 p3.parentWord) (lo_e (fun hf kn => ld_cell ag_29 ((g3.ext e8.kn).ext kn) rfl))) rc0))) (vq1 (veq_ptr _ _) (vq1 (veq_ptr _ _) (vq1 (veq_int _ _ _) vq0))) rfl ?_
  replace hF := obind hF
  obtain ⟨x9, hx9, hF⟩ := hF
  refine g_callp (v := .int .u64 x9) EE_fr rfl of (os1 (oc rfl) (os1 (ot rfl) os0)) hb_89 (fun _ => rfl) (fun hf kn w => by exact s_word_Pack w 1 p4  hx9) ?_
  refine go_nil ?_
  refine go_rck (rc1 rfl (r_load (ot rfl) (v := .pointer (some ⟨bp0, 0, none⟩)) (lo_e (fun hf kn => ld_cell ag_24 ((g2.ext e8.kn).ext kn) rfl))) (rc1 rfl (r_load (ot rfl) (lm_s (mem_seg 0 rfl) ag_26 rfl)) (rc1 rfl (r_load (ot rfl) (v := .int .u64 p3.parentWord) (lo_e (fun hf kn => ld_cell ag_29 ((g3.ext e8.kn).ext kn) rfl))) rc0))) ?_
  refine go_sop rfl rfl ?_
  replace hF := obind hF
  obtain ⟨x10, hx10, hF⟩ := hF
  refine gs_call EE_fr w8 (.cons (.s (.s (.s (.z)))) (.cons (.s (.s (.s (.z)))) .nil)) (fun _ h => by cases h; rfl) of (os1 (ot rfl) (os1 (ot rfl) (os1 (ot rfl) (os1 (ot rfl) os0)))) hb_88 (by exact s_mem_Mem_CAS w8 (⟨x8.2.2.cells, x8.2.2.count⟩ : Omem_Mem) x8.1 p3.parentWord x9 f8_2 hx10) ?_
  rintro v10 S10 h10 e10 w10 ⟨q10_y0_0, t10_y0_0, rfl, rfl, f10_0⟩
  simp only [List.cons_append, List.nil_append]
  refine go_nil ?_
  refine go_sop rfl rfl ?_
  refine gM rfl rfl ?_
  refine go_nil ?_
  refine go_sop rfl rfl ?_
  refine gE rfl rfl rfl ?_
  refine go_nil ?_
  refine go_sop rfl rfl ?_
  refine gE rfl rfl rfl ?_
  refine go_nil ?_
  refine go_sop rfl rfl ?_
  refine gA rfl rfl ?_
  refine go_nil ?_
  refine go_sop rfl rfl ?_
  refine gA rfl rfl ?_
  refine go_nil ?_
  refine go_snil ?_
  refine go_seq ?_
  refine go_seq ?_
  refine go_region ?_
  refine gM rfl rfl ?_
  refine gr rfl (r_un (ot rfl) rfl) ?_
  refine go_nil ?_
  refine g_cond (b := (!x10.2.1)) (ot rfl) (fun hc11 => ?_) (fun hc11 => ?_)
  ·
    replace hF := ifT hc11 hF
    refine go_seq ?_
    refine go_region ?_
    refine gr rfl (r_load (ot rfl) (v := .pointer (some ⟨bp0, 0, none⟩)) (lo_e (fun hf kn => ld_cell ag_24 (((g2.ext e8.kn).ext e10.kn).ext kn) rfl))) ?_
    refine gM rfl rfl ?_
    refine gr rfl (r_func os0 (os1 (ot rfl) (os1 (ot rfl) (os1 (ot rfl) os0)))) ?_
    have co13 : CO h10 bp0 bp1 [] (Clo.c_grow_1_1_1_1 p6) (.func (.func 102) #[] #[.pointer (some ⟨b2, 0, none⟩), .pointer (some ⟨b5, 0, none⟩), .pointer (some ⟨b6, 0, none⟩)]) := CO.c_grow_1_1_1_1 ((g2.ext e8.kn).ext e10.kn) ((g5.ext e8.kn).ext e10.kn) ((g6.ext e8.kn).ext e10.kn)
    replace hF := obind hF
    obtain ⟨x12, hx12, hF⟩ := hF
    refine gs_call EE_fr w10 (.cons (.s (.s (.z))) (.cons (.s (.s (.z))) (.cons (.s (.s (.z))) (.cons .z (.cons .z (.cons .z .nil)))))) (fun _ h => by cases h; rfl) of (os1 (ot rfl) (os1 (ot rfl) (os1 (ot rfl) os0))) hb_77 (by exact s_bst_Tree_help hrc w10 (⟨x8.2.1.nodes, x8.2.1.infos⟩ : Obst_Tree) (⟨x10.2.2.cells, x10.2.2.count⟩ : Omem_Mem) p1 x10.1 (Clo.c_grow_1_1_1_1 p6) (f8_0.ext e10.kn) (f8_1.ext e10.kn) f10_0 co13 hx12) ?_
    rintro v12 S12 h12 e12 w12 ⟨q12_y0_1, t12_y0_1, q12_y0_2, t12_y0_2, q12_y0o0_0, t12_y0o0_0, v12_y1_4, v12_r, t12_r, rfl, rfl, f12_0, f12_1, f12_2, f12_3⟩
    simp only [List.cons_append, List.nil_append]
    refine gA rfl rfl ?_
    refine go_nil ?_
    obtain rfl := someI hF
    exact g_ret (rst rfl rs0) (fun h1 hf hs => ⟨[[⟨bp0, .cells [.pointer (some ⟨bp0o0, 0, none⟩), .slice q12_y0_1 x12.2.1.nodes.length x12.2.1.nodes.length, .slice q12_y0_2 x12.2.1.infos.length x12.2.1.infos.length] 83⟩], t12_y0_1, t12_y0_2, [⟨bp0o0, .cells [.slice q12_y0o0_0 x12.2.2.1.cells.length x12.2.2.1.cells.length, .int .i64 x12.2.2.1.count] 94⟩], t12_y0o0_0, [⟨bp1, .cells [.bool x12.2.2.2.told_Ok, .string x12.2.2.2.told_Key, .int .u64 x12.2.2.2.told_Val, .int .i64 x12.2.2.2.told_Err, v12_y1_4] 114⟩], t12_r], _, hf, (e8.trans (e10.trans e12)), w12, hs, (ndb (by intro e; cases e) (ndt f12_0 (ndt f12_1 (ndb (by intro e; cases e) (ndt f12_2 (ndb (by intro e; cases e) (ndc f12_3 nd0))))))), ⟨_, _, _, _, _, _, _, _, _, rfl, rfl, f12_0, f12_1, f12_2, f12_3⟩⟩)
  ·
    replace hF := ifF hc11 hF
    refine go_skip ?_
    refine go_seq ?_
    refine go_region ?_
    refine gr rfl (r_load (ot rfl) (v := .pointer (some ⟨bp0, 0, none⟩)) (lo_e (fun hf kn => ld_cell ag_24 (((g2.ext e8.kn).ext e10.kn).ext kn) rfl))) ?_
    refine gr rfl (r_load (ot rfl) (v := .int .i64 p4) (lo_e (fun hf kn => ld_cell ag_3 (((g4.ext e8.kn).ext e10.kn).ext kn) rfl))) ?_
    refine gr rfl (r_func os0 (os1 (ot rfl) (os1 (ot rfl) os0))) ?_
    have co15 : CO h10 bp0 bp1 [] (Clo.c_grow_1_1_1_2 p6) (.func (.func 103) #[] #[.pointer (some ⟨b5, 0, none⟩), .pointer (some ⟨b6, 0, none⟩)]) := CO.c_grow_1_1_1_2 ((g5.ext e8.kn).ext e10.kn) ((g6.ext e8.kn).ext e10.kn)
    replace hF := obind hF
    obtain ⟨x14, hx14, hF⟩ := hF
    refine gs_call EE_fr w10 (.cons (.s (.s (.z))) (.cons (.s (.s (.z))) (.cons (.s (.s (.z))) (.cons .z (.cons .z (.cons .z .nil)))))) (fun _ h => by cases h; rfl) of (os1 (ot rfl) (os1 (ot rfl) (os1 (ot rfl) os0))) hb_96 (by exact s_bst_Tree_grows hrc w10 (⟨x8.2.1.nodes, x8.2.1.infos⟩ : Obst_Tree) (⟨x10.2.2.cells, x10.2.2.count⟩ : Omem_Mem) p1 p4 (Clo.c_grow_1_1_1_2 p6) (f8_0.ext e10.kn) (f8_1.ext e10.kn) f10_0 co15 hx14) ?_
    rintro v14 S14 h14 e14 w14 ⟨q14_y0_1, t14_y0_1, q14_y0_2, t14_y0_2, q14_y0o0_0, t14_y0o0_0, v14_y1_4, v14_r, t14_r, rfl, rfl, f14_0, f14_1, f14_2, f14_3⟩
    simp only [List.cons_append, List.nil_append]
    refine gA rfl rfl ?_
    refine go_nil ?_
    obtain rfl := someI hF
    exact g_ret (rst rfl rs0) (fun h1 hf hs => ⟨[[⟨bp0, .cells [.pointer (some ⟨bp0o0, 0, none⟩), .slice q14_y0_1 x14.2.1.nodes.length x14.2.1.nodes.length, .slice q14_y0_2 x14.2.1.infos.length x14.2.1.infos.length] 83⟩], t14_y0_1, t14_y0_2, [⟨bp0o0, .cells [.slice q14_y0o0_0 x14.2.2.1.cells.length x14.2.2.1.cells.length, .int .i64 x14.2.2.1.count] 94⟩], t14_y0o0_0, [⟨bp1, .cells [.bool x14.2.2.2.told_Ok, .string x14.2.2.2.told_Key, .int .u64 x14.2.2.2.told_Val, .int .i64 x14.2.2.2.told_Err, v14_y1_4] 114⟩], t14_r], _, hf, (e8.trans (e10.trans e14)), w14, hs, (ndb (by intro e; cases e) (ndt f14_0 (ndt f14_1 (ndb (by intro e; cases e) (ndt f14_2 (ndb (by intro e; cases e) (ndc f14_3 nd0))))))), ⟨_, _, _, _, _, _, _, _, _, rfl, rfl, f14_0, f14_1, f14_2, f14_3⟩⟩)
theorem s_bst_Tree_grow_1_1_1_1 {rc : RC} (hrc : RCok rc) {h : Heap} (hw : Wf h) (p0 : Obst_Tree) (p0o0 : Omem_Mem) (p1 : Obst_Call) (p4 : Tbst_node) {bp0 : Nat} {q0_1 : Option Addr} {t0_1 : List Blk} {q0_2 : Option Addr} {t0_2 : List Blk} {bp0o0 : Nat} {q0o0_0 : Option Addr} {t0o0_0 : List Blk} {bp1 : Nat} {v1_4 : Value} {b2 : Nat} {b3 : Nat} {b4 : Nat} (f0_1 : AccR R_Tbst_node 89 h t0_1 (.slice q0_1 p0.nodes.length p0.nodes.length) p0.nodes) (f0_2 : AccR R_Tbst_info 86 h t0_2 (.slice q0_2 p0.infos.length p0.infos.length) p0.infos) (f0o0_0 : AccR (RI_ .u64 29) 29 h t0o0_0 (.slice q0o0_0 p0o0.cells.length p0o0.cells.length) p0o0.cells) (g2 : BK h b2 [.pointer (some ⟨bp0, 0, none⟩)] 24) (g3 : BK h b3 [.pointer (some ⟨bp1, 0, none⟩)] 34) (g4 : BK h b4 [.string p4.key, .int .i64 p4.top, .int .u64 p4.val, .int .i64 p4.cell] 89) {r : (Option Clo) × Obst_Tree × Omem_Mem × Obst_Call} (hF : F_bst_Tree_grow_1_1_1_1 rc p0 p0o0 p1 p4 = some r) :
    EvO EE 102 [.pointer (some ⟨b2, 0, none⟩), .pointer (some ⟨b3, 0, none⟩), .pointer (some ⟨b4, 0, none⟩)] [[⟨bp0, .cells [.pointer (some ⟨bp0o0, 0, none⟩), .slice q0_1 p0.nodes.length p0.nodes.length, .slice q0_2 p0.infos.length p0.infos.length] 83⟩], t0_1, t0_2, [⟨bp0o0, .cells [.slice q0o0_0 p0o0.cells.length p0o0.cells.length, .int .i64 p0o0.count] 94⟩], t0o0_0, [⟨bp1, .cells [.bool p1.told_Ok, .string p1.told_Key, .int .u64 p1.told_Val, .int .i64 p1.told_Err, v1_4] 114⟩]] h (fun v S h1 => ∃ qy0_1 ty0_1 qy0_2 ty0_2 qy0o0_0 ty0o0_0 vy1_4 vr tr, v = vr ∧ S = [[⟨bp0, .cells [.pointer (some ⟨bp0o0, 0, none⟩), .slice qy0_1 r.2.1.nodes.length r.2.1.nodes.length, .slice qy0_2 r.2.1.infos.length r.2.1.infos.length] 83⟩], ty0_1, ty0_2, [⟨bp0o0, .cells [.slice qy0o0_0 r.2.2.1.cells.length r.2.2.1.cells.length, .int .i64 r.2.2.1.count] 94⟩], ty0o0_0, [⟨bp1, .cells [.bool r.2.2.2.told_Ok, .string r.2.2.2.told_Key, .int .u64 r.2.2.2.told_Val, .int .i64 r.2.2.2.told_Err, vy1_4] 114⟩], tr] ∧ AccR R_Tbst_node 89 h1 ty0_1 (.slice qy0_1 r.2.1.nodes.length r.2.1.nodes.length) r.2.1.nodes ∧ AccR R_Tbst_info 86 h1 ty0_2 (.slice qy0_2 r.2.1.infos.length r.2.1.infos.length) r.2.1.infos ∧ AccR (RI_ .u64 29) 29 h1 ty0o0_0 (.slice qy0o0_0 r.2.2.1.cells.length r.2.2.1.cells.length) r.2.2.1.cells ∧ OC h1 bp0 bp1 tr r.1 vr) := by
  unfold F_bst_Tree_grow_1_1_1_1 at hF
  refine evo_of rfl at_102 rfl rfl ?_
  refine go_seq ?_
  refine go_region ?_
  refine gAc rfl rfl ?_
  refine go_nil ?_
  refine go_seq ?_
  refine go_region ?_
  refine gr rfl (r_load (ot rfl) (v := .pointer (some ⟨bp0, 0, none⟩)) (lo_e (fun hf kn => ld_cell ag_24 (g2.ext kn) rfl))) ?_
  refine gr rfl (r_load (ot rfl) (v := .pointer (some ⟨bp1, 0, none⟩)) (lo_e (fun hf kn => ld_cell ag_34 (g3.ext kn) rfl))) ?_
  refine gr rfl (r_load (ot rfl) (v := .agg #[.string p4.key, .int .i64 p4.top, .int .u64 p4.val, .int .i64 p4.cell]) (lo_e (fun hf kn => ld_bk ag_89 sz_89 (g4.ext kn) (Nat.le_of_ble_eq_true rfl) rfl))) ?_
  replace hF := obind hF
  obtain ⟨x6, hx6, hF⟩ := hF
  refine gs_call EE_fr hw (.cons .z (.cons .z (.cons .z (.cons .z (.cons .z (.cons .z .nil)))))) (fun _ h => by cases h; rfl) of (os1 (ot rfl) (os1 (ot rfl) (os1 (ot rfl) os0))) hb_57 (by exact s_bst_Tree_insert hrc hw p0 p0o0 p1 p4 f0_1 f0_2 f0o0_0 hx6) ?_
  rintro v6 S6 h6 e6 w6 ⟨q6_y0_1, t6_y0_1, q6_y0_2, t6_y0_2, q6_y0o0_0, t6_y0o0_0, v6_y1_4, v6_r, t6_r, rfl, rfl, f6_0, f6_1, f6_2, f6_3⟩
  simp only [List.cons_append, List.nil_append]
  refine gA rfl rfl ?_
  refine go_nil ?_
  obtain rfl := someI hF
  exact g_ret (rst rfl rs0) (fun h1 hf hs => ⟨[[⟨bp0, .cells [.pointer (some ⟨bp0o0, 0, none⟩), .slice q6_y0_1 x6.2.1.nodes.length x6.2.1.nodes.length, .slice q6_y0_2 x6.2.1.infos.length x6.2.1.infos.length] 83⟩], t6_y0_1, t6_y0_2, [⟨bp0o0, .cells [.slice q6_y0o0_0 x6.2.2.1.cells.length x6.2.2.1.cells.length, .int .i64 x6.2.2.1.count] 94⟩], t6_y0o0_0, [⟨bp1, .cells [.bool x6.2.2.2.told_Ok, .string x6.2.2.2.told_Key, .int .u64 x6.2.2.2.told_Val, .int .i64 x6.2.2.2.told_Err, v6_y1_4] 114⟩], t6_r], _, hf, e6, w6, hs, (ndb (by intro e; cases e) (ndt f6_0 (ndt f6_1 (ndb (by intro e; cases e) (ndt f6_2 (ndb (by intro e; cases e) (ndc f6_3 nd0))))))), ⟨_, _, _, _, _, _, _, _, _, rfl, rfl, f6_0, f6_1, f6_2, f6_3⟩⟩)
theorem s_bst_Tree_grow_1_1_1_2 {rc : RC} (hrc : RCok rc) {h : Heap} (hw : Wf h) (p0 : Obst_Tree) (p0o0 : Omem_Mem) (p1 : Obst_Call) (p3 : Tbst_node) {bp0 : Nat} {q0_1 : Option Addr} {t0_1 : List Blk} {q0_2 : Option Addr} {t0_2 : List Blk} {bp0o0 : Nat} {q0o0_0 : Option Addr} {t0o0_0 : List Blk} {bp1 : Nat} {v1_4 : Value} {b2 : Nat} {b3 : Nat} (f0_1 : AccR R_Tbst_node 89 h t0_1 (.slice q0_1 p0.nodes.length p0.nodes.length) p0.nodes) (f0_2 : AccR R_Tbst_info 86 h t0_2 (.slice q0_2 p0.infos.length p0.infos.length) p0.infos) (f0o0_0 : AccR (RI_ .u64 29) 29 h t0o0_0 (.slice q0o0_0 p0o0.cells.length p0o0.cells.length) p0o0.cells) (g2 : BK h b2 [.pointer (some ⟨bp1, 0, none⟩)] 34) (g3 : BK h b3 [.string p3.key, .int .i64 p3.top, .int .u64 p3.val, .int .i64 p3.cell] 89) {r : (Option Clo) × Obst_Tree × Omem_Mem × Obst_Call} (hF : F_bst_Tree_grow_1_1_1_2 rc p0 p0o0 p1 p3 = some r) :
    EvO EE 103 [.pointer (some ⟨b2, 0, none⟩), .pointer (some ⟨b3, 0, none⟩)] [[⟨bp0, .cells [.pointer (some ⟨bp0o0, 0, none⟩), .slice q0_1 p0.nodes.length p0.nodes.length, .slice q0_2 p0.infos.length p0.infos.length] 83⟩], t0_1, t0_2, [⟨bp0o0, .cells [.slice q0o0_0 p0o0.cells.length p0o0.cells.length, .int .i64 p0o0.count] 94⟩], t0o0_0, [⟨bp1, .cells [.bool p1.told_Ok, .string p1.told_Key, .int .u64 p1.told_Val, .int .i64 p1.told_Err, v1_4] 114⟩]] h (fun v S h1 => ∃ qy0_1 ty0_1 qy0_2 ty0_2 qy0o0_0 ty0o0_0 vy1_4 vr tr, v = vr ∧ S = [[⟨bp0, .cells [.pointer (some ⟨bp0o0, 0, none⟩), .slice qy0_1 r.2.1.nodes.length r.2.1.nodes.length, .slice qy0_2 r.2.1.infos.length r.2.1.infos.length] 83⟩], ty0_1, ty0_2, [⟨bp0o0, .cells [.slice qy0o0_0 r.2.2.1.cells.length r.2.2.1.cells.length, .int .i64 r.2.2.1.count] 94⟩], ty0o0_0, [⟨bp1, .cells [.bool r.2.2.2.told_Ok, .string r.2.2.2.told_Key, .int .u64 r.2.2.2.told_Val, .int .i64 r.2.2.2.told_Err, vy1_4] 114⟩], tr] ∧ AccR R_Tbst_node 89 h1 ty0_1 (.slice qy0_1 r.2.1.nodes.length r.2.1.nodes.length) r.2.1.nodes ∧ AccR R_Tbst_info 86 h1 ty0_2 (.slice qy0_2 r.2.1.infos.length r.2.1.infos.length) r.2.1.infos ∧ AccR (RI_ .u64 29) 29 h1 ty0o0_0 (.slice qy0o0_0 r.2.2.1.cells.length r.2.2.1.cells.length) r.2.2.1.cells ∧ OC h1 bp0 bp1 tr r.1 vr) := by
  unfold F_bst_Tree_grow_1_1_1_2 at hF
  refine evo_of rfl at_103 rfl rfl ?_
  refine go_seq ?_
  refine go_region ?_
  refine gAc rfl rfl ?_
  refine go_nil ?_
  refine go_seq ?_
  refine go_region ?_
  refine gr rfl (r_load (ot rfl) (v := .pointer (some ⟨bp1, 0, none⟩)) (lo_e (fun hf kn => ld_cell ag_34 (g2.ext kn) rfl))) ?_
  refine gr rfl (r_fa (ot rfl) (fa_89_2 _ _)) ?_
  refine gr rfl (r_load (ot rfl) (v := .int .u64 p3.val) (lo_e (fun hf kn => ld_cell ag_29 (g3.ext kn) rfl))) ?_
  replace hF := obind hF
  obtain ⟨x5, hx5, hF⟩ := hF
  refine gs_call EE_fr hw (.cons .z (.cons .z (.cons .z (.cons .z (.cons .z (.cons .z .nil)))))) (fun _ h => by cases h; rfl) of (os1 (ot rfl) (os1 (oc rfl) (os1 (ot rfl) os0))) hb_53 (by exact s_bst_Call_tell hrc hw p0 p0o0 p1 true p3.val f0_1 f0_2 f0o0_0 hx5) ?_
  rintro v5 S5 h5 e5 w5 ⟨q5_y0_1, t5_y0_1, q5_y0_2, t5_y0_2, q5_y0o0_0, t5_y0o0_0, v5_y1_4, v5_r, t5_r, rfl, rfl, f5_0, f5_1, f5_2, f5_3⟩
  simp only [List.cons_append, List.nil_append]
  refine gA rfl rfl ?_
  refine go_nil ?_
  obtain rfl := someI hF
  exact g_ret (rst rfl rs0) (fun h1 hf hs => ⟨[[⟨bp0, .cells [.pointer (some ⟨bp0o0, 0, none⟩), .slice q5_y0_1 x5.2.1.nodes.length x5.2.1.nodes.length, .slice q5_y0_2 x5.2.1.infos.length x5.2.1.infos.length] 83⟩], t5_y0_1, t5_y0_2, [⟨bp0o0, .cells [.slice q5_y0o0_0 x5.2.2.1.cells.length x5.2.2.1.cells.length, .int .i64 x5.2.2.1.count] 94⟩], t5_y0o0_0, [⟨bp1, .cells [.bool x5.2.2.2.told_Ok, .string x5.2.2.2.told_Key, .int .u64 x5.2.2.2.told_Val, .int .i64 x5.2.2.2.told_Err, v5_y1_4] 114⟩], t5_r], _, hf, e5, w5, hs, (ndb (by intro e; cases e) (ndt f5_0 (ndt f5_1 (ndb (by intro e; cases e) (ndt f5_2 (ndb (by intro e; cases e) (ndc f5_3 nd0))))))), ⟨_, _, _, _, _, _, _, _, _, rfl, rfl, f5_0, f5_1, f5_2, f5_3⟩⟩)
theorem s_bst_Tree_loses_1 {rc : RC} (hrc : RCok rc) {h : Heap} (hw : Wf h) (p0 : Obst_Tree) (p0o0 : Omem_Mem) (p1 : Obst_Call) (p3 : Tbst_info) (p4 : Int) (p5 : Int) (p6 : Clo) {bp0 : Nat} {q0_1 : Option Addr} {t0_1 : List Blk} {q0_2 : Option Addr} {t0_2 : List Blk} {bp0o0 : Nat} {q0o0_0 : Option Addr} {t0o0_0 : List Blk} {bp1 : Nat} {v1_4 : Value} {b2 : Nat} {b3 : Nat} {b4 : Nat} {b5 : Nat} {b6 : Nat} {v6 : Value} (f0_1 : AccR R_Tbst_node 89 h t0_1 (.slice q0_1 p0.nodes.length p0.nodes.length) p0.nodes) (f0_2 : AccR R_Tbst_info 86 h t0_2 (.slice q0_2 p0.infos.length p0.infos.length) p0.infos) (f0o0_0 : AccR (RI_ .u64 29) 29 h t0o0_0 (.slice q0o0_0 p0o0.cells.length p0o0.cells.length) p0o0.cells) (g2 : BK h b2 [.pointer (some ⟨bp0, 0, none⟩)] 24) (g3 : BK h b3 [.int .i64 p3.grand, .int .i64 p3.parent, .int .i64 p3.leaf, .int .i64 p3.next, .int .u64 p3.was] 86) (g4 : BK h b4 [.int .u64 p4] 29) (g5 : BK h b5 [.int .i64 p5] 3) (g6 : BK h b6 [v6] 148) (c6 : CO h bp0 bp1 [] p6 v6) {r : (Option Clo) × Obst_Tree × Omem_Mem × Obst_Call} (hF : F_bst_Tree_loses_1 rc p0 p0o0 p1 p3 p4 p5 p6 = some r) :
    EvO EE 110 [.pointer (some ⟨b2, 0, none⟩), .pointer (some ⟨b3, 0, none⟩), .pointer (some ⟨b4, 0, none⟩), .pointer (some ⟨b5, 0, none⟩), .pointer (some ⟨b6, 0, none⟩)] [[⟨bp0, .cells [.pointer (some ⟨bp0o0, 0, none⟩), .slice q0_1 p0.nodes.length p0.nodes.length, .slice q0_2 p0.infos.length p0.infos.length] 83⟩], t0_1, t0_2, [⟨bp0o0, .cells [.slice q0o0_0 p0o0.cells.length p0o0.cells.length, .int .i64 p0o0.count] 94⟩], t0o0_0, [⟨bp1, .cells [.bool p1.told_Ok, .string p1.told_Key, .int .u64 p1.told_Val, .int .i64 p1.told_Err, v1_4] 114⟩]] h (fun v S h1 => ∃ qy0_1 ty0_1 qy0_2 ty0_2 qy0o0_0 ty0o0_0 vy1_4 vr tr, v = vr ∧ S = [[⟨bp0, .cells [.pointer (some ⟨bp0o0, 0, none⟩), .slice qy0_1 r.2.1.nodes.length r.2.1.nodes.length, .slice qy0_2 r.2.1.infos.length r.2.1.infos.length] 83⟩], ty0_1, ty0_2, [⟨bp0o0, .cells [.slice qy0o0_0 r.2.2.1.cells.length r.2.2.1.cells.length, .int .i64 r.2.2.1.count] 94⟩], ty0o0_0, [⟨bp1, .cells [.bool r.2.2.2.told_Ok, .string r.2.2.2.told_Key, .int .u64 r.2.2.2.told_Val, .int .i64 r.2.2.2.told_Err, vy1_4] 114⟩], tr] ∧ AccR R_Tbst_node 89 h1 ty0_1 (.slice qy0_1 r.2.1.nodes.length r.2.1.nodes.length) r.2.1.nodes ∧ AccR R_Tbst_info 86 h1 ty0_2 (.slice qy0_2 r.2.1.infos.length r.2.1.infos.length) r.2.1.infos ∧ AccR (RI_ .u64 29) 29 h1 ty0o0_0 (.slice qy0o0_0 r.2.2.1.cells.length r.2.2.1.cells.length) r.2.2.1.cells ∧ OC h1 bp0 bp1 tr r.1 vr) := by
  unfold F_bst_Tree_loses_1 at hF
  refine evo_of rfl at_110 rfl rfl ?_
  refine go_seq ?_
  refine go_region ?_
  refine gAc rfl rfl ?_
  refine go_nil ?_
  refine go_seq ?_
  refine go_regions (L := [(0, []), (1, []), (2, []), (3, []), (4, []), (5, []), (6, []), (8, []), (9, []), (10, []), (7, [0, 3, 9, 10]), (11, []), (12, []), (13, []), (14, []), (15, []), (16, [])]) (by kernel_rfl) (by kernel_rfl) (fun _ => rfl) ?_
  refine go_sop rfl rfl ?_
  refine gr rfl (r_load (ot rfl) (v := .pointer (some ⟨bp0, 0, none⟩)) (lo_e (fun hf kn => ld_cell ag_24 (g2.ext kn) rfl))) ?_
  refine go_nil ?_
  refine go_sop rfl rfl ?_
  refine gr rfl (r_nilck (ot rfl)) ?_
  refine go_nil ?_
  refine go_sop rfl rfl ?_
  refine gr rfl (r_fa (ot rfl) (fa_83_0 _ _)) ?_
  refine go_nil ?_
  refine go_sop rfl rfl ?_
  refine gr rfl (r_load (ot rfl) (lm_s (mem_seg 0 rfl) ag_26 rfl)) ?_
  refine go_nil ?_
  refine go_sop rfl rfl ?_
  refine gr rfl (r_load (ot rfl) (v := .pointer (some ⟨bp0, 0, none⟩)) (lo_e (fun hf kn => ld_cell ag_24 (g2.ext kn) rfl))) ?_
  refine go_nil ?_
  refine go_sop rfl rfl ?_
  refine gr rfl (r_fa (ot rfl) (fa_86_1 _ _)) ?_
  refine go_nil ?_
  refine go_sop rfl rfl ?_
  refine gr rfl (r_load (ot rfl) (v := .int .i64 p3.parent) (lo_e (fun hf kn => ld_cell ag_3 (g3.ext kn) rfl))) ?_
  refine go_nil ?_
  refine go_sop rfl rfl ?_
  refine gr rfl (r_fa (ot rfl) (fa_86_4 _ _)) ?_
  refine go_nil ?_
  refine go_sop rfl rfl ?_
  refine gr rfl (r_load (ot rfl) (v := .int .u64 p3.was) (lo_e (fun hf kn => ld_cell ag_29 (g3.ext kn) rfl))) ?_
  refine go_nil ?_
  refine go_sop rfl rfl ?_
  refine gr rfl (r_load (ot rfl) (v := .int .u64 p4) (lo_e (fun hf kn => ld_cell ag_29 (g4.ext kn) rfl))) ?_
  refine go_nil ?_
  refine go_sopc [(0, .pointer (some ⟨bp0, 0, none⟩)), (3, .pointer (some ⟨bp0o0, 0, none⟩)), (9, .int .u64 p3.was), (10, .int .u64 p4)] rfl rfl rfl (rc1 rfl (r_load (ot rfl) (v := .pointer (some ⟨bp0, 0, none⟩)) (lo_e (fun hf kn => ld_cell ag_24 (g2.ext kn) rfl))) (rc1 rfl (r_load (ot rfl) (lm_s (mem_seg 0 rfl) ag_26 rfl)) (rc1 rfl (r_load (ot rfl) (v := .int .u64 p3.was) (lo_e (fun hf kn => ld_cell ag_29 (g3.ext kn) rfl))) (rc1 rfl (r_load (ot rfl) (v := .int .u64 p4) (lo_e (fun hf kn => ld_cell ag_29 (g4.ext kn) rfl))) rc0)))) (vq1 (veq_ptr _ _) (vq1 (veq_ptr _ _) (vq1 (veq_int _ _ _) (vq1 (veq_int _ _ _) vq0)))) rfl ?_
  replace hF := obind hF
  obtain ⟨x8, hx8, hF⟩ := hF
  refine gs_call EE_fr hw (.cons .z (.cons .z (.cons .z (.cons .z (.cons .z .nil))))) (fun _ h => by cases h; rfl) of (os1 (ot rfl) (os1 (ot rfl) (os1 (oc rfl) os0))) hb_55 (by exact s_bst_Tree_cell hw p0 p0o0 p3.parent 0 f0_1 f0_2 f0o0_0 hx8) ?_
  rintro v8 S8 h8 e8 w8 ⟨q8_y0_1, t8_y0_1, q8_y0_2, t8_y0_2, q8_y0o0_0, t8_y0o0_0, rfl, rfl, f8_0, f8_1, f8_2⟩
  simp only [List.cons_append, List.nil_append]
  refine go_nil ?_
  refine go_rck (rc1 rfl (r_load (ot rfl) (v := .pointer (some ⟨bp0, 0, none⟩)) (lo_e (fun hf kn => ld_cell ag_24 ((g2.ext e8.kn).ext kn) rfl))) (rc1 rfl (r_load (ot rfl) (lm_s (mem_seg 0 rfl) ag_26 rfl)) (rc1 rfl (r_load (ot rfl) (v := .int .u64 p3.was) (lo_e (fun hf kn => ld_cell ag_29 ((g3.ext e8.kn).ext kn) rfl))) (rc1 rfl (r_load (ot rfl) (v := .int .u64 p4) (lo_e (fun hf kn => ld_cell ag_29 ((g4.ext e8.kn).ext kn) rfl))) rc0)))) ?_
  refine go_sop rfl rfl ?_
  replace hF := obind hF
  obtain ⟨x9, hx9, hF⟩ := hF
  refine gs_call EE_fr w8 (.cons (.s (.s (.s (.z)))) (.cons (.s (.s (.s (.z)))) .nil)) (fun _ h => by cases h; rfl) of (os1 (ot rfl) (os1 (ot rfl) (os1 (ot rfl) (os1 (ot rfl) os0)))) hb_88 (by exact s_mem_Mem_CAS w8 (⟨x8.2.2.cells, x8.2.2.count⟩ : Omem_Mem) x8.1 p3.was p4 f8_2 hx9) ?_
  rintro v9 S9 h9 e9 w9 ⟨q9_y0_0, t9_y0_0, rfl, rfl, f9_0⟩
  simp only [List.cons_append, List.nil_append]
  refine go_nil ?_
  refine go_sop rfl rfl ?_
  refine gM rfl rfl ?_
  refine go_nil ?_
  refine go_sop rfl rfl ?_
  refine gE rfl rfl rfl ?_
  refine go_nil ?_
  refine go_sop rfl rfl ?_
  refine gE rfl rfl rfl ?_
  refine go_nil ?_
  refine go_sop rfl rfl ?_
  refine gA rfl rfl ?_
  refine go_nil ?_
  refine go_sop rfl rfl ?_
  refine gA rfl rfl ?_
  refine go_nil ?_
  refine go_snil ?_
  refine go_seq ?_
  refine go_seq ?_
  refine go_region ?_
  refine gM rfl rfl ?_
  refine gM rfl rfl ?_
  refine grf rfl rfl rfl rfl (r_move (ot rfl)) ?_
  refine grf rfl rfl rfl rfl (r_load (ot rfl) (v := .int .u64 p4) (lo_e (fun hf kn => ld_cell ag_29 (((g4.ext e8.kn).ext e9.kn).ext kn) rfl))) ?_
  refine grf rfl rfl rfl rfl (r_bin (og rfl id) (og rfl id) rfl) ?_
  refine gr rfl (r_pickb (ot rfl) (oc rfl) (og rfl id)) ?_
  refine go_nil ?_
  refine g_cond (b := (bif x9.2.1 then true else (x9.1 == p4))) (ot rfl) (fun hc10 => ?_) (fun hc10 => ?_)
  ·
    replace hF := ifT hc10 hF
    refine go_seq ?_
    refine go_region ?_
    refine gr rfl (r_load (ot rfl) (v := .pointer (some ⟨bp0, 0, none⟩)) (lo_e (fun hf kn => ld_cell ag_24 (((g2.ext e8.kn).ext e9.kn).ext kn) rfl))) ?_
    refine gr rfl (r_load (ot rfl) (v := .int .i64 p5) (lo_e (fun hf kn => ld_cell ag_3 (((g5.ext e8.kn).ext e9.kn).ext kn) rfl))) ?_
    refine gr rfl (r_func os0 (os1 (ot rfl) os0)) ?_
    have co12 : CO h9 bp0 bp1 [] (Clo.c_loses_1_1 p6) (.func (.func 111) #[] #[.pointer (some ⟨b6, 0, none⟩)]) := CO.c_loses_1_1 ((g6.ext e8.kn).ext e9.kn) ((c6.ext e8.kn).ext e9.kn)
    replace hF := obind hF
    obtain ⟨x11, hx11, hF⟩ := hF
    refine gs_call EE_fr w9 (.cons (.s (.s (.z))) (.cons (.s (.s (.z))) (.cons (.s (.s (.z))) (.cons .z (.cons .z (.cons .z .nil)))))) (fun _ h => by cases h; rfl) of (os1 (ot rfl) (os1 (ot rfl) (os1 (ot rfl) os0))) hb_98 (by exact s_bst_Tree_goes hrc w9 (⟨x8.2.1.nodes, x8.2.1.infos⟩ : Obst_Tree) (⟨x9.2.2.cells, x9.2.2.count⟩ : Omem_Mem) p1 p5 (Clo.c_loses_1_1 p6) (f8_0.ext e9.kn) (f8_1.ext e9.kn) f9_0 co12 hx11) ?_
    rintro v11 S11 h11 e11 w11 ⟨q11_y0_1, t11_y0_1, q11_y0_2, t11_y0_2, q11_y0o0_0, t11_y0o0_0, v11_y1_4, v11_r, t11_r, rfl, rfl, f11_0, f11_1, f11_2, f11_3⟩
    simp only [List.cons_append, List.nil_append]
    refine gA rfl rfl ?_
    refine go_nil ?_
    obtain rfl := someI hF
    exact g_ret (rst rfl rs0) (fun h1 hf hs => ⟨[[⟨bp0, .cells [.pointer (some ⟨bp0o0, 0, none⟩), .slice q11_y0_1 x11.2.1.nodes.length x11.2.1.nodes.length, .slice q11_y0_2 x11.2.1.infos.length x11.2.1.infos.length] 83⟩], t11_y0_1, t11_y0_2, [⟨bp0o0, .cells [.slice q11_y0o0_0 x11.2.2.1.cells.length x11.2.2.1.cells.length, .int .i64 x11.2.2.1.count] 94⟩], t11_y0o0_0, [⟨bp1, .cells [.bool x11.2.2.2.told_Ok, .string x11.2.2.2.told_Key, .int .u64 x11.2.2.2.told_Val, .int .i64 x11.2.2.2.told_Err, v11_y1_4] 114⟩], t11_r], _, hf, (e8.trans (e9.trans e11)), w11, hs, (ndb (by intro e; cases e) (ndt f11_0 (ndt f11_1 (ndb (by intro e; cases e) (ndt f11_2 (ndb (by intro e; cases e) (ndc f11_3 nd0))))))), ⟨_, _, _, _, _, _, _, _, _, rfl, rfl, f11_0, f11_1, f11_2, f11_3⟩⟩)
  ·
    replace hF := ifF hc10 hF
    refine go_skip ?_
    refine go_seq ?_
    refine go_region ?_
    refine gr rfl (r_load (ot rfl) (v := .pointer (some ⟨bp0, 0, none⟩)) (lo_e (fun hf kn => ld_cell ag_24 (((g2.ext e8.kn).ext e9.kn).ext kn) rfl))) ?_
    refine gM rfl rfl ?_
    refine gr rfl (r_func os0 (os1 (ot rfl) (os1 (ot rfl) (os1 (ot rfl) (os1 (ot rfl) os0))))) ?_
    have co14 : CO h9 bp0 bp1 [] (Clo.c_loses_1_2 p3 p5 p6) (.func (.func 112) #[] #[.pointer (some ⟨b2, 0, none⟩), .pointer (some ⟨b3, 0, none⟩), .pointer (some ⟨b5, 0, none⟩), .pointer (some ⟨b6, 0, none⟩)]) := CO.c_loses_1_2 ((g2.ext e8.kn).ext e9.kn) ((g3.ext e8.kn).ext e9.kn) ((g5.ext e8.kn).ext e9.kn) ((g6.ext e8.kn).ext e9.kn) ((c6.ext e8.kn).ext e9.kn)
    replace hF := obind hF
    obtain ⟨x13, hx13, hF⟩ := hF
    refine gs_call EE_fr w9 (.cons (.s (.s (.z))) (.cons (.s (.s (.z))) (.cons (.s (.s (.z))) (.cons .z (.cons .z (.cons .z .nil)))))) (fun _ h => by cases h; rfl) of (os1 (ot rfl) (os1 (ot rfl) (os1 (ot rfl) os0))) hb_77 (by exact s_bst_Tree_help hrc w9 (⟨x8.2.1.nodes, x8.2.1.infos⟩ : Obst_Tree) (⟨x9.2.2.cells, x9.2.2.count⟩ : Omem_Mem) p1 x9.1 (Clo.c_loses_1_2 p3 p5 p6) (f8_0.ext e9.kn) (f8_1.ext e9.kn) f9_0 co14 hx13) ?_
    rintro v13 S13 h13 e13 w13 ⟨q13_y0_1, t13_y0_1, q13_y0_2, t13_y0_2, q13_y0o0_0, t13_y0o0_0, v13_y1_4, v13_r, t13_r, rfl, rfl, f13_0, f13_1, f13_2, f13_3⟩
    simp only [List.cons_append, List.nil_append]
    refine gA rfl rfl ?_
    refine go_nil ?_
    obtain rfl := someI hF
    exact g_ret (rst rfl rs0) (fun h1 hf hs => ⟨[[⟨bp0, .cells [.pointer (some ⟨bp0o0, 0, none⟩), .slice q13_y0_1 x13.2.1.nodes.length x13.2.1.nodes.length, .slice q13_y0_2 x13.2.1.infos.length x13.2.1.infos.length] 83⟩], t13_y0_1, t13_y0_2, [⟨bp0o0, .cells [.slice q13_y0o0_0 x13.2.2.1.cells.length x13.2.2.1.cells.length, .int .i64 x13.2.2.1.count] 94⟩], t13_y0o0_0, [⟨bp1, .cells [.bool x13.2.2.2.told_Ok, .string x13.2.2.2.told_Key, .int .u64 x13.2.2.2.told_Val, .int .i64 x13.2.2.2.told_Err, v13_y1_4] 114⟩], t13_r], _, hf, (e8.trans (e9.trans e13)), w13, hs, (ndb (by intro e; cases e) (ndt f13_0 (ndt f13_1 (ndb (by intro e; cases e) (ndt f13_2 (ndb (by intro e; cases e) (ndc f13_3 nd0))))))), ⟨_, _, _, _, _, _, _, _, _, rfl, rfl, f13_0, f13_1, f13_2, f13_3⟩⟩)
theorem s_bst_Tree_loses_1_1 {rc : RC} (hrc : RCok rc) {h : Heap} (hw : Wf h) (p0 : Obst_Tree) (p0o0 : Omem_Mem) (p1 : Obst_Call) (p2 : Clo) {bp0 : Nat} {q0_1 : Option Addr} {t0_1 : List Blk} {q0_2 : Option Addr} {t0_2 : List Blk} {bp0o0 : Nat} {q0o0_0 : Option Addr} {t0o0_0 : List Blk} {bp1 : Nat} {v1_4 : Value} {b2 : Nat} {v2 : Value} (f0_1 : AccR R_Tbst_node 89 h t0_1 (.slice q0_1 p0.nodes.length p0.nodes.length) p0.nodes) (f0_2 : AccR R_Tbst_info 86 h t0_2 (.slice q0_2 p0.infos.length p0.infos.length) p0.infos) (f0o0_0 : AccR (RI_ .u64 29) 29 h t0o0_0 (.slice q0o0_0 p0o0.cells.length p0o0.cells.length) p0o0.cells) (g2 : BK h b2 [v2] 148) (c2 : CO h bp0 bp1 [] p2 v2) {r : (Option Clo) × Obst_Tree × Omem_Mem × Obst_Call} (hF : F_bst_Tree_loses_1_1 rc p0 p0o0 p1 p2 = some r) :
    EvO EE 111 [.pointer (some ⟨b2, 0, none⟩)] [[⟨bp0, .cells [.pointer (some ⟨bp0o0, 0, none⟩), .slice q0_1 p0.nodes.length p0.nodes.length, .slice q0_2 p0.infos.length p0.infos.length] 83⟩], t0_1, t0_2, [⟨bp0o0, .cells [.slice q0o0_0 p0o0.cells.length p0o0.cells.length, .int .i64 p0o0.count] 94⟩], t0o0_0, [⟨bp1, .cells [.bool p1.told_Ok, .string p1.told_Key, .int .u64 p1.told_Val, .int .i64 p1.told_Err, v1_4] 114⟩]] h (fun v S h1 => ∃ qy0_1 ty0_1 qy0_2 ty0_2 qy0o0_0 ty0o0_0 vy1_4 vr tr, v = vr ∧ S = [[⟨bp0, .cells [.pointer (some ⟨bp0o0, 0, none⟩), .slice qy0_1 r.2.1.nodes.length r.2.1.nodes.length, .slice qy0_2 r.2.1.infos.length r.2.1.infos.length] 83⟩], ty0_1, ty0_2, [⟨bp0o0, .cells [.slice qy0o0_0 r.2.2.1.cells.length r.2.2.1.cells.length, .int .i64 r.2.2.1.count] 94⟩], ty0o0_0, [⟨bp1, .cells [.bool r.2.2.2.told_Ok, .string r.2.2.2.told_Key, .int .u64 r.2.2.2.told_Val, .int .i64 r.2.2.2.told_Err, vy1_4] 114⟩], tr] ∧ AccR R_Tbst_node 89 h1 ty0_1 (.slice qy0_1 r.2.1.nodes.length r.2.1.nodes.length) r.2.1.nodes ∧ AccR R_Tbst_info 86 h1 ty0_2 (.slice qy0_2 r.2.1.infos.length r.2.1.infos.length) r.2.1.infos ∧ AccR (RI_ .u64 29) 29 h1 ty0o0_0 (.slice qy0o0_0 r.2.2.1.cells.length r.2.2.1.cells.length) r.2.2.1.cells ∧ OC h1 bp0 bp1 tr r.1 vr) := by
  unfold F_bst_Tree_loses_1_1 at hF
  refine evo_of rfl at_111 rfl rfl ?_
  refine go_seq ?_
  refine go_region ?_
  refine gAc rfl rfl ?_
  refine go_nil ?_
  refine go_seq ?_
  refine go_region ?_
  refine gr rfl (r_load (ot rfl) (v := v2) (lo_e (fun hf kn => ld_cell ag_148 (g2.ext kn) rfl))) ?_
  replace hF := obind hF
  obtain ⟨x4, hx4, hF⟩ := hF
  refine gs_calld EE_fr hw (.cons .z (.cons .z (.cons .z (.cons .z (.cons .z (.cons .z (.emp .nil))))))) (fun _ h => by cases h; rfl) (ot rfl) (os1 (oc rfl) os0) (by exact hrc hw p0 p0o0 p1 f0_1 f0_2 f0o0_0 p2 (Arg.b true) [] c2 hx4) ?_
  rintro v4 S4 h4 e4 w4 ⟨q4_y0_1, t4_y0_1, q4_y0_2, t4_y0_2, q4_y0o0_0, t4_y0o0_0, v4_y1_4, v4_r, t4_r, rfl, rfl, f4_0, f4_1, f4_2, f4_3⟩
  simp only [List.cons_append, List.nil_append]
  refine gA rfl rfl ?_
  refine go_nil ?_
  obtain rfl := someI hF
  exact g_ret (rst rfl rs0) (fun h1 hf hs => ⟨[[⟨bp0, .cells [.pointer (some ⟨bp0o0, 0, none⟩), .slice q4_y0_1 x4.2.1.nodes.length x4.2.1.nodes.length, .slice q4_y0_2 x4.2.1.infos.length x4.2.1.infos.length] 83⟩], t4_y0_1, t4_y0_2, [⟨bp0o0, .cells [.slice q4_y0o0_0 x4.2.2.1.cells.length x4.2.2.1.cells.length, .int .i64 x4.2.2.1.count] 94⟩], t4_y0o0_0, [⟨bp1, .cells [.bool x4.2.2.2.told_Ok, .string x4.2.2.2.told_Key, .int .u64 x4.2.2.2.told_Val, .int .i64 x4.2.2.2.told_Err, v4_y1_4] 114⟩], t4_r], _, hf, e4, w4, hs, (ndb (by intro e; cases e) (ndt f4_0 (ndt f4_1 (ndb (by intro e; cases e) (ndt f4_2 (ndb (by intro e; cases e) (ndc f4_3 nd0))))))), ⟨_, _, _, _, _, _, _, _, _, rfl, rfl, f4_0, f4_1, f4_2, f4_3⟩⟩)
theorem s_bst_Tree_clean {rc : RC} (hrc : RCok rc) {h : Heap} (hw : Wf h) (p0 : Obst_Tree) (p0o0 : Omem_Mem) (p1 : Obst_Call) (p3 : Int) (p4 : Int) (p5 : Int) (p6 : Clo) {bp0 : Nat} {q0_1 : Option Addr} {t0_1 : List Blk} {q0_2 : Option Addr} {t0_2 : List Blk} {bp0o0 : Nat} {q0o0_0 : Option Addr} {t0o0_0 : List Blk} {bp1 : Nat} {v1_4 : Value} {v6 : Value} (f0_1 : AccR R_Tbst_node 89 h t0_1 (.slice q0_1 p0.nodes.length p0.nodes.length) p0.nodes) (f0_2 : AccR R_Tbst_info 86 h t0_2 (.slice q0_2 p0.infos.length p0.infos.length) p0.infos) (f0o0_0 : AccR (RI_ .u64 29) 29 h t0o0_0 (.slice q0o0_0 p0o0.cells.length p0o0.cells.length) p0o0.cells) (c6 : CO h bp0 bp1 [] p6 v6) {r : (Option Clo) × Obst_Tree × Omem_Mem × Obst_Call} (hF : F_bst_Tree_clean rc p0 p0o0 p1 p3 p4 p5 p6 = some r) :
    EvO EE 113 [.pointer (some ⟨bp0, 0, none⟩), .int .i64 p3, .int .i64 p4, .int .i64 p5, v6] [[⟨bp0, .cells [.pointer (some ⟨bp0o0, 0, none⟩), .slice q0_1 p0.nodes.length p0.nodes.length, .slice q0_2 p0.infos.length p0.infos.length] 83⟩], t0_1, t0_2, [⟨bp0o0, .cells [.slice q0o0_0 p0o0.cells.length p0o0.cells.length, .int .i64 p0o0.count] 94⟩], t0o0_0, [⟨bp1, .cells [.bool p1.told_Ok, .string p1.told_Key, .int .u64 p1.told_Val, .int .i64 p1.told_Err, v1_4] 114⟩]] h (fun v S h1 => ∃ qy0_1 ty0_1 qy0_2 ty0_2 qy0o0_0 ty0o0_0 vy1_4 vr tr, v = vr ∧ S = [[⟨bp0, .cells [.pointer (some ⟨bp0o0, 0, none⟩), .slice qy0_1 r.2.1.nodes.length r.2.1.nodes.length, .slice qy0_2 r.2.1.infos.length r.2.1.infos.length] 83⟩], ty0_1, ty0_2, [⟨bp0o0, .cells [.slice qy0o0_0 r.2.2.1.cells.length r.2.2.1.cells.length, .int .i64 r.2.2.1.count] 94⟩], ty0o0_0, [⟨bp1, .cells [.bool r.2.2.2.told_Ok, .string r.2.2.2.told_Key, .int .u64 r.2.2.2.told_Val, .int .i64 r.2.2.2.told_Err, vy1_4] 114⟩], tr] ∧ AccR R_Tbst_node 89 h1 ty0_1 (.slice qy0_1 r.2.1.nodes.length r.2.1.nodes.length) r.2.1.nodes ∧ AccR R_Tbst_info 86 h1 ty0_2 (.slice qy0_2 r.2.1.infos.length r.2.1.infos.length) r.2.1.infos ∧ AccR (RI_ .u64 29) 29 h1 ty0o0_0 (.slice qy0o0_0 r.2.2.1.cells.length r.2.2.1.cells.length) r.2.2.1.cells ∧ OC h1 bp0 bp1 tr r.1 vr) := by
  unfold F_bst_Tree_clean at hF
  refine evo_of rfl at_113 rfl rfl ?_
  refine go_seq ?_
  refine go_region ?_
  refine gs_box rfl (ot rfl) rfl ?_; intro b5_8
  refine gs_box rfl (ot rfl) rfl ?_; intro b6_9
  refine gs_box rfl (ot rfl) rfl ?_; intro b7_10
  refine gs_box rfl (ot rfl) rfl ?_; intro b8_11
  refine gs_box rfl (ot rfl) (CO.one c6) ?_; intro b9_12
  refine gAc rfl rfl ?_
  refine go_nil ?_
  refine go_seq ?_
  refine go_region ?_
  refine gr rfl (r_func os0 (os1 (ot rfl) (os1 (ot rfl) (os1 (ot rfl) (os1 (ot rfl) (os1 (ot rfl) os0)))))) ?_
  refine gA rfl rfl ?_
  refine go_nil ?_
  refine gs_pub (.s (.s (.s (.s (.z))))) (fun h13 e13 w13 hb13 => ?_)
  have g13_ : BK h13 b5_8 [.pointer (some ⟨bp0, 0, none⟩)] 24 := hb13
  refine gs_pub (.s (.s (.s (.z)))) (fun h14 e14 w14 hb14 => ?_)
  have g14_ : BK h14 b6_9 [.int .i64 p3] 3 := hb14
  refine gs_pub (.s (.s (.z))) (fun h15 e15 w15 hb15 => ?_)
  have g15_ : BK h15 b7_10 [.int .i64 p4] 3 := hb15
  refine gs_pub (.s (.z)) (fun h16 e16 w16 hb16 => ?_)
  have g16_ : BK h16 b8_11 [.int .i64 p5] 3 := hb16
  refine gs_pub .z (fun h17 e17 w17 hb17 => ?_)
  have g17_ : BK h17 b9_12 [v6] 101 := hb17
  have co18 : CO h17 bp0 bp1 [] (Clo.c_clean_1 p3 p4 p5 p6) (.func (.func 121) #[] #[.pointer (some ⟨b5_8, 0, none⟩), .pointer (some ⟨b6_9, 0, none⟩), .pointer (some ⟨b7_10, 0, none⟩), .pointer (some ⟨b8_11, 0, none⟩), .pointer (some ⟨b9_12, 0, none⟩)]) := CO.c_clean_1 ((((g13_.ext e14.kn).ext e15.kn).ext e16.kn).ext e17.kn) (((g14_.ext e15.kn).ext e16.kn).ext e17.kn) ((g15_.ext e16.kn).ext e17.kn) (g16_.ext e17.kn) g17_ (((((c6.ext e13.kn).ext e14.kn).ext e15.kn).ext e16.kn).ext e17.kn)
  obtain rfl := someI hF
  exact g_ret (rst rfl rs0) (fun h1 hf hs => ⟨[[⟨bp0, .cells [.pointer (some ⟨bp0o0, 0, none⟩), .slice q0_1 p0.nodes.length p0.nodes.length, .slice q0_2 p0.infos.length p0.infos.length] 83⟩], t0_1, t0_2, [⟨bp0o0, .cells [.slice q0o0_0 p0o0.cells.length p0o0.cells.length, .int .i64 p0o0.count] 94⟩], t0o0_0, [⟨bp1, .cells [.bool p1.told_Ok, .string p1.told_Key, .int .u64 p1.told_Val, .int .i64 p1.told_Err, v1_4] 114⟩], []], _, hf, (e13.trans (e14.trans (e15.trans (e16.trans e17)))), w17, hs, (ndb (by intro e; cases e) (ndt (((((f0_1.ext e13.kn).ext e14.kn).ext e15.kn).ext e16.kn).ext e17.kn) (ndt (((((f0_2.ext e13.kn).ext e14.kn).ext e15.kn).ext e16.kn).ext e17.kn) (ndb (by intro e; cases e) (ndt (((((f0o0_0.ext e13.kn).ext e14.kn).ext e15.kn).ext e16.kn).ext e17.kn) (ndb (by intro e; cases e) (nde nd0))))))), ⟨_, _, _, _, _, _, _, _, _, rfl, rfl, (((((f0_1.ext e13.kn).ext e14.kn).ext e15.kn).ext e16.kn).ext e17.kn), (((((f0_2.ext e13.kn).ext e14.kn).ext e15.kn).ext e16.kn).ext e17.kn), (((((f0o0_0.ext e13.kn).ext e14.kn).ext e15.kn).ext e16.kn).ext e17.kn), (OC.some co18)⟩⟩)
end Go.Proofs.Ytndhbaidibioeaa.V
