/- Walks.
   No condition: these are laws of the clean machine and of this program. -/
import Derived.Test.YtndhbaidibioeaaXb
namespace Go.Proofs.Ytndhbaidibioeaa.V
open Go
set_option linter.unusedVariables false
set_option linter.unusedSimpArgs false
set_option maxRecDepth 100000
set_option maxHeartbeats 4000000
theorem s_mem_New_nil {h : Heap} (hw : Wf h)    {r : Omem_Mem} (hF : F_mem_New_nil  = some r) :
 EvO EE 11 [.int .i64 0] [] h (fun v S h1 => ∃ bw0 zw0, v = pt bw0 ∧ S = [zw0] ∧ Zmem_Mem h1 bw0 zw0 r) := by
 unfold F_mem_New_nil at hF
 refine evo_of rfl at_11 rfl rfl ?_
 refine go_seq (go_region (gAc rfl rfl (go_nil (go_seq (go_seq (go_region (gM rfl rfl (gr rfl (r_bin (ot rfl) (oc rfl) rfl) (gM rfl rfl (g_do rfl rfl rfl (gM rfl rfl (g_do rfl rfl rfl (gr rfl (r_bin (ot rfl) (oc rfl) rfl) (gr rfl (r_pkF (ot rfl) (ot rfl)) (go_nil ?_)))))))))))))))
 refine g_cond (b := false) (ot rfl) (fun hc2 => ?_) (fun hc2 => ?_)
 ·
  cases hc2
 refine go_skip (go_seq (go_region (gM rfl rfl (gs_mslice (cs := []) rfl (ot rfl) (ot rfl) ut_92 sz_29 by_29 zo_29 rfl rfl (fun b10_3 => gr rfl (r_build (op1 (ot rfl) op0) rfl) (gs_box rfl (ot rfl) rfl (fun b12_4 => gA rfl rfl (go_nil (gs_pack (fun s => Zmem_Mem h b12_4 s (⟨([] : List Int), 0⟩ : Omem_Mem)) (.cons .z (.emp .nil)) ⟨_, _, rfl, (AccR.lit _ _ _ _)⟩ fun z5p y5p => ?_)))))))))
 obtain rfl := someI hF
 exact g_retO (rst rfl rs0) (.cons .z .nil) (HExt.refl _) hw (nd1 y5p.nd nd0) ⟨_, _, rfl, rfl, y5p⟩
theorem s_bst_New {h : Heap} (hw : Wf h) (p0 : Omem_Mem) {bp0 : Nat} {z0 : List Blk} (y0 : Zmem_Mem h bp0 z0 p0) {r : Obst_Tree × Omem_Mem} (hF : F_bst_New p0 = some r) :
 EvO EE 10 [pt bp0] [z0] h (fun v S h1 => ∃ bw0 zw0, v = pt bw0 ∧ S = [zw0] ∧ Zbst_Tree h1 bw0 bp0 zw0 r.1 r.2) := by
 unfold F_bst_New at hF
 refine evo_of rfl at_10 rfl rfl ?_
 refine go_seq (go_region (gAc rfl rfl (go_nil (go_seq (go_region (gM rfl rfl ?_))))))
 obtain ⟨x2, hx2, hF⟩ := obind hF
 refine kcX EE_fr hw (.cons .z .nil) rfl of (ops_t rfl (ops_c rfl os0)) hb_38 (s_mem_Mem_Grow hw p0 3 y0 hx2) ?_
 rintro _ _ h2 e2 w2 ⟨z2_y0, rfl, rfl, f2_0⟩
 simp only [ca_, na_]
 refine gM rfl rfl (gE rfl rfl rfl (gE rfl rfl rfl (gA rfl rfl (gA rfl rfl (go_nil (go_seq (go_seq (go_region (gM rfl rfl (gr rfl (r_bin (ot rfl) (oc rfl) rfl) (go_nil ?_)))))))))))
 refine g_cond (b := (x2.2.1 != 0)) (ot rfl) (fun hc3 => ?_) (fun hc3 => ?_)
 ·
  replace hF := ifT hc3 hF
  refine go_seq (go_region (gAc rfl rfl (go_nil ?_)))
  cases hF
 ·
  replace hF := ifF hc3 hF
  refine go_skip (go_seq (go_region (gM rfl rfl (gr rfl (r_build (op1 (ot rfl) op0) rfl) (gs_box rfl (ot rfl) rfl (fun b15_4 => gA rfl rfl (go_nil (go_seq (go_region (gM rfl rfl (gr rfl (r_build op0 rfl) (gs_pack (fun s => Zbst_Tree h2 b15_4 bp0 s (⟨([] : List Tbst_node), ([] : List Tbst_info)⟩ : Obst_Tree) x2.2.2) (.cons .z (.emp (.emp (.cons .z .nil)))) ⟨_, _, _, _, _, rfl, (AccR.nil _ _ _), (AccR.nil _ _ _), f2_0⟩ fun z6p y6p => ?_))))))))))))
  obtain ⟨x5, hx5, hF⟩ := obind hF
  refine kcX EE_fr w2 (.cons .z .nil) rfl of (ops_t rfl (ops_t rfl os0)) hb_39 (s_bst_Tree_info w2 (⟨([] : List Tbst_node), ([] : List Tbst_info)⟩ : Obst_Tree) x2.2.2 (⟨0, 0, 0, 0, 0⟩ : Tbst_info) y6p hx5) ?_
  rintro _ _ h5 e5 w5 ⟨z5_y0, rfl, rfl, f5_0⟩
  simp only [ca_, na_]
  refine go_nil (go_seq (go_region (gM rfl rfl (gM rfl rfl (gr rfl (r_build (op1 (oc rfl) (op1 (ot rfl) op0)) rfl) ?_)))))
  obtain ⟨x7, hx7, hF⟩ := obind hF
  refine kcX EE_fr w5 (.cons .z .nil) rfl of (ops_t rfl (ops_t rfl os0)) hb_40 (s_bst_Tree_node w5 x5.2.1 x5.2.2 (⟨ByteArray.empty, 2, 0, x2.1⟩ : Tbst_node) f5_0 hx7) ?_
  rintro _ _ h7 e7 w7 ⟨z7_y0, rfl, rfl, f7_0⟩
  simp only [ca_, na_]
  refine go_nil (go_seq (go_regions (L := sq 0 7 ++ [(7, [3]), (8, []), (9, [])]) (by kernel_rfl) (by kernel_rfl) (fun _ => rfl) (go_sop rfl rfl (gM rfl rfl (go_nil (go_sop rfl rfl (gN rfl rfl (go_nil (go_sop rfl rfl (gF (fa_83_0 _ _) rfl rfl (go_nil (go_sop rfl rfl ?_))))))))))))
  obtain ⟨q8z_1, t8z_1, q8z_2, t8z_2, z8z_0, rfl, f8z0, f8z1, f8z2⟩ := f7_0
  refine gs_unz ?_
  simp only [ca_, na_]
  refine gls 0 ag_26 rfl rfl rfl rfl (go_nil (go_sop rfl rfl (gM rfl rfl (go_nil (go_sop rfl rfl (gr rfl (r_bin (ot rfl) (oc rfl) rfl) (go_nil (go_sop rfl rfl (gM rfl rfl (go_nil (go_sopc [(3, pt bp0)] rfl rfl rfl (rc1 rfl (r_load (ot rfl) (lm_s (mem_seg 0 rfl) ag_26 rfl)) rc0) (vq1 (veq_ptr _ _) vq0) rfl (gs_pack (fun s => Zbst_Tree h7 b15_4 bp0 s x7.2.1 x7.2.2) (.cons .z (.cons .z (.cons .z (.cons .z .nil)))) ⟨_, _, _, _, _, rfl, f8z0, f8z1, f8z2⟩ fun z10p y10p => ?_))))))))))))
  obtain ⟨x9, hx9, hF⟩ := obind hF
  refine kcX EE_fr w7 (.cons .z .nil) rfl of (ops_t rfl (ops_c rfl (ops_c rfl (ops_c rfl os0)))) hb_42 (s_bst_Tree_leaf w7 x7.2.1 x7.2.2 ByteArray.empty 1 0 y10p hx9) ?_
  rintro _ _ h9 e9 w9 ⟨z9_y0, rfl, rfl, f9_0⟩
  simp only [ca_, na_]
  refine go_nil ?_
  obtain ⟨q11z_1, t11z_1, q11z_2, t11z_2, z11z_0, rfl, f11z0, f11z1, f11z2⟩ := f9_0
  refine gs_unz ?_
  simp only [ca_, na_]
  refine go_rck (rcs 0 ag_26 rfl rfl rfl rfl rc0) (go_sop rfl rfl (gr rfl (r_conv (ot rfl) rfl) (go_nil (go_sop rfl rfl ?_))))
  obtain ⟨x12, hx12, hF⟩ := obind hF
  refine kcX EE_fr w9 (.cons (.s (.s (.s (.z)))) .nil) rfl of (ops_t rfl (ops_t rfl (ops_t rfl os0))) hb_41 (s_mem_Mem_Store w9 x9.2.2 (IntKind.i64.wrap (x2.1 + 1)) (IntKind.u64.wrap x9.1) f11z2 hx12) ?_
  rintro _ _ h12 e12 w12 ⟨z12_y0, rfl, rfl, f12_0⟩
  simp only [ca_, na_]
  refine go_nil (go_snil (go_seq (go_regions (L := sq 0 7 ++ [(7, [3]), (8, []), (9, [])]) (by kernel_rfl) (by kernel_rfl) (fun _ => rfl) (go_sop rfl rfl (gM rfl rfl (go_nil (go_sop rfl rfl (gN rfl rfl (go_nil (go_sop rfl rfl (gF (fa_83_0 _ _) rfl rfl (go_nil (go_sop rfl rfl (gls 1 ag_26 rfl rfl rfl rfl (go_nil (go_sop rfl rfl (gM rfl rfl (go_nil (go_sop rfl rfl (gr rfl (r_bin (ot rfl) (oc rfl) rfl) (go_nil (go_sop rfl rfl (gM rfl rfl ?_)))))))))))))))))))))))
  refine go_nil (go_sopc [(3, pt bp0)] rfl rfl rfl (rc1 rfl (r_load (ot rfl) (lm_s (mem_seg 1 rfl) ag_26 rfl)) rc0) (vq1 (veq_ptr _ _) vq0) rfl (gs_pack (fun s => Zbst_Tree h12 b15_4 bp0 s x9.2.1 x12.2) (.cons (.s (.z)) (.cons (.s (.z)) (.cons (.s (.z)) (.cons .z .nil)))) ⟨_, _, _, _, _, rfl, (f11z0.ext e12.kn), (f11z1.ext e12.kn), f12_0⟩ fun z14p y14p => ?_))
  obtain ⟨x13, hx13, hF⟩ := obind hF
  refine kcX EE_fr w12 (.cons .z .nil) rfl of (ops_t rfl (ops_c rfl (ops_c rfl (ops_c rfl os0)))) hb_42 (s_bst_Tree_leaf w12 x9.2.1 x12.2 ByteArray.empty 2 0 y14p hx13) ?_
  rintro _ _ h13 e13 w13 ⟨z13_y0, rfl, rfl, f13_0⟩
  simp only [ca_, na_]
  refine go_nil ?_
  obtain ⟨q15z_1, t15z_1, q15z_2, t15z_2, z15z_0, rfl, f15z0, f15z1, f15z2⟩ := f13_0
  refine gs_unz ?_
  simp only [ca_, na_]
  refine go_rck (rcs 0 ag_26 rfl rfl rfl rfl rc0) (go_sop rfl rfl (gr rfl (r_conv (ot rfl) rfl) (go_nil (go_sop rfl rfl ?_))))
  obtain ⟨x16, hx16, hF⟩ := obind hF
  refine kcX EE_fr w13 (.cons (.s (.s (.s (.z)))) .nil) rfl of (ops_t rfl (ops_t rfl (ops_t rfl os0))) hb_41 (s_mem_Mem_Store w13 x13.2.2 (IntKind.i64.wrap (x2.1 + 2)) (IntKind.u64.wrap x13.1) f15z2 hx16) ?_
  rintro _ _ h16 e16 w16 ⟨z16_y0, rfl, rfl, f16_0⟩
  simp only [ca_, na_]
  refine go_nil (go_snil (go_seq (go_region (gM rfl rfl (gA rfl rfl (go_nil (gs_pack (fun s => Zbst_Tree h16 b15_4 bp0 s x13.2.1 x16.2) (.cons (.s (.z)) (.cons (.s (.z)) (.cons (.s (.z)) (.cons .z .nil)))) ⟨_, _, _, _, _, rfl, (f15z0.ext e16.kn), (f15z1.ext e16.kn), f16_0⟩ fun z17p y17p => ?_)))))))
  obtain rfl := someI hF
  exact g_retO (rst rfl rs0) (.cons .z .nil) (e2.trans (e5.trans (e7.trans (e9.trans (e12.trans (e13.trans e16)))))) w16 (nd1 y17p.nd nd0) ⟨_, _, rfl, rfl, y17p⟩
end Go.Proofs.Ytndhbaidibioeaa.V
