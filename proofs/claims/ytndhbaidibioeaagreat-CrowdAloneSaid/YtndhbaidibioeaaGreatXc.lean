/- Walks.
   No condition: these are laws of the clean machine and of this program. -/
import Derived.Test.YtndhbaidibioeaaGreatXb
namespace Go.Proofs.YtndhbaidibioeaaGreat.V
open Go
set_option linter.unusedVariables false
set_option linter.unusedSimpArgs false
set_option maxRecDepth 100000
set_option maxHeartbeats 4000000
theorem s_mem_New_nil {h : Heap} (hw : Wf h)    {r : Omem_Mem} (hF : F_mem_New_nil  = some r) :
 EvO EE 24 [.int .i64 0] [] h (fun v S h1 => ∃ bw0 zw0, v = pt bw0 ∧ S = [zw0] ∧ Zmem_Mem h1 bw0 zw0 r) := by
 unfold F_mem_New_nil at hF
 refine evo_of rfl at_24 rfl rfl ?_
 refine go_seq (go_region (gAc rfl rfl (go_nil (go_seq (go_seq (go_region (gM rfl rfl (gr rfl (r_bin (ot rfl) (oc rfl) rfl) (gM rfl rfl (g_do rfl rfl rfl (gM rfl rfl (g_do rfl rfl rfl (gr rfl (r_bin (ot rfl) (oc rfl) rfl) (gr rfl (r_pkF (ot rfl) (ot rfl)) (go_nil ?_)))))))))))))))
 refine g_cond (b := false) (ot rfl) (fun hc2 => ?_) (fun hc2 => ?_)
 ·
  cases hc2
 refine go_skip (go_seq (go_region (gM rfl rfl (gs_mslice (cs := []) rfl (ot rfl) (ot rfl) ut_105 sz_93 by_93 zo_93 rfl rfl (fun b10_3 => gr rfl (r_build (op1 (ot rfl) op0) rfl) (gs_box rfl (ot rfl) rfl (fun b12_4 => gA rfl rfl (go_nil (gs_pack (fun s => Zmem_Mem h b12_4 s (⟨([] : List Int), 0⟩ : Omem_Mem)) (.cons .z (.emp .nil)) ⟨_, _, rfl, (AccR.lit _ _ _ _)⟩ fun z5p y5p => ?_)))))))))
 obtain rfl := someI hF
 exact g_retO (rst rfl rs0) (.cons .z .nil) (HExt.refl _) hw (nd1 y5p.nd nd0) ⟨_, _, rfl, rfl, y5p⟩
theorem s_bst_New {h : Heap} (hw : Wf h) (p0 : Omem_Mem) {bp0 : Nat} {z0 : List Blk} (y0 : Zmem_Mem h bp0 z0 p0) {r : Obst_Tree × Omem_Mem} (hF : F_bst_New p0 = some r) :
 EvO EE 52 [pt bp0] [z0] h (fun v S h1 => ∃ bw0 zw0, v = pt bw0 ∧ S = [zw0] ∧ Zbst_Tree h1 bw0 bp0 zw0 r.1 r.2) := by
 unfold F_bst_New at hF
 refine evo_of rfl at_52 rfl rfl ?_
 refine go_seq (go_region (gAc rfl rfl (go_nil (go_seq (go_region (gM rfl rfl ?_))))))
 obtain ⟨x2, hx2, hF⟩ := obind hF
 refine kcX EE_fr hw (.cons .z .nil) rfl of (ops_t rfl (ops_c rfl os0)) hb_89 (s_mem_Mem_Grow hw p0 3 y0 hx2) ?_
 rintro _ _ h2 e2 w2 ⟨z2_y0, rfl, rfl, f2_0⟩
 simp only [ca_, na_]
 refine gM rfl rfl (gE rfl rfl rfl (gE rfl rfl rfl (gA rfl rfl (gA rfl rfl (go_nil (go_seq (go_seq (go_region (gM rfl rfl (gr rfl (r_bin (ot rfl) (oc rfl) rfl) (go_nil ?_)))))))))))
 refine g_cond (b := (x2.2.1 != 0)) (ot rfl) (fun hc3 => ?_) (fun hc3 => ?_)
 ·
  replace hF := ifT hc3 hF
  refine go_seq (go_region (gAc rfl rfl (go_nil ?_)))
  cases hF
 ·
  replace hF := ifF hc3 hF
  refine go_skip (go_seq (go_region (gM rfl rfl (gr rfl (r_build (op1 (ot rfl) op0) rfl) (gs_box rfl (ot rfl) rfl (fun b15_4 => gA rfl rfl (go_nil (go_seq (go_region (gM rfl rfl (gr rfl (r_build op0 rfl) (gs_pack (fun s => Zbst_Tree h2 b15_4 bp0 s (⟨([] : List Tbst_node), ([] : List Tbst_info)⟩ : Obst_Tree) x2.2.2) (.cons .z (.emp (.emp (.cons .z .nil)))) ⟨_, _, _, _, _, rfl, (AccR.nil _ _ _), (AccR.nil _ _ _), f2_0⟩ fun z6p y6p => ?_))))))))))))
  obtain ⟨x5, hx5, hF⟩ := obind hF
  refine kcX EE_fr w2 (.cons .z .nil) rfl of (ops_t rfl (ops_t rfl os0)) hb_90 (s_bst_Tree_info w2 (⟨([] : List Tbst_node), ([] : List Tbst_info)⟩ : Obst_Tree) x2.2.2 (⟨0, 0, 0, 0, 0⟩ : Tbst_info) y6p hx5) ?_
  rintro _ _ h5 e5 w5 ⟨z5_y0, rfl, rfl, f5_0⟩
  simp only [ca_, na_]
  refine go_nil (go_seq (go_region (gM rfl rfl (gM rfl rfl (gr rfl (r_build (op1 (oc rfl) (op1 (ot rfl) op0)) rfl) ?_)))))
  obtain ⟨x7, hx7, hF⟩ := obind hF
  refine kcX EE_fr w5 (.cons .z .nil) rfl of (ops_t rfl (ops_t rfl os0)) hb_91 (s_bst_Tree_node w5 x5.2.1 x5.2.2 (⟨ByteArray.empty, 2, 0, x2.1⟩ : Tbst_node) f5_0 hx7) ?_
  rintro _ _ h7 e7 w7 ⟨z7_y0, rfl, rfl, f7_0⟩
  simp only [ca_, na_]
  refine go_nil (go_seq (go_regions (L := sq 0 7 ++ [(7, [3]), (8, []), (9, [])]) (by kernel_rfl) (by kernel_rfl) (fun _ => rfl) (go_sop rfl rfl (gM rfl rfl (go_nil (go_sop rfl rfl (gN rfl rfl (go_nil (go_sop rfl rfl (gF (fa_131_0 _ _) rfl rfl (go_nil (go_sop rfl rfl ?_))))))))))))
  obtain ⟨q8z_1, t8z_1, q8z_2, t8z_2, z8z_0, rfl, f8z0, f8z1, f8z2⟩ := f7_0
  refine gs_unz ?_
  simp only [ca_, na_]
  refine gls 0 ag_51 rfl rfl rfl rfl (go_nil (go_sop rfl rfl (gM rfl rfl (go_nil (go_sop rfl rfl (gr rfl (r_bin (ot rfl) (oc rfl) rfl) (go_nil (go_sop rfl rfl (gM rfl rfl (go_nil (go_sopc [(3, pt bp0)] rfl rfl rfl (rc1 rfl (r_load (ot rfl) (lm_s (mem_seg 0 rfl) ag_51 rfl)) rc0) (vq1 (veq_ptr _ _) vq0) rfl (gs_pack (fun s => Zbst_Tree h7 b15_4 bp0 s x7.2.1 x7.2.2) (.cons .z (.cons .z (.cons .z (.cons .z .nil)))) ⟨_, _, _, _, _, rfl, f8z0, f8z1, f8z2⟩ fun z10p y10p => ?_))))))))))))
  obtain ⟨x9, hx9, hF⟩ := obind hF
  refine kcX EE_fr w7 (.cons .z .nil) rfl of (ops_t rfl (ops_c rfl (ops_c rfl (ops_c rfl os0)))) hb_93 (s_bst_Tree_leaf w7 x7.2.1 x7.2.2 ByteArray.empty 1 0 y10p hx9) ?_
  rintro _ _ h9 e9 w9 ⟨z9_y0, rfl, rfl, f9_0⟩
  simp only [ca_, na_]
  refine go_nil ?_
  obtain ⟨q11z_1, t11z_1, q11z_2, t11z_2, z11z_0, rfl, f11z0, f11z1, f11z2⟩ := f9_0
  refine gs_unz ?_
  simp only [ca_, na_]
  refine go_rck (rcs 0 ag_51 rfl rfl rfl rfl rc0) (go_sop rfl rfl (gr rfl (r_conv (ot rfl) rfl) (go_nil (go_sop rfl rfl ?_))))
  obtain ⟨x12, hx12, hF⟩ := obind hF
  refine kcX EE_fr w9 (.cons (.s (.s (.s (.z)))) .nil) rfl of (ops_t rfl (ops_t rfl (ops_t rfl os0))) hb_92 (s_mem_Mem_Store w9 x9.2.2 (IntKind.i64.wrap (x2.1 + 1)) (IntKind.u64.wrap x9.1) f11z2 hx12) ?_
  rintro _ _ h12 e12 w12 ⟨z12_y0, rfl, rfl, f12_0⟩
  simp only [ca_, na_]
  refine go_nil (go_snil (go_seq (go_regions (L := sq 0 7 ++ [(7, [3]), (8, []), (9, [])]) (by kernel_rfl) (by kernel_rfl) (fun _ => rfl) (go_sop rfl rfl (gM rfl rfl (go_nil (go_sop rfl rfl (gN rfl rfl (go_nil (go_sop rfl rfl (gF (fa_131_0 _ _) rfl rfl (go_nil (go_sop rfl rfl (gls 1 ag_51 rfl rfl rfl rfl (go_nil (go_sop rfl rfl (gM rfl rfl (go_nil (go_sop rfl rfl (gr rfl (r_bin (ot rfl) (oc rfl) rfl) (go_nil (go_sop rfl rfl (gM rfl rfl ?_)))))))))))))))))))))))
  refine go_nil (go_sopc [(3, pt bp0)] rfl rfl rfl (rc1 rfl (r_load (ot rfl) (lm_s (mem_seg 1 rfl) ag_51 rfl)) rc0) (vq1 (veq_ptr _ _) vq0) rfl (gs_pack (fun s => Zbst_Tree h12 b15_4 bp0 s x9.2.1 x12.2) (.cons (.s (.z)) (.cons (.s (.z)) (.cons (.s (.z)) (.cons .z .nil)))) ⟨_, _, _, _, _, rfl, (f11z0.ext e12.kn), (f11z1.ext e12.kn), f12_0⟩ fun z14p y14p => ?_))
  obtain ⟨x13, hx13, hF⟩ := obind hF
  refine kcX EE_fr w12 (.cons .z .nil) rfl of (ops_t rfl (ops_c rfl (ops_c rfl (ops_c rfl os0)))) hb_93 (s_bst_Tree_leaf w12 x9.2.1 x12.2 ByteArray.empty 2 0 y14p hx13) ?_
  rintro _ _ h13 e13 w13 ⟨z13_y0, rfl, rfl, f13_0⟩
  simp only [ca_, na_]
  refine go_nil ?_
  obtain ⟨q15z_1, t15z_1, q15z_2, t15z_2, z15z_0, rfl, f15z0, f15z1, f15z2⟩ := f13_0
  refine gs_unz ?_
  simp only [ca_, na_]
  refine go_rck (rcs 0 ag_51 rfl rfl rfl rfl rc0) (go_sop rfl rfl (gr rfl (r_conv (ot rfl) rfl) (go_nil (go_sop rfl rfl ?_))))
  obtain ⟨x16, hx16, hF⟩ := obind hF
  refine kcX EE_fr w13 (.cons (.s (.s (.s (.z)))) .nil) rfl of (ops_t rfl (ops_t rfl (ops_t rfl os0))) hb_92 (s_mem_Mem_Store w13 x13.2.2 (IntKind.i64.wrap (x2.1 + 2)) (IntKind.u64.wrap x13.1) f15z2 hx16) ?_
  rintro _ _ h16 e16 w16 ⟨z16_y0, rfl, rfl, f16_0⟩
  simp only [ca_, na_]
  refine go_nil (go_snil (go_seq (go_region (gM rfl rfl (gA rfl rfl (go_nil (gs_pack (fun s => Zbst_Tree h16 b15_4 bp0 s x13.2.1 x16.2) (.cons (.s (.z)) (.cons (.s (.z)) (.cons (.s (.z)) (.cons .z .nil)))) ⟨_, _, _, _, _, rfl, (f15z0.ext e16.kn), (f15z1.ext e16.kn), f16_0⟩ fun z17p y17p => ?_)))))))
  obtain rfl := someI hF
  exact g_retO (rst rfl rs0) (.cons .z .nil) (e2.trans (e5.trans (e7.trans (e9.trans (e12.trans (e13.trans e16)))))) w16 (nd1 y17p.nd nd0) ⟨_, _, rfl, rfl, y17p⟩
theorem s_mem_Mem_Peek {h : Heap} (hw : Wf h) (p0 : Omem_Mem) (p1 : Int) {bp0 : Nat} {z0 : List Blk} (y0 : Zmem_Mem h bp0 z0 p0) {r : Int × Int × Omem_Mem} (hF : F_mem_Mem_Peek p0 p1 = some r) :
 EvO EE 105 [pt bp0, .int .i64 p1] [z0] h (fun v S h1 => ∃ zy0, v = .tuple #[.int .u64 r.1, .int .i64 r.2.1] ∧ S = [zy0] ∧ Zmem_Mem h1 bp0 zy0 r.2.2) := by
 unfold F_mem_Mem_Peek at hF
 refine evo_of rfl at_105 rfl rfl ?_
 refine go_seq (go_region (gAc rfl rfl (gAc rfl rfl (go_nil (go_seq (go_region (gM rfl rfl (gM rfl rfl ?_))))))))
 obtain ⟨q4z_0, t4z_0, rfl, f4z0⟩ := y0
 refine gs_unz ?_
 simp only [ca_, na_]
 cases hx3 : getI p0.cells p1 with
 | none =>
  rw [hx3] at hF
  dsimp only at hF
  refine kcX EE_fr hw (.cons .z .nil) rfl of (ops_t rfl (ops_t rfl os0)) hb_107 (s_mem_at_bad hw (getI_bad hx3)) ?_
  rintro _ _ h3 e3 w3 ⟨rfl, rfl⟩
  simp only [ca_, na_]
  refine gA rfl rfl (go_nil (go_seq (go_seq (go_region (gM rfl rfl (gr rfl (r_bin (v := .bool true) (ot rfl) (oc rfl) (by first | rfl | kernel_rfl)) (go_nil ?_)))))))
  refine g_cond (b := true) (ot rfl) (fun hc5 => ?_) (fun hc5 => ?_)
  rotate_left
  ·
   cases hc5
  refine go_seq (go_region (gAc rfl rfl (gAc rfl rfl (go_nil (gs_pack (fun s => Zmem_Mem h3 bp0 s p0) (.cons .z (.cons .z .nil)) ⟨_, _, rfl, (f4z0.ext e3.kn)⟩ fun z6p y6p => ?_)))))
  obtain rfl := someI hF
  exact g_retO (rst rfl (rst rfl rs0)) (.cons .z .nil) e3 w3 (nd1 y6p.nd nd0) ⟨_, rfl, rfl, y6p⟩
 | some x3 =>
  rw [hx3] at hF
  dsimp only at hF
  obtain ⟨bb3, rw3, row3, hp3, ht3, hR3, hw3, rc3, hz3, hi3, hd3, hb3, hl3⟩ := AccR.at_ f4z0 hx3
  have hF3_ := hF
  subst hp3; subst ht3
  replace hF := hF3_
  obtain rfl := rc3
  refine kcX EE_fr hw (.cons .z .nil) rfl of (ops_t rfl (ops_t rfl os0)) hb_107 (s_mem_at_ok hw hz3 hi3) ?_
  rintro _ _ h3 e3 w3 ⟨rfl, rfl⟩
  simp only [ca_, na_]
  refine gA rfl rfl (go_nil (go_seq (go_seq (go_region (gM rfl rfl (gr rfl (r_bin (v := .bool false) (ot rfl) (oc rfl) (by first | rfl | kernel_rfl)) (go_nil ?_)))))))
  refine g_cond (b := false) (ot rfl) (fun hc7 => ?_) (fun hc7 => ?_)
  ·
   cases hc7
  refine go_skip (go_seq (go_region (gM rfl rfl (gN rfl rfl (gF (fa_107_1 _ _) rfl rfl (gls 0 ag_3 rfl rfl rfl rfl (gr rfl (r_bin (ot rfl) (oc rfl) rfl) (gN rfl rfl (gF (fa_107_1 _ _) rfl rfl (gs_store (ot rfl) (ot rfl) sz_3 rfl rfl rfl rfl rfl .z (go_nil (go_seq (go_region (gM rfl rfl (gN rfl rfl (gr rfl (r_load (ot rfl) (lm_s (mem_seg 1 rfl) ag_93 (acc_cell (j := 0) hd3 rfl))) (gA rfl rfl (gAc rfl rfl (go_nil (gs_pack (fun s => Zmem_Mem h3 bp0 s (⟨p0.cells, (IntKind.i64.wrap ((IntKind.i64.wrap (p0.count + 1)) - 1))⟩ : Omem_Mem)) (.cons .z (.cons .z .nil)) ⟨_, _, rfl, (f4z0.ext e3.kn)⟩ fun z8p y8p => ?_))))))))))))))))))))
  obtain rfl := someI hF
  exact g_retO (rst rfl (rst rfl rs0)) (.cons .z .nil) e3 w3 (nd1 y8p.nd nd0) ⟨_, rfl, rfl, y8p⟩
theorem s_bst_Tree_peek {h : Heap} (hw : Wf h) (p0 : Obst_Tree) (p0o0 : Omem_Mem) (p1 : Int) {bp0 bp0_1 : Nat} {z0 : List Blk} (y0 : Zbst_Tree h bp0 bp0_1 z0 p0 p0o0) {r : Int × Obst_Tree × Omem_Mem} (hF : F_bst_Tree_peek p0 p0o0 p1 = some r) :
 EvO EE 70 [pt bp0, .int .i64 p1] [z0] h (fun v S h1 => ∃ zy0, v = .int .i64 r.1 ∧ S = [zy0] ∧ Zbst_Tree h1 bp0 bp0_1 zy0 r.2.1 r.2.2) := by
 unfold F_bst_Tree_peek at hF
 refine evo_of rfl at_70 rfl rfl ?_
 refine go_seq (go_region (gAc rfl rfl (go_nil (go_seq (go_region (gM rfl rfl (gN rfl rfl (gF (fa_131_0 _ _) rfl rfl ?_))))))))
 obtain ⟨q3z_1, t3z_1, q3z_2, t3z_2, z3z_0, rfl, f3z0, f3z1, f3z2⟩ := y0
 refine gs_unz ?_
 simp only [ca_, na_]
 refine gls 0 ag_51 rfl rfl rfl rfl (gM rfl rfl ?_)
 obtain ⟨x4, hx4, hF⟩ := obind hF
 refine kcX EE_fr hw (.cons (.s (.s (.s (.z)))) .nil) rfl of (ops_t rfl (ops_t rfl os0)) hb_105 (s_mem_Mem_Peek hw p0o0 p1 f3z2 hx4) ?_
 rintro _ _ h4 e4 w4 ⟨z4_y0, rfl, rfl, f4_0⟩
 simp only [ca_, na_]
 refine gM rfl rfl (gE rfl rfl rfl (gE rfl rfl rfl (gA rfl rfl (gA rfl rfl (go_nil (go_seq (go_region (gM rfl rfl (gr rfl (r_conv (ot rfl) rfl) (gA rfl rfl (go_nil (gs_pack (fun s => Zbst_Tree h4 bp0 bp0_1 s p0 x4.2.2) (.cons (.s (.z)) (.cons (.s (.z)) (.cons (.s (.z)) (.cons .z .nil)))) ⟨_, _, _, _, _, rfl, (f3z0.ext e4.kn), (f3z1.ext e4.kn), f4_0⟩ fun z5p y5p => ?_))))))))))))
 obtain rfl := someI hF
 exact g_retO (rst rfl rs0) (.cons .z .nil) e4 w4 (nd1 y5p.nd nd0) ⟨_, rfl, rfl, y5p⟩
theorem s_bst_Tree_Keys_1 (n : Nat) : ∀ (h : Heap) (hw : Wf h) (p0 : Obst_Tree) (p0o0 : Omem_Mem) (p1 : Int) (p4 : O_string) {bp0 bp0_1 : Nat} {z0 : List Blk} {b2 : Nat} {b3 : Nat} {bp4 : Nat} {z4 : List Blk} (y0 : Zbst_Tree h bp0 bp0_1 z0 p0 p0o0) (g2 : BK h b2 [pt bp0] 61) (g3 : BK h b3 [.func (.func 68) #[] #[pt b2, pt b3, pt bp4]] 125) (y4 : Z_string h bp4 z4 p4) {r : Obst_Tree × Omem_Mem × O_string} (hF : F_bst_Tree_Keys_1 n p0 p0o0 p1 p4 = some r),
 EvO EE 68 [.int .i64 p1, pt b2, pt b3, pt bp4] [z0, z4] h (fun v S h1 => ∃ zy0 zy1, v = .tuple #[] ∧ S = [zy0, zy1] ∧ Zbst_Tree h1 bp0 bp0_1 zy0 r.1 r.2.1 ∧ Z_string h1 bp4 zy1 r.2.2) := by
 induction n with
 | zero => intro h hw p0 p0o0 p1 p4 bp0 bp0_1 z0 b2 b3 bp4 z4 y0 g2 g3 y4 r hF; rw [F_bst_Tree_Keys_1] at hF; cases hF
 | succ n ih =>
  intro h hw p0 p0o0 p1 p4 bp0 bp0_1 z0 b2 b3 bp4 z4 y0 g2 g3 y4 r hF
  rw [F_bst_Tree_Keys_1] at hF
  refine evo_of rfl at_68 rfl rfl ?_
  refine go_seq (go_region (glc ag_61 g2 rfl rfl rfl (gN rfl rfl (gF (fa_131_1 _ _) rfl rfl ?_))))
  obtain ⟨q6z_1, t6z_1, q6z_2, t6z_2, z6z_0, rfl, f6z0, f6z1, f6z2⟩ := y0
  refine gs_unz ?_
  simp only [ca_, na_]
  refine gls 0 ag_128 rfl rfl rfl rfl (gM rfl rfl ?_)
  obtain ⟨x7, hx7, hF⟩ := obind hF
  obtain ⟨bb7, rw7, row7, hp7, ht7, hR7, hw7, rc7, hz7, hi7, hd7, hb7, hl7⟩ := AccR.at_ f6z0 hx7
  have hF7_ := hF
  subst hp7; subst ht7
  replace hF := hF7_
  obtain rfl := rc7
  refine gr rfl (r_ia (ot rfl) (ot rfl) (ia_acc (k := 4) ut_128 sz_127 hz7 hi7)) (gr rfl (r_load (ot rfl) (lm_a (vs := [.string x7.key, .int .i64 x7.top, .int .u64 x7.val, .int .i64 x7.cell]) (mem_seg 1 rfl) ag_127 sz_127 (Nat.ble_eq_true_of_le hb7) hd7)) (gs_alloc rfl zo_127 rfl (fun b5_8 => gs_store (ot rfl) (ot rfl) sz_127 rfl rfl rfl rfl rfl .z (go_nil (go_block (go_seq (go_region (glw 0 ag_127 sz_127 rfl rfl rfl rfl ?_))))))))
  obtain ⟨x9, hx9, hF⟩ := obind hF
  refine g_callp (v := .bool x9) EE_fr rfl of (os1 (ot rfl) os0) hb_69 (fun _ => rfl) (fun hf kn w => by exact s_bst_node_leaf w x7  hx9) (gr rfl (r_un (ot rfl) rfl) (gA rfl rfl (go_nil ?_)))
  refine g_cond (b := (!x9)) (ot rfl) (fun hc10 => ?_) (fun hc10 => ?_)
  ·
   replace hF := ifT hc10 hF
   refine go_seq (go_regions (L := sq 0 5 ++ [(5, [0]), (6, [])]) (by kernel_rfl) (by kernel_rfl) (fun _ => rfl) (go_sop rfl rfl (glc ag_125 g3 rfl rfl rfl (go_nil (go_sop rfl rfl (glc ag_61 g2 rfl rfl rfl (go_nil (go_sop rfl rfl (gF (fa_127_3 _ _) rfl rfl (go_nil (go_sop rfl rfl (gls 0 ag_3 rfl rfl rfl rfl (go_nil (go_sop rfl rfl (gr rfl (r_bin (ot rfl) (oc rfl) rfl) (go_nil (go_sopc [(0, .func (.func 68) #[] #[pt b2, pt b3, pt bp4])] rfl rfl rfl (rc1 rfl (r_load (ot rfl) (v := .func (.func 68) #[] #[pt b2, pt b3, pt bp4]) (lo_e (fun hf kn => ld_cell ag_125 (g3.ext kn) rfl))) rc0) (vq1 (veq_fn _ _ _ (va1 (veq_ptr _ _) (va1 (veq_ptr _ _) (va1 (veq_ptr _ _) (va0 _))))) vq0) rfl (gs_pack (fun s => Zbst_Tree h bp0 bp0_1 s p0 p0o0) (.cons (.s (.z)) (.cons (.s (.z)) (.cons (.s (.z)) (.cons (.s (.z)) .nil)))) ⟨_, _, _, _, _, rfl, f6z0, f6z1, f6z2⟩ fun z12p y12p => ?_))))))))))))))))))
   obtain ⟨x11, hx11, hF⟩ := obind hF
   refine kcX EE_fr hw (.cons .z .nil) rfl of (ops_t rfl (ops_t rfl os0)) hb_70 (s_bst_Tree_peek hw p0 p0o0 (IntKind.i64.wrap (x7.cell + 1)) y12p hx11) ?_
   rintro _ _ h11 e11 w11 ⟨z11_y0, rfl, rfl, f11_0⟩
   simp only [ca_, na_]
   refine go_nil (go_rck (rcc ag_125 (g3.ext e11.kn) rfl rfl rfl rc0) (go_sop rfl rfl ?_))
   obtain ⟨x13, hx13, hF⟩ := obind hF
   refine kcX EE_fr w11 (.cons .z (.cons (.s (.z)) .nil)) rfl (ot rfl) (ops_t rfl os0) hb_68 (ih _ w11 x11.2.1 x11.2.2 x11.1 p4 f11_0 (g2.ext e11.kn) (g3.ext e11.kn) (y4.ext e11.kn) hx13) ?_
   rintro _ _ h13 e13 w13 ⟨z13_y0, z13_y1, rfl, rfl, f13_0, f13_1⟩
   simp only [ca_, na_]
   refine go_nil (go_snil (go_regions (L := sq 0 5 ++ [(5, [0]), (6, [])]) (by kernel_rfl) (by kernel_rfl) (fun _ => rfl) (go_sop rfl rfl (glc ag_125 ((g3.ext e11.kn).ext e13.kn) rfl rfl rfl (go_nil (go_sop rfl rfl (glc ag_61 ((g2.ext e11.kn).ext e13.kn) rfl rfl rfl (go_nil (go_sop rfl rfl (gF (fa_127_3 _ _) rfl rfl (go_nil (go_sop rfl rfl (gls 2 ag_3 rfl rfl rfl rfl (go_nil (go_sop rfl rfl (gr rfl (r_bin (ot rfl) (oc rfl) rfl) (go_nil (go_sopc [(0, .func (.func 68) #[] #[pt b2, pt b3, pt bp4])] rfl rfl rfl (rc1 rfl (r_load (ot rfl) (v := .func (.func 68) #[] #[pt b2, pt b3, pt bp4]) (lo_e (fun hf kn => ld_cell ag_125 (((g3.ext e11.kn).ext e13.kn).ext kn) rfl))) rc0) (vq1 (veq_fn _ _ _ (va1 (veq_ptr _ _) (va1 (veq_ptr _ _) (va1 (veq_ptr _ _) (va0 _))))) vq0) rfl ?_))))))))))))))))))
   obtain ⟨x14, hx14, hF⟩ := obind hF
   refine kcX EE_fr w13 (.cons .z .nil) rfl of (ops_t rfl (ops_t rfl os0)) hb_70 (s_bst_Tree_peek w13 x13.1 x13.2.1 (IntKind.i64.wrap (x7.cell + 2)) f13_0 hx14) ?_
   rintro _ _ h14 e14 w14 ⟨z14_y0, rfl, rfl, f14_0⟩
   simp only [ca_, na_]
   refine go_nil (go_rck (rcc ag_125 (((g3.ext e11.kn).ext e13.kn).ext e14.kn) rfl rfl rfl rc0) (go_sop rfl rfl ?_))
   obtain ⟨x15, hx15, hF⟩ := obind hF
   refine kcX EE_fr w14 (.cons .z (.cons .z .nil)) rfl (ot rfl) (ops_t rfl os0) hb_68 (ih _ w14 x14.2.1 x14.2.2 x14.1 x13.2.2 f14_0 (((g2.ext e11.kn).ext e13.kn).ext e14.kn) (((g3.ext e11.kn).ext e13.kn).ext e14.kn) (f13_1.ext e14.kn) hx15) ?_
   rintro _ _ h15 e15 w15 ⟨z15_y0, z15_y1, rfl, rfl, f15_0, f15_1⟩
   simp only [ca_, na_]
   refine go_nil (go_snil (go_endb ?_))
   obtain rfl := someI hF
   exact g_endO rs0 (.cons .z (.cons .z .nil)) (e11.trans (e13.trans (e14.trans e15))) w15 (nd1 f15_0.nd (nd1 f15_1.nd nd0)) ⟨_, _, rfl, rfl, f15_0, f15_1⟩
  ·
   replace hF := ifF hc10 hF
   refine go_seq (go_region (gF (fa_127_1 _ _) rfl rfl (gls 0 ag_3 rfl rfl rfl rfl (gr rfl (r_bin (ot rfl) (oc rfl) rfl) (gA rfl rfl (go_nil ?_))))))
   refine g_cond (b := (x7.top == 0)) (ot rfl) (fun hc16 => ?_) (fun hc16 => ?_)
   ·
    replace hF := ifT hc16 hF
    refine go_region (gs_front (.s (.s (.s (.s (.s (.z)))))) ?_)
    obtain ⟨q17z_0, t17z_0, rfl, f17z0⟩ := y4
    refine gs_unz ?_
    simp only [ca_, na_]
    refine gls 0 ag_65 rfl rfl rfl rfl (gF (fa_127_0 _ _) rfl rfl (gls 2 ag_9 rfl rfl rfl rfl (gs_bslice (cs := [.string x7.key]) rfl (op1 (ot rfl) op0) ut_65 sz_9 zo_9 rfl rfl (fun b38_18 => ?_))))
    obtain ⟨x19, hx19, hF⟩ := obind hF
    obtain ⟨hr19, hz19_⟩ := appL_some hx19; subst x19
    refine gs_front (.s (.s (.z))) (gs_app (rows2 := [[.string x7.key]]) (R := (RS_ 9)) rfl (os1 (ot rfl) (os1 (ot rfl) os0)) rfl ut_65 sz_9 rfl (by decide) by_9 zo_9 rfl zs_65_65 rfl rfl (first_m (mem_seg 1 rfl) rfl (by decide)) (Rws.one (x := x7.key) rfl) f17z0 hr19 (fun p19_ tl19 f19_ => gs_store (ot rfl) (ot rfl) sz_65 rfl rfl rfl rfl rfl (.s (.s (.z))) (go_nil (go_endb (gs_pack (fun s => Zbst_Tree h bp0 bp0_1 s p0 p0o0) (.cons (.s (.s (.s (.s (.z))))) (.cons (.s (.s (.s (.s (.z))))) (.cons (.s (.s (.s (.s (.z))))) (.cons (.s (.s (.s (.s (.z))))) .nil)))) ⟨_, _, _, _, _, rfl, f6z0, f6z1, f6z2⟩ fun z20p y20p => (gs_pack (fun s => Z_string h bp4 s (⟨(p4.v ++ ([x7.key] : List ByteArray))⟩ : O_string)) (.cons (.s (.s (.s (.z)))) (.cons (.s (.z)) .nil)) ⟨_, _, rfl, f19_⟩ fun z21p y21p => ?_))))))
    obtain rfl := someI hF
    exact g_endO rs0 (.cons (.s (.z)) (.cons .z .nil)) (HExt.refl _) hw (nd1 y20p.nd (nd1 y21p.nd nd0)) ⟨_, _, rfl, rfl, y20p, y21p⟩
   ·
    replace hF := ifF hc16 hF
    refine go_skip (go_endb (gs_pack (fun s => Zbst_Tree h bp0 bp0_1 s p0 p0o0) (.cons (.s (.z)) (.cons (.s (.z)) (.cons (.s (.z)) (.cons (.s (.z)) .nil)))) ⟨_, _, _, _, _, rfl, f6z0, f6z1, f6z2⟩ fun z22p y22p => ?_))
    obtain rfl := someI hF
    exact g_endO rs0 (.cons .z (.cons (.s (.z)) .nil)) (HExt.refl _) hw (nd1 y22p.nd (nd1 y4.nd nd0)) ⟨_, _, rfl, rfl, y22p, y4⟩
theorem s_bst_Tree_Keys (n : Nat) {h : Heap} (hw : Wf h) (p0 : Obst_Tree) (p0o0 : Omem_Mem) {bp0 bp0_1 : Nat} {z0 : List Blk} (y0 : Zbst_Tree h bp0 bp0_1 z0 p0 p0o0) {r : (List ByteArray) × Obst_Tree × Omem_Mem} (hF : F_bst_Tree_Keys n p0 p0o0 = some r) :
 EvO EE 35 [pt bp0] [z0] h (fun v S h1 => ∃ zy0 a0 c0, v = .slice a0 r.1.length c0 ∧ S = [zy0] ∧ Zbst_Tree h1 bp0 bp0_1 zy0 r.2.1 r.2.2 ∧ RL (RS_ 9) h1 a0 c0 r.1) := by
 unfold F_bst_Tree_Keys at hF
 refine evo_of rfl at_35 rfl rfl ?_
 refine go_seq (go_region (gs_box rfl (ot rfl) rfl (fun b1_2 => gAc rfl rfl (go_nil (go_seq (go_seq (go_region (gls 0 ag_61 rfl rfl rfl rfl (gr rfl (r_bin (v := .bool false) (ot rfl) (oc rfl) (by first | rfl | kernel_rfl)) (go_nil ?_))))))))))
 refine g_cond (b := false) (ot rfl) (fun hc3 => ?_) (fun hc3 => ?_)
 ·
  cases hc3
 refine go_skip (go_seq (go_region (gs_alloc rfl zo_65 rfl (fun b3_4 => go_nil (go_seq (go_region (gs_alloc rfl zo_125 rfl (fun b4_5 => go_nil (go_seq (go_region (gr rfl (r_func os0 (os1 (ot rfl) (os1 (ot rfl) (os1 (ot rfl) os0)))) (gs_store (ot rfl) (ot rfl) sz_125 rfl rfl rfl rfl rfl .z (go_nil (go_seq (go_region (gls 0 ag_125 rfl rfl rfl rfl (gs_pub (.s (.s (.z))) (fun h7 e7 w7 hb7 => ?_))))))))))))))))))
 have g7_ : BK h7 b1_2 [pt bp0] 61 := hb7
 refine gs_pub .z (fun h8 e8 w8 hb8 => ?_)
 have g8_ : BK h8 b4_5 [.func (.func 68) #[] #[pt b1_2, pt b4_5, pt b3_4]] 125 := hb8
 refine gs_pack (fun s => Z_string h8 b3_4 s (⟨([] : List ByteArray)⟩ : O_string)) (.cons .z (.emp .nil)) ⟨_, _, rfl, (AccR.nil _ _ _)⟩ fun z9p y9p => ?_
 obtain ⟨x6, hx6, hF⟩ := obind hF
 refine kcX EE_fr w8 (.cons (.s (.z)) (.cons .z .nil)) rfl (ot rfl) (ops_c rfl os0) hb_68 (s_bst_Tree_Keys_1 n _ w8 p0 p0o0 0 (⟨([] : List ByteArray)⟩ : O_string) ((y0.ext e7.kn).ext e8.kn) (g7_.ext e8.kn) g8_ y9p hx6) ?_
 rintro _ _ h6 e6 w6 ⟨z6_y0, z6_y1, rfl, rfl, f6_0, f6_1⟩
 simp only [ca_, na_]
 refine go_nil (go_seq (go_region (gs_front (.s (.z)) ?_)))
 obtain ⟨q10z_0, t10z_0, rfl, f10z0⟩ := f6_1
 refine gs_unz ?_
 simp only [ca_, na_]
 refine gls 0 ag_65 rfl rfl rfl rfl (gA rfl rfl (go_nil ?_))
 refine gs_accpub (.s (.z)) f10z0 (fun h11 e11 w11 f11_ => ?_) rfl
 obtain rfl := someI hF
 exact g_retO (rst rfl rs0) (.cons (.s (.z)) .nil) (e7.trans (e8.trans (e6.trans e11))) w11 (nd1 (f6_0.ext e11.kn).nd nd0) ⟨_, _, _, rfl, rfl, (f6_0.ext e11.kn), f11_⟩
end Go.Proofs.YtndhbaidibioeaaGreat.V
