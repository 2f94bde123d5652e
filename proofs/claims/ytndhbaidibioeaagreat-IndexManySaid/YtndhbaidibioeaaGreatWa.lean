/- Walks.
   No condition: these are laws of the clean machine and of this program. -/
import Derived.Test.YtndhbaidibioeaaGreatCQ
namespace Go.Proofs.YtndhbaidibioeaaGreat.V
open Go
set_option linter.unusedVariables false
set_option linter.unusedSimpArgs false
set_option maxRecDepth 100000
set_option maxHeartbeats 4000000
theorem s_bst_Tree_is {h : Heap} (hw : Wf h) (p0 : Obst_Tree) (p0o0 : Omem_Mem) (p1 : Int) (p2 : Tbst_node) {bp0 bp0_1 : Nat} {z0 : List Blk} (y0 : Zbst_Tree h bp0 bp0_1 z0 p0 p0o0) {r : Bool × Obst_Tree × Omem_Mem} (hF : F_bst_Tree_is p0 p0o0 p1 p2 = some r) :
 EvO EE 75 [pt bp0, .int .i64 p1, .agg #[.string p2.key, .int .i64 p2.top, .int .u64 p2.val, .int .i64 p2.cell]] [z0] h (fun v S h1 => ∃ zy0, v = .bool r.1 ∧ S = [zy0] ∧ Zbst_Tree h1 bp0 bp0_1 zy0 r.2.1 r.2.2) := by
 unfold F_bst_Tree_is at hF
 refine evo_of rfl at_75 rfl rfl ?_
 refine go_seq (go_region (gs_box rfl (ot rfl) rfl (fun b5_4 => gAc rfl rfl (go_nil (go_seq (go_region (gM rfl rfl (gN rfl rfl (gF (fa_131_1 _ _) rfl rfl (gs_front (.s (.z)) ?_))))))))))
 obtain ⟨q5z_1, t5z_1, q5z_2, t5z_2, z5z_0, rfl, f5z0, f5z1, f5z2⟩ := y0
 refine gs_unz ?_
 simp only [ca_, na_]
 refine gls 0 ag_128 rfl rfl rfl rfl (gM rfl rfl ?_)
 obtain ⟨x6, hx6, hF⟩ := obind hF
 obtain ⟨bb6, rw6, row6, hp6, ht6, hR6, hw6, rc6, hz6, hi6, hd6, hb6, hl6⟩ := AccR.at_ f5z0 hx6
 have hF6_ := hF
 subst hp6; subst ht6
 replace hF := hF6_
 obtain rfl := rc6
 refine gr rfl (r_ia (ot rfl) (ot rfl) (ia_acc (k := 4) ut_128 sz_127 hz6 hi6)) (gr rfl (r_load (ot rfl) (lm_a (vs := [.string x6.key, .int .i64 x6.top, .int .u64 x6.val, .int .i64 x6.cell]) (mem_seg 1 rfl) ag_127 sz_127 (Nat.ble_eq_true_of_le hb6) hd6)) (gs_alloc rfl zo_127 rfl (fun b7_7 => gs_store (ot rfl) (ot rfl) sz_127 rfl rfl rfl rfl rfl .z (go_nil (go_seq (go_region (gF (fa_127_1 _ _) rfl rfl (gls 0 ag_3 rfl rfl rfl rfl (gr rfl (r_bin (ot rfl) (oc rfl) rfl) (gM rfl rfl (grt rfl rfl rfl rfl (r_fa (ot rfl) (fa_127_0 _ _)) (grt rfl rfl rfl rfl (r_load (og rfl id) (lm_s (mem_seg 0 rfl) ag_9 rfl)) (grt rfl rfl rfl rfl (r_fa (ot rfl) (fa_127_0 _ _)) (grt rfl rfl rfl rfl (r_load (og rfl id) (lm_s (mem_seg 5 rfl) ag_9 rfl)) (grt rfl rfl rfl rfl (r_bin (og rfl id) (og rfl id) rfl) (gr rfl (r_pickb (ot rfl) (og rfl id) (oc rfl)) (gA rfl rfl (go_nil (gs_pack (fun s => Zbst_Tree h bp0 bp0_1 s p0 p0o0) (.cons (.s (.z)) (.cons (.s (.z)) (.cons (.s (.z)) (.cons (.s (.z)) .nil)))) ⟨_, _, _, _, _, rfl, f5z0, f5z1, f5z2⟩ fun z8p y8p => ?_)))))))))))))))))))
 obtain rfl := someI hF
 exact g_retO (rst rfl rs0) (.cons .z .nil) (HExt.refl _) hw (nd1 y8p.nd nd0) ⟨_, rfl, rfl, y8p⟩
theorem s_bst_Call_tell {rc : RC} (hrc : RCok rc) {h : Heap} (hw : Wf h) (p0 : Obst_Tree) (p0o0 : Omem_Mem) (p1 : Obst_Call) (p3 : Bool) (p4 : Int) {bp0 bp0_1 : Nat} {z0 : List Blk} {bp1 : Nat} {z1 : List Blk} (y0 : Zbst_Tree h bp0 bp0_1 z0 p0 p0o0) (y1 : Zbst_Call h bp1 z1 p1) {r : _} (hF : F_bst_Call_tell rc p0 p0o0 p1 p3 p4 = some r) :
 EvO EE 76 [pt bp1, .bool p3, .int .u64 p4] [z0, z1] h (fun v S h1 => ∃ zy0 zy1 vr tr, v = vr ∧ S = [zy0, zy1, tr] ∧ Zbst_Tree h1 bp0 bp0_1 zy0 r.2.1 r.2.2.1 ∧ Zbst_Call h1 bp1 zy1 r.2.2.2 ∧ OC h1 bp0 bp1 tr r.1 vr) := by
 unfold F_bst_Call_tell at hF
 refine evo_of rfl at_76 rfl rfl ?_
 refine go_seq (go_region (gAc rfl rfl (go_nil (go_seq (go_region (gM rfl rfl (gM rfl rfl (gM rfl rfl (gM rfl rfl (gN rfl rfl (gF (fa_146_0 _ _) rfl rfl (gF (fa_95_0 _ _) rfl rfl (gs_front (.s (.z)) ?_)))))))))))))
 obtain ⟨v6z_4, rfl⟩ := y1
 refine gs_unz ?_
 simp only [ca_, na_]
 refine gs_store (ot rfl) (ot rfl) sz_4 rfl rfl rfl rfl rfl .z (gN rfl rfl (gF (fa_146_0 _ _) rfl rfl (gF (fa_95_2 _ _) rfl rfl (gs_store (ot rfl) (ot rfl) sz_93 rfl rfl rfl rfl rfl .z (go_nil (go_seq (go_region (gAc rfl rfl (go_nil (gs_pack (fun s => Zbst_Call h bp1 s (⟨p3, p1.told_Key, p4, p1.told_Err⟩ : Obst_Call)) (.cons .z .nil) ⟨_, rfl⟩ fun z7p y7p => ?_))))))))))
 obtain rfl := someI hF
 exact g_retO (rst rfl rs0) (.cons (.s (.z)) (.cons .z (.emp .nil))) (HExt.refl _) hw (nd1 y0.nd (nd1 y7p.nd (nde nd0))) ⟨_, _, _, _, rfl, rfl, y0, y7p, OC.none⟩
theorem s_bst_Tree_Find_1_1 {rc : RC} (hrc : RCok rc) {h : Heap} (hw : Wf h) (p0 : Obst_Tree) (p0o0 : Omem_Mem) (p1 : Obst_Call) (p2 : Tbst_seen) (p4 : Tbst_node) {bp0 bp0_1 : Nat} {z0 : List Blk} {bp1 : Nat} {z1 : List Blk} {b3 : Nat} {b4 : Nat} {b5 : Nat} (y0 : Zbst_Tree h bp0 bp0_1 z0 p0 p0o0) (y1 : Zbst_Call h bp1 z1 p1) (g3 : BK h b3 [pt bp0] 61) (g4 : BK h b4 [.string p4.key, .int .i64 p4.top, .int .u64 p4.val, .int .i64 p4.cell] 127) (g5 : BK h b5 [pt bp1] 85) {r : _} (hF : F_bst_Tree_Find_1_1 rc p0 p0o0 p1 p2 p4 = some r) :
 EvO EE 74 [.agg #[.int .i64 p2.grand, .int .i64 p2.parent, .int .i64 p2.leaf, .int .u64 p2.grandWord, .int .u64 p2.parentWord, .int .i64 p2.turn], pt b3, pt b4, pt b5] [z0, z1] h (fun v S h1 => ∃ zy0 zy1 vr tr, v = vr ∧ S = [zy0, zy1, tr] ∧ Zbst_Tree h1 bp0 bp0_1 zy0 r.2.1 r.2.2.1 ∧ Zbst_Call h1 bp1 zy1 r.2.2.2 ∧ OC h1 bp0 bp1 tr r.1 vr) := by
 unfold F_bst_Tree_Find_1_1 at hF
 refine evo_of rfl at_74 rfl rfl ?_
 refine go_seq (go_region (gs_box rfl (ot rfl) rfl (fun b4_7 => gAc rfl rfl (go_nil (go_seq (go_seq (go_region (glc ag_61 g3 rfl rfl rfl (gF (fa_138_2 _ _) rfl rfl (gls 0 ag_3 rfl rfl rfl rfl (glb ag_127 sz_127 g4 rfl rfl rfl ?_)))))))))))
 obtain ⟨x8, hx8, hF⟩ := obind hF
 refine kcX EE_fr hw (.cons (.s (.z)) .nil) rfl of (ops_t rfl (ops_t rfl (ops_t rfl os0))) hb_75 (s_bst_Tree_is hw p0 p0o0 p2.leaf p4 y0 hx8) ?_
 rintro _ _ h8 e8 w8 ⟨z8_y0, rfl, rfl, f8_0⟩
 simp only [ca_, na_]
 refine gr rfl (r_un (ot rfl) rfl) (go_nil ?_)
 refine g_cond (b := (!x8.1)) (ot rfl) (fun hc9 => ?_) (fun hc9 => ?_)
 ·
  replace hF := ifT hc9 hF
  refine go_seq (go_region (glc ag_85 (g5.ext e8.kn) rfl rfl rfl ?_))
  obtain ⟨x10, hx10, hF⟩ := obind hF
  refine kcX EE_fr w8 (.cons .z (.cons (.s (.z)) .nil)) rfl of (ops_t rfl (ops_c rfl (ops_c rfl os0))) hb_76 (s_bst_Call_tell hrc w8 x8.2.1 x8.2.2 p1 false 0 f8_0 (y1.ext e8.kn) hx10) ?_
  rintro _ _ h10 e10 w10 ⟨z10_y0, z10_y1, v10_r, t10_r, rfl, rfl, f10_0, f10_1, f10_2⟩
  simp only [ca_, na_]
  refine gA rfl rfl (go_nil ?_)
  obtain rfl := someI hF
  exact g_retO (rst rfl rs0) (.cons .z (.cons .z (.cons .z .nil))) (e8.trans e10) w10 (nd1 f10_0.nd (nd1 f10_1.nd (ndc f10_2 nd0))) ⟨_, _, _, _, rfl, rfl, f10_0, f10_1, f10_2⟩
 ·
  replace hF := ifF hc9 hF
  refine go_skip (go_seq (go_regions (L := sq 0 12) (by kernel_rfl) (by kernel_rfl) (fun _ => rfl) (go_sop rfl rfl (glc ag_85 (g5.ext e8.kn) rfl rfl rfl (go_nil (go_sop rfl rfl (glc ag_61 (g3.ext e8.kn) rfl rfl rfl (go_nil (go_sop rfl rfl (gN rfl rfl (go_nil (go_sop rfl rfl (gF (fa_131_1 _ _) rfl rfl (go_nil (go_sop rfl rfl ?_)))))))))))))))
  obtain ⟨q11z_1, t11z_1, q11z_2, t11z_2, z11z_0, rfl, f11z0, f11z1, f11z2⟩ := f8_0
  refine gs_unz ?_
  simp only [ca_, na_]
  refine gls 0 ag_128 rfl rfl rfl rfl (go_nil (go_sop rfl rfl (gF (fa_138_2 _ _) rfl rfl (go_nil (go_sop rfl rfl (gls 4 ag_3 rfl rfl rfl rfl (go_nil (go_sop rfl rfl ?_))))))))
  obtain ⟨x12, hx12, hF⟩ := obind hF
  obtain ⟨bb12, rw12, row12, hp12, ht12, hR12, hw12, rc12, hz12, hi12, hd12, hb12, hl12⟩ := AccR.at_ f11z0 hx12
  have hF12_ := hF
  subst hp12; subst ht12
  replace hF := hF12_
  obtain rfl := rc12
  refine gr rfl (r_ia (ot rfl) (ot rfl) (ia_acc (k := 4) ut_128 sz_127 hz12 hi12)) (go_nil (go_sop rfl rfl (gF (fa_127_2 _ _) rfl rfl (go_nil (go_sop rfl rfl (gr rfl (r_load (ot rfl) (lm_s (mem_seg 1 rfl) ag_93 (acc_cell (j := 2) hd12 rfl))) (go_nil (go_sop rfl rfl (gs_pack (fun s => Zbst_Tree h8 bp0 bp0_1 s x8.2.1 x8.2.2) (.cons .z (.cons .z (.cons .z (.cons .z .nil)))) ⟨_, _, _, _, _, rfl, f11z0, f11z1, f11z2⟩ fun z14p y14p => ?_)))))))))
  obtain ⟨x13, hx13, hF⟩ := obind hF
  refine kcX EE_fr w8 (.cons .z (.cons (.s (.z)) .nil)) rfl of (ops_t rfl (ops_c rfl (ops_t rfl os0))) hb_76 (s_bst_Call_tell hrc w8 x8.2.1 x8.2.2 p1 true x12.val y14p (y1.ext e8.kn) hx13) ?_
  rintro _ _ h13 e13 w13 ⟨z13_y0, z13_y1, v13_r, t13_r, rfl, rfl, f13_0, f13_1, f13_2⟩
  simp only [ca_, na_]
  refine go_nil (go_sop rfl rfl (gA rfl rfl (go_nil (go_snil ?_))))
  obtain rfl := someI hF
  exact g_retO (rst rfl rs0) (.cons .z (.cons .z (.cons .z .nil))) (e8.trans e13) w13 (nd1 f13_0.nd (nd1 f13_1.nd (ndc f13_2 nd0))) ⟨_, _, _, _, rfl, rfl, f13_0, f13_1, f13_2⟩
theorem s_bst_node_less {h : Heap} (hw : Wf h) (p0 : Tbst_node) (p1 : Tbst_node)   {r : Bool} (hF : F_bst_node_less p0 p1 = some r) :
 Ev EE 111 [.agg #[.string p0.key, .int .i64 p0.top, .int .u64 p0.val, .int .i64 p0.cell], .agg #[.string p1.key, .int .i64 p1.top, .int .u64 p1.val, .int .i64 p1.cell]] h (fun v _ => v = .bool r) := by
 unfold F_bst_node_less at hF
 refine ev_of hw rfl at_111 rfl rfl (go_seg0 ?_)
 refine go_seq (go_region (gs_box rfl (ot rfl) rfl (fun b2_3 => gs_box rfl (ot rfl) rfl (fun b3_4 => gAc rfl rfl (go_nil (go_seq (go_seq (go_region (gF (fa_127_1 _ _) rfl rfl (gls 1 ag_3 rfl rfl rfl rfl (gF (fa_127_1 _ _) rfl rfl (gls 0 ag_3 rfl rfl rfl rfl (gr rfl (r_bin (ot rfl) (ot rfl) rfl) (go_nil ?_))))))))))))))
 refine g_cond (b := (p0.top != p1.top)) (ot rfl) (fun hc5 => ?_) (fun hc5 => ?_)
 ·
  replace hF := ifT hc5 hF
  refine go_seq (go_region (gF (fa_127_1 _ _) rfl rfl (gls 1 ag_3 rfl rfl rfl rfl (gF (fa_127_1 _ _) rfl rfl (gls 0 ag_3 rfl rfl rfl rfl (gr rfl (r_bin (ot rfl) (ot rfl) rfl) (gA rfl rfl (go_nil ?_))))))))
  obtain rfl := someI hF
  exact g_ret (rst rfl rs0) (fun h1 hf hs => ⟨hs.hext, rfl⟩)
 ·
  replace hF := ifF hc5 hF
  refine go_skip (go_seq (go_region (gF (fa_127_0 _ _) rfl rfl (gls 1 ag_9 rfl rfl rfl rfl (gF (fa_127_0 _ _) rfl rfl (gls 0 ag_9 rfl rfl rfl rfl (gr rfl (r_bin (ot rfl) (ot rfl) rfl) (gA rfl rfl (go_nil ?_)))))))))
  obtain rfl := someI hF
  exact g_ret (rst rfl rs0) (fun h1 hf hs => ⟨hs.hext, rfl⟩)
theorem s_bst_Call_found {rc : RC} (hrc : RCok rc) {h : Heap} (hw : Wf h) (p0 : Obst_Tree) (p0o0 : Omem_Mem) (p1 : Obst_Call) (p3 : Tbst_node) {bp0 bp0_1 : Nat} {z0 : List Blk} {bp1 : Nat} {z1 : List Blk} (y0 : Zbst_Tree h bp0 bp0_1 z0 p0 p0o0) (y1 : Zbst_Call h bp1 z1 p1) {r : _} (hF : F_bst_Call_found rc p0 p0o0 p1 p3 = some r) :
 EvO EE 112 [pt bp1, .agg #[.string p3.key, .int .i64 p3.top, .int .u64 p3.val, .int .i64 p3.cell]] [z0, z1] h (fun v S h1 => ∃ zy0 zy1 vr tr, v = vr ∧ S = [zy0, zy1, tr] ∧ Zbst_Tree h1 bp0 bp0_1 zy0 r.2.1 r.2.2.1 ∧ Zbst_Call h1 bp1 zy1 r.2.2.2 ∧ OC h1 bp0 bp1 tr r.1 vr) := by
 unfold F_bst_Call_found at hF
 refine evo_of rfl at_112 rfl rfl ?_
 refine go_seq (go_region (gs_box rfl (ot rfl) rfl (fun b3_5 => gAc rfl rfl (go_nil (go_seq (go_region (gM rfl rfl (gF (fa_127_0 _ _) rfl rfl (gls 0 ag_9 rfl rfl rfl rfl (gN rfl rfl (gF (fa_146_0 _ _) rfl rfl (gF (fa_95_1 _ _) rfl rfl (gs_front (.s (.s (.z))) ?_)))))))))))))
 obtain ⟨v6z_4, rfl⟩ := y1
 refine gs_unz ?_
 simp only [ca_, na_]
 refine gs_store (ot rfl) (ot rfl) sz_9 rfl rfl rfl rfl rfl .z (go_nil (go_seq (go_region (gM rfl rfl (gF (fa_127_2 _ _) rfl rfl (gls 1 ag_93 rfl rfl rfl rfl (gs_pack (fun s => Zbst_Call h bp1 s (⟨p1.told_Ok, p3.key, p1.told_Val, p1.told_Err⟩ : Obst_Call)) (.cons .z .nil) ⟨_, rfl⟩ fun z8p y8p => ?_)))))))
 obtain ⟨x7, hx7, hF⟩ := obind hF
 refine kcX EE_fr hw (.cons (.s (.s (.z))) (.cons .z .nil)) rfl of (ops_t rfl (ops_c rfl (ops_t rfl os0))) hb_76 (s_bst_Call_tell hrc hw p0 p0o0 (⟨p1.told_Ok, p3.key, p1.told_Val, p1.told_Err⟩ : Obst_Call) true p3.val y0 y8p hx7) ?_
 rintro _ _ h7 e7 w7 ⟨z7_y0, z7_y1, v7_r, t7_r, rfl, rfl, f7_0, f7_1, f7_2⟩
 simp only [ca_, na_]
 refine gA rfl rfl (go_nil ?_)
 obtain rfl := someI hF
 exact g_retO (rst rfl rs0) (.cons .z (.cons .z (.cons .z .nil))) e7 w7 (nd1 f7_0.nd (nd1 f7_1.nd (ndc f7_2 nd0))) ⟨_, _, _, _, rfl, rfl, f7_0, f7_1, f7_2⟩
theorem s_bst_Tree_cell {h : Heap} (hw : Wf h) (p0 : Obst_Tree) (p0o0 : Omem_Mem) (p1 : Int) (p2 : Int) {bp0 bp0_1 : Nat} {z0 : List Blk} (y0 : Zbst_Tree h bp0 bp0_1 z0 p0 p0o0) {r : Int × Obst_Tree × Omem_Mem} (hF : F_bst_Tree_cell p0 p0o0 p1 p2 = some r) :
 EvO EE 114 [pt bp0, .int .i64 p1, .int .i64 p2] [z0] h (fun v S h1 => ∃ zy0, v = .int .i64 r.1 ∧ S = [zy0] ∧ Zbst_Tree h1 bp0 bp0_1 zy0 r.2.1 r.2.2) := by
 unfold F_bst_Tree_cell at hF
 refine evo_of rfl at_114 rfl rfl ?_
 refine go_seq (go_region (gAc rfl rfl (go_nil (go_seq (go_region (gM rfl rfl (gN rfl rfl (gF (fa_131_1 _ _) rfl rfl ?_))))))))
 obtain ⟨q4z_1, t4z_1, q4z_2, t4z_2, z4z_0, rfl, f4z0, f4z1, f4z2⟩ := y0
 refine gs_unz ?_
 simp only [ca_, na_]
 refine gls 0 ag_128 rfl rfl rfl rfl (gM rfl rfl ?_)
 obtain ⟨x5, hx5, hF⟩ := obind hF
 obtain ⟨bb5, rw5, row5, hp5, ht5, hR5, hw5, rc5, hz5, hi5, hd5, hb5, hl5⟩ := AccR.at_ f4z0 hx5
 have hF5_ := hF
 subst hp5; subst ht5
 replace hF := hF5_
 obtain rfl := rc5
 refine gr rfl (r_ia (ot rfl) (ot rfl) (ia_acc (k := 4) ut_128 sz_127 hz5 hi5)) (gF (fa_127_3 _ _) rfl rfl (gr rfl (r_load (ot rfl) (lm_s (mem_seg 1 rfl) ag_3 (acc_cell (j := 3) hd5 rfl))) (gM rfl rfl (gr rfl (r_bin (ot rfl) (ot rfl) rfl) (gA rfl rfl (go_nil (gs_pack (fun s => Zbst_Tree h bp0 bp0_1 s p0 p0o0) (.cons .z (.cons .z (.cons .z (.cons .z .nil)))) ⟨_, _, _, _, _, rfl, f4z0, f4z1, f4z2⟩ fun z6p y6p => ?_)))))))
 obtain rfl := someI hF
 exact g_retO (rst rfl rs0) (.cons .z .nil) (HExt.refl _) hw (nd1 y6p.nd nd0) ⟨_, rfl, rfl, y6p⟩
theorem s_bst_Tree_least {rc : RC} (hrc : RCok rc) {h : Heap} (hw : Wf h) (p0 : Obst_Tree) (p0o0 : Omem_Mem) (p1 : Obst_Call) (p4 : Int) {bp0 bp0_1 : Nat} {z0 : List Blk} {bp1 : Nat} {z1 : List Blk} (y0 : Zbst_Tree h bp0 bp0_1 z0 p0 p0o0) (y1 : Zbst_Call h bp1 z1 p1) {r : _} (hF : F_bst_Tree_least rc p0 p0o0 p1 p4 = some r) :
 EvO EE 113 [pt bp0, pt bp1, .int .i64 p4] [z0, z1] h (fun v S h1 => ∃ zy0 zy1 vr tr, v = vr ∧ S = [zy0, zy1, tr] ∧ Zbst_Tree h1 bp0 bp0_1 zy0 r.2.1 r.2.2.1 ∧ Zbst_Call h1 bp1 zy1 r.2.2.2 ∧ OC h1 bp0 bp1 tr r.1 vr) := by
 unfold F_bst_Tree_least at hF
 refine evo_of rfl at_113 rfl rfl ?_
 refine go_seq (go_region (gs_box rfl (ot rfl) rfl (fun b3_6 => gs_box rfl (ot rfl) rfl (fun b4_7 => gs_box rfl (ot rfl) rfl (fun b5_8 => gAc rfl rfl (go_nil (go_seq (go_region (gr rfl (r_func os0 (os1 (ot rfl) (os1 (ot rfl) (os1 (ot rfl) os0)))) (gA rfl rfl (go_nil (gs_pub (.s (.s (.z))) (fun h9 e9 w9 hb9 => ?_)))))))))))))
 have g9_ : BK h9 b3_6 [pt bp0] 61 := hb9
 refine gs_pub .z (fun h10 e10 w10 hb10 => ?_)
 have g10_ : BK h10 b5_8 [.int .i64 p4] 3 := hb10
 refine gs_pub .z (fun h11 e11 w11 hb11 => ?_)
 have g11_ : BK h11 b4_7 [pt bp1] 85 := hb11
 have co12 : CO h11 bp0 bp1 [] (Clo.c_least_1 p4) (.func (.func 136) #[] #[pt b3_6, pt b5_8, pt b4_7]) := CO.c_least_1 ((g9_.ext e10.kn).ext e11.kn) (g10_.ext e11.kn) g11_
 obtain rfl := someI hF
 exact g_retO (rst rfl rs0) (.cons .z (.cons .z (.emp .nil))) (e9.trans (e10.trans e11)) w11 (nd1 (((y0.ext e9.kn).ext e10.kn).ext e11.kn).nd (nd1 (((y1.ext e9.kn).ext e10.kn).ext e11.kn).nd (nde nd0))) ⟨_, _, _, _, rfl, rfl, (((y0.ext e9.kn).ext e10.kn).ext e11.kn), (((y1.ext e9.kn).ext e10.kn).ext e11.kn), (OC.some co12)⟩
theorem s_bst_Tree_Seek_1_1 {rc : RC} (hrc : RCok rc) {h : Heap} (hw : Wf h) (p0 : Obst_Tree) (p0o0 : Omem_Mem) (p1 : Obst_Call) (p2 : Tbst_seen) (p4 : Tbst_node) {bp0 bp0_1 : Nat} {z0 : List Blk} {bp1 : Nat} {z1 : List Blk} {b3 : Nat} {b4 : Nat} {b5 : Nat} (y0 : Zbst_Tree h bp0 bp0_1 z0 p0 p0o0) (y1 : Zbst_Call h bp1 z1 p1) (g3 : BK h b3 [pt bp0] 61) (g4 : BK h b4 [.string p4.key, .int .i64 p4.top, .int .u64 p4.val, .int .i64 p4.cell] 127) (g5 : BK h b5 [pt bp1] 85) {r : _} (hF : F_bst_Tree_Seek_1_1 rc p0 p0o0 p1 p2 p4 = some r) :
 EvO EE 110 [.agg #[.int .i64 p2.grand, .int .i64 p2.parent, .int .i64 p2.leaf, .int .u64 p2.grandWord, .int .u64 p2.parentWord, .int .i64 p2.turn], pt b3, pt b4, pt b5] [z0, z1] h (fun v S h1 => ∃ zy0 zy1 vr tr, v = vr ∧ S = [zy0, zy1, tr] ∧ Zbst_Tree h1 bp0 bp0_1 zy0 r.2.1 r.2.2.1 ∧ Zbst_Call h1 bp1 zy1 r.2.2.2 ∧ OC h1 bp0 bp1 tr r.1 vr) := by
 unfold F_bst_Tree_Seek_1_1 at hF
 refine evo_of rfl at_110 rfl rfl ?_
 refine go_seq (go_region (gs_box rfl (ot rfl) rfl (fun b4_7 => gAc rfl rfl (go_nil (go_seq (go_seq (go_regA1 (L := sq 0 10) (by kernel_rfl) (by kernel_rfl) (fun _ => rfl) (fun b6_8 => go_sop rfl rfl (glc ag_61 g3 rfl rfl rfl (go_nil (go_sop rfl rfl (gN rfl rfl (go_nil (go_sop rfl rfl (gF (fa_131_1 _ _) rfl rfl (go_nil (go_sop rfl rfl (gs_front (.s (.s (.z))) ?_))))))))))))))))))
 obtain ⟨q9z_1, t9z_1, q9z_2, t9z_2, z9z_0, rfl, f9z0, f9z1, f9z2⟩ := y0
 refine gs_unz ?_
 simp only [ca_, na_]
 refine gls 0 ag_128 rfl rfl rfl rfl (go_nil (go_sop rfl rfl (gF (fa_138_2 _ _) rfl rfl (go_nil (go_sop rfl rfl (gls 5 ag_3 rfl rfl rfl rfl (go_nil (go_sop rfl rfl ?_))))))))
 obtain ⟨x10, hx10, hF⟩ := obind hF
 obtain ⟨bb10, rw10, row10, hp10, ht10, hR10, hw10, rc10, hz10, hi10, hd10, hb10, hl10⟩ := AccR.at_ f9z0 hx10
 have hF10_ := hF
 subst hp10; subst ht10
 replace hF := hF10_
 obtain rfl := rc10
 refine gr rfl (r_ia (ot rfl) (ot rfl) (ia_acc (k := 4) ut_128 sz_127 hz10 hi10)) (go_nil (go_sop rfl rfl (gr rfl (r_load (ot rfl) (lm_a (vs := [.string x10.key, .int .i64 x10.top, .int .u64 x10.val, .int .i64 x10.cell]) (mem_seg 1 rfl) ag_127 sz_127 (Nat.ble_eq_true_of_le hb10) hd10)) (go_nil (go_salloc rfl rfl rfl zo_127 rfl (.s (.s (.s (.s (.z))))) (go_sop rfl rfl (gs_store (ot rfl) (ot rfl) sz_127 rfl rfl rfl rfl rfl (.s (.s (.s (.s (.z))))) (go_nil (go_snil (go_seq (go_region (gF (fa_127_1 _ _) rfl rfl (gls 4 ag_3 rfl rfl rfl rfl (gr rfl (r_bin (ot rfl) (oc rfl) rfl) (gM rfl rfl ?_)))))))))))))))
 obtain ⟨s12, hF, hK12⟩ := obind hF
 refine go_joinr 5 (β := Unit) (fun s h' => True) (fun s => [(1, true, pt b3), (3, true, pt b5), (4, true, pt b4_7), (5, true, .nilFunc), (6, true, pt b6_8), (23, true, .bool s12)]) (fun s => (List.flatten [[⟨bp0, .cells [pt bp0_1, .slice (some ⟨bb10, 0, some 0⟩) p0.nodes.length p0.nodes.length, .slice q9z_2 p0.infos.length p0.infos.length] 131⟩], [⟨bb10, .cells rw10.flatten 127⟩], t9z_2, z9z_0, [⟨b6_8, .cells [.string x10.key, .int .i64 x10.top, .int .u64 x10.val, .int .i64 x10.cell] 127⟩], [⟨b4_7, .cells [.int .i64 p2.grand, .int .i64 p2.parent, .int .i64 p2.leaf, .int .u64 p2.grandWord, .int .u64 p2.parentWord, .int .i64 p2.turn] 138⟩], z1] : List Blk)) ?_ (fun J12 => ?_)
 ·
  rintro _ h12 e12 w12 _
  replace hF := hK12
  refine go_nil ?_
  refine g_cond (b := s12) (ot rfl) (fun hc13 => ?_) (fun hc13 => ?_)
  ·
   replace hF := ifT hc13 hF
   refine go_seq (go_region (glc ag_85 (g5.ext e12.kn) rfl rfl rfl (glw 4 ag_127 sz_127 rfl rfl rfl rfl (gs_pack (fun s => Zbst_Tree h12 bp0 bp0_1 s p0 p0o0) (.cons .z (.cons .z (.cons .z (.cons .z .nil)))) ⟨_, _, _, _, _, rfl, (f9z0.ext e12.kn), (f9z1.ext e12.kn), (f9z2.ext e12.kn)⟩ fun z15p y15p => ?_))))
   obtain ⟨x14, hx14, hF⟩ := obind hF
   refine kcX EE_fr w12 (.cons .z (.cons (.s (.s (.z))) .nil)) rfl of (ops_t rfl (ops_t rfl os0)) hb_112 (s_bst_Call_found hrc w12 p0 p0o0 p1 x10 y15p (y1.ext e12.kn) hx14) ?_
   rintro _ _ h14 e14 w14 ⟨z14_y0, z14_y1, v14_r, t14_r, rfl, rfl, f14_0, f14_1, f14_2⟩
   simp only [ca_, na_]
   refine gA rfl rfl (go_nil ?_)
   obtain rfl := someI hF
   exact g_retO (rst rfl rs0) (.cons .z (.cons .z (.cons .z .nil))) (e12.trans e14) w14 (nd1 f14_0.nd (nd1 f14_1.nd (ndc f14_2 nd0))) ⟨_, _, _, _, rfl, rfl, f14_0, f14_1, f14_2⟩
  ·
   replace hF := ifF hc13 hF
   refine go_skip (go_seq (go_seq (go_region (gF (fa_138_5 _ _) rfl rfl (gls 5 ag_3 rfl rfl rfl rfl (gr rfl (r_bin (ot rfl) (oc rfl) rfl) (go_nil ?_)))))))
   refine g_cond (b := (decide (p2.turn < 0))) (ot rfl) (fun hc16 => ?_) (fun hc16 => ?_)
   ·
    replace hF := ifT hc16 hF
    refine go_seq (go_region (glc ag_85 (g5.ext e12.kn) rfl rfl rfl (gs_pack (fun s => Zbst_Tree h12 bp0 bp0_1 s p0 p0o0) (.cons .z (.cons .z (.cons .z (.cons .z .nil)))) ⟨_, _, _, _, _, rfl, (f9z0.ext e12.kn), (f9z1.ext e12.kn), (f9z2.ext e12.kn)⟩ fun z18p y18p => ?_)))
    obtain ⟨x17, hx17, hF⟩ := obind hF
    refine kcX EE_fr w12 (.cons .z (.cons (.s (.s (.z))) .nil)) rfl of (ops_t rfl (ops_c rfl (ops_c rfl os0))) hb_76 (s_bst_Call_tell hrc w12 p0 p0o0 p1 false 0 y18p (y1.ext e12.kn) hx17) ?_
    rintro _ _ h17 e17 w17 ⟨z17_y0, z17_y1, v17_r, t17_r, rfl, rfl, f17_0, f17_1, f17_2⟩
    simp only [ca_, na_]
    refine gA rfl rfl (go_nil ?_)
    obtain rfl := someI hF
    exact g_retO (rst rfl rs0) (.cons .z (.cons .z (.cons .z .nil))) (e12.trans e17) w17 (nd1 f17_0.nd (nd1 f17_1.nd (ndc f17_2 nd0))) ⟨_, _, _, _, rfl, rfl, f17_0, f17_1, f17_2⟩
   ·
    replace hF := ifF hc16 hF
    refine go_skip (go_seq (go_regions (L := sq 0 5 ++ [(5, [0, 1]), (6, []), (7, [])]) (by kernel_rfl) (by kernel_rfl) (fun _ => rfl) (go_sop rfl rfl (glc ag_61 (g3.ext e12.kn) rfl rfl rfl (go_nil (go_sop rfl rfl (glc ag_85 (g5.ext e12.kn) rfl rfl rfl (go_nil (go_sop rfl rfl (glc ag_61 (g3.ext e12.kn) rfl rfl rfl (go_nil (go_sop rfl rfl (gF (fa_138_5 _ _) rfl rfl (go_nil (go_sop rfl rfl (gls 5 ag_3 rfl rfl rfl rfl (go_nil (go_sopc [(0, pt bp0), (1, pt bp1)] rfl rfl rfl (rc1 rfl (r_load (ot rfl) (v := pt bp0) (lo_e (fun hf kn => ld_cell ag_61 ((g3.ext e12.kn).ext kn) rfl))) (rc1 rfl (r_load (ot rfl) (v := pt bp1) (lo_e (fun hf kn => ld_cell ag_85 ((g5.ext e12.kn).ext kn) rfl))) rc0)) (vq1 (veq_ptr _ _) (vq1 (veq_ptr _ _) vq0)) rfl (gs_pack (fun s => Zbst_Tree h12 bp0 bp0_1 s p0 p0o0) (.cons .z (.cons .z (.cons .z (.cons .z .nil)))) ⟨_, _, _, _, _, rfl, (f9z0.ext e12.kn), (f9z1.ext e12.kn), (f9z2.ext e12.kn)⟩ fun z20p y20p => ?_)))))))))))))))))))
    obtain ⟨x19, hx19, hF⟩ := obind hF
    refine kcX EE_fr w12 (.cons .z .nil) rfl of (ops_t rfl (ops_t rfl (ops_c rfl os0))) hb_114 (s_bst_Tree_cell w12 p0 p0o0 p2.turn 2 y20p hx19) ?_
    rintro _ _ h19 e19 w19 ⟨z19_y0, rfl, rfl, f19_0⟩
    simp only [ca_, na_]
    refine go_nil (go_rck (rcc ag_61 ((g3.ext e12.kn).ext e19.kn) rfl rfl rfl (rcc ag_85 ((g5.ext e12.kn).ext e19.kn) rfl rfl rfl rc0)) (go_sop rfl rfl ?_))
    obtain ⟨x21, hx21, hF⟩ := obind hF
    refine kcX EE_fr w19 (.cons .z (.cons (.s (.s (.z))) .nil)) rfl of (ops_t rfl (ops_t rfl (ops_t rfl os0))) hb_113 (s_bst_Tree_least hrc w19 x19.2.1 x19.2.2 p1 x19.1 f19_0 ((y1.ext e12.kn).ext e19.kn) hx21) ?_
    rintro _ _ h21 e21 w21 ⟨z21_y0, z21_y1, v21_r, t21_r, rfl, rfl, f21_0, f21_1, f21_2⟩
    simp only [ca_, na_]
    refine go_nil (go_sop rfl rfl (gA rfl rfl (go_nil (go_snil ?_))))
    obtain rfl := someI hF
    exact g_retO (rst rfl rs0) (.cons .z (.cons .z (.cons .z .nil))) (e12.trans (e19.trans e21)) w21 (nd1 f21_0.nd (nd1 f21_1.nd (ndc f21_2 nd0))) ⟨_, _, _, _, rfl, rfl, f21_0, f21_1, f21_2⟩
 ·
  rcases Bool.eq_false_or_eq_true (x10.top == 0) with hb11 | hb11
  ·
   replace hF := ifT hb11 hF
   refine go_re 18 (v2 := .bool true) rfl (congrArg Value.bool hb11) (g_do rfl rfl rfl (glw 4 ag_127 sz_127 rfl rfl rfl rfl (g_do rfl rfl rfl (glb ag_127 sz_127 g4 rfl rfl rfl (g_do rfl rfl rfl ?_)))))
   obtain ⟨x22, hx22, hF⟩ := obind hF
   refine g_callp (v := .bool x22) EE_fr rfl of (os1 (ot rfl) (os1 (ot rfl) os0)) hb_111 (fun _ => rfl) (fun hf kn w => by exact s_bst_node_less w x10 p4  hx22) (g_do rfl rfl rfl (gr rfl (r_un (ot rfl) rfl) (gr rfl (r_pkT (ot rfl) (ot rfl)) ?_)))
   obtain rfl := someI hF
   exact Goes.weak (J12 () _ (HExt.refl _) hw trivial) (Sub.cons (Sub.cons (Sub.cons (Sub.cons (Sub.cons (Sub.cons (Sub.nil _) rfl) rfl) rfl) rfl) rfl) rfl)
  ·
   replace hF := ifF hb11 hF
   refine go_re 18 (v2 := .bool false) rfl (congrArg Value.bool hb11) (g_no rfl rfl rfl rfl rfl (g_no rfl rfl rfl rfl rfl (g_no rfl rfl rfl rfl rfl (g_no rfl rfl rfl rfl rfl (gr rfl (r_pkF (ot rfl) (oc rfl)) ?_)))))
   obtain rfl := someI hF
   exact Goes.weak (J12 () _ (HExt.refl _) hw trivial) (Sub.cons (Sub.cons (Sub.cons (Sub.cons (Sub.cons (Sub.cons (Sub.nil _) rfl) rfl) rfl) rfl) rfl) rfl)
theorem s_bst_node_leaf {h : Heap} (hw : Wf h) (p0 : Tbst_node)   {r : Bool} (hF : F_bst_node_leaf p0 = some r) :
 Ev EE 69 [.agg #[.string p0.key, .int .i64 p0.top, .int .u64 p0.val, .int .i64 p0.cell]] h (fun v _ => v = .bool r) := by
 unfold F_bst_node_leaf at hF
 refine ev_of hw rfl at_69 rfl rfl (go_seg0 ?_)
 refine go_seq (go_region (gs_box rfl (ot rfl) rfl (fun b1_2 => gAc rfl rfl (go_nil (go_seq (go_region (gF (fa_127_3 _ _) rfl rfl (gls 0 ag_3 rfl rfl rfl rfl (gr rfl (r_bin (ot rfl) (oc rfl) rfl) (gA rfl rfl (go_nil ?_)))))))))))
 obtain rfl := someI hF
 exact g_ret (rst rfl rs0) (fun h1 hf hs => ⟨hs.hext, rfl⟩)
theorem s_bst_Tree_down {rc : RC} (hrc : RCok rc) {h : Heap} (hw : Wf h) (p0 : Obst_Tree) (p0o0 : Omem_Mem) (p1 : Obst_Call) (p3 : Tbst_seen) (p4 : Tbst_node) (p5 : Clo) {bp0 bp0_1 : Nat} {z0 : List Blk} {bp1 : Nat} {z1 : List Blk} {v5 : Value} (y0 : Zbst_Tree h bp0 bp0_1 z0 p0 p0o0) (y1 : Zbst_Call h bp1 z1 p1) (c5 : CO h bp0 bp1 [] p5 v5) {r : _} (hF : F_bst_Tree_down rc p0 p0o0 p1 p3 p4 p5 = some r) :
 EvO EE 106 [pt bp0, .agg #[.int .i64 p3.grand, .int .i64 p3.parent, .int .i64 p3.leaf, .int .u64 p3.grandWord, .int .u64 p3.parentWord, .int .i64 p3.turn], .agg #[.string p4.key, .int .i64 p4.top, .int .u64 p4.val, .int .i64 p4.cell], v5] [z0, z1] h (fun v S h1 => ∃ zy0 zy1 vr tr, v = vr ∧ S = [zy0, zy1, tr] ∧ Zbst_Tree h1 bp0 bp0_1 zy0 r.2.1 r.2.2.1 ∧ Zbst_Call h1 bp1 zy1 r.2.2.2 ∧ OC h1 bp0 bp1 tr r.1 vr) := by
 unfold F_bst_Tree_down at hF
 refine evo_of rfl at_106 rfl rfl ?_
 refine go_seq (go_region (gs_box rfl (ot rfl) rfl (fun b4_7 => gs_box rfl (ot rfl) rfl (fun b5_8 => gs_box rfl (ot rfl) rfl (fun b6_9 => gs_box rfl (ot rfl) (CO.one c5) (fun b7_10 => gAc rfl rfl (go_nil (go_seq (go_seq (go_regions (L := sq 0 9) (by kernel_rfl) (by kernel_rfl) (fun _ => rfl) (go_sop rfl rfl (gls 3 ag_61 rfl rfl rfl rfl (go_nil (go_sop rfl rfl (gN rfl rfl (go_nil (go_sop rfl rfl (gF (fa_131_1 _ _) rfl rfl (go_nil (go_sop rfl rfl (gs_front (.s (.s (.s (.s (.z))))) ?_)))))))))))))))))))))
 obtain ⟨q11z_1, t11z_1, q11z_2, t11z_2, z11z_0, rfl, f11z0, f11z1, f11z2⟩ := y0
 refine gs_unz ?_
 simp only [ca_, na_]
 refine gls 0 ag_128 rfl rfl rfl rfl (go_nil (go_sop rfl rfl (gF (fa_138_2 _ _) rfl rfl (go_nil (go_sop rfl rfl (gls 6 ag_3 rfl rfl rfl rfl (go_nil (go_sop rfl rfl ?_))))))))
 obtain ⟨x12, hx12, hF⟩ := obind hF
 obtain ⟨bb12, rw12, row12, hp12, ht12, hR12, hw12, rc12, hz12, hi12, hd12, hb12, hl12⟩ := AccR.at_ f11z0 hx12
 have hF12_ := hF
 subst hp12; subst ht12
 replace hF := hF12_
 obtain rfl := rc12
 refine gr rfl (r_ia (ot rfl) (ot rfl) (ia_acc (k := 4) ut_128 sz_127 hz12 hi12)) (go_nil (go_sop rfl rfl (gr rfl (r_load (ot rfl) (lm_a (vs := [.string x12.key, .int .i64 x12.top, .int .u64 x12.val, .int .i64 x12.cell]) (mem_seg 1 rfl) ag_127 sz_127 (Nat.ble_eq_true_of_le hb12) hd12)) (go_nil (go_sop rfl rfl ?_)))))
 obtain ⟨x13, hx13, hF⟩ := obind hF
 refine g_callp (v := .bool x13) EE_fr rfl of (os1 (ot rfl) os0) hb_69 (fun _ => rfl) (fun hf kn w => by exact s_bst_node_leaf w x12  hx13) (go_nil (go_snil ?_))
 refine g_cond (b := x13) (ot rfl) (fun hc14 => ?_) (fun hc14 => ?_)
 ·
  replace hF := ifT hc14 hF
  refine go_seq (go_region (gls 4 ag_141 rfl rfl rfl rfl (glw 6 ag_138 sz_138 rfl rfl rfl rfl (gs_pack (fun s => Zbst_Tree h bp0 bp0_1 s p0 p0o0) (.cons .z (.cons .z (.cons .z (.cons .z .nil)))) ⟨_, _, _, _, _, rfl, f11z0, f11z1, f11z2⟩ fun z16p y16p => ?_))))
  obtain ⟨x15, hx15, hF⟩ := obind hF
  refine gs_calld EE_fr hw (.cons .z (.cons (.s (.s (.s (.s (.z))))) (.emp .nil))) (fun _ h => by cases h; rfl) (ot rfl) (os1 (ot rfl) os0) (by exact hrc hw p0 p0o0 p1 y16p y1 p5 (Arg.s p3) [] c5 hx15) ?_
  rintro _ _ h15 e15 w15 ⟨z15_y0, z15_y1, v15_r, t15_r, rfl, rfl, f15_0, f15_1, f15_2⟩
  simp only [ca_, na_]
  refine gA rfl rfl (go_nil ?_)
  obtain rfl := someI hF
  exact g_retO (rst rfl rs0) (.cons .z (.cons .z (.cons .z .nil))) e15 w15 (nd1 f15_0.nd (nd1 f15_1.nd (ndc f15_2 nd0))) ⟨_, _, _, _, rfl, rfl, f15_0, f15_1, f15_2⟩
 ·
  replace hF := ifF hc14 hF
  refine go_skip (go_seq (go_region (gF (fa_138_1 _ _) rfl rfl (gls 6 ag_3 rfl rfl rfl rfl (gF (fa_138_2 _ _) rfl rfl (gls 6 ag_3 rfl rfl rfl rfl (gF (fa_138_4 _ _) rfl rfl (gls 6 ag_93 rfl rfl rfl rfl (gF (fa_138_0 _ _) rfl rfl (gs_store (ot rfl) (ot rfl) sz_3 rfl rfl rfl rfl rfl (.s (.s (.s (.s (.s (.s (.z))))))) (gF (fa_138_1 _ _) rfl rfl (gs_store (ot rfl) (ot rfl) sz_3 rfl rfl rfl rfl rfl (.s (.s (.s (.s (.s (.s (.z))))))) (gF (fa_138_3 _ _) rfl rfl (gs_store (ot rfl) (ot rfl) sz_93 rfl rfl rfl rfl rfl (.s (.s (.s (.s (.s (.s (.z))))))) (go_nil (go_seq (go_region (gr rfl (r_func os0 (os1 (ot rfl) (os1 (ot rfl) (os1 (ot rfl) (os1 (ot rfl) os0))))) (gA rfl rfl (go_nil (gs_pub (.s (.s (.s (.s (.s (.s (.s (.z)))))))) (fun h17 e17 w17 hb17 => ?_))))))))))))))))))))))
  have g17_ : BK h17 b4_7 [pt bp0] 61 := hb17
  refine gs_pub (.s (.s (.s (.s (.s (.z)))))) (fun h18 e18 w18 hb18 => ?_)
  have g18_ : BK h18 b6_9 [.string p4.key, .int .i64 p4.top, .int .u64 p4.val, .int .i64 p4.cell] 127 := hb18
  refine gs_pub (.s (.s (.s (.s (.z))))) (fun h19 e19 w19 hb19 => ?_)
  have g19_ : BK h19 b7_10 [v5] 141 := hb19
  have co20 : CO h19 bp0 bp1 [⟨b5_8, .cells [.int .i64 p3.parent, .int .i64 p3.leaf, .int .i64 p3.leaf, .int .u64 p3.parentWord, .int .u64 p3.parentWord, .int .i64 p3.turn] 138⟩] (Clo.c_down_1 (⟨p3.parent, p3.leaf, p3.leaf, p3.parentWord, p3.parentWord, p3.turn⟩ : Tbst_seen) p4 p5) (.func (.func 133) #[] #[pt b4_7, pt b5_8, pt b6_9, pt b7_10]) := CO.c_down_1 (x0 := (⟨p3.parent, p3.leaf, p3.leaf, p3.parentWord, p3.parentWord, p3.turn⟩ : Tbst_seen)) ((g17_.ext e18.kn).ext e19.kn) (g18_.ext e19.kn) g19_ (((c5.ext e17.kn).ext e18.kn).ext e19.kn)
  refine gs_pack (fun s => Zbst_Tree h19 bp0 bp0_1 s p0 p0o0) (.cons .z (.cons .z (.cons .z (.cons .z .nil)))) ⟨_, _, _, _, _, rfl, (((f11z0.ext e17.kn).ext e18.kn).ext e19.kn), (((f11z1.ext e17.kn).ext e18.kn).ext e19.kn), (((f11z2.ext e17.kn).ext e18.kn).ext e19.kn)⟩ fun z21p y21p => ?_
  obtain rfl := someI hF
  exact g_retO (rst rfl rs0) (.cons .z (.cons (.s (.z)) (.cons .z .nil))) (e17.trans (e18.trans e19)) w19 (nd1 y21p.nd (nd1 (((y1.ext e17.kn).ext e18.kn).ext e19.kn).nd (ndb (by intro e; cases e) nd0))) ⟨_, _, _, _, rfl, rfl, y21p, (((y1.ext e17.kn).ext e18.kn).ext e19.kn), (OC.some co20)⟩
theorem s_bst_Tree_search {rc : RC} (hrc : RCok rc) {h : Heap} (hw : Wf h) (p0 : Obst_Tree) (p0o0 : Omem_Mem) (p1 : Obst_Call) (p3 : Tbst_node) (p4 : Clo) {bp0 bp0_1 : Nat} {z0 : List Blk} {bp1 : Nat} {z1 : List Blk} {v4 : Value} (y0 : Zbst_Tree h bp0 bp0_1 z0 p0 p0o0) (y1 : Zbst_Call h bp1 z1 p1) (c4 : CO h bp0 bp1 [] p4 v4) {r : _} (hF : F_bst_Tree_search rc p0 p0o0 p1 p3 p4 = some r) :
 EvO EE 73 [pt bp0, .agg #[.string p3.key, .int .i64 p3.top, .int .u64 p3.val, .int .i64 p3.cell], v4] [z0, z1] h (fun v S h1 => ∃ zy0 zy1 vr tr, v = vr ∧ S = [zy0, zy1, tr] ∧ Zbst_Tree h1 bp0 bp0_1 zy0 r.2.1 r.2.2.1 ∧ Zbst_Call h1 bp1 zy1 r.2.2.2 ∧ OC h1 bp0 bp1 tr r.1 vr) := by
 unfold F_bst_Tree_search at hF
 refine evo_of rfl at_73 rfl rfl ?_
 refine go_seq (go_region (gs_box rfl (ot rfl) rfl (fun b4_6 => gAc rfl rfl (go_nil (go_seq (go_region (gM rfl rfl (gr rfl (r_build (op1 (oc rfl) op0) rfl) (glw 0 ag_127 sz_127 rfl rfl rfl rfl (gM rfl rfl ?_))))))))))
 obtain ⟨x7, hx7, hF⟩ := obind hF
 refine kcX EE_fr hw (.cons (.s (.z)) (.cons (.s (.z)) .nil)) rfl of (ops_t rfl (ops_t rfl (ops_t rfl (ops_t rfl os0)))) hb_106 (s_bst_Tree_down hrc hw p0 p0o0 p1 (⟨0, 0, 0, 0, 0, (-1)⟩ : Tbst_seen) p3 p4 y0 y1 c4 hx7) ?_
 rintro _ _ h7 e7 w7 ⟨z7_y0, z7_y1, v7_r, t7_r, rfl, rfl, f7_0, f7_1, f7_2⟩
 simp only [ca_, na_]
 refine gA rfl rfl (go_nil ?_)
 obtain rfl := someI hF
 exact g_retO (rst rfl rs0) (.cons .z (.cons .z (.cons .z .nil))) e7 w7 (nd1 f7_0.nd (nd1 f7_1.nd (ndc f7_2 nd0))) ⟨_, _, _, _, rfl, rfl, f7_0, f7_1, f7_2⟩
theorem s_bst_Tree_insert {rc : RC} (hrc : RCok rc) {h : Heap} (hw : Wf h) (p0 : Obst_Tree) (p0o0 : Omem_Mem) (p1 : Obst_Call) (p4 : Tbst_node) {bp0 bp0_1 : Nat} {z0 : List Blk} {bp1 : Nat} {z1 : List Blk} (y0 : Zbst_Tree h bp0 bp0_1 z0 p0 p0o0) (y1 : Zbst_Call h bp1 z1 p1) {r : _} (hF : F_bst_Tree_insert rc p0 p0o0 p1 p4 = some r) :
 EvO EE 97 [pt bp0, pt bp1, .agg #[.string p4.key, .int .i64 p4.top, .int .u64 p4.val, .int .i64 p4.cell]] [z0, z1] h (fun v S h1 => ∃ zy0 zy1 vr tr, v = vr ∧ S = [zy0, zy1, tr] ∧ Zbst_Tree h1 bp0 bp0_1 zy0 r.2.1 r.2.2.1 ∧ Zbst_Call h1 bp1 zy1 r.2.2.2 ∧ OC h1 bp0 bp1 tr r.1 vr) := by
 unfold F_bst_Tree_insert at hF
 refine evo_of rfl at_97 rfl rfl ?_
 refine go_seq (go_region (gs_box rfl (ot rfl) rfl (fun b3_6 => gs_box rfl (ot rfl) rfl (fun b4_7 => gs_box rfl (ot rfl) rfl (fun b5_8 => gAc rfl rfl (go_nil (go_seq (go_region (gr rfl (r_func os0 (os1 (ot rfl) (os1 (ot rfl) (os1 (ot rfl) os0)))) (gs_alloc rfl zo_134 rfl (fun b7_9 => gs_store (ot rfl) (ot rfl) sz_134 rfl rfl rfl rfl rfl .z (go_nil (go_seq (go_region (gls 3 ag_61 rfl rfl rfl rfl (glw 1 ag_127 sz_127 rfl rfl rfl rfl (gr rfl (r_func os0 (os1 (ot rfl) (os1 (ot rfl) (os1 (ot rfl) (os1 (ot rfl) os0))))) (gs_pub (.s (.s (.s (.z)))) (fun h11 e11 w11 hb11 => ?_)))))))))))))))))))
 have g11_ : BK h11 b3_6 [pt bp0] 61 := hb11
 refine gs_pub (.s (.z)) (fun h12 e12 w12 hb12 => ?_)
 have g12_ : BK h12 b5_8 [.string p4.key, .int .i64 p4.top, .int .u64 p4.val, .int .i64 p4.cell] 127 := hb12
 refine gs_pub (.s (.z)) (fun h13 e13 w13 hb13 => ?_)
 have g13_ : BK h13 b4_7 [pt bp1] 85 := hb13
 have co14 : CO h13 bp0 bp1 [] (Clo.c_insert_1 p4) (.func (.func 117) #[] #[pt b3_6, pt b4_7, pt b5_8]) := CO.c_insert_1 ((g11_.ext e12.kn).ext e13.kn) g13_ (g12_.ext e13.kn)
 refine gs_pub .z (fun h15 e15 w15 hb15 => ?_)
 have g15_ : BK h15 b7_9 [(.func (.func 117) #[] #[pt b3_6, pt b4_7, pt b5_8])] 134 := hb15
 have co16 : CO h15 bp0 bp1 [] (Clo.c_insert_2 p4 (Clo.c_insert_1 p4)) (.func (.func 118) #[] #[pt b3_6, pt b5_8, pt b4_7, pt b7_9]) := CO.c_insert_2 (((g11_.ext e12.kn).ext e13.kn).ext e15.kn) ((g12_.ext e13.kn).ext e15.kn) (g13_.ext e15.kn) g15_ (co14.ext e15.kn)
 obtain ⟨x10, hx10, hF⟩ := obind hF
 refine kcX EE_fr w15 (.cons .z (.cons .z .nil)) rfl of (ops_t rfl (ops_t rfl (ops_t rfl os0))) hb_73 (s_bst_Tree_search hrc w15 p0 p0o0 p1 p4 (Clo.c_insert_2 p4 (Clo.c_insert_1 p4)) ((((y0.ext e11.kn).ext e12.kn).ext e13.kn).ext e15.kn) ((((y1.ext e11.kn).ext e12.kn).ext e13.kn).ext e15.kn) co16 hx10) ?_
 rintro _ _ h10 e10 w10 ⟨z10_y0, z10_y1, v10_r, t10_r, rfl, rfl, f10_0, f10_1, f10_2⟩
 simp only [ca_, na_]
 refine gA rfl rfl (go_nil ?_)
 obtain rfl := someI hF
 exact g_retO (rst rfl rs0) (.cons .z (.cons .z (.cons .z .nil))) (e11.trans (e12.trans (e13.trans (e15.trans e10)))) w10 (nd1 f10_0.nd (nd1 f10_1.nd (ndc f10_2 nd0))) ⟨_, _, _, _, rfl, rfl, f10_0, f10_1, f10_2⟩
theorem s_bst_Tree_insert_1 {rc : RC} (hrc : RCok rc) {h : Heap} (hw : Wf h) (p0 : Obst_Tree) (p0o0 : Omem_Mem) (p1 : Obst_Call) (p4 : Tbst_node) {bp0 bp0_1 : Nat} {z0 : List Blk} {bp1 : Nat} {z1 : List Blk} {b2 : Nat} {b3 : Nat} {b4 : Nat} (y0 : Zbst_Tree h bp0 bp0_1 z0 p0 p0o0) (y1 : Zbst_Call h bp1 z1 p1) (g2 : BK h b2 [pt bp0] 61) (g3 : BK h b3 [pt bp1] 85) (g4 : BK h b4 [.string p4.key, .int .i64 p4.top, .int .u64 p4.val, .int .i64 p4.cell] 127) {r : _} (hF : F_bst_Tree_insert_1 rc p0 p0o0 p1 p4 = some r) :
 EvO EE 117 [pt b2, pt b3, pt b4] [z0, z1] h (fun v S h1 => ∃ zy0 zy1 vr tr, v = vr ∧ S = [zy0, zy1, tr] ∧ Zbst_Tree h1 bp0 bp0_1 zy0 r.2.1 r.2.2.1 ∧ Zbst_Call h1 bp1 zy1 r.2.2.2 ∧ OC h1 bp0 bp1 tr r.1 vr) := by
 unfold F_bst_Tree_insert_1 at hF
 refine evo_of rfl at_117 rfl rfl ?_
 refine go_seq (go_region (gAc rfl rfl (go_nil (go_seq (go_region (glc ag_61 g2 rfl rfl rfl (glc ag_85 g3 rfl rfl rfl (glb ag_127 sz_127 g4 rfl rfl rfl ?_))))))))
 obtain ⟨x6, hx6, hF⟩ := obind hF
 refine kcX EE_fr hw (.cons .z (.cons .z .nil)) rfl of (ops_t rfl (ops_t rfl (ops_t rfl os0))) hb_97 (s_bst_Tree_insert hrc hw p0 p0o0 p1 p4 y0 y1 hx6) ?_
 rintro _ _ h6 e6 w6 ⟨z6_y0, z6_y1, v6_r, t6_r, rfl, rfl, f6_0, f6_1, f6_2⟩
 simp only [ca_, na_]
 refine gA rfl rfl (go_nil ?_)
 obtain rfl := someI hF
 exact g_retO (rst rfl rs0) (.cons .z (.cons .z (.cons .z .nil))) e6 w6 (nd1 f6_0.nd (nd1 f6_1.nd (ndc f6_2 nd0))) ⟨_, _, _, _, rfl, rfl, f6_0, f6_1, f6_2⟩
theorem s_word_State {h : Heap} (hw : Wf h) (p0 : Int)   {r : Int} (hF : F_word_State p0 = some r) :
 Ev EE 119 [.int .u64 p0] h (fun v _ => v = .int .i64 r) := by
 unfold F_word_State at hF
 refine ev_of hw rfl at_119 rfl rfl (go_seg0 ?_)
 refine go_seq (go_region (gAc rfl rfl (go_nil (go_seq (go_region (gM rfl rfl (gr rfl (r_bin (ot rfl) (oc rfl) rfl) (gr rfl (r_conv (ot rfl) rfl) (gA rfl rfl (go_nil ?_))))))))))
 obtain rfl := someI hF
 exact g_ret (rst rfl rs0) (fun h1 hf hs => ⟨hs.hext, rfl⟩)
theorem s_word_Info {h : Heap} (hw : Wf h) (p0 : Int)   {r : Int} (hF : F_word_Info p0 = some r) :
 Ev EE 139 [.int .u64 p0] h (fun v _ => v = .int .i64 r) := by
 unfold F_word_Info at hF
 refine ev_of hw rfl at_139 rfl rfl (go_seg0 ?_)
 refine go_seq (go_region (gAc rfl rfl (go_nil (go_seq (go_region (gM rfl rfl (gr rfl (r_bin (ot rfl) (oc rfl) rfl) (gr rfl (r_conv (ot rfl) rfl) (gA rfl rfl (go_nil ?_))))))))))
 obtain rfl := someI hF
 exact g_ret (rst rfl rs0) (fun h1 hf hs => ⟨hs.hext, rfl⟩)
theorem s_bst_Tree_turn {rc : RC} (hrc : RCok rc) {h : Heap} (hw : Wf h) (p0 : Obst_Tree) (p0o0 : Omem_Mem) (p1 : Obst_Call) (p3 : Int) (p4 : Int) (p5 : Int) (p6 : Clo) {bp0 bp0_1 : Nat} {z0 : List Blk} {bp1 : Nat} {z1 : List Blk} {v6 : Value} (y0 : Zbst_Tree h bp0 bp0_1 z0 p0 p0o0) (y1 : Zbst_Call h bp1 z1 p1) (c6 : CO h bp0 bp1 [] p6 v6) {r : _} (hF : F_bst_Tree_turn rc p0 p0o0 p1 p3 p4 p5 p6 = some r) :
 EvO EE 153 [pt bp0, .int .i64 p3, .int .i64 p4, .int .i64 p5, v6] [z0, z1] h (fun v S h1 => ∃ zy0 zy1 vr tr, v = vr ∧ S = [zy0, zy1, tr] ∧ Zbst_Tree h1 bp0 bp0_1 zy0 r.2.1 r.2.2.1 ∧ Zbst_Call h1 bp1 zy1 r.2.2.2 ∧ OC h1 bp0 bp1 tr r.1 vr) := by
 unfold F_bst_Tree_turn at hF
 refine evo_of rfl at_153 rfl rfl ?_
 refine go_seq (go_region (gs_box rfl (ot rfl) rfl (fun b5_8 => gs_box rfl (ot rfl) rfl (fun b6_9 => gs_box rfl (ot rfl) rfl (fun b7_10 => gs_box rfl (ot rfl) rfl (fun b8_11 => gs_box rfl (ot rfl) (CO.one c6) (fun b9_12 => gAc rfl rfl (go_nil (go_seq (go_region (gr rfl (r_func os0 (os1 (ot rfl) (os1 (ot rfl) (os1 (ot rfl) (os1 (ot rfl) (os1 (ot rfl) os0)))))) (gA rfl rfl (go_nil (gs_pub (.s (.s (.s (.s (.z))))) (fun h13 e13 w13 hb13 => ?_)))))))))))))))
 have g13_ : BK h13 b5_8 [pt bp0] 61 := hb13
 refine gs_pub (.s (.s (.s (.z)))) (fun h14 e14 w14 hb14 => ?_)
 have g14_ : BK h14 b6_9 [.int .i64 p3] 3 := hb14
 refine gs_pub (.s (.z)) (fun h15 e15 w15 hb15 => ?_)
 have g15_ : BK h15 b8_11 [.int .i64 p5] 3 := hb15
 refine gs_pub (.s (.z)) (fun h16 e16 w16 hb16 => ?_)
 have g16_ : BK h16 b7_10 [.int .i64 p4] 3 := hb16
 refine gs_pub .z (fun h17 e17 w17 hb17 => ?_)
 have g17_ : BK h17 b9_12 [v6] 134 := hb17
 have co18 : CO h17 bp0 bp1 [] (Clo.c_turn_1 p3 p5 p4 p6) (.func (.func 160) #[] #[pt b5_8, pt b6_9, pt b8_11, pt b7_10, pt b9_12]) := CO.c_turn_1 ((((g13_.ext e14.kn).ext e15.kn).ext e16.kn).ext e17.kn) (((g14_.ext e15.kn).ext e16.kn).ext e17.kn) ((g15_.ext e16.kn).ext e17.kn) (g16_.ext e17.kn) g17_ (((((c6.ext e13.kn).ext e14.kn).ext e15.kn).ext e16.kn).ext e17.kn)
 obtain rfl := someI hF
 exact g_retO (rst rfl rs0) (.cons .z (.cons .z (.emp .nil))) (e13.trans (e14.trans (e15.trans (e16.trans e17)))) w17 (nd1 (((((y0.ext e13.kn).ext e14.kn).ext e15.kn).ext e16.kn).ext e17.kn).nd (nd1 (((((y1.ext e13.kn).ext e14.kn).ext e15.kn).ext e16.kn).ext e17.kn).nd (nde nd0))) ⟨_, _, _, _, rfl, rfl, (((((y0.ext e13.kn).ext e14.kn).ext e15.kn).ext e16.kn).ext e17.kn), (((((y1.ext e13.kn).ext e14.kn).ext e15.kn).ext e16.kn).ext e17.kn), (OC.some co18)⟩
theorem s_bst_Tree_grows {rc : RC} (hrc : RCok rc) {h : Heap} (hw : Wf h) (p0 : Obst_Tree) (p0o0 : Omem_Mem) (p1 : Obst_Call) (p3 : Int) (p4 : Clo) {bp0 bp0_1 : Nat} {z0 : List Blk} {bp1 : Nat} {z1 : List Blk} {v4 : Value} (y0 : Zbst_Tree h bp0 bp0_1 z0 p0 p0o0) (y1 : Zbst_Call h bp1 z1 p1) (c4 : CO h bp0 bp1 [] p4 v4) {r : _} (hF : F_bst_Tree_grows rc p0 p0o0 p1 p3 p4 = some r) :
 EvO EE 140 [pt bp0, .int .i64 p3, v4] [z0, z1] h (fun v S h1 => ∃ zy0 zy1 vr tr, v = vr ∧ S = [zy0, zy1, tr] ∧ Zbst_Tree h1 bp0 bp0_1 zy0 r.2.1 r.2.2.1 ∧ Zbst_Call h1 bp1 zy1 r.2.2.2 ∧ OC h1 bp0 bp1 tr r.1 vr) := by
 unfold F_bst_Tree_grows at hF
 refine evo_of rfl at_140 rfl rfl ?_
 refine go_seq (go_region (gs_box rfl (ot rfl) rfl (fun b3_6 => gs_box rfl (ot rfl) rfl (fun b4_7 => gs_box rfl (ot rfl) (CO.one c4) (fun b5_8 => gAc rfl rfl (go_nil (go_seq (go_regA1 (L := sq 0 9) (by kernel_rfl) (by kernel_rfl) (fun _ => rfl) (fun b7_9 => go_sop rfl rfl (gls 3 ag_61 rfl rfl rfl rfl (go_nil (go_sop rfl rfl (gN rfl rfl (go_nil (go_sop rfl rfl (gF (fa_131_2 _ _) rfl rfl (go_nil (go_sop rfl rfl (gs_front (.s (.s (.s (.s (.z))))) ?_)))))))))))))))))))
 obtain ⟨q10z_1, t10z_1, q10z_2, t10z_2, z10z_0, rfl, f10z0, f10z1, f10z2⟩ := y0
 refine gs_unz ?_
 simp only [ca_, na_]
 refine gls 0 ag_129 rfl rfl rfl rfl (go_nil (go_sop rfl rfl (gls 6 ag_3 rfl rfl rfl rfl (go_nil (go_sop rfl rfl ?_)))))
 obtain ⟨x11, hx11, hF⟩ := obind hF
 obtain ⟨bb11, rw11, row11, hp11, ht11, hR11, hw11, rc11, hz11, hi11, hd11, hb11, hl11⟩ := AccR.at_ f10z1 hx11
 have hF11_ := hF
 subst hp11; subst ht11
 replace hF := hF11_
 obtain rfl := rc11
 refine gr rfl (r_ia (ot rfl) (ot rfl) (ia_acc (k := 5) ut_129 sz_155 hz11 hi11)) (go_nil (go_sop rfl rfl (gr rfl (r_load (ot rfl) (lm_a (vs := [.int .i64 x11.grand, .int .i64 x11.parent, .int .i64 x11.leaf, .int .i64 x11.next, .int .u64 x11.was]) (mem_seg 2 rfl) ag_155 sz_155 (Nat.ble_eq_true_of_le hb11) hd11)) (go_nil (go_salloc rfl rfl rfl zo_155 rfl (.s (.s (.s (.s (.z))))) (go_sop rfl rfl (gs_store (ot rfl) (ot rfl) sz_155 rfl rfl rfl rfl rfl (.s (.s (.s (.s (.z))))) (go_nil (go_snil (go_seq (go_region (gls 7 ag_61 rfl rfl rfl rfl (gF (fa_155_1 _ _) rfl rfl (gls 4 ag_3 rfl rfl rfl rfl (gF (fa_155_2 _ _) rfl rfl (gls 4 ag_3 rfl rfl rfl rfl (gF (fa_155_3 _ _) rfl rfl (gls 4 ag_3 rfl rfl rfl rfl (gr rfl (r_func os0 (os1 (ot rfl) (os1 (ot rfl) (os1 (ot rfl) (os1 (ot rfl) os0))))) (gs_pub (.s (.s (.s (.s (.s (.s (.s (.z)))))))) (fun h13 e13 w13 hb13 => ?_)))))))))))))))))))))
 have g13_ : BK h13 b3_6 [pt bp0] 61 := hb13
 refine gs_pub (.s (.s (.s (.s (.z))))) (fun h14 e14 w14 hb14 => ?_)
 have g14_ : BK h14 b7_9 [.int .i64 x11.grand, .int .i64 x11.parent, .int .i64 x11.leaf, .int .i64 x11.next, .int .u64 x11.was] 155 := hb14
 refine gs_pub (.s (.s (.s (.s (.s (.z)))))) (fun h15 e15 w15 hb15 => ?_)
 have g15_ : BK h15 b4_7 [.int .i64 p3] 3 := hb15
 refine gs_pub (.s (.s (.s (.s (.z))))) (fun h16 e16 w16 hb16 => ?_)
 have g16_ : BK h16 b5_8 [v4] 134 := hb16
 have co17 : CO h16 bp0 bp1 [] (Clo.c_grows_1 x11 p3 p4) (.func (.func 154) #[] #[pt b3_6, pt b7_9, pt b4_7, pt b5_8]) := CO.c_grows_1 (((g13_.ext e14.kn).ext e15.kn).ext e16.kn) ((g14_.ext e15.kn).ext e16.kn) (g15_.ext e16.kn) g16_ ((((c4.ext e13.kn).ext e14.kn).ext e15.kn).ext e16.kn)
 refine gs_pack (fun s => Zbst_Tree h16 bp0 bp0_1 s p0 p0o0) (.cons .z (.cons .z (.cons .z (.cons .z .nil)))) ⟨_, _, _, _, _, rfl, ((((f10z0.ext e13.kn).ext e14.kn).ext e15.kn).ext e16.kn), ((((f10z1.ext e13.kn).ext e14.kn).ext e15.kn).ext e16.kn), ((((f10z2.ext e13.kn).ext e14.kn).ext e15.kn).ext e16.kn)⟩ fun z18p y18p => ?_
 obtain ⟨x12, hx12, hF⟩ := obind hF
 refine kcX EE_fr w16 (.cons .z (.cons .z .nil)) rfl of (ops_t rfl (ops_t rfl (ops_t rfl (ops_t rfl (ops_t rfl os0))))) hb_153 (s_bst_Tree_turn hrc w16 p0 p0o0 p1 x11.parent x11.leaf x11.next (Clo.c_grows_1 x11 p3 p4) y18p ((((y1.ext e13.kn).ext e14.kn).ext e15.kn).ext e16.kn) co17 hx12) ?_
 rintro _ _ h12 e12 w12 ⟨z12_y0, z12_y1, v12_r, t12_r, rfl, rfl, f12_0, f12_1, f12_2⟩
 simp only [ca_, na_]
 refine gA rfl rfl (go_nil ?_)
 obtain rfl := someI hF
 exact g_retO (rst rfl rs0) (.cons .z (.cons .z (.cons .z .nil))) (e13.trans (e14.trans (e15.trans (e16.trans e12)))) w12 (nd1 f12_0.nd (nd1 f12_1.nd (ndc f12_2 nd0))) ⟨_, _, _, _, rfl, rfl, f12_0, f12_1, f12_2⟩
theorem s_word_Pack {h : Heap} (hw : Wf h) (p0 : Int) (p1 : Int)   {r : Int} (hF : F_word_Pack p0 p1 = some r) :
 Ev EE 130 [.int .i64 p0, .int .i64 p1] h (fun v _ => v = .int .u64 r) := by
 unfold F_word_Pack at hF
 refine ev_of hw rfl at_130 rfl rfl (go_seg0 ?_)
 refine go_seq (go_region (gAc rfl rfl (go_nil (go_seq (go_region (gM rfl rfl (gr rfl (r_conv (ot rfl) rfl) (gr rfl (r_bin (ot rfl) (oc rfl) rfl) (gM rfl rfl (gr rfl (r_conv (ot rfl) rfl) (gr rfl (r_bin (ot rfl) (oc rfl) rfl) (gr rfl (r_bin (ot rfl) (ot rfl) rfl) (gA rfl rfl (go_nil ?_))))))))))))))
 obtain rfl := someI hF
 exact g_ret (rst rfl rs0) (fun h1 hf hs => ⟨hs.hext, rfl⟩)
theorem s_bst_Tree_loses {rc : RC} (hrc : RCok rc) {h : Heap} (hw : Wf h) (p0 : Obst_Tree) (p0o0 : Omem_Mem) (p1 : Obst_Call) (p3 : Int) (p4 : Clo) {bp0 bp0_1 : Nat} {z0 : List Blk} {bp1 : Nat} {z1 : List Blk} {v4 : Value} (y0 : Zbst_Tree h bp0 bp0_1 z0 p0 p0o0) (y1 : Zbst_Call h bp1 z1 p1) (c4 : CO h bp0 bp1 [] p4 v4) {r : _} (hF : F_bst_Tree_loses rc p0 p0o0 p1 p3 p4 = some r) :
 EvO EE 131 [pt bp0, .int .i64 p3, v4] [z0, z1] h (fun v S h1 => ∃ zy0 zy1 vr tr, v = vr ∧ S = [zy0, zy1, tr] ∧ Zbst_Tree h1 bp0 bp0_1 zy0 r.2.1 r.2.2.1 ∧ Zbst_Call h1 bp1 zy1 r.2.2.2 ∧ OC h1 bp0 bp1 tr r.1 vr) := by
 unfold F_bst_Tree_loses at hF
 refine evo_of rfl at_131 rfl rfl ?_
 refine go_seq (go_region (gs_box rfl (ot rfl) rfl (fun b3_6 => gs_box rfl (ot rfl) rfl (fun b4_7 => gs_box rfl (ot rfl) (CO.one c4) (fun b5_8 => gAc rfl rfl (go_nil (go_seq (go_regA1 (L := sq 0 9) (by kernel_rfl) (by kernel_rfl) (fun _ => rfl) (fun b7_9 => go_sop rfl rfl (gls 3 ag_61 rfl rfl rfl rfl (go_nil (go_sop rfl rfl (gN rfl rfl (go_nil (go_sop rfl rfl (gF (fa_131_2 _ _) rfl rfl (go_nil (go_sop rfl rfl (gs_front (.s (.s (.s (.s (.z))))) ?_)))))))))))))))))))
 obtain ⟨q10z_1, t10z_1, q10z_2, t10z_2, z10z_0, rfl, f10z0, f10z1, f10z2⟩ := y0
 refine gs_unz ?_
 simp only [ca_, na_]
 refine gls 0 ag_129 rfl rfl rfl rfl (go_nil (go_sop rfl rfl (gls 6 ag_3 rfl rfl rfl rfl (go_nil (go_sop rfl rfl ?_)))))
 obtain ⟨x11, hx11, hF⟩ := obind hF
 obtain ⟨bb11, rw11, row11, hp11, ht11, hR11, hw11, rc11, hz11, hi11, hd11, hb11, hl11⟩ := AccR.at_ f10z1 hx11
 have hF11_ := hF
 subst hp11; subst ht11
 replace hF := hF11_
 obtain rfl := rc11
 refine gr rfl (r_ia (ot rfl) (ot rfl) (ia_acc (k := 5) ut_129 sz_155 hz11 hi11)) (go_nil (go_sop rfl rfl (gr rfl (r_load (ot rfl) (lm_a (vs := [.int .i64 x11.grand, .int .i64 x11.parent, .int .i64 x11.leaf, .int .i64 x11.next, .int .u64 x11.was]) (mem_seg 2 rfl) ag_155 sz_155 (Nat.ble_eq_true_of_le hb11) hd11)) (go_nil (go_salloc rfl rfl rfl zo_155 rfl (.s (.s (.s (.s (.z))))) (go_sop rfl rfl (gs_store (ot rfl) (ot rfl) sz_155 rfl rfl rfl rfl rfl (.s (.s (.s (.s (.z))))) (go_nil (go_snil (go_seq (go_region (gls 6 ag_3 rfl rfl rfl rfl ?_))))))))))))
 obtain ⟨x12, hx12, hF⟩ := obind hF
 refine g_callp (v := .int .u64 x12) EE_fr rfl of (os1 (oc rfl) (os1 (ot rfl) os0)) hb_130 (fun _ => rfl) (fun hf kn w => by exact s_word_Pack w 3 p3  hx12) (gs_alloc rfl zo_93 rfl (fun b8_13 => gs_store (ot rfl) (ot rfl) sz_93 rfl rfl rfl rfl rfl .z (go_nil (go_seq (go_region (gr rfl (r_func os0 (os1 (ot rfl) (os1 (ot rfl) (os1 (ot rfl) (os1 (ot rfl) (os1 (ot rfl) os0)))))) (gA rfl rfl (go_nil (gs_pub (.s (.s (.s (.s (.s (.s (.s (.s (.z))))))))) (fun h14 e14 w14 hb14 => ?_))))))))))
 have g14_ : BK h14 b3_6 [pt bp0] 61 := hb14
 refine gs_pub (.s (.s (.s (.s (.s (.z)))))) (fun h15 e15 w15 hb15 => ?_)
 have g15_ : BK h15 b7_9 [.int .i64 x11.grand, .int .i64 x11.parent, .int .i64 x11.leaf, .int .i64 x11.next, .int .u64 x11.was] 155 := hb15
 refine gs_pub .z (fun h16 e16 w16 hb16 => ?_)
 have g16_ : BK h16 b8_13 [.int .u64 x12] 93 := hb16
 refine gs_pub (.s (.s (.s (.s (.s (.z)))))) (fun h17 e17 w17 hb17 => ?_)
 have g17_ : BK h17 b4_7 [.int .i64 p3] 3 := hb17
 refine gs_pub (.s (.s (.s (.s (.z))))) (fun h18 e18 w18 hb18 => ?_)
 have g18_ : BK h18 b5_8 [v4] 201 := hb18
 have co19 : CO h18 bp0 bp1 [] (Clo.c_loses_1 x11 x12 p3 p4) (.func (.func 148) #[] #[pt b3_6, pt b7_9, pt b8_13, pt b4_7, pt b5_8]) := CO.c_loses_1 ((((g14_.ext e15.kn).ext e16.kn).ext e17.kn).ext e18.kn) (((g15_.ext e16.kn).ext e17.kn).ext e18.kn) ((g16_.ext e17.kn).ext e18.kn) (g17_.ext e18.kn) g18_ (((((c4.ext e14.kn).ext e15.kn).ext e16.kn).ext e17.kn).ext e18.kn)
 refine gs_pack (fun s => Zbst_Tree h18 bp0 bp0_1 s p0 p0o0) (.cons .z (.cons .z (.cons .z (.cons .z .nil)))) ⟨_, _, _, _, _, rfl, (((((f10z0.ext e14.kn).ext e15.kn).ext e16.kn).ext e17.kn).ext e18.kn), (((((f10z1.ext e14.kn).ext e15.kn).ext e16.kn).ext e17.kn).ext e18.kn), (((((f10z2.ext e14.kn).ext e15.kn).ext e16.kn).ext e17.kn).ext e18.kn)⟩ fun z20p y20p => ?_
 obtain rfl := someI hF
 exact g_retO (rst rfl rs0) (.cons .z (.cons .z (.emp .nil))) (e14.trans (e15.trans (e16.trans (e17.trans e18)))) w18 (nd1 y20p.nd (nd1 (((((y1.ext e14.kn).ext e15.kn).ext e16.kn).ext e17.kn).ext e18.kn).nd (nde nd0))) ⟨_, _, _, _, rfl, rfl, y20p, (((((y1.ext e14.kn).ext e15.kn).ext e16.kn).ext e17.kn).ext e18.kn), (OC.some co19)⟩
theorem s_bst_Tree_goes {rc : RC} (hrc : RCok rc) {h : Heap} (hw : Wf h) (p0 : Obst_Tree) (p0o0 : Omem_Mem) (p1 : Obst_Call) (p3 : Int) (p4 : Clo) {bp0 bp0_1 : Nat} {z0 : List Blk} {bp1 : Nat} {z1 : List Blk} {v4 : Value} (y0 : Zbst_Tree h bp0 bp0_1 z0 p0 p0o0) (y1 : Zbst_Call h bp1 z1 p1) (c4 : CO h bp0 bp1 [] p4 v4) {r : _} (hF : F_bst_Tree_goes rc p0 p0o0 p1 p3 p4 = some r) :
 EvO EE 142 [pt bp0, .int .i64 p3, v4] [z0, z1] h (fun v S h1 => ∃ zy0 zy1 vr tr, v = vr ∧ S = [zy0, zy1, tr] ∧ Zbst_Tree h1 bp0 bp0_1 zy0 r.2.1 r.2.2.1 ∧ Zbst_Call h1 bp1 zy1 r.2.2.2 ∧ OC h1 bp0 bp1 tr r.1 vr) := by
 unfold F_bst_Tree_goes at hF
 refine evo_of rfl at_142 rfl rfl ?_
 refine go_seq (go_region (gs_box rfl (ot rfl) rfl (fun b3_6 => gs_box rfl (ot rfl) rfl (fun b4_7 => gs_box rfl (ot rfl) (CO.one c4) (fun b5_8 => gAc rfl rfl (go_nil (go_seq (go_regA1 (L := sq 0 9) (by kernel_rfl) (by kernel_rfl) (fun _ => rfl) (fun b7_9 => go_sop rfl rfl (gls 3 ag_61 rfl rfl rfl rfl (go_nil (go_sop rfl rfl (gN rfl rfl (go_nil (go_sop rfl rfl (gF (fa_131_2 _ _) rfl rfl (go_nil (go_sop rfl rfl (gs_front (.s (.s (.s (.s (.z))))) ?_)))))))))))))))))))
 obtain ⟨q10z_1, t10z_1, q10z_2, t10z_2, z10z_0, rfl, f10z0, f10z1, f10z2⟩ := y0
 refine gs_unz ?_
 simp only [ca_, na_]
 refine gls 0 ag_129 rfl rfl rfl rfl (go_nil (go_sop rfl rfl (gls 6 ag_3 rfl rfl rfl rfl (go_nil (go_sop rfl rfl ?_)))))
 obtain ⟨x11, hx11, hF⟩ := obind hF
 obtain ⟨bb11, rw11, row11, hp11, ht11, hR11, hw11, rc11, hz11, hi11, hd11, hb11, hl11⟩ := AccR.at_ f10z1 hx11
 have hF11_ := hF
 subst hp11; subst ht11
 replace hF := hF11_
 obtain rfl := rc11
 refine gr rfl (r_ia (ot rfl) (ot rfl) (ia_acc (k := 5) ut_129 sz_155 hz11 hi11)) (go_nil (go_sop rfl rfl (gr rfl (r_load (ot rfl) (lm_a (vs := [.int .i64 x11.grand, .int .i64 x11.parent, .int .i64 x11.leaf, .int .i64 x11.next, .int .u64 x11.was]) (mem_seg 2 rfl) ag_155 sz_155 (Nat.ble_eq_true_of_le hb11) hd11)) (go_nil (go_salloc rfl rfl rfl zo_155 rfl (.s (.s (.s (.s (.z))))) (go_sop rfl rfl (gs_store (ot rfl) (ot rfl) sz_155 rfl rfl rfl rfl rfl (.s (.s (.s (.s (.z))))) (go_nil (go_snil (go_seq (go_region (gr rfl (r_func os0 (os1 (ot rfl) (os1 (ot rfl) (os1 (ot rfl) (os1 (ot rfl) os0))))) (gs_alloc rfl zo_210 rfl (fun b8_12 => gs_store (ot rfl) (ot rfl) sz_210 rfl rfl rfl rfl rfl .z (go_nil (go_seq (go_region (gr rfl (r_func os0 (os1 (ot rfl) (os1 (ot rfl) (os1 (ot rfl) os0)))) (gA rfl rfl (go_nil (gs_pub (.s (.s (.s (.s (.s (.s (.s (.s (.z))))))))) (fun h13 e13 w13 hb13 => ?_))))))))))))))))))))))
 have g13_ : BK h13 b3_6 [pt bp0] 61 := hb13
 refine gs_pub (.s (.s (.s (.s (.s (.z)))))) (fun h14 e14 w14 hb14 => ?_)
 have g14_ : BK h14 b7_9 [.int .i64 x11.grand, .int .i64 x11.parent, .int .i64 x11.leaf, .int .i64 x11.next, .int .u64 x11.was] 155 := hb14
 refine gs_pub (.s (.s (.s (.s (.s (.s (.z))))))) (fun h15 e15 w15 hb15 => ?_)
 have g15_ : BK h15 b4_7 [.int .i64 p3] 3 := hb15
 refine gs_pub (.s (.s (.s (.s (.s (.z)))))) (fun h16 e16 w16 hb16 => ?_)
 have g16_ : BK h16 b5_8 [v4] 134 := hb16
 have co17 : CO h16 bp0 bp1 [] (Clo.c_goes_1 x11 p3 p4) (.func (.func 155) #[] #[pt b3_6, pt b7_9, pt b4_7, pt b5_8]) := CO.c_goes_1 (((g13_.ext e14.kn).ext e15.kn).ext e16.kn) ((g14_.ext e15.kn).ext e16.kn) (g15_.ext e16.kn) g16_ ((((c4.ext e13.kn).ext e14.kn).ext e15.kn).ext e16.kn)
 refine gs_pub .z (fun h18 e18 w18 hb18 => ?_)
 have g18_ : BK h18 b8_12 [(.func (.func 155) #[] #[pt b3_6, pt b7_9, pt b4_7, pt b5_8])] 210 := hb18
 have co19 : CO h18 bp0 bp1 [] (Clo.c_goes_2 x11 (Clo.c_goes_1 x11 p3 p4)) (.func (.func 157) #[] #[pt b3_6, pt b7_9, pt b8_12]) := CO.c_goes_2 ((((g13_.ext e14.kn).ext e15.kn).ext e16.kn).ext e18.kn) (((g14_.ext e15.kn).ext e16.kn).ext e18.kn) g18_ (co17.ext e18.kn)
 refine gs_pack (fun s => Zbst_Tree h18 bp0 bp0_1 s p0 p0o0) (.cons .z (.cons .z (.cons .z (.cons .z .nil)))) ⟨_, _, _, _, _, rfl, (((((f10z0.ext e13.kn).ext e14.kn).ext e15.kn).ext e16.kn).ext e18.kn), (((((f10z1.ext e13.kn).ext e14.kn).ext e15.kn).ext e16.kn).ext e18.kn), (((((f10z2.ext e13.kn).ext e14.kn).ext e15.kn).ext e16.kn).ext e18.kn)⟩ fun z20p y20p => ?_
 obtain rfl := someI hF
 exact g_retO (rst rfl rs0) (.cons .z (.cons .z (.emp .nil))) (e13.trans (e14.trans (e15.trans (e16.trans e18)))) w18 (nd1 y20p.nd (nd1 (((((y1.ext e13.kn).ext e14.kn).ext e15.kn).ext e16.kn).ext e18.kn).nd (nde nd0))) ⟨_, _, _, _, rfl, rfl, y20p, (((((y1.ext e13.kn).ext e14.kn).ext e15.kn).ext e16.kn).ext e18.kn), (OC.some co19)⟩
theorem s_bst_Tree_help {rc : RC} (hrc : RCok rc) {h : Heap} (hw : Wf h) (p0 : Obst_Tree) (p0o0 : Omem_Mem) (p1 : Obst_Call) (p3 : Int) (p4 : Clo) {bp0 bp0_1 : Nat} {z0 : List Blk} {bp1 : Nat} {z1 : List Blk} {v4 : Value} (y0 : Zbst_Tree h bp0 bp0_1 z0 p0 p0o0) (y1 : Zbst_Call h bp1 z1 p1) (c4 : CO h bp0 bp1 [] p4 v4) {r : _} (hF : F_bst_Tree_help rc p0 p0o0 p1 p3 p4 = some r) :
 EvO EE 120 [pt bp0, .int .u64 p3, v4] [z0, z1] h (fun v S h1 => ∃ zy0 zy1 vr tr, v = vr ∧ S = [zy0, zy1, tr] ∧ Zbst_Tree h1 bp0 bp0_1 zy0 r.2.1 r.2.2.1 ∧ Zbst_Call h1 bp1 zy1 r.2.2.2 ∧ OC h1 bp0 bp1 tr r.1 vr) := by
 unfold F_bst_Tree_help at hF
 refine evo_of rfl at_120 rfl rfl ?_
 refine go_seq (go_region (gs_box rfl (ot rfl) (CO.one c4) (fun b5_6 => gAc rfl rfl (go_nil (go_seq (go_region (gM rfl rfl ?_)))))))
 obtain ⟨x7, hx7, hF⟩ := obind hF
 refine g_callp (v := .int .i64 x7) EE_fr rfl of (os1 (ot rfl) os0) hb_139 (fun _ => rfl) (fun hf kn w => by exact s_word_Info w p3  hx7) (gA rfl rfl (go_nil (go_seq (go_seq (go_region (gM rfl rfl ?_))))))
 obtain ⟨x8, hx8, hF⟩ := obind hF
 refine g_callp (v := .int .i64 x8) EE_fr rfl of (os1 (ot rfl) os0) hb_119 (fun _ => rfl) (fun hf kn w => by exact s_word_State w p3  hx8) (go_nil (go_block (go_seq (go_region (gr rfl (r_bin (ot rfl) (oc rfl) rfl) (gA rfl rfl (go_nil ?_)))))))
 refine g_cond (b := (x8 == 1)) (ot rfl) (fun hc9 => ?_) (fun hc9 => ?_)
 ·
  replace hF := ifT hc9 hF
  refine go_seq (go_region (gM rfl rfl (gM rfl rfl (gls 0 ag_134 rfl rfl rfl rfl ?_))))
  obtain ⟨x10, hx10, hF⟩ := obind hF
  refine kcX EE_fr hw (.cons (.s (.z)) (.cons (.s (.z)) .nil)) rfl of (ops_t rfl (ops_t rfl (ops_t rfl os0))) hb_140 (s_bst_Tree_grows hrc hw p0 p0o0 p1 x7 p4 y0 y1 c4 hx10) ?_
  rintro _ _ h10 e10 w10 ⟨z10_y0, z10_y1, v10_r, t10_r, rfl, rfl, f10_0, f10_1, f10_2⟩
  simp only [ca_, na_]
  refine gA rfl rfl (go_nil ?_)
  obtain rfl := someI hF
  exact g_retO (rst rfl rs0) (.cons .z (.cons .z (.cons .z .nil))) e10 w10 (nd1 f10_0.nd (nd1 f10_1.nd (ndc f10_2 nd0))) ⟨_, _, _, _, rfl, rfl, f10_0, f10_1, f10_2⟩
 ·
  replace hF := ifF hc9 hF
  refine go_seq (go_region (gr rfl (r_bin (ot rfl) (oc rfl) rfl) (gA rfl rfl (go_nil ?_))))
  refine g_cond (b := (x8 == 2)) (ot rfl) (fun hc11 => ?_) (fun hc11 => ?_)
  ·
   replace hF := ifT hc11 hF
   refine go_seq (go_region (gM rfl rfl (gM rfl rfl (gr rfl (r_func os0 (os1 (ot rfl) os0)) (gs_pub .z (fun h13 e13 w13 hb13 => ?_))))))
   have g13_ : BK h13 b5_6 [v4] 134 := hb13
   have co14 : CO h13 bp0 bp1 [] (Clo.c_help_1 p4) (.func (.func 141) #[] #[pt b5_6]) := CO.c_help_1 g13_ (c4.ext e13.kn)
   obtain ⟨x12, hx12, hF⟩ := obind hF
   refine kcX EE_fr w13 (.cons .z (.cons .z .nil)) rfl of (ops_t rfl (ops_t rfl (ops_t rfl os0))) hb_131 (s_bst_Tree_loses hrc w13 p0 p0o0 p1 x7 (Clo.c_help_1 p4) (y0.ext e13.kn) (y1.ext e13.kn) co14 hx12) ?_
   rintro _ _ h12 e12 w12 ⟨z12_y0, z12_y1, v12_r, t12_r, rfl, rfl, f12_0, f12_1, f12_2⟩
   simp only [ca_, na_]
   refine gA rfl rfl (go_nil ?_)
   obtain rfl := someI hF
   exact g_retO (rst rfl rs0) (.cons .z (.cons .z (.cons .z .nil))) (e13.trans e12) w12 (nd1 f12_0.nd (nd1 f12_1.nd (ndc f12_2 nd0))) ⟨_, _, _, _, rfl, rfl, f12_0, f12_1, f12_2⟩
  ·
   replace hF := ifF hc11 hF
   refine go_seq (go_region (gr rfl (r_bin (ot rfl) (oc rfl) rfl) (gA rfl rfl (go_nil ?_))))
   refine g_cond (b := (x8 == 3)) (ot rfl) (fun hc15 => ?_) (fun hc15 => ?_)
   ·
    replace hF := ifT hc15 hF
    refine go_seq (go_region (gM rfl rfl (gM rfl rfl (gls 0 ag_134 rfl rfl rfl rfl ?_))))
    obtain ⟨x16, hx16, hF⟩ := obind hF
    refine kcX EE_fr hw (.cons (.s (.z)) (.cons (.s (.z)) .nil)) rfl of (ops_t rfl (ops_t rfl (ops_t rfl os0))) hb_142 (s_bst_Tree_goes hrc hw p0 p0o0 p1 x7 p4 y0 y1 c4 hx16) ?_
    rintro _ _ h16 e16 w16 ⟨z16_y0, z16_y1, v16_r, t16_r, rfl, rfl, f16_0, f16_1, f16_2⟩
    simp only [ca_, na_]
    refine gA rfl rfl (go_nil ?_)
    obtain rfl := someI hF
    exact g_retO (rst rfl rs0) (.cons .z (.cons .z (.cons .z .nil))) e16 w16 (nd1 f16_0.nd (nd1 f16_1.nd (ndc f16_2 nd0))) ⟨_, _, _, _, rfl, rfl, f16_0, f16_1, f16_2⟩
   ·
    replace hF := ifF hc15 hF
    refine go_skip (go_endb (go_seq (go_region (gls 0 ag_134 rfl rfl rfl rfl ?_))))
    obtain ⟨x17, hx17, hF⟩ := obind hF
    refine gs_calld EE_fr hw (.cons (.s (.z)) (.cons (.s (.z)) (.emp .nil))) (fun _ h => by cases h; rfl) (ot rfl) os0 (by exact hrc hw p0 p0o0 p1 y0 y1 p4 Arg.u [] c4 hx17) ?_
    rintro _ _ h17 e17 w17 ⟨z17_y0, z17_y1, v17_r, t17_r, rfl, rfl, f17_0, f17_1, f17_2⟩
    simp only [ca_, na_]
    refine gA rfl rfl (go_nil ?_)
    obtain rfl := someI hF
    exact g_retO (rst rfl rs0) (.cons .z (.cons .z (.cons .z .nil))) e17 w17 (nd1 f17_0.nd (nd1 f17_1.nd (ndc f17_2 nd0))) ⟨_, _, _, _, rfl, rfl, f17_0, f17_1, f17_2⟩
theorem s_mem_Mem_add {h : Heap} (hw : Wf h) (p0 : Omem_Mem) (p1 : (List Int)) {bp0 : Nat} {z0 : List Blk} {a1_0 : Option Addr} {c1_0 : Nat} (y0 : Zmem_Mem h bp0 z0 p0) (f1_0 : RL (RI_ .u64 93) h a1_0 c1_0 p1) {r : Omem_Mem} (hF : F_mem_Mem_add p0 p1 = some r) :
 EvO EE 115 [pt bp0, .slice a1_0 p1.length c1_0] [z0] h (fun v S h1 => ∃ zy0, v = .tuple #[] ∧ S = [zy0] ∧ Zmem_Mem h1 bp0 zy0 r) := by
 unfold F_mem_Mem_add at hF
 refine evo_of rfl at_115 rfl rfl ?_
 refine go_region (gM rfl rfl (gM rfl rfl (gN rfl rfl (gF (fa_107_0 _ _) rfl rfl ?_))))
 obtain ⟨q3z_0, t3z_0, rfl, f3z0⟩ := y0
 refine gs_unz ?_
 simp only [ca_, na_]
 refine gls 0 ag_105 rfl rfl rfl rfl (gM rfl rfl ?_)
 obtain ⟨x4, hx4, hF⟩ := obind hF
 obtain ⟨hr4, hz4_⟩ := appL_some hx4; subst x4
 refine gs_front (.s (.z)) ?_
 obtain ⟨rw4, hw4, hq4⟩ := RL.first f1_0 (by decide)
 refine gs_app (rows2 := rw4) (R := (RI_ .u64 93)) rfl (os1 (ot rfl) (os1 (ot rfl) os0)) rfl ut_105 sz_93 rfl (by decide) by_93 zo_93 rfl zs_105_105 rfl rfl (first_e hq4 (fun h' kn => kn.firstV hq4)) hw4 f3z0 hr4 (fun p4_ tl4 f4_ => gN rfl rfl (gF (fa_107_0 _ _) rfl rfl (gs_store (ot rfl) (ot rfl) sz_105 rfl rfl rfl rfl rfl (.s (.z)) (go_nil (gs_pack (fun s => Zmem_Mem h bp0 s (⟨(p0.cells ++ p1), p0.count⟩ : Omem_Mem)) (.cons (.s (.z)) (.cons .z .nil)) ⟨_, _, rfl, f4_⟩ fun z5p y5p => ?_)))))
 obtain rfl := someI hF
 exact g_endO rs0 (.cons .z .nil) (HExt.refl _) hw (nd1 y5p.nd nd0) ⟨_, rfl, rfl, y5p⟩
theorem s_mem_Mem_Grow {h : Heap} (hw : Wf h) (p0 : Omem_Mem) (p1 : Int) {bp0 : Nat} {z0 : List Blk} (y0 : Zmem_Mem h bp0 z0 p0) {r : Int × Int × Omem_Mem} (hF : F_mem_Mem_Grow p0 p1 = some r) :
 EvO EE 89 [pt bp0, .int .i64 p1] [z0] h (fun v S h1 => ∃ zy0, v = .tuple #[.int .i64 r.1, .int .i64 r.2.1] ∧ S = [zy0] ∧ Zmem_Mem h1 bp0 zy0 r.2.2) := by
 unfold F_mem_Mem_Grow at hF
 refine evo_of rfl at_89 rfl rfl ?_
 refine go_seq (go_region (gAc rfl rfl (gAc rfl rfl (go_nil (go_seq (go_block (go_seq (go_region (gM rfl rfl (gr rfl (r_bin (v := .bool false) (ot rfl) (oc rfl) (by first | rfl | kernel_rfl)) (gA rfl rfl (go_nil ?_))))))))))))
 refine g_cond (b := false) (ot rfl) (fun hc3 => ?_) (fun hc3 => ?_)
 ·
  cases hc3
 refine go_seq (go_region (gM rfl rfl (gr rfl (r_bin (ot rfl) (oc rfl) rfl) (gM rfl rfl ?_))))
 obtain ⟨s5, hF, hK5⟩ := obind hF
 refine go_joinr 9 (β := List Blk) (fun s h' => Zmem_Mem h' bp0 s p0) (fun s => [(0, true, pt bp0), (1, true, .int .i64 p1), (4, true, .int .i64 0), (5, true, .int .i64 0), (22, true, .bool s5)]) (fun s => (List.flatten [s] : List Blk)) ?_ (fun J5 => ?_)
 ·
  rintro a5_0 h5 e5 w5 f5_z0
  try dsimp only at f5_z0
  replace hF := hK5
  refine gA rfl rfl (go_nil ?_)
  refine g_cond (b := s5) (ot rfl) (fun hc6 => ?_) (fun hc6 => ?_)
  ·
   replace hF := ifT hc6 hF
   refine go_seq (go_region (gAc rfl rfl (gAc rfl rfl (go_nil ?_))))
   obtain rfl := someI hF
   exact g_retO (rst rfl (rst rfl rs0)) (.cons .z .nil) e5 w5 (nd1 f5_z0.nd nd0) ⟨_, rfl, rfl, f5_z0⟩
  ·
   replace hF := ifF hc6 hF
   refine go_skip (go_endb (go_seq (go_region (gM rfl rfl (gN rfl rfl (gF (fa_107_0 _ _) rfl rfl ?_))))))
   obtain ⟨q7z_0, t7z_0, rfl, f7z0⟩ := f5_z0
   refine gs_unz ?_
   simp only [ca_, na_]
   refine gls 0 ag_105 rfl rfl rfl rfl (gr rfl (r_len rfl (os1 (ot rfl) os0) (fun _ _ => ln_105)) (gA rfl rfl (go_nil (go_seq (go_region (gM rfl rfl (gM rfl rfl ?_)))))))
   obtain ⟨x8, hx8, hF⟩ := obind hF
   refine gs_mkz .u64 rfl hx8 (ot rfl) (ot rfl) ut_105 sz_93 by_93 (by decide) zo_93 (fun b8_ h8 e8 w8 f8_ => gs_pack (fun s => Zmem_Mem h8 bp0 s p0) (.cons .z (.cons .z .nil)) ⟨_, _, rfl, (f7z0.ext e8.kn)⟩ fun z10p y10p => ?_)
   obtain ⟨x9, hx9, hF⟩ := obind hF
   refine kcX EE_fr w8 (.cons .z .nil) rfl of (ops_t rfl (ops_t rfl os0)) hb_115 (s_mem_Mem_add w8 p0 x8 y10p f8_ hx9) ?_
   rintro _ _ h9 e9 w9 ⟨z9_y0, rfl, rfl, f9_0⟩
   simp only [ca_, na_]
   refine go_nil (go_seq (go_region (gM rfl rfl (gA rfl rfl (gAc rfl rfl (go_nil ?_))))))
   obtain rfl := someI hF
   exact g_retO (rst rfl (rst rfl rs0)) (.cons .z .nil) (e5.trans (e8.trans e9)) w9 (nd1 f9_0.nd nd0) ⟨_, rfl, rfl, f9_0⟩
 ·
  rcases Bool.eq_false_or_eq_true (decide (p1 < 0)) with hb4 | hb4
  ·
   replace hF := ifT hb4 hF
   refine go_re 13 (v2 := .bool true) rfl (congrArg Value.bool hb4) (g_no rfl rfl rfl rfl rfl (g_no rfl rfl rfl rfl rfl (g_no rfl rfl rfl rfl rfl (g_no rfl rfl rfl rfl rfl (g_no rfl rfl rfl rfl rfl (g_no rfl rfl rfl rfl rfl (g_no rfl rfl rfl rfl rfl (g_no rfl rfl rfl rfl rfl (gr rfl (r_pkT (ot rfl) (oc rfl)) ?_)))))))))
   obtain rfl := someI hF
   exact Goes.weak (J5 z0 _ (HExt.refl _) hw y0) (Sub.cons (Sub.cons (Sub.cons (Sub.cons (Sub.cons (Sub.nil _) rfl) rfl) rfl) rfl) rfl)
  ·
   replace hF := ifF hb4 hF
   refine go_re 13 (v2 := .bool false) rfl (congrArg Value.bool hb4) (g_do rfl rfl rfl (gM rfl rfl (g_do rfl rfl rfl (gM rfl rfl (g_do rfl rfl rfl (gN rfl rfl (g_do rfl rfl rfl (gF (fa_107_0 _ _) rfl rfl (g_do rfl rfl rfl ?_)))))))))
   obtain ⟨q11z_0, t11z_0, rfl, f11z0⟩ := y0
   refine gs_unz ?_
   simp only [ca_, na_]
   refine gls 0 ag_105 rfl rfl rfl rfl (g_do rfl rfl rfl (gr rfl (r_len rfl (os1 (ot rfl) os0) (fun _ _ => ln_105)) (g_do rfl rfl rfl (gr rfl (r_bin (oc rfl) (ot rfl) rfl) (g_do rfl rfl rfl (gr rfl (r_bin (ot rfl) (ot rfl) rfl) (gr rfl (r_pkF (ot rfl) (ot rfl)) (gs_pack (fun s => Zmem_Mem h bp0 s p0) (.cons .z (.cons .z .nil)) ⟨_, _, rfl, f11z0⟩ fun z12p y12p => ?_))))))))
   obtain rfl := someI hF
   exact Goes.weak (J5 z12p _ (HExt.refl _) hw y12p) (Sub.cons (Sub.cons (Sub.cons (Sub.cons (Sub.cons (Sub.nil _) rfl) rfl) rfl) rfl) rfl)
theorem s_bst_Tree_node {h : Heap} (hw : Wf h) (p0 : Obst_Tree) (p0o0 : Omem_Mem) (p1 : Tbst_node) {bp0 bp0_1 : Nat} {z0 : List Blk} (y0 : Zbst_Tree h bp0 bp0_1 z0 p0 p0o0) {r : Int × Obst_Tree × Omem_Mem} (hF : F_bst_Tree_node p0 p0o0 p1 = some r) :
 EvO EE 91 [pt bp0, .agg #[.string p1.key, .int .i64 p1.top, .int .u64 p1.val, .int .i64 p1.cell]] [z0] h (fun v S h1 => ∃ zy0, v = .int .i64 r.1 ∧ S = [zy0] ∧ Zbst_Tree h1 bp0 bp0_1 zy0 r.2.1 r.2.2) := by
 unfold F_bst_Tree_node at hF
 refine evo_of rfl at_91 rfl rfl ?_
 refine go_seq (go_region (gs_box rfl (ot rfl) rfl (fun b3_3 => gAc rfl rfl (go_nil (go_seq (go_regA1 (L := sq 0 11) (by kernel_rfl) (by kernel_rfl) (fun _ => rfl) (fun b11_4 => go_sop rfl rfl (gM rfl rfl (go_nil (go_sop rfl rfl (gM rfl rfl (go_nil (go_sop rfl rfl (gN rfl rfl (go_nil (go_sop rfl rfl (gF (fa_131_1 _ _) rfl rfl (go_nil (go_sop rfl rfl (gs_front (.s (.s (.z))) ?_))))))))))))))))))))
 obtain ⟨q5z_1, t5z_1, q5z_2, t5z_2, z5z_0, rfl, f5z0, f5z1, f5z2⟩ := y0
 refine gs_unz ?_
 simp only [ca_, na_]
 refine gls 0 ag_128 rfl rfl rfl rfl (go_nil (go_sop rfl rfl (glw 5 ag_127 sz_127 rfl rfl rfl rfl (go_nil (go_sbslice (cs := [.string p1.key, .int .i64 p1.top, .int .u64 p1.val, .int .i64 p1.cell]) rfl rfl rfl (op1 (ot rfl) op0) ut_128 sz_127 zo_127 rfl rfl (.s (.s (.s (.s (.z))))) (go_sop rfl rfl ?_))))))
 obtain ⟨x6, hx6, hF⟩ := obind hF
 obtain ⟨hr6, hz6_⟩ := appL_some hx6; subst x6
 refine gs_front (.s (.z)) (gs_app (rows2 := [[.string p1.key, .int .i64 p1.top, .int .u64 p1.val, .int .i64 p1.cell]]) (R := R_Tbst_node) rfl (os1 (ot rfl) (os1 (ot rfl) os0)) rfl ut_128 sz_127 rfl (by decide) by_127 zo_127 rfl zs_128_128 rfl rfl (first_m (mem_seg 4 rfl) rfl (by decide)) (Rws.one (x := p1) rfl) f5z0 hr6 (fun p6_ tl6 f6_ => go_nil (go_sop rfl rfl (gN rfl rfl (go_nil (go_sop rfl rfl (gF (fa_131_1 _ _) rfl rfl (go_nil (go_sop rfl rfl (gs_store (ot rfl) (ot rfl) sz_128 rfl rfl rfl rfl rfl (.s (.z)) (go_nil (go_snil (go_seq (go_region (gM rfl rfl (gN rfl rfl (gF (fa_131_1 _ _) rfl rfl (gls 1 ag_128 rfl rfl rfl rfl (gr rfl (r_len rfl (os1 (ot rfl) os0) (fun _ _ => ln_128)) (gr rfl (r_bin (ot rfl) (oc rfl) rfl) (gA rfl rfl (go_nil (gs_pack (fun s => Zbst_Tree h bp0 bp0_1 s (⟨(p0.nodes ++ ([p1] : List Tbst_node)), p0.infos⟩ : Obst_Tree) p0o0) (.cons (.s (.z)) (.cons .z (.cons .z (.cons .z .nil)))) ⟨_, _, _, _, _, rfl, f6_, f5z1, f5z2⟩ fun z7p y7p => ?_)))))))))))))))))))))))
 obtain rfl := someI hF
 exact g_retO (rst rfl rs0) (.cons .z .nil) (HExt.refl _) hw (nd1 y7p.nd nd0) ⟨_, rfl, rfl, y7p⟩
theorem s_bst_Tree_leaf {h : Heap} (hw : Wf h) (p0 : Obst_Tree) (p0o0 : Omem_Mem) (p1 : ByteArray) (p2 : Int) (p3 : Int) {bp0 bp0_1 : Nat} {z0 : List Blk} (y0 : Zbst_Tree h bp0 bp0_1 z0 p0 p0o0) {r : Int × Obst_Tree × Omem_Mem} (hF : F_bst_Tree_leaf p0 p0o0 p1 p2 p3 = some r) :
 EvO EE 93 [pt bp0, .string p1, .int .i64 p2, .int .u64 p3] [z0] h (fun v S h1 => ∃ zy0, v = .int .i64 r.1 ∧ S = [zy0] ∧ Zbst_Tree h1 bp0 bp0_1 zy0 r.2.1 r.2.2) := by
 unfold F_bst_Tree_leaf at hF
 refine evo_of rfl at_93 rfl rfl ?_
 refine go_seq (go_region (gAc rfl rfl (go_nil (go_seq (go_region (gM rfl rfl (gM rfl rfl (gM rfl rfl (gM rfl rfl (gr rfl (r_build (op1 (ot rfl) (op1 (ot rfl) (op1 (ot rfl) (op1 (oc rfl) op0)))) rfl) ?_))))))))))
 obtain ⟨x5, hx5, hF⟩ := obind hF
 refine kcX EE_fr hw (.cons .z .nil) rfl of (ops_t rfl (ops_t rfl os0)) hb_91 (s_bst_Tree_node hw p0 p0o0 (⟨p1, p2, p3, (-1)⟩ : Tbst_node) y0 hx5) ?_
 rintro _ _ h5 e5 w5 ⟨z5_y0, rfl, rfl, f5_0⟩
 simp only [ca_, na_]
 refine gA rfl rfl (go_nil ?_)
 obtain rfl := someI hF
 exact g_retO (rst rfl rs0) (.cons .z .nil) e5 w5 (nd1 f5_0.nd nd0) ⟨_, rfl, rfl, f5_0⟩
theorem s_bst_Tree_info {h : Heap} (hw : Wf h) (p0 : Obst_Tree) (p0o0 : Omem_Mem) (p1 : Tbst_info) {bp0 bp0_1 : Nat} {z0 : List Blk} (y0 : Zbst_Tree h bp0 bp0_1 z0 p0 p0o0) {r : Int × Obst_Tree × Omem_Mem} (hF : F_bst_Tree_info p0 p0o0 p1 = some r) :
 EvO EE 90 [pt bp0, .agg #[.int .i64 p1.grand, .int .i64 p1.parent, .int .i64 p1.leaf, .int .i64 p1.next, .int .u64 p1.was]] [z0] h (fun v S h1 => ∃ zy0, v = .int .i64 r.1 ∧ S = [zy0] ∧ Zbst_Tree h1 bp0 bp0_1 zy0 r.2.1 r.2.2) := by
 unfold F_bst_Tree_info at hF
 refine evo_of rfl at_90 rfl rfl ?_
 refine go_seq (go_region (gs_box rfl (ot rfl) rfl (fun b3_3 => gAc rfl rfl (go_nil (go_seq (go_regA1 (L := sq 0 11) (by kernel_rfl) (by kernel_rfl) (fun _ => rfl) (fun b11_4 => go_sop rfl rfl (gM rfl rfl (go_nil (go_sop rfl rfl (gM rfl rfl (go_nil (go_sop rfl rfl (gN rfl rfl (go_nil (go_sop rfl rfl (gF (fa_131_2 _ _) rfl rfl (go_nil (go_sop rfl rfl (gs_front (.s (.s (.z))) ?_))))))))))))))))))))
 obtain ⟨q5z_1, t5z_1, q5z_2, t5z_2, z5z_0, rfl, f5z0, f5z1, f5z2⟩ := y0
 refine gs_unz ?_
 simp only [ca_, na_]
 refine gls 0 ag_129 rfl rfl rfl rfl (go_nil (go_sop rfl rfl (glw 5 ag_155 sz_155 rfl rfl rfl rfl (go_nil (go_sbslice (cs := [.int .i64 p1.grand, .int .i64 p1.parent, .int .i64 p1.leaf, .int .i64 p1.next, .int .u64 p1.was]) rfl rfl rfl (op1 (ot rfl) op0) ut_129 sz_155 zo_155 rfl rfl (.s (.s (.s (.s (.z))))) (go_sop rfl rfl ?_))))))
 obtain ⟨x6, hx6, hF⟩ := obind hF
 obtain ⟨hr6, hz6_⟩ := appL_some hx6; subst x6
 refine gs_front (.s (.s (.z))) (gs_app (rows2 := [[.int .i64 p1.grand, .int .i64 p1.parent, .int .i64 p1.leaf, .int .i64 p1.next, .int .u64 p1.was]]) (R := R_Tbst_info) rfl (os1 (ot rfl) (os1 (ot rfl) os0)) rfl ut_129 sz_155 rfl (by decide) by_155 zo_155 rfl zs_129_129 rfl rfl (first_m (mem_seg 4 rfl) rfl (by decide)) (Rws.one (x := p1) rfl) f5z1 hr6 (fun p6_ tl6 f6_ => go_nil (go_sop rfl rfl (gN rfl rfl (go_nil (go_sop rfl rfl (gF (fa_131_2 _ _) rfl rfl (go_nil (go_sop rfl rfl (gs_store (ot rfl) (ot rfl) sz_129 rfl rfl rfl rfl rfl (.s (.z)) (go_nil (go_snil (go_seq (go_region (gM rfl rfl (gN rfl rfl (gF (fa_131_2 _ _) rfl rfl (gls 1 ag_129 rfl rfl rfl rfl (gr rfl (r_len rfl (os1 (ot rfl) os0) (fun _ _ => ln_129)) (gr rfl (r_bin (ot rfl) (oc rfl) rfl) (gA rfl rfl (go_nil (gs_pack (fun s => Zbst_Tree h bp0 bp0_1 s (⟨p0.nodes, (p0.infos ++ ([p1] : List Tbst_info))⟩ : Obst_Tree) p0o0) (.cons (.s (.z)) (.cons (.s (.z)) (.cons .z (.cons .z .nil)))) ⟨_, _, _, _, _, rfl, f5z0, f6_, f5z2⟩ fun z7p y7p => ?_)))))))))))))))))))))))
 obtain rfl := someI hF
 exact g_retO (rst rfl rs0) (.cons .z .nil) (HExt.refl _) hw (nd1 y7p.nd nd0) ⟨_, rfl, rfl, y7p⟩
theorem s_bst_Tree_grow {rc : RC} (hrc : RCok rc) {h : Heap} (hw : Wf h) (p0 : Obst_Tree) (p0o0 : Omem_Mem) (p1 : Obst_Call) (p4 : Tbst_node) (p5 : Tbst_seen) (p6 : Int) {bp0 bp0_1 : Nat} {z0 : List Blk} {bp1 : Nat} {z1 : List Blk} (y0 : Zbst_Tree h bp0 bp0_1 z0 p0 p0o0) (y1 : Zbst_Call h bp1 z1 p1) {r : _} (hF : F_bst_Tree_grow rc p0 p0o0 p1 p4 p5 p6 = some r) :
 EvO EE 121 [pt bp0, pt bp1, .agg #[.string p4.key, .int .i64 p4.top, .int .u64 p4.val, .int .i64 p4.cell], .agg #[.int .i64 p5.grand, .int .i64 p5.parent, .int .i64 p5.leaf, .int .u64 p5.grandWord, .int .u64 p5.parentWord, .int .i64 p5.turn], .int .i64 p6] [z0, z1] h (fun v S h1 => ∃ zy0 zy1 vr tr, v = vr ∧ S = [zy0, zy1, tr] ∧ Zbst_Tree h1 bp0 bp0_1 zy0 r.2.1 r.2.2.1 ∧ Zbst_Call h1 bp1 zy1 r.2.2.2 ∧ OC h1 bp0 bp1 tr r.1 vr) := by
 unfold F_bst_Tree_grow at hF
 refine evo_of rfl at_121 rfl rfl ?_
 refine go_seq (go_region (gs_box rfl (ot rfl) rfl (fun b5_8 => gs_box rfl (ot rfl) rfl (fun b6_9 => gs_box rfl (ot rfl) rfl (fun b7_10 => gs_box rfl (ot rfl) rfl (fun b8_11 => gs_box rfl (ot rfl) rfl (fun b9_12 => gAc rfl rfl (go_nil (go_seq (go_regA1 (L := sq 0 10) (by kernel_rfl) (by kernel_rfl) (fun _ => rfl) (fun b11_13 => go_sop rfl rfl (gls 5 ag_61 rfl rfl rfl rfl (go_nil (go_sop rfl rfl (gN rfl rfl (go_nil (go_sop rfl rfl (gF (fa_131_1 _ _) rfl rfl (go_nil (go_sop rfl rfl (gs_front (.s (.s (.s (.s (.s (.s (.z))))))) ?_)))))))))))))))))))))
 obtain ⟨q14z_1, t14z_1, q14z_2, t14z_2, z14z_0, rfl, f14z0, f14z1, f14z2⟩ := y0
 refine gs_unz ?_
 simp only [ca_, na_]
 refine gls 0 ag_128 rfl rfl rfl rfl (go_nil (go_sop rfl rfl (gF (fa_138_2 _ _) rfl rfl (go_nil (go_sop rfl rfl (gls 6 ag_3 rfl rfl rfl rfl (go_nil (go_sop rfl rfl ?_))))))))
 obtain ⟨x15, hx15, hF⟩ := obind hF
 obtain ⟨bb15, rw15, row15, hp15, ht15, hR15, hw15, rc15, hz15, hi15, hd15, hb15, hl15⟩ := AccR.at_ f14z0 hx15
 have hF15_ := hF
 subst hp15; subst ht15
 replace hF := hF15_
 obtain rfl := rc15
 refine gr rfl (r_ia (ot rfl) (ot rfl) (ia_acc (k := 4) ut_128 sz_127 hz15 hi15)) (go_nil (go_sop rfl rfl (gr rfl (r_load (ot rfl) (lm_a (vs := [.string x15.key, .int .i64 x15.top, .int .u64 x15.val, .int .i64 x15.cell]) (mem_seg 1 rfl) ag_127 sz_127 (Nat.ble_eq_true_of_le hb15) hd15)) (go_nil (go_salloc rfl rfl rfl zo_127 rfl (.s (.s (.s (.s (.z))))) (go_sop rfl rfl (gs_store (ot rfl) (ot rfl) sz_127 rfl rfl rfl rfl rfl (.s (.s (.s (.s (.z))))) (go_nil (go_snil (go_seq (go_regA2 (L := sq 0 5 ++ sq 6 7 ++ [(5, [6, 8, 10, 12])] ++ sq 13 5) (by kernel_rfl) (by kernel_rfl) (fun _ => rfl) (fun b12_16 b13_16 => go_sop rfl rfl (gls 11 ag_61 rfl rfl rfl rfl (go_nil (go_sop rfl rfl (gF (fa_127_0 _ _) rfl rfl (go_nil (go_sop rfl rfl (gls 9 ag_9 rfl rfl rfl rfl (go_nil (go_sop rfl rfl (gF (fa_127_2 _ _) rfl rfl (go_nil ?_)))))))))))))))))))))))
 refine go_sop rfl rfl (gls 9 ag_93 rfl rfl rfl rfl (go_nil (go_sop rfl rfl (gls 11 ag_61 rfl rfl rfl rfl (go_nil (go_sop rfl rfl (gF (fa_127_0 _ _) rfl rfl (go_nil (go_sop rfl rfl (gls 6 ag_9 rfl rfl rfl rfl (go_nil (go_sop rfl rfl (gF (fa_127_1 _ _) rfl rfl (go_nil (go_sop rfl rfl (gls 6 ag_3 rfl rfl rfl rfl (go_nil (go_sop rfl rfl (gF (fa_127_2 _ _) rfl rfl (go_nil (go_sop rfl rfl (gls 6 ag_93 rfl rfl rfl rfl (go_nil ?_)))))))))))))))))))))))
 refine go_sopc [(6, pt bp0), (8, .string x15.key), (10, .int .i64 x15.top), (12, .int .u64 x15.val)] rfl rfl rfl (rc1 rfl (r_load (ot rfl) (lm_s (mem_seg 11 rfl) ag_61 rfl)) (rc1 rfl (r_load (ot rfl) (lm_s (mem_seg 6 rfl) ag_9 rfl)) (rc1 rfl (r_load (ot rfl) (lm_s (mem_seg 6 rfl) ag_3 rfl)) (rc1 rfl (r_load (ot rfl) (lm_s (mem_seg 6 rfl) ag_93 rfl)) rc0)))) (vq1 (veq_ptr _ _) (vq1 (veq_str _ _) (vq1 (veq_int _ _ _) (vq1 (veq_int _ _ _) vq0)))) rfl (gs_pack (fun s => Zbst_Tree h bp0 bp0_1 s p0 p0o0) (.cons (.s (.s (.z))) (.cons (.s (.s (.z))) (.cons (.s (.s (.z))) (.cons (.s (.s (.z))) .nil)))) ⟨_, _, _, _, _, rfl, f14z0, f14z1, f14z2⟩ fun z18p y18p => ?_)
 obtain ⟨x17, hx17, hF⟩ := obind hF
 refine kcX EE_fr hw (.cons .z .nil) rfl of (ops_t rfl (ops_t rfl (ops_c rfl (ops_t rfl os0)))) hb_93 (s_bst_Tree_leaf hw p0 p0o0 p4.key 0 p4.val y18p hx17) ?_
 rintro _ _ h17 e17 w17 ⟨z17_y0, rfl, rfl, f17_0⟩
 simp only [ca_, na_]
 refine go_nil (go_rck (rcs 8 ag_61 rfl rfl rfl rfl (rcs 3 ag_9 rfl rfl rfl rfl (rcs 3 ag_3 rfl rfl rfl rfl (rcs 3 ag_93 rfl rfl rfl rfl rc0)))) (go_sop rfl rfl ?_))
 obtain ⟨x19, hx19, hF⟩ := obind hF
 refine kcX EE_fr w17 (.cons .z .nil) rfl of (ops_t rfl (ops_t rfl (ops_t rfl (ops_t rfl os0)))) hb_93 (s_bst_Tree_leaf w17 x17.2.1 x17.2.2 x15.key x15.top x15.val f17_0 hx19) ?_
 rintro _ _ h19 e19 w19 ⟨z19_y0, rfl, rfl, f19_0⟩
 simp only [ca_, na_]
 refine go_nil (go_salloc rfl rfl rfl zo_3 rfl (.s (.s (.z))) (go_salloc rfl rfl rfl zo_3 rfl (.s (.z)) (go_sop rfl rfl (gs_store (ot rfl) (ot rfl) sz_3 rfl rfl rfl rfl rfl (.s (.s (.z))) (go_nil (go_sop rfl rfl (gs_store (ot rfl) (ot rfl) sz_3 rfl rfl rfl rfl rfl (.s (.z)) (go_nil (go_snil (go_seq (go_region (glw 3 ag_127 sz_127 rfl rfl rfl rfl (gs_alloc rfl zo_127 rfl (fun b14_20 => gs_store (ot rfl) (ot rfl) sz_127 rfl rfl rfl rfl rfl .z (go_nil (go_seq (go_seq (go_region (glw 4 ag_127 sz_127 rfl rfl rfl rfl (glw 7 ag_127 sz_127 rfl rfl rfl rfl ?_))))))))))))))))))))
 obtain ⟨x21, hx21, hF⟩ := obind hF
 refine g_callp (v := .bool x21) EE_fr rfl of (os1 (ot rfl) (os1 (ot rfl) os0)) hb_111 (fun _ => rfl) (fun hf kn w => by exact s_bst_node_less w x15 p4  hx21) (go_nil ?_)
 obtain ⟨s23, hF, hK23⟩ := obind hF
 refine go_joinc (β := Unit) (fun s h' => True) (fun s => [(5, true, pt b5_8), (6, true, pt b6_9), (7, true, pt b7_10), (8, true, pt b8_11), (9, true, pt b9_12), (10, true, .nilFunc), (12, true, pt b12_16), (13, true, pt b13_16), (14, true, pt b14_20)]) (fun s => (List.flatten [[⟨b14_20, .cells [.string s23.1, .int .i64 s23.2.1, .int .u64 s23.2.2.1, .int .i64 s23.2.2.2.1] 127⟩], z19_y0, [⟨b13_16, .cells [.int .i64 s23.2.2.2.2.1] 3⟩], [⟨b12_16, .cells [.int .i64 s23.2.2.2.2.2] 3⟩], [⟨b11_13, .cells [.string x15.key, .int .i64 x15.top, .int .u64 x15.val, .int .i64 x15.cell] 127⟩], [⟨b9_12, .cells [.int .i64 p6] 3⟩], [⟨b8_11, .cells [.int .i64 p5.grand, .int .i64 p5.parent, .int .i64 p5.leaf, .int .u64 p5.grandWord, .int .u64 p5.parentWord, .int .i64 p5.turn] 138⟩], [⟨b7_10, .cells [.string p4.key, .int .i64 p4.top, .int .u64 p4.val, .int .i64 p4.cell] 127⟩], [⟨b6_9, .cells [pt bp1] 85⟩], [⟨b5_8, .cells [pt bp0] 61⟩], z1] : List Blk)) ?_ (fun J23 => ?_)
 ·
  rintro _ h23 e23 w23 _
  replace hF := hK23
  refine go_seq (go_regA1 (L := sq 0 12 ++ [(12, [0, 2, 4])] ++ sq 13 4) (by kernel_rfl) (by kernel_rfl) (fun _ => rfl) (fun b15_24 => go_sop rfl rfl (gls 10 ag_61 rfl rfl rfl rfl (go_nil (go_sop rfl rfl (gF (fa_138_1 _ _) rfl rfl (go_nil (go_sop rfl rfl (gls 7 ag_3 rfl rfl rfl rfl (go_nil (go_sop rfl rfl (gF (fa_138_2 _ _) rfl rfl (go_nil (go_sop rfl rfl (gls 7 ag_3 rfl rfl rfl rfl (go_nil (go_sop rfl rfl (gls 10 ag_61 rfl rfl rfl rfl (go_nil (go_sop rfl rfl (gF (fa_127_0 _ _) rfl rfl (go_nil (go_sop rfl rfl ?_)))))))))))))))))))))))
  refine gls 1 ag_9 rfl rfl rfl rfl (go_nil (go_sop rfl rfl (gF (fa_127_1 _ _) rfl rfl (go_nil (go_sop rfl rfl (gls 1 ag_3 rfl rfl rfl rfl (go_nil (go_sop rfl rfl (gls 6 ag_3 rfl rfl rfl rfl (go_nil (go_sop rfl rfl (gr rfl (r_build (op1 (ot rfl) (op1 (ot rfl) (op1 (ot rfl) op0))) rfl) (go_nil (go_sopc [(0, pt bp0), (2, .int .i64 p5.parent), (4, .int .i64 p5.leaf)] rfl rfl rfl (rc1 rfl (r_load (ot rfl) (lm_s (mem_seg 10 rfl) ag_61 rfl)) (rc1 rfl (r_load (ot rfl) (lm_s (mem_seg 7 rfl) ag_3 rfl)) (rc1 rfl (r_load (ot rfl) (lm_s (mem_seg 7 rfl) ag_3 rfl)) rc0))) (vq1 (veq_ptr _ _) (vq1 (veq_int _ _ _) (vq1 (veq_int _ _ _) vq0))) rfl ?_))))))))))))))
  obtain ⟨x25, hx25, hF⟩ := obind hF
  refine kcX EE_fr w23 (.cons (.s (.s (.z))) .nil) rfl of (ops_t rfl (ops_t rfl os0)) hb_91 (s_bst_Tree_node w23 x19.2.1 x19.2.2 (⟨s23.1, s23.2.1, 0, p6⟩ : Tbst_node) (f19_0.ext e23.kn) hx25) ?_
  rintro _ _ h25 e25 w25 ⟨z25_y0, rfl, rfl, f25_0⟩
  simp only [ca_, na_]
  refine go_nil (go_rck (rcs 10 ag_61 rfl rfl rfl rfl (rcs 7 ag_3 rfl rfl rfl rfl (rcs 7 ag_3 rfl rfl rfl rfl rc0))) (go_sop rfl rfl (gr rfl (r_build (op1 (ot rfl) (op1 (ot rfl) (op1 (ot rfl) op0))) rfl) (go_nil (go_sop rfl rfl ?_)))))
  obtain ⟨x26, hx26, hF⟩ := obind hF
  refine kcX EE_fr w25 (.cons .z .nil) rfl of (ops_t rfl (ops_t rfl os0)) hb_90 (s_bst_Tree_info w25 x25.2.1 x25.2.2 (⟨0, p5.parent, p5.leaf, x25.1, 0⟩ : Tbst_info) f25_0 hx26) ?_
  rintro _ _ h26 e26 w26 ⟨z26_y0, rfl, rfl, f26_0⟩
  simp only [ca_, na_]
  refine go_nil (go_salloc rfl rfl rfl zo_3 rfl (.s (.z)) (go_sop rfl rfl (gs_store (ot rfl) (ot rfl) sz_3 rfl rfl rfl rfl rfl (.s (.z)) (go_nil (go_snil (go_seq (go_region (gr rfl (r_func os0 (os1 (ot rfl) (os1 (ot rfl) (os1 (ot rfl) (os1 (ot rfl) (os1 (ot rfl) (os1 (ot rfl) (os1 (ot rfl) (os1 (ot rfl) os0))))))))) (gA rfl rfl (go_nil (gs_pub (.s (.s (.s (.s (.s (.s (.s (.s (.s (.s (.z))))))))))) (fun h27 e27 w27 hb27 => ?_))))))))))))
  have g27_ : BK h27 b5_8 [pt bp0] 61 := hb27
  refine gs_pub (.s (.s (.s (.s (.s (.s (.z))))))) (fun h28 e28 w28 hb28 => ?_)
  have g28_ : BK h28 b9_12 [.int .i64 p6] 3 := hb28
  refine gs_pub (.s (.s (.s (.s (.z))))) (fun h29 e29 w29 hb29 => ?_)
  have g29_ : BK h29 b12_16 [.int .i64 s23.2.2.2.2.2] 3 := hb29
  refine gs_pub (.s (.s (.s (.z)))) (fun h30 e30 w30 hb30 => ?_)
  have g30_ : BK h30 b13_16 [.int .i64 s23.2.2.2.2.1] 3 := hb30
  refine gs_pub (.s (.s (.s (.s (.z))))) (fun h31 e31 w31 hb31 => ?_)
  have g31_ : BK h31 b8_11 [.int .i64 p5.grand, .int .i64 p5.parent, .int .i64 p5.leaf, .int .u64 p5.grandWord, .int .u64 p5.parentWord, .int .i64 p5.turn] 138 := hb31
  refine gs_pub (.s (.z)) (fun h32 e32 w32 hb32 => ?_)
  have g32_ : BK h32 b15_24 [.int .i64 x26.1] 3 := hb32
  refine gs_pub (.s (.s (.s (.s (.z))))) (fun h33 e33 w33 hb33 => ?_)
  have g33_ : BK h33 b6_9 [pt bp1] 85 := hb33
  refine gs_pub (.s (.s (.s (.z)))) (fun h34 e34 w34 hb34 => ?_)
  have g34_ : BK h34 b7_10 [.string p4.key, .int .i64 p4.top, .int .u64 p4.val, .int .i64 p4.cell] 127 := hb34
  have co35 : CO h34 bp0 bp1 [] (Clo.c_grow_1 p6 s23.2.2.2.2.2 s23.2.2.2.2.1 p5 x26.1 p4) (.func (.func 143) #[] #[pt b5_8, pt b9_12, pt b12_16, pt b13_16, pt b8_11, pt b15_24, pt b6_9, pt b7_10]) := CO.c_grow_1 (((((((g27_.ext e28.kn).ext e29.kn).ext e30.kn).ext e31.kn).ext e32.kn).ext e33.kn).ext e34.kn) ((((((g28_.ext e29.kn).ext e30.kn).ext e31.kn).ext e32.kn).ext e33.kn).ext e34.kn) (((((g29_.ext e30.kn).ext e31.kn).ext e32.kn).ext e33.kn).ext e34.kn) ((((g30_.ext e31.kn).ext e32.kn).ext e33.kn).ext e34.kn) (((g31_.ext e32.kn).ext e33.kn).ext e34.kn) ((g32_.ext e33.kn).ext e34.kn) (g33_.ext e34.kn) g34_
  obtain rfl := someI hF
  exact g_retO (rst rfl rs0) (.cons .z (.cons (.s (.s (.z))) (.emp .nil))) (e17.trans (e19.trans (e23.trans (e25.trans (e26.trans (e27.trans (e28.trans (e29.trans (e30.trans (e31.trans (e32.trans (e33.trans e34)))))))))))) w34 (nd1 ((((((((f26_0.ext e27.kn).ext e28.kn).ext e29.kn).ext e30.kn).ext e31.kn).ext e32.kn).ext e33.kn).ext e34.kn).nd (nd1 (((((((((((((y1.ext e17.kn).ext e19.kn).ext e23.kn).ext e25.kn).ext e26.kn).ext e27.kn).ext e28.kn).ext e29.kn).ext e30.kn).ext e31.kn).ext e32.kn).ext e33.kn).ext e34.kn).nd (nde nd0))) ⟨_, _, _, _, rfl, rfl, ((((((((f26_0.ext e27.kn).ext e28.kn).ext e29.kn).ext e30.kn).ext e31.kn).ext e32.kn).ext e33.kn).ext e34.kn), (((((((((((((y1.ext e17.kn).ext e19.kn).ext e23.kn).ext e25.kn).ext e26.kn).ext e27.kn).ext e28.kn).ext e29.kn).ext e30.kn).ext e31.kn).ext e32.kn).ext e33.kn).ext e34.kn), (OC.some co35)⟩
 ·
  refine g_cond (b := x21) (ot rfl) (fun hc22 => ?_) (fun hc22 => ?_)
  ·
   replace hF := ifT hc22 hF
   refine go_regions (L := sq 0 3 ++ [(3, [2]), (4, [2]), (5, [])]) (by kernel_rfl) (by kernel_rfl) (fun _ => rfl) (go_sop rfl rfl (gls 2 ag_3 rfl rfl rfl rfl (go_nil (go_sop rfl rfl (gls 3 ag_3 rfl rfl rfl rfl (go_nil (go_sop rfl rfl (glw 7 ag_127 sz_127 rfl rfl rfl rfl (go_nil (go_sopc [(2, .agg #[.string p4.key, .int .i64 p4.top, .int .u64 p4.val, .int .i64 p4.cell])] rfl rfl rfl (rc1 rfl (r_load (ot rfl) (lm_w (mem_seg 7 rfl) ag_127 sz_127 rfl)) rc0) (vq1 (veq_agg _ _ (va1 (veq_str _ _) (va1 (veq_int _ _ _) (va1 (veq_int _ _ _) (va1 (veq_int _ _ _) (va0 _)))))) vq0) rfl (gs_store (ot rfl) (ot rfl) sz_3 rfl rfl rfl rfl rfl (.s (.s (.s (.z)))) (go_nil (go_rck (rc1 rfl (r_load (ot rfl) (lm_w (mem_seg 7 rfl) ag_127 sz_127 rfl)) rc0) (go_sopc [(2, .agg #[.string p4.key, .int .i64 p4.top, .int .u64 p4.val, .int .i64 p4.cell])] rfl rfl rfl (rc1 rfl (r_load (ot rfl) (lm_w (mem_seg 7 rfl) ag_127 sz_127 rfl)) rc0) (vq1 (veq_agg _ _ (va1 (veq_str _ _) (va1 (veq_int _ _ _) (va1 (veq_int _ _ _) (va1 (veq_int _ _ _) (va0 _)))))) vq0) rfl (gs_store (ot rfl) (ot rfl) sz_3 rfl rfl rfl rfl rfl (.s (.s (.z))) (go_nil (go_rck (rc1 rfl (r_load (ot rfl) (lm_w (mem_seg 7 rfl) ag_127 sz_127 rfl)) rc0) (go_sop rfl rfl (gs_store (ot rfl) (ot rfl) sz_127 rfl rfl rfl rfl rfl .z (go_nil (go_snil ?_)))))))))))))))))))))
   obtain rfl := someI hF
   exact Goes.weak (J23 () _ (HExt.refl _) w19 trivial) (Sub8 (Sub.cons (Sub.nil _) rfl) rfl rfl rfl rfl rfl rfl rfl rfl)
  ·
   replace hF := ifF hc22 hF
   refine go_skip ?_
   obtain rfl := someI hF
   exact Goes.weak (J23 () _ (HExt.refl _) w19 trivial) (Sub8 (Sub.cons (Sub.nil _) rfl) rfl rfl rfl rfl rfl rfl rfl rfl)
theorem s_bst_Tree_insert_2 {rc : RC} (hrc : RCok rc) {h : Heap} (hw : Wf h) (p0 : Obst_Tree) (p0o0 : Omem_Mem) (p1 : Obst_Call) (p2 : Tbst_seen) (p4 : Tbst_node) (p6 : Clo) {bp0 bp0_1 : Nat} {z0 : List Blk} {bp1 : Nat} {z1 : List Blk} {b3 : Nat} {b4 : Nat} {b5 : Nat} {b6 : Nat} {v6 : Value} (y0 : Zbst_Tree h bp0 bp0_1 z0 p0 p0o0) (y1 : Zbst_Call h bp1 z1 p1) (g3 : BK h b3 [pt bp0] 61) (g4 : BK h b4 [.string p4.key, .int .i64 p4.top, .int .u64 p4.val, .int .i64 p4.cell] 127) (g5 : BK h b5 [pt bp1] 85) (g6 : BK h b6 [v6] 134) (c6 : CO h bp0 bp1 [] p6 v6) {r : _} (hF : F_bst_Tree_insert_2 rc p0 p0o0 p1 p2 p4 p6 = some r) :
 EvO EE 118 [.agg #[.int .i64 p2.grand, .int .i64 p2.parent, .int .i64 p2.leaf, .int .u64 p2.grandWord, .int .u64 p2.parentWord, .int .i64 p2.turn], pt b3, pt b4, pt b5, pt b6] [z0, z1] h (fun v S h1 => ∃ zy0 zy1 vr tr, v = vr ∧ S = [zy0, zy1, tr] ∧ Zbst_Tree h1 bp0 bp0_1 zy0 r.2.1 r.2.2.1 ∧ Zbst_Call h1 bp1 zy1 r.2.2.2 ∧ OC h1 bp0 bp1 tr r.1 vr) := by
 unfold F_bst_Tree_insert_2 at hF
 refine evo_of rfl at_118 rfl rfl ?_
 refine go_seq (go_region (gs_box rfl (ot rfl) rfl (fun b5_8 => gAc rfl rfl (go_nil (go_seq (go_block (go_seq (go_region (glc ag_61 g3 rfl rfl rfl (gF (fa_138_2 _ _) rfl rfl (gls 0 ag_3 rfl rfl rfl rfl (glb ag_127 sz_127 g4 rfl rfl rfl ?_))))))))))))
 obtain ⟨x9, hx9, hF⟩ := obind hF
 refine kcX EE_fr hw (.cons (.s (.z)) .nil) rfl of (ops_t rfl (ops_t rfl (ops_t rfl os0))) hb_75 (s_bst_Tree_is hw p0 p0o0 p2.leaf p4 y0 hx9) ?_
 rintro _ _ h9 e9 w9 ⟨z9_y0, rfl, rfl, f9_0⟩
 simp only [ca_, na_]
 refine gA rfl rfl (go_nil ?_)
 refine g_cond (b := x9.1) (ot rfl) (fun hc10 => ?_) (fun hc10 => ?_)
 ·
  replace hF := ifT hc10 hF
  refine go_seq (go_regions (L := sq 0 12) (by kernel_rfl) (by kernel_rfl) (fun _ => rfl) (go_sop rfl rfl (glc ag_85 (g5.ext e9.kn) rfl rfl rfl (go_nil (go_sop rfl rfl (glc ag_61 (g3.ext e9.kn) rfl rfl rfl (go_nil (go_sop rfl rfl (gN rfl rfl (go_nil (go_sop rfl rfl (gF (fa_131_1 _ _) rfl rfl (go_nil (go_sop rfl rfl ?_))))))))))))))
  obtain ⟨q11z_1, t11z_1, q11z_2, t11z_2, z11z_0, rfl, f11z0, f11z1, f11z2⟩ := f9_0
  refine gs_unz ?_
  simp only [ca_, na_]
  refine gls 0 ag_128 rfl rfl rfl rfl (go_nil (go_sop rfl rfl (gF (fa_138_2 _ _) rfl rfl (go_nil (go_sop rfl rfl (gls 4 ag_3 rfl rfl rfl rfl (go_nil (go_sop rfl rfl ?_))))))))
  obtain ⟨x12, hx12, hF⟩ := obind hF
  obtain ⟨bb12, rw12, row12, hp12, ht12, hR12, hw12, rc12, hz12, hi12, hd12, hb12, hl12⟩ := AccR.at_ f11z0 hx12
  have hF12_ := hF
  subst hp12; subst ht12
  replace hF := hF12_
  obtain rfl := rc12
  refine gr rfl (r_ia (ot rfl) (ot rfl) (ia_acc (k := 4) ut_128 sz_127 hz12 hi12)) (go_nil (go_sop rfl rfl (gF (fa_127_2 _ _) rfl rfl (go_nil (go_sop rfl rfl (gr rfl (r_load (ot rfl) (lm_s (mem_seg 1 rfl) ag_93 (acc_cell (j := 2) hd12 rfl))) (go_nil (go_sop rfl rfl (gs_pack (fun s => Zbst_Tree h9 bp0 bp0_1 s x9.2.1 x9.2.2) (.cons .z (.cons .z (.cons .z (.cons .z .nil)))) ⟨_, _, _, _, _, rfl, f11z0, f11z1, f11z2⟩ fun z14p y14p => ?_)))))))))
  obtain ⟨x13, hx13, hF⟩ := obind hF
  refine kcX EE_fr w9 (.cons .z (.cons (.s (.z)) .nil)) rfl of (ops_t rfl (ops_c rfl (ops_t rfl os0))) hb_76 (s_bst_Call_tell hrc w9 x9.2.1 x9.2.2 p1 false x12.val y14p (y1.ext e9.kn) hx13) ?_
  rintro _ _ h13 e13 w13 ⟨z13_y0, z13_y1, v13_r, t13_r, rfl, rfl, f13_0, f13_1, f13_2⟩
  simp only [ca_, na_]
  refine go_nil (go_sop rfl rfl (gA rfl rfl (go_nil (go_snil ?_))))
  obtain rfl := someI hF
  exact g_retO (rst rfl rs0) (.cons .z (.cons .z (.cons .z .nil))) (e9.trans e13) w13 (nd1 f13_0.nd (nd1 f13_1.nd (ndc f13_2 nd0))) ⟨_, _, _, _, rfl, rfl, f13_0, f13_1, f13_2⟩
 ·
  replace hF := ifF hc10 hF
  refine go_seq (go_region (gF (fa_138_4 _ _) rfl rfl (gls 1 ag_93 rfl rfl rfl rfl ?_)))
  obtain ⟨x15, hx15, hF⟩ := obind hF
  refine g_callp (v := .int .i64 x15) EE_fr rfl of (os1 (ot rfl) os0) hb_119 (fun _ => rfl) (fun hf kn w => by exact s_word_State w p2.parentWord  hx15) (gr rfl (r_bin (ot rfl) (oc rfl) rfl) (gA rfl rfl (go_nil ?_)))
  refine g_cond (b := (x15 != 0)) (ot rfl) (fun hc16 => ?_) (fun hc16 => ?_)
  ·
   replace hF := ifT hc16 hF
   refine go_seq (go_region (glc ag_61 (g3.ext e9.kn) rfl rfl rfl (gF (fa_138_4 _ _) rfl rfl (gls 1 ag_93 rfl rfl rfl rfl (glc ag_134 (g6.ext e9.kn) rfl rfl rfl ?_)))))
   obtain ⟨x17, hx17, hF⟩ := obind hF
   refine kcX EE_fr w9 (.cons .z (.cons (.s (.z)) .nil)) rfl of (ops_t rfl (ops_t rfl (ops_t rfl os0))) hb_120 (s_bst_Tree_help hrc w9 x9.2.1 x9.2.2 p1 p2.parentWord p6 f9_0 (y1.ext e9.kn) (c6.ext e9.kn) hx17) ?_
   rintro _ _ h17 e17 w17 ⟨z17_y0, z17_y1, v17_r, t17_r, rfl, rfl, f17_0, f17_1, f17_2⟩
   simp only [ca_, na_]
   refine gA rfl rfl (go_nil ?_)
   obtain rfl := someI hF
   exact g_retO (rst rfl rs0) (.cons .z (.cons .z (.cons .z .nil))) (e9.trans e17) w17 (nd1 f17_0.nd (nd1 f17_1.nd (ndc f17_2 nd0))) ⟨_, _, _, _, rfl, rfl, f17_0, f17_1, f17_2⟩
  ·
   replace hF := ifF hc16 hF
   refine go_skip (go_endb (go_seq (go_region (glc ag_61 (g3.ext e9.kn) rfl rfl rfl (gN rfl rfl (gF (fa_131_0 _ _) rfl rfl ?_))))))
   obtain ⟨q18z_1, t18z_1, q18z_2, t18z_2, z18z_0, rfl, f18z0, f18z1, f18z2⟩ := f9_0
   refine gs_unz ?_
   simp only [ca_, na_]
   refine gls 0 ag_51 rfl rfl rfl rfl ?_
   obtain ⟨x19, hx19, hF⟩ := obind hF
   refine kcX EE_fr w9 (.cons (.s (.s (.s (.z)))) .nil) rfl of (ops_t rfl (ops_c rfl os0)) hb_89 (s_mem_Mem_Grow w9 x9.2.2 3 f18z2 hx19) ?_
   rintro _ _ h19 e19 w19 ⟨z19_y0, rfl, rfl, f19_0⟩
   simp only [ca_, na_]
   refine gM rfl rfl (gE rfl rfl rfl (gE rfl rfl rfl (gA rfl rfl (gA rfl rfl (go_nil (go_seq (go_seq (go_region (gM rfl rfl (gr rfl (r_bin (ot rfl) (oc rfl) rfl) (go_nil ?_)))))))))))
   refine g_cond (b := (x19.2.1 != 0)) (ot rfl) (fun hc20 => ?_) (fun hc20 => ?_)
   ·
    replace hF := ifT hc20 hF
    refine go_seq (go_region (glc ag_85 ((g5.ext e9.kn).ext e19.kn) rfl rfl rfl (gF (fa_127_0 _ _) rfl rfl (glc ag_9 ((g4.ext e9.kn).ext e19.kn) rfl rfl rfl (gM rfl rfl (gr rfl (r_build (op1 (ot rfl) (op1 (ot rfl) op0)) rfl) (gN rfl rfl (gF (fa_146_0 _ _) rfl rfl (gs_front (.s (.s (.s (.s (.s (.z)))))) ?_)))))))))
    obtain ⟨v21z_4, rfl⟩ := ((y1.ext e9.kn).ext e19.kn)
    refine gs_unz ?_
    simp only [ca_, na_]
    refine gs_store (ot rfl) (ot rfl) sz_95 rfl rfl rfl rfl rfl .z (go_nil (go_seq (go_region (gAc rfl rfl (go_nil (gs_pack (fun s => Zbst_Tree h19 bp0 bp0_1 s x9.2.1 x19.2.2) (.cons (.s (.s (.z))) (.cons (.s (.s (.z))) (.cons (.s (.s (.z))) (.cons (.s (.z)) .nil)))) ⟨_, _, _, _, _, rfl, (f18z0.ext e19.kn), (f18z1.ext e19.kn), f19_0⟩ fun z22p y22p => (gs_pack (fun s => Zbst_Call h19 bp1 s (⟨false, p4.key, 0, x19.2.1⟩ : Obst_Call)) (.cons (.s (.z)) .nil) ⟨_, rfl⟩ fun z23p y23p => ?_)))))))
    obtain rfl := someI hF
    exact g_retO (rst rfl rs0) (.cons (.s (.z)) (.cons .z (.emp .nil))) (e9.trans e19) w19 (nd1 y22p.nd (nd1 y23p.nd (nde nd0))) ⟨_, _, _, _, rfl, rfl, y22p, y23p, OC.none⟩
   ·
    replace hF := ifF hc20 hF
    refine go_skip (go_seq (go_region (glc ag_61 ((g3.ext e9.kn).ext e19.kn) rfl rfl rfl (glc ag_85 ((g5.ext e9.kn).ext e19.kn) rfl rfl rfl (glb ag_127 sz_127 ((g4.ext e9.kn).ext e19.kn) rfl rfl rfl (glw 4 ag_138 sz_138 rfl rfl rfl rfl (gM rfl rfl (gs_pack (fun s => Zbst_Tree h19 bp0 bp0_1 s x9.2.1 x19.2.2) (.cons (.s (.z)) (.cons (.s (.z)) (.cons (.s (.z)) (.cons .z .nil)))) ⟨_, _, _, _, _, rfl, (f18z0.ext e19.kn), (f18z1.ext e19.kn), f19_0⟩ fun z25p y25p => ?_))))))))
    obtain ⟨x24, hx24, hF⟩ := obind hF
    refine kcX EE_fr w19 (.cons .z (.cons (.s (.z)) .nil)) rfl of (ops_t rfl (ops_t rfl (ops_t rfl (ops_t rfl (ops_t rfl os0))))) hb_121 (s_bst_Tree_grow hrc w19 x9.2.1 x19.2.2 p1 p4 p2 x19.1 y25p ((y1.ext e9.kn).ext e19.kn) hx24) ?_
    rintro _ _ h24 e24 w24 ⟨z24_y0, z24_y1, v24_r, t24_r, rfl, rfl, f24_0, f24_1, f24_2⟩
    simp only [ca_, na_]
    refine gA rfl rfl (go_nil ?_)
    obtain rfl := someI hF
    exact g_retO (rst rfl rs0) (.cons .z (.cons .z (.cons .z .nil))) (e9.trans (e19.trans e24)) w24 (nd1 f24_0.nd (nd1 f24_1.nd (ndc f24_2 nd0))) ⟨_, _, _, _, rfl, rfl, f24_0, f24_1, f24_2⟩
theorem s_mem_Mem_Load {h : Heap} (hw : Wf h) (p0 : Omem_Mem) (p1 : Int) {bp0 : Nat} {z0 : List Blk} (y0 : Zmem_Mem h bp0 z0 p0) {r : Int × Int × Omem_Mem} (hF : F_mem_Mem_Load p0 p1 = some r) :
 EvO EE 79 [pt bp0, .int .i64 p1] [z0] h (fun v S h1 => ∃ zy0, v = .tuple #[.int .u64 r.1, .int .i64 r.2.1] ∧ S = [zy0] ∧ Zmem_Mem h1 bp0 zy0 r.2.2) := by
 unfold F_mem_Mem_Load at hF
 refine evo_of rfl at_79 rfl rfl ?_
 refine go_seq (go_region (gAc rfl rfl (gAc rfl rfl (go_nil (go_seq (go_region (gM rfl rfl (gM rfl rfl ?_))))))))
 obtain ⟨q4z_0, t4z_0, rfl, f4z0⟩ := y0
 refine gs_unz ?_
 simp only [ca_, na_]
 cases hx3 : getI p0.cells p1 with
 | none =>
  rw [hx3] at hF
  dsimp only at hF
  refine kcX EE_fr hw (.cons .z .nil) rfl of (ops_t rfl (ops_t rfl os0)) hb_107 (s_mem_at_bad hw (getI_bad hx3)) ?_
  rintro _ _ h3 e3 w3 ⟨rfl, rfl⟩
  simp only [ca_, na_]
  refine gA rfl rfl (go_nil (go_seq (go_seq (go_region (gM rfl rfl (gr rfl (r_bin (v := .bool true) (ot rfl) (oc rfl) (by first | rfl | kernel_rfl)) (go_nil ?_)))))))
  refine g_cond (b := true) (ot rfl) (fun hc5 => ?_) (fun hc5 => ?_)
  rotate_left
  ·
   cases hc5
  refine go_seq (go_region (gAc rfl rfl (gAc rfl rfl (go_nil (gs_pack (fun s => Zmem_Mem h3 bp0 s p0) (.cons .z (.cons .z .nil)) ⟨_, _, rfl, (f4z0.ext e3.kn)⟩ fun z6p y6p => ?_)))))
  obtain rfl := someI hF
  exact g_retO (rst rfl (rst rfl rs0)) (.cons .z .nil) e3 w3 (nd1 y6p.nd nd0) ⟨_, rfl, rfl, y6p⟩
 | some x3 =>
  rw [hx3] at hF
  dsimp only at hF
  obtain ⟨bb3, rw3, row3, hp3, ht3, hR3, hw3, rc3, hz3, hi3, hd3, hb3, hl3⟩ := AccR.at_ f4z0 hx3
  have hF3_ := hF
  subst hp3; subst ht3
  replace hF := hF3_
  obtain rfl := rc3
  refine kcX EE_fr hw (.cons .z .nil) rfl of (ops_t rfl (ops_t rfl os0)) hb_107 (s_mem_at_ok hw hz3 hi3) ?_
  rintro _ _ h3 e3 w3 ⟨rfl, rfl⟩
  simp only [ca_, na_]
  refine gA rfl rfl (go_nil (go_seq (go_seq (go_region (gM rfl rfl (gr rfl (r_bin (v := .bool false) (ot rfl) (oc rfl) (by first | rfl | kernel_rfl)) (go_nil ?_)))))))
  refine g_cond (b := false) (ot rfl) (fun hc7 => ?_) (fun hc7 => ?_)
  ·
   cases hc7
  refine go_skip (go_seq (go_region (gM rfl rfl (gN rfl rfl (gr rfl (r_load (ot rfl) (lm_s (mem_seg 1 rfl) ag_93 (acc_cell (j := 0) hd3 rfl))) (gA rfl rfl (gAc rfl rfl (go_nil (gs_pack (fun s => Zmem_Mem h3 bp0 s (⟨p0.cells, (IntKind.i64.wrap (p0.count + 1))⟩ : Omem_Mem)) (.cons .z (.cons .z .nil)) ⟨_, _, rfl, (f4z0.ext e3.kn)⟩ fun z8p y8p => ?_)))))))))
  obtain rfl := someI hF
  exact g_retO (rst rfl (rst rfl rs0)) (.cons .z .nil) e3 w3 (nd1 y8p.nd nd0) ⟨_, rfl, rfl, y8p⟩
theorem s_bst_Tree_down_1 {rc : RC} (hrc : RCok rc) {h : Heap} (hw : Wf h) (p0 : Obst_Tree) (p0o0 : Omem_Mem) (p1 : Obst_Call) (p3 : Tbst_seen) (p4 : Tbst_node) (p5 : Clo) {bp0 bp0_1 : Nat} {z0 : List Blk} {bp1 : Nat} {z1 : List Blk} {b2 : Nat} {bo3 : Nat} {b4 : Nat} {b5 : Nat} {v5 : Value} (y0 : Zbst_Tree h bp0 bp0_1 z0 p0 p0o0) (y1 : Zbst_Call h bp1 z1 p1) (g2 : BK h b2 [pt bp0] 61) (g4 : BK h b4 [.string p4.key, .int .i64 p4.top, .int .u64 p4.val, .int .i64 p4.cell] 127) (g5 : BK h b5 [v5] 141) (c5 : CO h bp0 bp1 [] p5 v5) {r : _} (hF : F_bst_Tree_down_1 rc p0 p0o0 p1 p3 p4 p5 = some r) :
 EvO EE 133 [pt b2, pt bo3, pt b4, pt b5] [z0, z1, [⟨bo3, .cells [.int .i64 p3.grand, .int .i64 p3.parent, .int .i64 p3.leaf, .int .u64 p3.grandWord, .int .u64 p3.parentWord, .int .i64 p3.turn] 138⟩]] h (fun v S h1 => ∃ zy0 zy1 vr tr, v = vr ∧ S = [zy0, zy1, tr] ∧ Zbst_Tree h1 bp0 bp0_1 zy0 r.2.1 r.2.2.1 ∧ Zbst_Call h1 bp1 zy1 r.2.2.2 ∧ OC h1 bp0 bp1 tr r.1 vr) := by
 unfold F_bst_Tree_down_1 at hF
 refine evo_of rfl at_133 rfl rfl ?_
 refine go_seq (go_region (gAc rfl rfl (go_nil (go_seq (go_regions (L := sq 0 7 ++ [(7, [0, 3])] ++ sq 8 6) (by kernel_rfl) (by kernel_rfl) (fun _ => rfl) (go_sop rfl rfl (glc ag_61 g2 rfl rfl rfl (go_nil (go_sop rfl rfl (gN rfl rfl (go_nil (go_sop rfl rfl (gF (fa_131_0 _ _) rfl rfl (go_nil (go_sop rfl rfl ?_)))))))))))))))
 obtain ⟨q7z_1, t7z_1, q7z_2, t7z_2, z7z_0, rfl, f7z0, f7z1, f7z2⟩ := y0
 refine gs_unz ?_
 simp only [ca_, na_]
 refine gls 0 ag_51 rfl rfl rfl rfl (go_nil (go_sop rfl rfl (glc ag_61 g2 rfl rfl rfl (go_nil (go_sop rfl rfl (gF (fa_138_1 _ _) rfl rfl (go_nil (go_sop rfl rfl (gls 5 ag_3 rfl rfl rfl rfl (go_nil (go_sopc [(0, pt bp0), (3, pt bp0_1)] rfl rfl rfl (rc1 rfl (r_load (ot rfl) (v := pt bp0) (lo_e (fun hf kn => ld_cell ag_61 (g2.ext kn) rfl))) (rc1 rfl (r_load (ot rfl) (lm_s (mem_seg 0 rfl) ag_51 rfl)) rc0)) (vq1 (veq_ptr _ _) (vq1 (veq_ptr _ _) vq0)) rfl (gs_pack (fun s => Zbst_Tree h bp0 bp0_1 s p0 p0o0) (.cons .z (.cons .z (.cons .z (.cons .z .nil)))) ⟨_, _, _, _, _, rfl, f7z0, f7z1, f7z2⟩ fun z9p y9p => ?_))))))))))))
 obtain ⟨x8, hx8, hF⟩ := obind hF
 refine kcX EE_fr hw (.cons .z .nil) rfl of (ops_t rfl (ops_t rfl (ops_c rfl os0))) hb_114 (s_bst_Tree_cell hw p0 p0o0 p3.parent 0 y9p hx8) ?_
 rintro _ _ h8 e8 w8 ⟨z8_y0, rfl, rfl, f8_0⟩
 simp only [ca_, na_]
 refine go_nil ?_
 obtain ⟨q10z_1, t10z_1, q10z_2, t10z_2, z10z_0, rfl, f10z0, f10z1, f10z2⟩ := f8_0
 refine gs_unz ?_
 simp only [ca_, na_]
 refine go_rck (rcc ag_61 (g2.ext e8.kn) rfl rfl rfl (rcs 0 ag_51 rfl rfl rfl rfl rc0)) (go_sop rfl rfl ?_)
 obtain ⟨x11, hx11, hF⟩ := obind hF
 refine kcX EE_fr w8 (.cons (.s (.s (.s (.z)))) .nil) rfl of (ops_t rfl (ops_t rfl os0)) hb_79 (s_mem_Mem_Load w8 x8.2.2 x8.1 f10z2 hx11) ?_
 rintro _ _ h11 e11 w11 ⟨z11_y0, rfl, rfl, f11_0⟩
 simp only [ca_, na_]
 refine go_nil (go_sop rfl rfl (gM rfl rfl (go_nil (go_sop rfl rfl (gE rfl rfl rfl (go_nil (go_sop rfl rfl (gE rfl rfl rfl (go_nil (go_sop rfl rfl (gF (fa_138_4 _ _) rfl rfl (go_nil (go_sop rfl rfl (gs_store (ot rfl) (ot rfl) sz_93 rfl rfl rfl rfl rfl (.s (.s (.s (.s (.s (.z)))))) (go_nil (go_snil (go_seq (go_region (gr rfl (r_func os0 (os1 (ot rfl) (os1 (ot rfl) (os1 (ot rfl) (os1 (ot rfl) os0))))) (gA rfl rfl (go_nil ?_)))))))))))))))))))))
 have co12 : CO h11 bp0 bp1 [⟨bo3, .cells [.int .i64 p3.grand, .int .i64 p3.parent, .int .i64 p3.leaf, .int .u64 p3.grandWord, .int .u64 x11.1, .int .i64 p3.turn] 138⟩] (Clo.c_down_1_1 (⟨p3.grand, p3.parent, p3.leaf, p3.grandWord, x11.1, p3.turn⟩ : Tbst_seen) p4 p5) (.func (.func 134) #[] #[pt b2, pt bo3, pt b4, pt b5]) := CO.c_down_1_1 (x0 := (⟨p3.grand, p3.parent, p3.leaf, p3.grandWord, x11.1, p3.turn⟩ : Tbst_seen)) ((g2.ext e8.kn).ext e11.kn) ((g4.ext e8.kn).ext e11.kn) ((g5.ext e8.kn).ext e11.kn) ((c5.ext e8.kn).ext e11.kn)
 refine gs_pack (fun s => Zbst_Tree h11 bp0 bp0_1 s x8.2.1 x11.2.2) (.cons (.s (.z)) (.cons (.s (.z)) (.cons (.s (.z)) (.cons .z .nil)))) ⟨_, _, _, _, _, rfl, (f10z0.ext e11.kn), (f10z1.ext e11.kn), f11_0⟩ fun z13p y13p => ?_
 obtain rfl := someI hF
 exact g_retO (rst rfl rs0) (.cons .z (.cons .z (.cons .z .nil))) (e8.trans e11) w11 (nd1 y13p.nd (nd1 ((y1.ext e8.kn).ext e11.kn).nd (ndb (by intro e; cases e) nd0))) ⟨_, _, _, _, rfl, rfl, y13p, ((y1.ext e8.kn).ext e11.kn), (OC.some co12)⟩
theorem s_bst_Tree_side {h : Heap} (hw : Wf h) (p0 : Obst_Tree) (p0o0 : Omem_Mem) (p1 : Int) (p2 : Tbst_node) {bp0 bp0_1 : Nat} {z0 : List Blk} (y0 : Zbst_Tree h bp0 bp0_1 z0 p0 p0o0) {r : Int × Obst_Tree × Omem_Mem} (hF : F_bst_Tree_side p0 p0o0 p1 p2 = some r) :
 EvO EE 135 [pt bp0, .int .i64 p1, .agg #[.string p2.key, .int .i64 p2.top, .int .u64 p2.val, .int .i64 p2.cell]] [z0] h (fun v S h1 => ∃ zy0, v = .int .i64 r.1 ∧ S = [zy0] ∧ Zbst_Tree h1 bp0 bp0_1 zy0 r.2.1 r.2.2) := by
 unfold F_bst_Tree_side at hF
 refine evo_of rfl at_135 rfl rfl ?_
 refine go_seq (go_region (gs_box rfl (ot rfl) rfl (fun b5_4 => gAc rfl rfl (go_nil (go_seq (go_seq (go_regions (L := sq 0 9) (by kernel_rfl) (by kernel_rfl) (fun _ => rfl) (go_sop rfl rfl (glw 0 ag_127 sz_127 rfl rfl rfl rfl (go_nil (go_sop rfl rfl (gM rfl rfl (go_nil (go_sop rfl rfl (gN rfl rfl (go_nil (go_sop rfl rfl (gF (fa_131_1 _ _) rfl rfl (go_nil (go_sop rfl rfl (gs_front (.s (.z)) ?_)))))))))))))))))))))
 obtain ⟨q5z_1, t5z_1, q5z_2, t5z_2, z5z_0, rfl, f5z0, f5z1, f5z2⟩ := y0
 refine gs_unz ?_
 simp only [ca_, na_]
 refine gls 0 ag_128 rfl rfl rfl rfl (go_nil (go_sop rfl rfl (gM rfl rfl (go_nil (go_sop rfl rfl ?_)))))
 obtain ⟨x6, hx6, hF⟩ := obind hF
 obtain ⟨bb6, rw6, row6, hp6, ht6, hR6, hw6, rc6, hz6, hi6, hd6, hb6, hl6⟩ := AccR.at_ f5z0 hx6
 have hF6_ := hF
 subst hp6; subst ht6
 replace hF := hF6_
 obtain rfl := rc6
 refine gr rfl (r_ia (ot rfl) (ot rfl) (ia_acc (k := 4) ut_128 sz_127 hz6 hi6)) (go_nil (go_sop rfl rfl (gr rfl (r_load (ot rfl) (lm_a (vs := [.string x6.key, .int .i64 x6.top, .int .u64 x6.val, .int .i64 x6.cell]) (mem_seg 1 rfl) ag_127 sz_127 (Nat.ble_eq_true_of_le hb6) hd6)) (go_nil (go_sop rfl rfl ?_)))))
 obtain ⟨x7, hx7, hF⟩ := obind hF
 refine g_callp (v := .bool x7) EE_fr rfl of (os1 (ot rfl) (os1 (ot rfl) os0)) hb_111 (fun _ => rfl) (fun hf kn w => by exact s_bst_node_less w p2 x6  hx7) (go_nil (go_snil ?_))
 refine g_cond (b := x7) (ot rfl) (fun hc8 => ?_) (fun hc8 => ?_)
 ·
  replace hF := ifT hc8 hF
  refine go_seq (go_region (gM rfl rfl (gM rfl rfl (gs_pack (fun s => Zbst_Tree h bp0 bp0_1 s p0 p0o0) (.cons .z (.cons .z (.cons .z (.cons .z .nil)))) ⟨_, _, _, _, _, rfl, f5z0, f5z1, f5z2⟩ fun z10p y10p => ?_))))
  obtain ⟨x9, hx9, hF⟩ := obind hF
  refine kcX EE_fr hw (.cons .z .nil) rfl of (ops_t rfl (ops_t rfl (ops_c rfl os0))) hb_114 (s_bst_Tree_cell hw p0 p0o0 p1 1 y10p hx9) ?_
  rintro _ _ h9 e9 w9 ⟨z9_y0, rfl, rfl, f9_0⟩
  simp only [ca_, na_]
  refine gA rfl rfl (go_nil ?_)
  obtain rfl := someI hF
  exact g_retO (rst rfl rs0) (.cons .z .nil) e9 w9 (nd1 f9_0.nd nd0) ⟨_, rfl, rfl, f9_0⟩
 ·
  replace hF := ifF hc8 hF
  refine go_skip (go_seq (go_region (gM rfl rfl (gM rfl rfl (gs_pack (fun s => Zbst_Tree h bp0 bp0_1 s p0 p0o0) (.cons .z (.cons .z (.cons .z (.cons .z .nil)))) ⟨_, _, _, _, _, rfl, f5z0, f5z1, f5z2⟩ fun z12p y12p => ?_)))))
  obtain ⟨x11, hx11, hF⟩ := obind hF
  refine kcX EE_fr hw (.cons .z .nil) rfl of (ops_t rfl (ops_t rfl (ops_c rfl os0))) hb_114 (s_bst_Tree_cell hw p0 p0o0 p1 2 y12p hx11) ?_
  rintro _ _ h11 e11 w11 ⟨z11_y0, rfl, rfl, f11_0⟩
  simp only [ca_, na_]
  refine gA rfl rfl (go_nil ?_)
  obtain rfl := someI hF
  exact g_retO (rst rfl rs0) (.cons .z .nil) e11 w11 (nd1 f11_0.nd nd0) ⟨_, rfl, rfl, f11_0⟩
theorem s_bst_Tree_down_1_1 {rc : RC} (hrc : RCok rc) {h : Heap} (hw : Wf h) (p0 : Obst_Tree) (p0o0 : Omem_Mem) (p1 : Obst_Call) (p3 : Tbst_seen) (p4 : Tbst_node) (p5 : Clo) {bp0 bp0_1 : Nat} {z0 : List Blk} {bp1 : Nat} {z1 : List Blk} {b2 : Nat} {bo3 : Nat} {b4 : Nat} {b5 : Nat} {v5 : Value} (y0 : Zbst_Tree h bp0 bp0_1 z0 p0 p0o0) (y1 : Zbst_Call h bp1 z1 p1) (g2 : BK h b2 [pt bp0] 61) (g4 : BK h b4 [.string p4.key, .int .i64 p4.top, .int .u64 p4.val, .int .i64 p4.cell] 127) (g5 : BK h b5 [v5] 141) (c5 : CO h bp0 bp1 [] p5 v5) {r : _} (hF : F_bst_Tree_down_1_1 rc p0 p0o0 p1 p3 p4 p5 = some r) :
 EvO EE 134 [pt b2, pt bo3, pt b4, pt b5] [z0, z1, [⟨bo3, .cells [.int .i64 p3.grand, .int .i64 p3.parent, .int .i64 p3.leaf, .int .u64 p3.grandWord, .int .u64 p3.parentWord, .int .i64 p3.turn] 138⟩]] h (fun v S h1 => ∃ zy0 zy1 vr tr, v = vr ∧ S = [zy0, zy1, tr] ∧ Zbst_Tree h1 bp0 bp0_1 zy0 r.2.1 r.2.2.1 ∧ Zbst_Call h1 bp1 zy1 r.2.2.2 ∧ OC h1 bp0 bp1 tr r.1 vr) := by
 unfold F_bst_Tree_down_1_1 at hF
 refine evo_of rfl at_134 rfl rfl ?_
 refine go_seq (go_region (gAc rfl rfl (go_nil (go_seq (go_region (glc ag_61 g2 rfl rfl rfl (gF (fa_138_1 _ _) rfl rfl (gls 2 ag_3 rfl rfl rfl rfl (glb ag_127 sz_127 g4 rfl rfl rfl ?_)))))))))
 obtain ⟨x7, hx7, hF⟩ := obind hF
 refine kcX EE_fr hw (.cons .z .nil) rfl of (ops_t rfl (ops_t rfl (ops_t rfl os0))) hb_135 (s_bst_Tree_side hw p0 p0o0 p3.parent p4 y0 hx7) ?_
 rintro _ _ h7 e7 w7 ⟨z7_y0, rfl, rfl, f7_0⟩
 simp only [ca_, na_]
 refine gA rfl rfl (go_nil (go_seq (go_seq (go_region (gM rfl rfl (glc ag_61 (g2.ext e7.kn) rfl rfl rfl (gF (fa_138_1 _ _) rfl rfl (gls 2 ag_3 rfl rfl rfl rfl ?_))))))))
 obtain ⟨x8, hx8, hF⟩ := obind hF
 refine kcX EE_fr w7 (.cons .z .nil) rfl of (ops_t rfl (ops_t rfl (ops_c rfl os0))) hb_114 (s_bst_Tree_cell w7 x7.2.1 x7.2.2 p3.parent 1 f7_0 hx8) ?_
 rintro _ _ h8 e8 w8 ⟨z8_y0, rfl, rfl, f8_0⟩
 simp only [ca_, na_]
 refine gr rfl (r_bin (ot rfl) (ot rfl) rfl) (go_nil ?_)
 obtain ⟨s10, hF, hK10⟩ := obind hF
 refine go_joinc (β := Unit) (fun s h' => True) (fun s => [(0, true, pt b2), (1, true, pt bo3), (2, true, pt b4), (3, true, pt b5), (4, true, .nilFunc), (5, true, .int .i64 x7.1)]) (fun s => (List.flatten [z8_y0, z1, [⟨bo3, .cells [.int .i64 p3.grand, .int .i64 p3.parent, .int .i64 p3.leaf, .int .u64 p3.grandWord, .int .u64 p3.parentWord, .int .i64 s10] 138⟩]] : List Blk)) ?_ (fun J10 => ?_)
 ·
  rintro _ h10 e10 w10 _
  replace hF := hK10
  refine go_seq (go_region (glc ag_61 (((g2.ext e7.kn).ext e8.kn).ext e10.kn) rfl rfl rfl (gN rfl rfl (gF (fa_131_0 _ _) rfl rfl ?_))))
  obtain ⟨q11z_1, t11z_1, q11z_2, t11z_2, z11z_0, rfl, f11z0, f11z1, f11z2⟩ := (f8_0.ext e10.kn)
  refine gs_unz ?_
  simp only [ca_, na_]
  refine gls 0 ag_51 rfl rfl rfl rfl (gM rfl rfl ?_)
  obtain ⟨x12, hx12, hF⟩ := obind hF
  refine kcX EE_fr w10 (.cons (.s (.s (.s (.z)))) .nil) rfl of (ops_t rfl (ops_t rfl os0)) hb_79 (s_mem_Mem_Load w10 x8.2.2 x7.1 f11z2 hx12) ?_
  rintro _ _ h12 e12 w12 ⟨z12_y0, rfl, rfl, f12_0⟩
  simp only [ca_, na_]
  refine gM rfl rfl (gE rfl rfl rfl (gE rfl rfl rfl (gA rfl rfl (gA rfl rfl (go_nil (go_seq (go_region (gM rfl rfl (gr rfl (r_conv (ot rfl) rfl) (gF (fa_138_2 _ _) rfl rfl (gs_store (ot rfl) (ot rfl) sz_3 rfl rfl rfl rfl rfl (.s (.s (.s (.s (.s (.z)))))) (go_nil (go_seq (go_region (glc ag_61 ((((g2.ext e7.kn).ext e8.kn).ext e10.kn).ext e12.kn) rfl rfl rfl (glw 5 ag_138 sz_138 rfl rfl rfl rfl (glb ag_127 sz_127 ((((g4.ext e7.kn).ext e8.kn).ext e10.kn).ext e12.kn) rfl rfl rfl (glc ag_141 ((((g5.ext e7.kn).ext e8.kn).ext e10.kn).ext e12.kn) rfl rfl rfl (gs_pack (fun s => Zbst_Tree h12 bp0 bp0_1 s x8.2.1 x12.2.2) (.cons (.s (.z)) (.cons (.s (.z)) (.cons (.s (.z)) (.cons .z .nil)))) ⟨_, _, _, _, _, rfl, (f11z0.ext e12.kn), (f11z1.ext e12.kn), f12_0⟩ fun z14p y14p => ?_)))))))))))))))))))
  obtain ⟨x13, hx13, hF⟩ := obind hF
  refine kcX EE_fr w12 (.cons .z (.cons .z .nil)) rfl of (ops_t rfl (ops_t rfl (ops_t rfl (ops_t rfl os0)))) hb_106 (s_bst_Tree_down hrc w12 x8.2.1 x12.2.2 p1 (⟨p3.grand, p3.parent, (IntKind.i64.wrap x12.1), p3.grandWord, p3.parentWord, s10⟩ : Tbst_seen) p4 p5 y14p ((((y1.ext e7.kn).ext e8.kn).ext e10.kn).ext e12.kn) ((((c5.ext e7.kn).ext e8.kn).ext e10.kn).ext e12.kn) hx13) ?_
  rintro _ _ h13 e13 w13 ⟨z13_y0, z13_y1, v13_r, t13_r, rfl, rfl, f13_0, f13_1, f13_2⟩
  simp only [ca_, na_]
  refine gA rfl rfl (go_nil ?_)
  obtain rfl := someI hF
  exact g_retO (rst rfl rs0) (.cons .z (.cons .z (.cons .z .nil))) (e7.trans (e8.trans (e10.trans (e12.trans e13)))) w13 (nd1 f13_0.nd (nd1 f13_1.nd (ndc f13_2 nd0))) ⟨_, _, _, _, rfl, rfl, f13_0, f13_1, f13_2⟩
 ·
  refine g_cond (b := (x7.1 == x8.1)) (ot rfl) (fun hc9 => ?_) (fun hc9 => ?_)
  ·
   replace hF := ifT hc9 hF
   refine go_region (gF (fa_138_1 _ _) rfl rfl (gls 2 ag_3 rfl rfl rfl rfl (gF (fa_138_5 _ _) rfl rfl (gs_store (ot rfl) (ot rfl) sz_3 rfl rfl rfl rfl rfl (.s (.s (.z))) (go_nil ?_)))))
   obtain rfl := someI hF
   exact Goes.weak (J10 () _ (HExt.refl _) w8 trivial) (Sub.cons (Sub.cons (Sub.cons (Sub.cons (Sub.cons (Sub.cons (Sub.nil _) rfl) rfl) rfl) rfl) rfl) rfl)
  ·
   replace hF := ifF hc9 hF
   refine go_skip ?_
   obtain rfl := someI hF
   exact Goes.weak (J10 () _ (HExt.refl _) w8 trivial) (Sub.cons (Sub.cons (Sub.cons (Sub.cons (Sub.cons (Sub.cons (Sub.nil _) rfl) rfl) rfl) rfl) rfl) rfl)
theorem s_bst_Tree_least_1 {rc : RC} (hrc : RCok rc) {h : Heap} (hw : Wf h) (p0 : Obst_Tree) (p0o0 : Omem_Mem) (p1 : Obst_Call) (p3 : Int) {bp0 bp0_1 : Nat} {z0 : List Blk} {bp1 : Nat} {z1 : List Blk} {b2 : Nat} {b3 : Nat} {b4 : Nat} (y0 : Zbst_Tree h bp0 bp0_1 z0 p0 p0o0) (y1 : Zbst_Call h bp1 z1 p1) (g2 : BK h b2 [pt bp0] 61) (g3 : BK h b3 [.int .i64 p3] 3) (g4 : BK h b4 [pt bp1] 85) {r : _} (hF : F_bst_Tree_least_1 rc p0 p0o0 p1 p3 = some r) :
 EvO EE 136 [pt b2, pt b3, pt b4] [z0, z1] h (fun v S h1 => ∃ zy0 zy1 vr tr, v = vr ∧ S = [zy0, zy1, tr] ∧ Zbst_Tree h1 bp0 bp0_1 zy0 r.2.1 r.2.2.1 ∧ Zbst_Call h1 bp1 zy1 r.2.2.2 ∧ OC h1 bp0 bp1 tr r.1 vr) := by
 unfold F_bst_Tree_least_1 at hF
 refine evo_of rfl at_136 rfl rfl ?_
 refine go_seq (go_region (gAc rfl rfl (go_nil (go_seq (go_regions (L := sq 0 11) (by kernel_rfl) (by kernel_rfl) (fun _ => rfl) (go_sop rfl rfl (glc ag_61 g2 rfl rfl rfl (go_nil (go_sop rfl rfl (gN rfl rfl (go_nil (go_sop rfl rfl (gF (fa_131_0 _ _) rfl rfl (go_nil (go_sop rfl rfl ?_)))))))))))))))
 obtain ⟨q6z_1, t6z_1, q6z_2, t6z_2, z6z_0, rfl, f6z0, f6z1, f6z2⟩ := y0
 refine gs_unz ?_
 simp only [ca_, na_]
 refine gls 0 ag_51 rfl rfl rfl rfl (go_nil (go_sop rfl rfl (glc ag_3 g3 rfl rfl rfl (go_nil (go_sop rfl rfl ?_)))))
 obtain ⟨x7, hx7, hF⟩ := obind hF
 refine kcX EE_fr hw (.cons (.s (.s (.s (.z)))) .nil) rfl of (ops_t rfl (ops_t rfl os0)) hb_79 (s_mem_Mem_Load hw p0o0 p3 f6z2 hx7) ?_
 rintro _ _ h7 e7 w7 ⟨z7_y0, rfl, rfl, f7_0⟩
 simp only [ca_, na_]
 refine go_nil (go_sop rfl rfl (gM rfl rfl (go_nil (go_sop rfl rfl (gE rfl rfl rfl (go_nil (go_sop rfl rfl (gE rfl rfl rfl (go_nil (go_sop rfl rfl (gA rfl rfl (go_nil (go_sop rfl rfl (gA rfl rfl (go_nil (go_snil (go_seq (go_region (glc ag_61 (g2.ext e7.kn) rfl rfl rfl (gN rfl rfl (gF (fa_131_1 _ _) rfl rfl (gls 1 ag_128 rfl rfl rfl rfl (gM rfl rfl ?_)))))))))))))))))))))))
 obtain ⟨x8, hx8, hF⟩ := obind hF
 obtain ⟨bb8, rw8, row8, hp8, ht8, hR8, hw8, rc8, hz8, hi8, hd8, hb8, hl8⟩ := AccR.at_ (f6z0.ext e7.kn) hx8
 have hF8_ := hF
 subst hp8; subst ht8
 replace hF := hF8_
 obtain rfl := rc8
 refine gr rfl (r_ia (ot rfl) (ot rfl) (ia_acc (k := 4) ut_128 sz_127 hz8 hi8)) (gr rfl (r_load (ot rfl) (lm_a (vs := [.string x8.key, .int .i64 x8.top, .int .u64 x8.val, .int .i64 x8.cell]) (mem_seg 2 rfl) ag_127 sz_127 (Nat.ble_eq_true_of_le hb8) hd8)) (gs_alloc rfl zo_127 rfl (fun b6_9 => gs_store (ot rfl) (ot rfl) sz_127 rfl rfl rfl rfl rfl .z (go_nil (go_seq (go_block (go_seq (go_region (glw 0 ag_127 sz_127 rfl rfl rfl rfl ?_)))))))))
 obtain ⟨x10, hx10, hF⟩ := obind hF
 refine g_callp (v := .bool x10) EE_fr rfl of (os1 (ot rfl) os0) hb_69 (fun _ => rfl) (fun hf kn w => by exact s_bst_node_leaf w x8  hx10) (gr rfl (r_un (ot rfl) rfl) (gA rfl rfl (go_nil ?_)))
 refine g_cond (b := (!x10)) (ot rfl) (fun hc11 => ?_) (fun hc11 => ?_)
 ·
  replace hF := ifT hc11 hF
  refine go_seq (go_regions (L := sq 0 5 ++ [(5, [0, 1]), (6, []), (7, [])]) (by kernel_rfl) (by kernel_rfl) (fun _ => rfl) (go_sop rfl rfl (glc ag_61 (g2.ext e7.kn) rfl rfl rfl (go_nil (go_sop rfl rfl (glc ag_85 (g4.ext e7.kn) rfl rfl rfl (go_nil (go_sop rfl rfl (glc ag_61 (g2.ext e7.kn) rfl rfl rfl (go_nil (go_sop rfl rfl (gM rfl rfl (go_nil (go_sop rfl rfl (gr rfl (r_conv (ot rfl) rfl) (go_nil (go_sopc [(0, pt bp0), (1, pt bp1)] rfl rfl rfl (rc1 rfl (r_load (ot rfl) (v := pt bp0) (lo_e (fun hf kn => ld_cell ag_61 ((g2.ext e7.kn).ext kn) rfl))) (rc1 rfl (r_load (ot rfl) (v := pt bp1) (lo_e (fun hf kn => ld_cell ag_85 ((g4.ext e7.kn).ext kn) rfl))) rc0)) (vq1 (veq_ptr _ _) (vq1 (veq_ptr _ _) vq0)) rfl (gs_pack (fun s => Zbst_Tree h7 bp0 bp0_1 s p0 x7.2.2) (.cons (.s (.s (.z))) (.cons (.s (.s (.z))) (.cons (.s (.s (.z))) (.cons (.s (.z)) .nil)))) ⟨_, _, _, _, _, rfl, (f6z0.ext e7.kn), (f6z1.ext e7.kn), f7_0⟩ fun z13p y13p => ?_))))))))))))))))))
  obtain ⟨x12, hx12, hF⟩ := obind hF
  refine kcX EE_fr w7 (.cons .z .nil) rfl of (ops_t rfl (ops_t rfl (ops_c rfl os0))) hb_114 (s_bst_Tree_cell w7 p0 x7.2.2 (IntKind.i64.wrap x7.1) 1 y13p hx12) ?_
  rintro _ _ h12 e12 w12 ⟨z12_y0, rfl, rfl, f12_0⟩
  simp only [ca_, na_]
  refine go_nil (go_rck (rcc ag_61 ((g2.ext e7.kn).ext e12.kn) rfl rfl rfl (rcc ag_85 ((g4.ext e7.kn).ext e12.kn) rfl rfl rfl rc0)) (go_sop rfl rfl ?_))
  obtain ⟨x14, hx14, hF⟩ := obind hF
  refine kcX EE_fr w12 (.cons .z (.cons (.s (.z)) .nil)) rfl of (ops_t rfl (ops_t rfl (ops_t rfl os0))) hb_113 (s_bst_Tree_least hrc w12 x12.2.1 x12.2.2 p1 x12.1 f12_0 ((y1.ext e7.kn).ext e12.kn) hx14) ?_
  rintro _ _ h14 e14 w14 ⟨z14_y0, z14_y1, v14_r, t14_r, rfl, rfl, f14_0, f14_1, f14_2⟩
  simp only [ca_, na_]
  refine go_nil (go_sop rfl rfl (gA rfl rfl (go_nil (go_snil ?_))))
  obtain rfl := someI hF
  exact g_retO (rst rfl rs0) (.cons .z (.cons .z (.cons .z .nil))) (e7.trans (e12.trans e14)) w14 (nd1 f14_0.nd (nd1 f14_1.nd (ndc f14_2 nd0))) ⟨_, _, _, _, rfl, rfl, f14_0, f14_1, f14_2⟩
 ·
  replace hF := ifF hc11 hF
  refine go_seq (go_region (gF (fa_127_1 _ _) rfl rfl (gls 0 ag_3 rfl rfl rfl rfl (gr rfl (r_bin (ot rfl) (oc rfl) rfl) (gA rfl rfl (go_nil ?_))))))
  refine g_cond (b := (decide (x8.top > 0))) (ot rfl) (fun hc15 => ?_) (fun hc15 => ?_)
  ·
   replace hF := ifT hc15 hF
   refine go_seq (go_region (glc ag_85 (g4.ext e7.kn) rfl rfl rfl (gs_pack (fun s => Zbst_Tree h7 bp0 bp0_1 s p0 x7.2.2) (.cons (.s (.s (.z))) (.cons (.s (.s (.z))) (.cons (.s (.s (.z))) (.cons (.s (.z)) .nil)))) ⟨_, _, _, _, _, rfl, (f6z0.ext e7.kn), (f6z1.ext e7.kn), f7_0⟩ fun z17p y17p => ?_)))
   obtain ⟨x16, hx16, hF⟩ := obind hF
   refine kcX EE_fr w7 (.cons .z (.cons (.s (.z)) .nil)) rfl of (ops_t rfl (ops_c rfl (ops_c rfl os0))) hb_76 (s_bst_Call_tell hrc w7 p0 x7.2.2 p1 false 0 y17p (y1.ext e7.kn) hx16) ?_
   rintro _ _ h16 e16 w16 ⟨z16_y0, z16_y1, v16_r, t16_r, rfl, rfl, f16_0, f16_1, f16_2⟩
   simp only [ca_, na_]
   refine gA rfl rfl (go_nil ?_)
   obtain rfl := someI hF
   exact g_retO (rst rfl rs0) (.cons .z (.cons .z (.cons .z .nil))) (e7.trans e16) w16 (nd1 f16_0.nd (nd1 f16_1.nd (ndc f16_2 nd0))) ⟨_, _, _, _, rfl, rfl, f16_0, f16_1, f16_2⟩
  ·
   replace hF := ifF hc15 hF
   refine go_skip (go_endb (go_seq (go_region (glc ag_85 (g4.ext e7.kn) rfl rfl rfl (glw 0 ag_127 sz_127 rfl rfl rfl rfl (gs_pack (fun s => Zbst_Tree h7 bp0 bp0_1 s p0 x7.2.2) (.cons (.s (.s (.z))) (.cons (.s (.s (.z))) (.cons (.s (.s (.z))) (.cons (.s (.z)) .nil)))) ⟨_, _, _, _, _, rfl, (f6z0.ext e7.kn), (f6z1.ext e7.kn), f7_0⟩ fun z19p y19p => ?_))))))
   obtain ⟨x18, hx18, hF⟩ := obind hF
   refine kcX EE_fr w7 (.cons .z (.cons (.s (.z)) .nil)) rfl of (ops_t rfl (ops_t rfl os0)) hb_112 (s_bst_Call_found hrc w7 p0 x7.2.2 p1 x8 y19p (y1.ext e7.kn) hx18) ?_
   rintro _ _ h18 e18 w18 ⟨z18_y0, z18_y1, v18_r, t18_r, rfl, rfl, f18_0, f18_1, f18_2⟩
   simp only [ca_, na_]
   refine gA rfl rfl (go_nil ?_)
   obtain rfl := someI hF
   exact g_retO (rst rfl rs0) (.cons .z (.cons .z (.cons .z .nil))) (e7.trans e18) w18 (nd1 f18_0.nd (nd1 f18_1.nd (ndc f18_2 nd0))) ⟨_, _, _, _, rfl, rfl, f18_0, f18_1, f18_2⟩
end Go.Proofs.YtndhbaidibioeaaGreat.V
