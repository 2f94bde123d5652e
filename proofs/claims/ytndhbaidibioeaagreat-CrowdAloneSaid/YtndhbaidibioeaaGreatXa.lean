/- Walks.
   No condition: these are laws of the clean machine and of this program. -/
import Derived.Test.YtndhbaidibioeaaGreatWc
namespace Go.Proofs.YtndhbaidibioeaaGreat.V
open Go
set_option linter.unusedVariables false
set_option linter.unusedSimpArgs false
set_option maxRecDepth 100000
set_option maxHeartbeats 4000000
theorem s_bst_Tree_Find_1 {rc : RC} (hrc : RCok rc) {h : Heap} (hw : Wf h) (p0 : Obst_Tree) (p0o0 : Omem_Mem) (p1 : Obst_Call) (p3 : Tbst_node) {bp0 bp0_1 : Nat} {z0 : List Blk} {bp1 : Nat} {z1 : List Blk} {b4 : Nat} (y0 : Zbst_Tree h bp0 bp0_1 z0 p0 p0o0) (y1 : Zbst_Call h bp1 z1 p1) (g4 : BK h b4 [pt bp0] 61) {r : _} (hF : F_bst_Tree_Find_1 rc p0 p0o0 p1 p3 = some r) :
 EvO EE 72 [pt bp1, .agg #[.string p3.key, .int .i64 p3.top, .int .u64 p3.val, .int .i64 p3.cell], pt b4] [z0, z1] h (fun v S h1 => ∃ zy0 zy1 vr tr, v = vr ∧ S = [zy0, zy1, tr] ∧ Zbst_Tree h1 bp0 bp0_1 zy0 r.2.1 r.2.2.1 ∧ Zbst_Call h1 bp1 zy1 r.2.2.2 ∧ OC h1 bp0 bp1 tr r.1 vr) := by
 unfold F_bst_Tree_Find_1 at hF
 refine evo_of rfl at_72 rfl rfl ?_
 refine go_seq (go_region (gs_box rfl (ot rfl) rfl (fun b3_6 => gs_box rfl (ot rfl) rfl (fun b4_7 => gAc rfl rfl (go_nil (go_seq (go_region (glc ag_61 g4 rfl rfl rfl (glw 0 ag_127 sz_127 rfl rfl rfl rfl (gr rfl (r_func os0 (os1 (ot rfl) (os1 (ot rfl) (os1 (ot rfl) os0)))) (gs_pub .z (fun h9 e9 w9 hb9 => ?_))))))))))))
 have g9_ : BK h9 b4_7 [.string p3.key, .int .i64 p3.top, .int .u64 p3.val, .int .i64 p3.cell] 127 := hb9
 refine gs_pub .z (fun h10 e10 w10 hb10 => ?_)
 have g10_ : BK h10 b3_6 [pt bp1] 85 := hb10
 have co11 : CO h10 bp0 bp1 [] (Clo.c_Find_1_1 p3) (.func (.func 74) #[] #[pt b4, pt b4_7, pt b3_6]) := CO.c_Find_1_1 ((g4.ext e9.kn).ext e10.kn) (g9_.ext e10.kn) g10_
 obtain ⟨x8, hx8, hF⟩ := obind hF
 refine kcX EE_fr w10 (.cons .z (.cons .z .nil)) rfl of (ops_t rfl (ops_t rfl (ops_t rfl os0))) hb_73 (s_bst_Tree_search hrc w10 p0 p0o0 p1 p3 (Clo.c_Find_1_1 p3) ((y0.ext e9.kn).ext e10.kn) ((y1.ext e9.kn).ext e10.kn) co11 hx8) ?_
 rintro _ _ h8 e8 w8 ⟨z8_y0, z8_y1, v8_r, t8_r, rfl, rfl, f8_0, f8_1, f8_2⟩
 simp only [ca_, na_]
 refine gA rfl rfl (go_nil ?_)
 obtain rfl := someI hF
 exact g_retO (rst rfl rs0) (.cons .z (.cons .z (.cons .z .nil))) (e9.trans (e10.trans e8)) w8 (nd1 f8_0.nd (nd1 f8_1.nd (ndc f8_2 nd0))) ⟨_, _, _, _, rfl, rfl, f8_0, f8_1, f8_2⟩
theorem s_bst_Tree_call_bst_Tree_Find_1 (n : Nat) {h : Heap} (hw : Wf h) (p0 : Obst_Tree) (p0o0 : Omem_Mem) (p1 : ByteArray) {bp0 bp0_1 : Nat} {z0 : List Blk} {b2c0 : Nat} (y0 : Zbst_Tree h bp0 bp0_1 z0 p0 p0o0) (g2c0 : BK h b2c0 [pt bp0] 61) {r : Obst_Call_2 × Obst_Tree × Omem_Mem} (hF : F_bst_Tree_call_bst_Tree_Find_1 n p0 p0o0 p1 = some r) :
 EvO EE 71 [pt bp0, .string p1, .func (.func 72) #[] #[pt b2c0]] [z0] h (fun v S h1 => ∃ zy0 bw0 zw0, v = pt bw0 ∧ S = [zy0, zw0] ∧ Zbst_Tree h1 bp0 bp0_1 zy0 r.2.1 r.2.2 ∧ Zbst_Call_2 h1 bp0 bw0 zw0 r.1) := by
 unfold F_bst_Tree_call_bst_Tree_Find_1 at hF
 refine evo_of rfl at_71 rfl rfl ?_
 refine go_seq (go_region (gAc rfl rfl (go_nil (go_seq (go_seq (go_region (gM rfl rfl (gr rfl (r_bin (v := .bool false) (ot rfl) (oc rfl) (by first | rfl | kernel_rfl)) (go_nil ?_)))))))))
 refine g_cond (b := false) (ot rfl) (fun hc4 => ?_) (fun hc4 => ?_)
 ·
  cases hc4
 refine go_skip (go_seq (go_region (gM rfl rfl (gr rfl (r_build (op1 (ot rfl) op0) rfl) (gr rfl (r_build (op1 (ot rfl) op0) rfl) (gs_box rfl (ot rfl) rfl (fun b13_5 => gA rfl rfl (go_nil (go_seq (go_region (gM rfl rfl (gM rfl rfl (gM rfl rfl (gM rfl rfl (gr rfl (r_build (op1 (ot rfl) op0) rfl) (gs_pack (fun s => Zbst_Call h b13_5 s (⟨false, p1, 0, 0⟩ : Obst_Call)) (.cons .z .nil) ⟨_, rfl⟩ fun z7p y7p => ?_))))))))))))))))
 obtain ⟨x6, hx6, hF⟩ := obind hF
 refine kcX EE_fr hw (.cons (.s (.z)) (.cons .z .nil)) rfl (ot rfl) (ops_t rfl (ops_t rfl os0)) hb_72 (s_bst_Tree_Find_1 (F_step_ok n) hw p0 p0o0 (⟨false, p1, 0, 0⟩ : Obst_Call) (⟨p1, 0, 0, 0⟩ : Tbst_node) y0 y7p g2c0 hx6) ?_
 rintro _ _ h6 e6 w6 ⟨z6_y0, z6_y1, v6_r, t6_r, rfl, rfl, f6_0, f6_1, f6_2⟩
 simp only [ca_, na_]
 refine gN rfl rfl (gF (fa_146_1 _ _) rfl rfl (gs_front (.s (.z)) ?_))
 obtain ⟨v8z_4, rfl⟩ := f6_1
 refine gs_unz ?_
 simp only [ca_, na_]
 refine gs_store (ot rfl) (ot rfl) sz_135 (OC.sz f6_2) (OC.one f6_2) rfl (OC.okc f6_2) rfl .z (go_nil (go_seq (go_region (gM rfl rfl (gA rfl rfl (go_nil (gs_pack (fun s => Zbst_Call_2 h6 bp0 b13_5 s (⟨x6.2.2.2.told_Ok, x6.2.2.2.told_Key, x6.2.2.2.told_Val, x6.2.2.2.told_Err, x6.1⟩ : Obst_Call_2)) (.cons .z (.cons (.s (.z)) .nil)) ⟨_, _, rfl, f6_2⟩ fun z9p y9p => ?_)))))))
 obtain rfl := someI hF
 exact g_retO (rst rfl rs0) (.cons (.s (.z)) (.cons .z .nil)) e6 w6 (nd1 f6_0.nd (nd1 y9p.nd nd0)) ⟨_, _, _, rfl, rfl, f6_0, y9p⟩
theorem s_bst_Tree_Find (n : Nat) {h : Heap} (hw : Wf h) (p0 : Obst_Tree) (p0o0 : Omem_Mem) (p1 : ByteArray) {bp0 bp0_1 : Nat} {z0 : List Blk} (y0 : Zbst_Tree h bp0 bp0_1 z0 p0 p0o0) {r : Obst_Call_2 × Obst_Tree × Omem_Mem} (hF : F_bst_Tree_Find n p0 p0o0 p1 = some r) :
 EvO EE 41 [pt bp0, .string p1] [z0] h (fun v S h1 => ∃ zy0 bw0 zw0, v = pt bw0 ∧ S = [zy0, zw0] ∧ Zbst_Tree h1 bp0 bp0_1 zy0 r.2.1 r.2.2 ∧ Zbst_Call_2 h1 bp0 bw0 zw0 r.1) := by
 unfold F_bst_Tree_Find at hF
 refine evo_of rfl at_41 rfl rfl ?_
 refine go_seq (go_region (gs_box rfl (ot rfl) rfl (fun b2_3 => gAc rfl rfl (go_nil (go_seq (go_region (gls 0 ag_61 rfl rfl rfl rfl (gM rfl rfl (gr rfl (r_func os0 (os1 (ot rfl) os0)) (gs_pub .z (fun h5 e5 w5 hb5 => ?_)))))))))))
 have g5_ : BK h5 b2_3 [pt bp0] 61 := hb5
 obtain ⟨x4, hx4, hF⟩ := obind hF
 refine kcX EE_fr w5 (.cons .z .nil) rfl of (ops_t rfl (ops_t rfl (ops_t rfl os0))) hb_71 (s_bst_Tree_call_bst_Tree_Find_1 n w5 p0 p0o0 p1 (y0.ext e5.kn) g5_ hx4) ?_
 rintro _ _ h4 e4 w4 ⟨z4_y0, b4_w0, z4_w0, rfl, rfl, f4_0, f4_1⟩
 simp only [ca_, na_]
 refine gA rfl rfl (go_nil ?_)
 obtain rfl := someI hF
 exact g_retO (rst rfl rs0) (.cons .z (.cons .z .nil)) (e5.trans e4) w4 (nd1 f4_0.nd (nd1 f4_1.nd nd0)) ⟨_, _, _, rfl, rfl, f4_0, f4_1⟩
theorem s_bst_Tree_Delete_1 {rc : RC} (hrc : RCok rc) {h : Heap} (hw : Wf h) (p0 : Obst_Tree) (p0o0 : Omem_Mem) (p1 : Obst_Call) (p3 : Tbst_node) {bp0 bp0_1 : Nat} {z0 : List Blk} {bp1 : Nat} {z1 : List Blk} {b4 : Nat} (y0 : Zbst_Tree h bp0 bp0_1 z0 p0 p0o0) (y1 : Zbst_Call h bp1 z1 p1) (g4 : BK h b4 [pt bp0] 61) {r : _} (hF : F_bst_Tree_Delete_1 rc p0 p0o0 p1 p3 = some r) :
 EvO EE 103 [pt bp1, .agg #[.string p3.key, .int .i64 p3.top, .int .u64 p3.val, .int .i64 p3.cell], pt b4] [z0, z1] h (fun v S h1 => ∃ zy0 zy1 vr tr, v = vr ∧ S = [zy0, zy1, tr] ∧ Zbst_Tree h1 bp0 bp0_1 zy0 r.2.1 r.2.2.1 ∧ Zbst_Call h1 bp1 zy1 r.2.2.2 ∧ OC h1 bp0 bp1 tr r.1 vr) := by
 unfold F_bst_Tree_Delete_1 at hF
 refine evo_of rfl at_103 rfl rfl ?_
 refine go_seq (go_region (gs_box rfl (ot rfl) rfl (fun b4_6 => gAc rfl rfl (go_nil (go_seq (go_region (glc ag_61 g4 rfl rfl rfl (gM rfl rfl (glw 0 ag_127 sz_127 rfl rfl rfl rfl ?_)))))))))
 obtain ⟨x7, hx7, hF⟩ := obind hF
 refine kcX EE_fr hw (.cons (.s (.z)) (.cons (.s (.z)) .nil)) rfl of (ops_t rfl (ops_t rfl (ops_t rfl os0))) hb_104 (s_bst_Tree_remove hrc hw p0 p0o0 p1 p3 y0 y1 hx7) ?_
 rintro _ _ h7 e7 w7 ⟨z7_y0, z7_y1, v7_r, t7_r, rfl, rfl, f7_0, f7_1, f7_2⟩
 simp only [ca_, na_]
 refine gA rfl rfl (go_nil ?_)
 obtain rfl := someI hF
 exact g_retO (rst rfl rs0) (.cons .z (.cons .z (.cons .z .nil))) e7 w7 (nd1 f7_0.nd (nd1 f7_1.nd (ndc f7_2 nd0))) ⟨_, _, _, _, rfl, rfl, f7_0, f7_1, f7_2⟩
theorem s_bst_Tree_call_bst_Tree_Delete_1 (n : Nat) {h : Heap} (hw : Wf h) (p0 : Obst_Tree) (p0o0 : Omem_Mem) (p1 : ByteArray) {bp0 bp0_1 : Nat} {z0 : List Blk} {b2c0 : Nat} (y0 : Zbst_Tree h bp0 bp0_1 z0 p0 p0o0) (g2c0 : BK h b2c0 [pt bp0] 61) {r : Obst_Call_2 × Obst_Tree × Omem_Mem} (hF : F_bst_Tree_call_bst_Tree_Delete_1 n p0 p0o0 p1 = some r) :
 EvO EE 71 [pt bp0, .string p1, .func (.func 103) #[] #[pt b2c0]] [z0] h (fun v S h1 => ∃ zy0 bw0 zw0, v = pt bw0 ∧ S = [zy0, zw0] ∧ Zbst_Tree h1 bp0 bp0_1 zy0 r.2.1 r.2.2 ∧ Zbst_Call_2 h1 bp0 bw0 zw0 r.1) := by
 unfold F_bst_Tree_call_bst_Tree_Delete_1 at hF
 refine evo_of rfl at_71 rfl rfl ?_
 refine go_seq (go_region (gAc rfl rfl (go_nil (go_seq (go_seq (go_region (gM rfl rfl (gr rfl (r_bin (v := .bool false) (ot rfl) (oc rfl) (by first | rfl | kernel_rfl)) (go_nil ?_)))))))))
 refine g_cond (b := false) (ot rfl) (fun hc4 => ?_) (fun hc4 => ?_)
 ·
  cases hc4
 refine go_skip (go_seq (go_region (gM rfl rfl (gr rfl (r_build (op1 (ot rfl) op0) rfl) (gr rfl (r_build (op1 (ot rfl) op0) rfl) (gs_box rfl (ot rfl) rfl (fun b13_5 => gA rfl rfl (go_nil (go_seq (go_region (gM rfl rfl (gM rfl rfl (gM rfl rfl (gM rfl rfl (gr rfl (r_build (op1 (ot rfl) op0) rfl) (gs_pack (fun s => Zbst_Call h b13_5 s (⟨false, p1, 0, 0⟩ : Obst_Call)) (.cons .z .nil) ⟨_, rfl⟩ fun z7p y7p => ?_))))))))))))))))
 obtain ⟨x6, hx6, hF⟩ := obind hF
 refine kcX EE_fr hw (.cons (.s (.z)) (.cons .z .nil)) rfl (ot rfl) (ops_t rfl (ops_t rfl os0)) hb_103 (s_bst_Tree_Delete_1 (F_step_ok n) hw p0 p0o0 (⟨false, p1, 0, 0⟩ : Obst_Call) (⟨p1, 0, 0, 0⟩ : Tbst_node) y0 y7p g2c0 hx6) ?_
 rintro _ _ h6 e6 w6 ⟨z6_y0, z6_y1, v6_r, t6_r, rfl, rfl, f6_0, f6_1, f6_2⟩
 simp only [ca_, na_]
 refine gN rfl rfl (gF (fa_146_1 _ _) rfl rfl (gs_front (.s (.z)) ?_))
 obtain ⟨v8z_4, rfl⟩ := f6_1
 refine gs_unz ?_
 simp only [ca_, na_]
 refine gs_store (ot rfl) (ot rfl) sz_135 (OC.sz f6_2) (OC.one f6_2) rfl (OC.okc f6_2) rfl .z (go_nil (go_seq (go_region (gM rfl rfl (gA rfl rfl (go_nil (gs_pack (fun s => Zbst_Call_2 h6 bp0 b13_5 s (⟨x6.2.2.2.told_Ok, x6.2.2.2.told_Key, x6.2.2.2.told_Val, x6.2.2.2.told_Err, x6.1⟩ : Obst_Call_2)) (.cons .z (.cons (.s (.z)) .nil)) ⟨_, _, rfl, f6_2⟩ fun z9p y9p => ?_)))))))
 obtain rfl := someI hF
 exact g_retO (rst rfl rs0) (.cons (.s (.z)) (.cons .z .nil)) e6 w6 (nd1 f6_0.nd (nd1 y9p.nd nd0)) ⟨_, _, _, rfl, rfl, f6_0, y9p⟩
theorem s_bst_Tree_Delete (n : Nat) {h : Heap} (hw : Wf h) (p0 : Obst_Tree) (p0o0 : Omem_Mem) (p1 : ByteArray) {bp0 bp0_1 : Nat} {z0 : List Blk} (y0 : Zbst_Tree h bp0 bp0_1 z0 p0 p0o0) {r : Obst_Call_2 × Obst_Tree × Omem_Mem} (hF : F_bst_Tree_Delete n p0 p0o0 p1 = some r) :
 EvO EE 63 [pt bp0, .string p1] [z0] h (fun v S h1 => ∃ zy0 bw0 zw0, v = pt bw0 ∧ S = [zy0, zw0] ∧ Zbst_Tree h1 bp0 bp0_1 zy0 r.2.1 r.2.2 ∧ Zbst_Call_2 h1 bp0 bw0 zw0 r.1) := by
 unfold F_bst_Tree_Delete at hF
 refine evo_of rfl at_63 rfl rfl ?_
 refine go_seq (go_region (gs_box rfl (ot rfl) rfl (fun b2_3 => gAc rfl rfl (go_nil (go_seq (go_region (gls 0 ag_61 rfl rfl rfl rfl (gM rfl rfl (gr rfl (r_func os0 (os1 (ot rfl) os0)) (gs_pub .z (fun h5 e5 w5 hb5 => ?_)))))))))))
 have g5_ : BK h5 b2_3 [pt bp0] 61 := hb5
 obtain ⟨x4, hx4, hF⟩ := obind hF
 refine kcX EE_fr w5 (.cons .z .nil) rfl of (ops_t rfl (ops_t rfl (ops_t rfl os0))) hb_71 (s_bst_Tree_call_bst_Tree_Delete_1 n w5 p0 p0o0 p1 (y0.ext e5.kn) g5_ hx4) ?_
 rintro _ _ h4 e4 w4 ⟨z4_y0, b4_w0, z4_w0, rfl, rfl, f4_0, f4_1⟩
 simp only [ca_, na_]
 refine gA rfl rfl (go_nil ?_)
 obtain rfl := someI hF
 exact g_retO (rst rfl rs0) (.cons .z (.cons .z .nil)) (e5.trans e4) w4 (nd1 f4_0.nd (nd1 f4_1.nd nd0)) ⟨_, _, _, rfl, rfl, f4_0, f4_1⟩
theorem s_bst_Tree_Insert_1 {rc : RC} (hrc : RCok rc) {h : Heap} (hw : Wf h) (p0 : Obst_Tree) (p0o0 : Omem_Mem) (p1 : Obst_Call) (p3 : Tbst_node) (p4 : Int) {bp0 bp0_1 : Nat} {z0 : List Blk} {bp1 : Nat} {z1 : List Blk} {b4 : Nat} {b5 : Nat} (y0 : Zbst_Tree h bp0 bp0_1 z0 p0 p0o0) (y1 : Zbst_Call h bp1 z1 p1) (g4 : BK h b4 [.int .u64 p4] 93) (g5 : BK h b5 [pt bp0] 61) {r : _} (hF : F_bst_Tree_Insert_1 rc p0 p0o0 p1 p3 p4 = some r) :
 EvO EE 96 [pt bp1, .agg #[.string p3.key, .int .i64 p3.top, .int .u64 p3.val, .int .i64 p3.cell], pt b4, pt b5] [z0, z1] h (fun v S h1 => ∃ zy0 zy1 vr tr, v = vr ∧ S = [zy0, zy1, tr] ∧ Zbst_Tree h1 bp0 bp0_1 zy0 r.2.1 r.2.2.1 ∧ Zbst_Call h1 bp1 zy1 r.2.2.2 ∧ OC h1 bp0 bp1 tr r.1 vr) := by
 unfold F_bst_Tree_Insert_1 at hF
 refine evo_of rfl at_96 rfl rfl ?_
 refine go_seq (go_region (gs_box rfl (ot rfl) rfl (fun b5_7 => gAc rfl rfl (go_nil (go_seq (go_region (glc ag_93 g4 rfl rfl rfl (gF (fa_127_2 _ _) rfl rfl (gs_store (ot rfl) (ot rfl) sz_93 rfl rfl rfl rfl rfl .z (go_nil (go_seq (go_region (glc ag_61 g5 rfl rfl rfl (gM rfl rfl (glw 0 ag_127 sz_127 rfl rfl rfl rfl ?_)))))))))))))))
 obtain ⟨x8, hx8, hF⟩ := obind hF
 refine kcX EE_fr hw (.cons (.s (.z)) (.cons (.s (.z)) .nil)) rfl of (ops_t rfl (ops_t rfl (ops_t rfl os0))) hb_97 (s_bst_Tree_insert hrc hw p0 p0o0 p1 (⟨p3.key, p3.top, p4, p3.cell⟩ : Tbst_node) y0 y1 hx8) ?_
 rintro _ _ h8 e8 w8 ⟨z8_y0, z8_y1, v8_r, t8_r, rfl, rfl, f8_0, f8_1, f8_2⟩
 simp only [ca_, na_]
 refine gA rfl rfl (go_nil ?_)
 obtain rfl := someI hF
 exact g_retO (rst rfl rs0) (.cons .z (.cons .z (.cons .z .nil))) e8 w8 (nd1 f8_0.nd (nd1 f8_1.nd (ndc f8_2 nd0))) ⟨_, _, _, _, rfl, rfl, f8_0, f8_1, f8_2⟩
theorem s_bst_Tree_call_bst_Tree_Insert_1 (n : Nat) {h : Heap} (hw : Wf h) (p0 : Obst_Tree) (p0o0 : Omem_Mem) (p1 : ByteArray) (p2c0 : Int) {bp0 bp0_1 : Nat} {z0 : List Blk} {b2c0 : Nat} {b2c1 : Nat} (y0 : Zbst_Tree h bp0 bp0_1 z0 p0 p0o0) (g2c0 : BK h b2c0 [.int .u64 p2c0] 93) (g2c1 : BK h b2c1 [pt bp0] 61) {r : Obst_Call_2 × Obst_Tree × Omem_Mem} (hF : F_bst_Tree_call_bst_Tree_Insert_1 n p0 p0o0 p1 p2c0 = some r) :
 EvO EE 71 [pt bp0, .string p1, .func (.func 96) #[] #[pt b2c0, pt b2c1]] [z0] h (fun v S h1 => ∃ zy0 bw0 zw0, v = pt bw0 ∧ S = [zy0, zw0] ∧ Zbst_Tree h1 bp0 bp0_1 zy0 r.2.1 r.2.2 ∧ Zbst_Call_2 h1 bp0 bw0 zw0 r.1) := by
 unfold F_bst_Tree_call_bst_Tree_Insert_1 at hF
 refine evo_of rfl at_71 rfl rfl ?_
 refine go_seq (go_region (gAc rfl rfl (go_nil (go_seq (go_seq (go_region (gM rfl rfl (gr rfl (r_bin (v := .bool false) (ot rfl) (oc rfl) (by first | rfl | kernel_rfl)) (go_nil ?_)))))))))
 refine g_cond (b := false) (ot rfl) (fun hc4 => ?_) (fun hc4 => ?_)
 ·
  cases hc4
 refine go_skip (go_seq (go_region (gM rfl rfl (gr rfl (r_build (op1 (ot rfl) op0) rfl) (gr rfl (r_build (op1 (ot rfl) op0) rfl) (gs_box rfl (ot rfl) rfl (fun b13_5 => gA rfl rfl (go_nil (go_seq (go_region (gM rfl rfl (gM rfl rfl (gM rfl rfl (gM rfl rfl (gr rfl (r_build (op1 (ot rfl) op0) rfl) (gs_pack (fun s => Zbst_Call h b13_5 s (⟨false, p1, 0, 0⟩ : Obst_Call)) (.cons .z .nil) ⟨_, rfl⟩ fun z7p y7p => ?_))))))))))))))))
 obtain ⟨x6, hx6, hF⟩ := obind hF
 refine kcX EE_fr hw (.cons (.s (.z)) (.cons .z .nil)) rfl (ot rfl) (ops_t rfl (ops_t rfl os0)) hb_96 (s_bst_Tree_Insert_1 (F_step_ok n) hw p0 p0o0 (⟨false, p1, 0, 0⟩ : Obst_Call) (⟨p1, 0, 0, 0⟩ : Tbst_node) p2c0 y0 y7p g2c0 g2c1 hx6) ?_
 rintro _ _ h6 e6 w6 ⟨z6_y0, z6_y1, v6_r, t6_r, rfl, rfl, f6_0, f6_1, f6_2⟩
 simp only [ca_, na_]
 refine gN rfl rfl (gF (fa_146_1 _ _) rfl rfl (gs_front (.s (.z)) ?_))
 obtain ⟨v8z_4, rfl⟩ := f6_1
 refine gs_unz ?_
 simp only [ca_, na_]
 refine gs_store (ot rfl) (ot rfl) sz_135 (OC.sz f6_2) (OC.one f6_2) rfl (OC.okc f6_2) rfl .z (go_nil (go_seq (go_region (gM rfl rfl (gA rfl rfl (go_nil (gs_pack (fun s => Zbst_Call_2 h6 bp0 b13_5 s (⟨x6.2.2.2.told_Ok, x6.2.2.2.told_Key, x6.2.2.2.told_Val, x6.2.2.2.told_Err, x6.1⟩ : Obst_Call_2)) (.cons .z (.cons (.s (.z)) .nil)) ⟨_, _, rfl, f6_2⟩ fun z9p y9p => ?_)))))))
 obtain rfl := someI hF
 exact g_retO (rst rfl rs0) (.cons (.s (.z)) (.cons .z .nil)) e6 w6 (nd1 f6_0.nd (nd1 y9p.nd nd0)) ⟨_, _, _, rfl, rfl, f6_0, y9p⟩
theorem s_bst_Tree_Insert (n : Nat) {h : Heap} (hw : Wf h) (p0 : Obst_Tree) (p0o0 : Omem_Mem) (p1 : ByteArray) (p2 : Int) {bp0 bp0_1 : Nat} {z0 : List Blk} (y0 : Zbst_Tree h bp0 bp0_1 z0 p0 p0o0) {r : Obst_Call_2 × Obst_Tree × Omem_Mem} (hF : F_bst_Tree_Insert n p0 p0o0 p1 p2 = some r) :
 EvO EE 59 [pt bp0, .string p1, .int .u64 p2] [z0] h (fun v S h1 => ∃ zy0 bw0 zw0, v = pt bw0 ∧ S = [zy0, zw0] ∧ Zbst_Tree h1 bp0 bp0_1 zy0 r.2.1 r.2.2 ∧ Zbst_Call_2 h1 bp0 bw0 zw0 r.1) := by
 unfold F_bst_Tree_Insert at hF
 refine evo_of rfl at_59 rfl rfl ?_
 refine go_seq (go_region (gs_box rfl (ot rfl) rfl (fun b3_4 => gs_box rfl (ot rfl) rfl (fun b5_5 => gAc rfl rfl (go_nil (go_seq (go_region (gls 1 ag_61 rfl rfl rfl rfl (gM rfl rfl (gr rfl (r_func os0 (os1 (ot rfl) (os1 (ot rfl) os0))) (gs_pub .z (fun h7 e7 w7 hb7 => ?_))))))))))))
 have g7_ : BK h7 b5_5 [.int .u64 p2] 93 := hb7
 refine gs_pub .z (fun h8 e8 w8 hb8 => ?_)
 have g8_ : BK h8 b3_4 [pt bp0] 61 := hb8
 obtain ⟨x6, hx6, hF⟩ := obind hF
 refine kcX EE_fr w8 (.cons .z .nil) rfl of (ops_t rfl (ops_t rfl (ops_t rfl os0))) hb_71 (s_bst_Tree_call_bst_Tree_Insert_1 n w8 p0 p0o0 p1 p2 ((y0.ext e7.kn).ext e8.kn) (g7_.ext e8.kn) g8_ hx6) ?_
 rintro _ _ h6 e6 w6 ⟨z6_y0, b6_w0, z6_w0, rfl, rfl, f6_0, f6_1⟩
 simp only [ca_, na_]
 refine gA rfl rfl (go_nil ?_)
 obtain rfl := someI hF
 exact g_retO (rst rfl rs0) (.cons .z (.cons .z .nil)) (e7.trans (e8.trans e6)) w6 (nd1 f6_0.nd (nd1 f6_1.nd nd0)) ⟨_, _, _, rfl, rfl, f6_0, f6_1⟩
end Go.Proofs.YtndhbaidibioeaaGreat.V
