/- Walks.
   No condition: these are laws of the clean machine and of this program. -/
import Derived.Test.YtndhbaidibioeaaGreatWb
namespace Go.Proofs.YtndhbaidibioeaaGreat.V
open Go
set_option linter.unusedVariables false
set_option linter.unusedSimpArgs false
set_option maxRecDepth 100000
set_option maxHeartbeats 4000000
theorem F_step_ok : ∀ n, RCok (F_step n)
 | 0 => by
  intro hw p0 p0o0 p1 bp0 bp0_1 z0 bp1 z1 y0 y1 x a v seg co r hx
  cases hx
 | n + 1 => by
  intro hw p0 p0o0 p1 bp0 bp0_1 z0 bp1 z1 y0 y1 x a v seg co r hx
  cases co with
  | c_Find_1_1 g0 g1 g2 =>
   cases a with
   | u => exact nox hx
   | s z => exact ⟨74, _, rfl, hb_74, s_bst_Tree_Find_1_1 (F_step_ok n) hw p0 p0o0 p1 z _ y0 y1 g0 g1 g2 hx⟩
   | b z => exact nox hx
   | w z => exact nox hx
  | c_Seek_1_1 g0 g1 g2 =>
   cases a with
   | u => exact nox hx
   | s z => exact ⟨110, _, rfl, hb_110, s_bst_Tree_Seek_1_1 (F_step_ok n) hw p0 p0o0 p1 z _ y0 y1 g0 g1 g2 hx⟩
   | b z => exact nox hx
   | w z => exact nox hx
  | c_insert_1 g0 g1 g2 =>
   cases a with
   | u => exact ⟨117, _, rfl, hb_117, s_bst_Tree_insert_1 (F_step_ok n) hw p0 p0o0 p1  _ y0 y1 g0 g1 g2 hx⟩
   | s z => exact nox hx
   | b z => exact nox hx
   | w z => exact nox hx
  | c_insert_2 g0 g1 g2 g3 k3 =>
   cases a with
   | u => exact nox hx
   | s z => exact ⟨118, _, rfl, hb_118, s_bst_Tree_insert_2 (F_step_ok n) hw p0 p0o0 p1 z _ _ y0 y1 g0 g1 g2 g3 k3 hx⟩
   | b z => exact nox hx
   | w z => exact nox hx
  | c_down_1 g0 g2 g3 k3 =>
   cases a with
   | u => exact ⟨133, _, rfl, hb_133, s_bst_Tree_down_1 (F_step_ok n) hw p0 p0o0 p1  _ _ _ y0 y1 g0 g2 g3 k3 hx⟩
   | s z => exact nox hx
   | b z => exact nox hx
   | w z => exact nox hx
  | c_down_1_1 g0 g2 g3 k3 =>
   cases a with
   | u => exact ⟨134, _, rfl, hb_134, s_bst_Tree_down_1_1 (F_step_ok n) hw p0 p0o0 p1  _ _ _ y0 y1 g0 g2 g3 k3 hx⟩
   | s z => exact nox hx
   | b z => exact nox hx
   | w z => exact nox hx
  | c_least_1 g0 g1 g2 =>
   cases a with
   | u => exact ⟨136, _, rfl, hb_136, s_bst_Tree_least_1 (F_step_ok n) hw p0 p0o0 p1  _ y0 y1 g0 g1 g2 hx⟩
   | s z => exact nox hx
   | b z => exact nox hx
   | w z => exact nox hx
  | c_help_1 g0 k0 =>
   cases a with
   | u => exact nox hx
   | s z => exact nox hx
   | b z => exact ⟨141, _, rfl, hb_141, s_bst_Tree_help_1 (F_step_ok n) hw p0 p0o0 p1 z _ y0 y1 g0 k0 hx⟩
   | w z => exact nox hx
  | c_grow_1 g0 g1 g2 g3 g4 g5 g6 g7 =>
   cases a with
   | u => exact ⟨143, _, rfl, hb_143, s_bst_Tree_grow_1 (F_step_ok n) hw p0 p0o0 p1  _ _ _ _ _ _ y0 y1 g0 g1 g2 g3 g4 g5 g6 g7 hx⟩
   | s z => exact nox hx
   | b z => exact nox hx
   | w z => exact nox hx
  | c_grow_1_1 g0 g1 g2 g3 g4 g5 g6 =>
   cases a with
   | u => exact ⟨144, _, rfl, hb_144, s_bst_Tree_grow_1_1 (F_step_ok n) hw p0 p0o0 p1  _ _ _ _ _ y0 y1 g0 g1 g2 g3 g4 g5 g6 hx⟩
   | s z => exact nox hx
   | b z => exact nox hx
   | w z => exact nox hx
  | c_grow_1_1_1 g0 g1 g2 g3 g4 =>
   cases a with
   | u => exact ⟨145, _, rfl, hb_145, s_bst_Tree_grow_1_1_1 (F_step_ok n) hw p0 p0o0 p1  _ _ _ y0 y1 g0 g1 g2 g3 g4 hx⟩
   | s z => exact nox hx
   | b z => exact nox hx
   | w z => exact nox hx
  | c_grow_1_1_1_1 g0 g1 g2 =>
   cases a with
   | u => exact ⟨146, _, rfl, hb_146, s_bst_Tree_grow_1_1_1_1 (F_step_ok n) hw p0 p0o0 p1  _ y0 y1 g0 g1 g2 hx⟩
   | s z => exact nox hx
   | b z => exact nox hx
   | w z => exact nox hx
  | c_grow_1_1_1_2 g0 g1 =>
   cases a with
   | u => exact ⟨147, _, rfl, hb_147, s_bst_Tree_grow_1_1_1_2 (F_step_ok n) hw p0 p0o0 p1  _ y0 y1 g0 g1 hx⟩
   | s z => exact nox hx
   | b z => exact nox hx
   | w z => exact nox hx
  | c_loses_1 g0 g1 g2 g3 g4 k4 =>
   cases a with
   | u => exact ⟨148, _, rfl, hb_148, s_bst_Tree_loses_1 (F_step_ok n) hw p0 p0o0 p1  _ _ _ _ y0 y1 g0 g1 g2 g3 g4 k4 hx⟩
   | s z => exact nox hx
   | b z => exact nox hx
   | w z => exact nox hx
  | c_loses_1_1 g0 k0 =>
   cases a with
   | u => exact ⟨149, _, rfl, hb_149, s_bst_Tree_loses_1_1 (F_step_ok n) hw p0 p0o0 p1  _ y0 y1 g0 k0 hx⟩
   | s z => exact nox hx
   | b z => exact nox hx
   | w z => exact nox hx
  | c_loses_1_2 g0 g1 g2 g3 k3 =>
   cases a with
   | u => exact ⟨150, _, rfl, hb_150, s_bst_Tree_loses_1_2 (F_step_ok n) hw p0 p0o0 p1  _ _ _ y0 y1 g0 g1 g2 g3 k3 hx⟩
   | s z => exact nox hx
   | b z => exact nox hx
   | w z => exact nox hx
  | c_loses_1_2_1 g0 k0 =>
   cases a with
   | u => exact ⟨152, _, rfl, hb_152, s_bst_Tree_loses_1_2_1 (F_step_ok n) hw p0 p0o0 p1  _ y0 y1 g0 k0 hx⟩
   | s z => exact nox hx
   | b z => exact nox hx
   | w z => exact nox hx
  | c_grows_1 g0 g1 g2 g3 k3 =>
   cases a with
   | u => exact ⟨154, _, rfl, hb_154, s_bst_Tree_grows_1 (F_step_ok n) hw p0 p0o0 p1  _ _ _ y0 y1 g0 g1 g2 g3 k3 hx⟩
   | s z => exact nox hx
   | b z => exact nox hx
   | w z => exact nox hx
  | c_goes_1 g0 g1 g2 g3 k3 =>
   cases a with
   | u => exact nox hx
   | s z => exact nox hx
   | b z => exact nox hx
   | w z => exact ⟨155, _, rfl, hb_155, s_bst_Tree_goes_1 (F_step_ok n) hw p0 p0o0 p1 z _ _ _ y0 y1 g0 g1 g2 g3 k3 hx⟩
  | c_goes_1_1 g0 g1 g2 g3 k3 =>
   cases a with
   | u => exact ⟨156, _, rfl, hb_156, s_bst_Tree_goes_1_1 (F_step_ok n) hw p0 p0o0 p1  _ _ _ y0 y1 g0 g1 g2 g3 k3 hx⟩
   | s z => exact nox hx
   | b z => exact nox hx
   | w z => exact nox hx
  | c_goes_2 g0 g1 g2 k2 =>
   cases a with
   | u => exact ⟨157, _, rfl, hb_157, s_bst_Tree_goes_2 (F_step_ok n) hw p0 p0o0 p1  _ _ y0 y1 g0 g1 g2 k2 hx⟩
   | s z => exact nox hx
   | b z => exact nox hx
   | w z => exact nox hx
  | c_goes_2_1 g0 g1 g2 k2 =>
   cases a with
   | u => exact ⟨158, _, rfl, hb_158, s_bst_Tree_goes_2_1 (F_step_ok n) hw p0 p0o0 p1  _ _ y0 y1 g0 g1 g2 k2 hx⟩
   | s z => exact nox hx
   | b z => exact nox hx
   | w z => exact nox hx
  | c_clean_1 g0 g1 g2 g3 g4 k4 =>
   cases a with
   | u => exact ⟨159, _, rfl, hb_159, s_bst_Tree_clean_1 (F_step_ok n) hw p0 p0o0 p1  _ _ _ _ y0 y1 g0 g1 g2 g3 g4 k4 hx⟩
   | s z => exact nox hx
   | b z => exact nox hx
   | w z => exact nox hx
  | c_turn_1 g0 g1 g2 g3 g4 k4 =>
   cases a with
   | u => exact ⟨160, _, rfl, hb_160, s_bst_Tree_turn_1 (F_step_ok n) hw p0 p0o0 p1  _ _ _ _ y0 y1 g0 g1 g2 g3 g4 k4 hx⟩
   | s z => exact nox hx
   | b z => exact nox hx
   | w z => exact nox hx
theorem s_bst_Tree_Find_1 {rc : RC} (hrc : RCok rc) {h : Heap} (hw : Wf h) (p0 : Obst_Tree) (p0o0 : Omem_Mem) (p1 : Obst_Call) (p3 : Tbst_node) {bp0 bp0_1 : Nat} {z0 : List Blk} {bp1 : Nat} {z1 : List Blk} {b4 : Nat} (y0 : Zbst_Tree h bp0 bp0_1 z0 p0 p0o0) (y1 : Zbst_Call h bp1 z1 p1) (g4 : BK h b4 [pt bp0] 61) {r : _} (hF : F_bst_Tree_Find_1 rc p0 p0o0 p1 p3 = some r) :
 EvO EE 72 [pt bp1, .agg #[.string p3.key, .int .i64 p3.top, .int .u64 p3.val, .int .i64 p3.cell], pt b4] [z0, z1] h (fun v S h1 => ∃ zy0 zy1 vr tr, v = vr ∧ S = [zy0, zy1, tr] ∧ Zbst_Tree h1 bp0 bp0_1 zy0 r.2.1 r.2.2.1 ∧ Zbst_Call h1 bp1 zy1 r.2.2.2 ∧ OC h1 bp0 bp1 tr r.1 vr) := by
 unfold F_bst_Tree_Find_1 at hF
 refine evo_of rfl at_72 rfl rfl ?_
 refine go_seq (go_region (gs_box rfl (ot rfl) rfl (fun b3_6 => gs_box rfl (ot rfl) rfl (fun b4_7 => gAc rfl rfl (go_nil (go_seq (go_region (glc ag_61 g4 rfl rfl rfl (glw 0 ag_127 sz_127 rfl rfl rfl rfl (gr rfl (r_func os0 (os1 (ot rfl) (os1 (ot rfl) (os1 (ot rfl) os0)))) (gs_pub .z (fun h9 e9 w9 hb9 => ?_))))))))))))
 have g9_ : BK h9 b4_7 [.string p3.key, .int .i64 p3.top, .int .u64 p3.val, .int .i64 p3.cell] 127 := hb9
 refine gs_pub .z (fun h10 e10 w10 hb10 => ?_)
 have g10_ : BK h10 b3_6 [pt bp1] 85 := hb10
 have co11 : CO h10 bp0 bp1 [] (Clo.c_Find_1_1 p3) (.func (.func 74) #[] #[pt b4, pt b4_7, pt b3_6]) := CO.c_Find_1_1 ((g4.ext e9.kn).ext e10.kn) (g9_.ext e10.kn) g10_
 obtain ⟨x8, hx8, hF⟩ := obind hF
 refine kcX EE_fr w10 (.cons .z (.cons .z .nil)) rfl of (ops_t rfl (ops_t rfl (ops_t rfl os0))) hb_73 (s_bst_Tree_search hrc w10 p0 p0o0 p1 p3 (Clo.c_Find_1_1 p3) ((y0.ext e9.kn).ext e10.kn) ((y1.ext e9.kn).ext e10.kn) co11 hx8) ?_
 rintro _ _ h8 e8 w8 ⟨z8_y0, z8_y1, v8_r, t8_r, rfl, rfl, f8_0, f8_1, f8_2⟩
 simp only [ca_, na_]
 refine gA rfl rfl (go_nil ?_)
 obtain rfl := someI hF
 exact g_retO (rst rfl rs0) (.cons .z (.cons .z (.cons .z .nil))) (e9.trans (e10.trans e8)) w8 (nd1 f8_0.nd (nd1 f8_1.nd (ndc f8_2 nd0))) ⟨_, _, _, _, rfl, rfl, f8_0, f8_1, f8_2⟩
theorem s_bst_Tree_call_bst_Tree_Find_1 (n : Nat) {h : Heap} (hw : Wf h) (p0 : Obst_Tree) (p0o0 : Omem_Mem) (p1 : ByteArray) {bp0 bp0_1 : Nat} {z0 : List Blk} {b2c0 : Nat} (y0 : Zbst_Tree h bp0 bp0_1 z0 p0 p0o0) (g2c0 : BK h b2c0 [pt bp0] 61) {r : Obst_Call_2 × Obst_Tree × Omem_Mem} (hF : F_bst_Tree_call_bst_Tree_Find_1 n p0 p0o0 p1 = some r) :
 EvO EE 71 [pt bp0, .string p1, .func (.func 72) #[] #[pt b2c0]] [z0] h (fun v S h1 => ∃ zy0 bw0 zw0, v = pt bw0 ∧ S = [zy0, zw0] ∧ Zbst_Tree h1 bp0 bp0_1 zy0 r.2.1 r.2.2 ∧ Zbst_Call_2 h1 bp0 bw0 zw0 r.1) := by
 unfold F_bst_Tree_call_bst_Tree_Find_1 at hF
 refine evo_of rfl at_71 rfl rfl ?_
 refine go_seq (go_region (gAc rfl rfl (go_nil (go_seq (go_seq (go_region (gM rfl rfl (gr rfl (r_bin (v := .bool false) (ot rfl) (oc rfl) (by first | rfl | kernel_rfl)) (go_nil ?_)))))))))
 refine g_cond (b := false) (ot rfl) (fun hc4 => ?_) (fun hc4 => ?_)
 ·
  cases hc4
 refine go_skip (go_seq (go_region (gM rfl rfl (gr rfl (r_build (op1 (ot rfl) op0) rfl) (gr rfl (r_build (op1 (ot rfl) op0) rfl) (gs_box rfl (ot rfl) rfl (fun b13_5 => gA rfl rfl (go_nil (go_seq (go_region (gM rfl rfl (gM rfl rfl (gM rfl rfl (gM rfl rfl (gr rfl (r_build (op1 (ot rfl) op0) rfl) (gs_pack (fun s => Zbst_Call h b13_5 s (⟨false, p1, 0, 0⟩ : Obst_Call)) (.cons .z .nil) ⟨_, rfl⟩ fun z7p y7p => ?_))))))))))))))))
 obtain ⟨x6, hx6, hF⟩ := obind hF
 refine kcX EE_fr hw (.cons (.s (.z)) (.cons .z .nil)) rfl (ot rfl) (ops_t rfl (ops_t rfl os0)) hb_72 (s_bst_Tree_Find_1 (F_step_ok n) hw p0 p0o0 (⟨false, p1, 0, 0⟩ : Obst_Call) (⟨p1, 0, 0, 0⟩ : Tbst_node) y0 y7p g2c0 hx6) ?_
 rintro _ _ h6 e6 w6 ⟨z6_y0, z6_y1, v6_r, t6_r, rfl, rfl, f6_0, f6_1, f6_2⟩
 simp only [ca_, na_]
 refine gN rfl rfl (gF (fa_146_1 _ _) rfl rfl (gs_front (.s (.z)) ?_))
 obtain ⟨v8z_4, rfl⟩ := f6_1
 refine gs_unz ?_
 simp only [ca_, na_]
 refine gs_store (ot rfl) (ot rfl) sz_135 (OC.sz f6_2) (OC.one f6_2) rfl (OC.okc f6_2) rfl .z (go_nil (go_seq (go_region (gM rfl rfl (gA rfl rfl (go_nil (gs_pack (fun s => Zbst_Call_2 h6 bp0 b13_5 s (⟨x6.2.2.2.told_Ok, x6.2.2.2.told_Key, x6.2.2.2.told_Val, x6.2.2.2.told_Err, x6.1⟩ : Obst_Call_2)) (.cons .z (.cons (.s (.z)) .nil)) ⟨_, _, rfl, f6_2⟩ fun z9p y9p => ?_)))))))
 obtain rfl := someI hF
 exact g_retO (rst rfl rs0) (.cons (.s (.z)) (.cons .z .nil)) e6 w6 (nd1 f6_0.nd (nd1 y9p.nd nd0)) ⟨_, _, _, rfl, rfl, f6_0, y9p⟩
theorem s_bst_Tree_Find (n : Nat) {h : Heap} (hw : Wf h) (p0 : Obst_Tree) (p0o0 : Omem_Mem) (p1 : ByteArray) {bp0 bp0_1 : Nat} {z0 : List Blk} (y0 : Zbst_Tree h bp0 bp0_1 z0 p0 p0o0) {r : Obst_Call_2 × Obst_Tree × Omem_Mem} (hF : F_bst_Tree_Find n p0 p0o0 p1 = some r) :
 EvO EE 41 [pt bp0, .string p1] [z0] h (fun v S h1 => ∃ zy0 bw0 zw0, v = pt bw0 ∧ S = [zy0, zw0] ∧ Zbst_Tree h1 bp0 bp0_1 zy0 r.2.1 r.2.2 ∧ Zbst_Call_2 h1 bp0 bw0 zw0 r.1) := by
 unfold F_bst_Tree_Find at hF
 refine evo_of rfl at_41 rfl rfl ?_
 refine go_seq (go_region (gs_box rfl (ot rfl) rfl (fun b2_3 => gAc rfl rfl (go_nil (go_seq (go_region (gls 0 ag_61 rfl rfl rfl rfl (gM rfl rfl (gr rfl (r_func os0 (os1 (ot rfl) os0)) (gs_pub .z (fun h5 e5 w5 hb5 => ?_)))))))))))
 have g5_ : BK h5 b2_3 [pt bp0] 61 := hb5
 obtain ⟨x4, hx4, hF⟩ := obind hF
 refine kcX EE_fr w5 (.cons .z .nil) rfl of (ops_t rfl (ops_t rfl (ops_t rfl os0))) hb_71 (s_bst_Tree_call_bst_Tree_Find_1 n w5 p0 p0o0 p1 (y0.ext e5.kn) g5_ hx4) ?_
 rintro _ _ h4 e4 w4 ⟨z4_y0, b4_w0, z4_w0, rfl, rfl, f4_0, f4_1⟩
 simp only [ca_, na_]
 refine gA rfl rfl (go_nil ?_)
 obtain rfl := someI hF
 exact g_retO (rst rfl rs0) (.cons .z (.cons .z .nil)) (e5.trans e4) w4 (nd1 f4_0.nd (nd1 f4_1.nd nd0)) ⟨_, _, _, rfl, rfl, f4_0, f4_1⟩
theorem s_bst_Tree_Seek_1 {rc : RC} (hrc : RCok rc) {h : Heap} (hw : Wf h) (p0 : Obst_Tree) (p0o0 : Omem_Mem) (p1 : Obst_Call) (p3 : Tbst_node) {bp0 bp0_1 : Nat} {z0 : List Blk} {bp1 : Nat} {z1 : List Blk} {b4 : Nat} (y0 : Zbst_Tree h bp0 bp0_1 z0 p0 p0o0) (y1 : Zbst_Call h bp1 z1 p1) (g4 : BK h b4 [pt bp0] 61) {r : _} (hF : F_bst_Tree_Seek_1 rc p0 p0o0 p1 p3 = some r) :
 EvO EE 109 [pt bp1, .agg #[.string p3.key, .int .i64 p3.top, .int .u64 p3.val, .int .i64 p3.cell], pt b4] [z0, z1] h (fun v S h1 => ∃ zy0 zy1 vr tr, v = vr ∧ S = [zy0, zy1, tr] ∧ Zbst_Tree h1 bp0 bp0_1 zy0 r.2.1 r.2.2.1 ∧ Zbst_Call h1 bp1 zy1 r.2.2.2 ∧ OC h1 bp0 bp1 tr r.1 vr) := by
 unfold F_bst_Tree_Seek_1 at hF
 refine evo_of rfl at_109 rfl rfl ?_
 refine go_seq (go_region (gs_box rfl (ot rfl) rfl (fun b3_6 => gs_box rfl (ot rfl) rfl (fun b4_7 => gAc rfl rfl (go_nil (go_seq (go_region (glc ag_61 g4 rfl rfl rfl (glw 0 ag_127 sz_127 rfl rfl rfl rfl (gr rfl (r_func os0 (os1 (ot rfl) (os1 (ot rfl) (os1 (ot rfl) os0)))) (gs_pub .z (fun h9 e9 w9 hb9 => ?_))))))))))))
 have g9_ : BK h9 b4_7 [.string p3.key, .int .i64 p3.top, .int .u64 p3.val, .int .i64 p3.cell] 127 := hb9
 refine gs_pub .z (fun h10 e10 w10 hb10 => ?_)
 have g10_ : BK h10 b3_6 [pt bp1] 85 := hb10
 have co11 : CO h10 bp0 bp1 [] (Clo.c_Seek_1_1 p3) (.func (.func 110) #[] #[pt b4, pt b4_7, pt b3_6]) := CO.c_Seek_1_1 ((g4.ext e9.kn).ext e10.kn) (g9_.ext e10.kn) g10_
 obtain ⟨x8, hx8, hF⟩ := obind hF
 refine kcX EE_fr w10 (.cons .z (.cons .z .nil)) rfl of (ops_t rfl (ops_t rfl (ops_t rfl os0))) hb_73 (s_bst_Tree_search hrc w10 p0 p0o0 p1 p3 (Clo.c_Seek_1_1 p3) ((y0.ext e9.kn).ext e10.kn) ((y1.ext e9.kn).ext e10.kn) co11 hx8) ?_
 rintro _ _ h8 e8 w8 ⟨z8_y0, z8_y1, v8_r, t8_r, rfl, rfl, f8_0, f8_1, f8_2⟩
 simp only [ca_, na_]
 refine gA rfl rfl (go_nil ?_)
 obtain rfl := someI hF
 exact g_retO (rst rfl rs0) (.cons .z (.cons .z (.cons .z .nil))) (e9.trans (e10.trans e8)) w8 (nd1 f8_0.nd (nd1 f8_1.nd (ndc f8_2 nd0))) ⟨_, _, _, _, rfl, rfl, f8_0, f8_1, f8_2⟩
theorem s_bst_Tree_call_bst_Tree_Seek_1 (n : Nat) {h : Heap} (hw : Wf h) (p0 : Obst_Tree) (p0o0 : Omem_Mem) (p1 : ByteArray) {bp0 bp0_1 : Nat} {z0 : List Blk} {b2c0 : Nat} (y0 : Zbst_Tree h bp0 bp0_1 z0 p0 p0o0) (g2c0 : BK h b2c0 [pt bp0] 61) {r : Obst_Call_2 × Obst_Tree × Omem_Mem} (hF : F_bst_Tree_call_bst_Tree_Seek_1 n p0 p0o0 p1 = some r) :
 EvO EE 71 [pt bp0, .string p1, .func (.func 109) #[] #[pt b2c0]] [z0] h (fun v S h1 => ∃ zy0 bw0 zw0, v = pt bw0 ∧ S = [zy0, zw0] ∧ Zbst_Tree h1 bp0 bp0_1 zy0 r.2.1 r.2.2 ∧ Zbst_Call_2 h1 bp0 bw0 zw0 r.1) := by
 unfold F_bst_Tree_call_bst_Tree_Seek_1 at hF
 refine evo_of rfl at_71 rfl rfl ?_
 refine go_seq (go_region (gAc rfl rfl (go_nil (go_seq (go_seq (go_region (gM rfl rfl (gr rfl (r_bin (v := .bool false) (ot rfl) (oc rfl) (by first | rfl | kernel_rfl)) (go_nil ?_)))))))))
 refine g_cond (b := false) (ot rfl) (fun hc4 => ?_) (fun hc4 => ?_)
 ·
  cases hc4
 refine go_skip (go_seq (go_region (gM rfl rfl (gr rfl (r_build (op1 (ot rfl) op0) rfl) (gr rfl (r_build (op1 (ot rfl) op0) rfl) (gs_box rfl (ot rfl) rfl (fun b13_5 => gA rfl rfl (go_nil (go_seq (go_region (gM rfl rfl (gM rfl rfl (gM rfl rfl (gM rfl rfl (gr rfl (r_build (op1 (ot rfl) op0) rfl) (gs_pack (fun s => Zbst_Call h b13_5 s (⟨false, p1, 0, 0⟩ : Obst_Call)) (.cons .z .nil) ⟨_, rfl⟩ fun z7p y7p => ?_))))))))))))))))
 obtain ⟨x6, hx6, hF⟩ := obind hF
 refine kcX EE_fr hw (.cons (.s (.z)) (.cons .z .nil)) rfl (ot rfl) (ops_t rfl (ops_t rfl os0)) hb_109 (s_bst_Tree_Seek_1 (F_step_ok n) hw p0 p0o0 (⟨false, p1, 0, 0⟩ : Obst_Call) (⟨p1, 0, 0, 0⟩ : Tbst_node) y0 y7p g2c0 hx6) ?_
 rintro _ _ h6 e6 w6 ⟨z6_y0, z6_y1, v6_r, t6_r, rfl, rfl, f6_0, f6_1, f6_2⟩
 simp only [ca_, na_]
 refine gN rfl rfl (gF (fa_146_1 _ _) rfl rfl (gs_front (.s (.z)) ?_))
 obtain ⟨v8z_4, rfl⟩ := f6_1
 refine gs_unz ?_
 simp only [ca_, na_]
 refine gs_store (ot rfl) (ot rfl) sz_135 (OC.sz f6_2) (OC.one f6_2) rfl (OC.okc f6_2) rfl .z (go_nil (go_seq (go_region (gM rfl rfl (gA rfl rfl (go_nil (gs_pack (fun s => Zbst_Call_2 h6 bp0 b13_5 s (⟨x6.2.2.2.told_Ok, x6.2.2.2.told_Key, x6.2.2.2.told_Val, x6.2.2.2.told_Err, x6.1⟩ : Obst_Call_2)) (.cons .z (.cons (.s (.z)) .nil)) ⟨_, _, rfl, f6_2⟩ fun z9p y9p => ?_)))))))
 obtain rfl := someI hF
 exact g_retO (rst rfl rs0) (.cons (.s (.z)) (.cons .z .nil)) e6 w6 (nd1 f6_0.nd (nd1 y9p.nd nd0)) ⟨_, _, _, rfl, rfl, f6_0, y9p⟩
theorem s_bst_Tree_Seek (n : Nat) {h : Heap} (hw : Wf h) (p0 : Obst_Tree) (p0o0 : Omem_Mem) (p1 : ByteArray) {bp0 bp0_1 : Nat} {z0 : List Blk} (y0 : Zbst_Tree h bp0 bp0_1 z0 p0 p0o0) {r : Obst_Call_2 × Obst_Tree × Omem_Mem} (hF : F_bst_Tree_Seek n p0 p0o0 p1 = some r) :
 EvO EE 81 [pt bp0, .string p1] [z0] h (fun v S h1 => ∃ zy0 bw0 zw0, v = pt bw0 ∧ S = [zy0, zw0] ∧ Zbst_Tree h1 bp0 bp0_1 zy0 r.2.1 r.2.2 ∧ Zbst_Call_2 h1 bp0 bw0 zw0 r.1) := by
 unfold F_bst_Tree_Seek at hF
 refine evo_of rfl at_81 rfl rfl ?_
 refine go_seq (go_region (gs_box rfl (ot rfl) rfl (fun b2_3 => gAc rfl rfl (go_nil (go_seq (go_region (gls 0 ag_61 rfl rfl rfl rfl (gM rfl rfl (gr rfl (r_func os0 (os1 (ot rfl) os0)) (gs_pub .z (fun h5 e5 w5 hb5 => ?_)))))))))))
 have g5_ : BK h5 b2_3 [pt bp0] 61 := hb5
 obtain ⟨x4, hx4, hF⟩ := obind hF
 refine kcX EE_fr w5 (.cons .z .nil) rfl of (ops_t rfl (ops_t rfl (ops_t rfl os0))) hb_71 (s_bst_Tree_call_bst_Tree_Seek_1 n w5 p0 p0o0 p1 (y0.ext e5.kn) g5_ hx4) ?_
 rintro _ _ h4 e4 w4 ⟨z4_y0, b4_w0, z4_w0, rfl, rfl, f4_0, f4_1⟩
 simp only [ca_, na_]
 refine gA rfl rfl (go_nil ?_)
 obtain rfl := someI hF
 exact g_retO (rst rfl rs0) (.cons .z (.cons .z .nil)) (e5.trans e4) w4 (nd1 f4_0.nd (nd1 f4_1.nd nd0)) ⟨_, _, _, rfl, rfl, f4_0, f4_1⟩
theorem s_bst_Tree_Insert_1 {rc : RC} (hrc : RCok rc) {h : Heap} (hw : Wf h) (p0 : Obst_Tree) (p0o0 : Omem_Mem) (p1 : Obst_Call) (p3 : Tbst_node) (p4 : Int) {bp0 bp0_1 : Nat} {z0 : List Blk} {bp1 : Nat} {z1 : List Blk} {b4 : Nat} {b5 : Nat} (y0 : Zbst_Tree h bp0 bp0_1 z0 p0 p0o0) (y1 : Zbst_Call h bp1 z1 p1) (g4 : BK h b4 [.int .u64 p4] 93) (g5 : BK h b5 [pt bp0] 61) {r : _} (hF : F_bst_Tree_Insert_1 rc p0 p0o0 p1 p3 p4 = some r) :
 EvO EE 96 [pt bp1, .agg #[.string p3.key, .int .i64 p3.top, .int .u64 p3.val, .int .i64 p3.cell], pt b4, pt b5] [z0, z1] h (fun v S h1 => ∃ zy0 zy1 vr tr, v = vr ∧ S = [zy0, zy1, tr] ∧ Zbst_Tree h1 bp0 bp0_1 zy0 r.2.1 r.2.2.1 ∧ Zbst_Call h1 bp1 zy1 r.2.2.2 ∧ OC h1 bp0 bp1 tr r.1 vr) := by
 unfold F_bst_Tree_Insert_1 at hF
 refine evo_of rfl at_96 rfl rfl ?_
 refine go_seq (go_region (gs_box rfl (ot rfl) rfl (fun b5_7 => gAc rfl rfl (go_nil (go_seq (go_region (glc ag_93 g4 rfl rfl rfl (gF (fa_127_2 _ _) rfl rfl (gs_store (ot rfl) (ot rfl) sz_93 rfl rfl rfl rfl rfl .z (go_nil (go_seq (go_region (glc ag_61 g5 rfl rfl rfl (gM rfl rfl (glw 0 ag_127 sz_127 rfl rfl rfl rfl ?_)))))))))))))))
 obtain ⟨x8, hx8, hF⟩ := obind hF
 refine kcX EE_fr hw (.cons (.s (.z)) (.cons (.s (.z)) .nil)) rfl of (ops_t rfl (ops_t rfl (ops_t rfl os0))) hb_97 (s_bst_Tree_insert hrc hw p0 p0o0 p1 (⟨p3.key, p3.top, p4, p3.cell⟩ : Tbst_node) y0 y1 hx8) ?_
 rintro _ _ h8 e8 w8 ⟨z8_y0, z8_y1, v8_r, t8_r, rfl, rfl, f8_0, f8_1, f8_2⟩
 simp only [ca_, na_]
 refine gA rfl rfl (go_nil ?_)
 obtain rfl := someI hF
 exact g_retO (rst rfl rs0) (.cons .z (.cons .z (.cons .z .nil))) e8 w8 (nd1 f8_0.nd (nd1 f8_1.nd (ndc f8_2 nd0))) ⟨_, _, _, _, rfl, rfl, f8_0, f8_1, f8_2⟩
theorem s_bst_Tree_call_bst_Tree_Insert_1 (n : Nat) {h : Heap} (hw : Wf h) (p0 : Obst_Tree) (p0o0 : Omem_Mem) (p1 : ByteArray) (p2c0 : Int) {bp0 bp0_1 : Nat} {z0 : List Blk} {b2c0 : Nat} {b2c1 : Nat} (y0 : Zbst_Tree h bp0 bp0_1 z0 p0 p0o0) (g2c0 : BK h b2c0 [.int .u64 p2c0] 93) (g2c1 : BK h b2c1 [pt bp0] 61) {r : Obst_Call_2 × Obst_Tree × Omem_Mem} (hF : F_bst_Tree_call_bst_Tree_Insert_1 n p0 p0o0 p1 p2c0 = some r) :
 EvO EE 71 [pt bp0, .string p1, .func (.func 96) #[] #[pt b2c0, pt b2c1]] [z0] h (fun v S h1 => ∃ zy0 bw0 zw0, v = pt bw0 ∧ S = [zy0, zw0] ∧ Zbst_Tree h1 bp0 bp0_1 zy0 r.2.1 r.2.2 ∧ Zbst_Call_2 h1 bp0 bw0 zw0 r.1) := by
 unfold F_bst_Tree_call_bst_Tree_Insert_1 at hF
 refine evo_of rfl at_71 rfl rfl ?_
 refine go_seq (go_region (gAc rfl rfl (go_nil (go_seq (go_seq (go_region (gM rfl rfl (gr rfl (r_bin (v := .bool false) (ot rfl) (oc rfl) (by first | rfl | kernel_rfl)) (go_nil ?_)))))))))
 refine g_cond (b := false) (ot rfl) (fun hc4 => ?_) (fun hc4 => ?_)
 ·
  cases hc4
 refine go_skip (go_seq (go_region (gM rfl rfl (gr rfl (r_build (op1 (ot rfl) op0) rfl) (gr rfl (r_build (op1 (ot rfl) op0) rfl) (gs_box rfl (ot rfl) rfl (fun b13_5 => gA rfl rfl (go_nil (go_seq (go_region (gM rfl rfl (gM rfl rfl (gM rfl rfl (gM rfl rfl (gr rfl (r_build (op1 (ot rfl) op0) rfl) (gs_pack (fun s => Zbst_Call h b13_5 s (⟨false, p1, 0, 0⟩ : Obst_Call)) (.cons .z .nil) ⟨_, rfl⟩ fun z7p y7p => ?_))))))))))))))))
 obtain ⟨x6, hx6, hF⟩ := obind hF
 refine kcX EE_fr hw (.cons (.s (.z)) (.cons .z .nil)) rfl (ot rfl) (ops_t rfl (ops_t rfl os0)) hb_96 (s_bst_Tree_Insert_1 (F_step_ok n) hw p0 p0o0 (⟨false, p1, 0, 0⟩ : Obst_Call) (⟨p1, 0, 0, 0⟩ : Tbst_node) p2c0 y0 y7p g2c0 g2c1 hx6) ?_
 rintro _ _ h6 e6 w6 ⟨z6_y0, z6_y1, v6_r, t6_r, rfl, rfl, f6_0, f6_1, f6_2⟩
 simp only [ca_, na_]
 refine gN rfl rfl (gF (fa_146_1 _ _) rfl rfl (gs_front (.s (.z)) ?_))
 obtain ⟨v8z_4, rfl⟩ := f6_1
 refine gs_unz ?_
 simp only [ca_, na_]
 refine gs_store (ot rfl) (ot rfl) sz_135 (OC.sz f6_2) (OC.one f6_2) rfl (OC.okc f6_2) rfl .z (go_nil (go_seq (go_region (gM rfl rfl (gA rfl rfl (go_nil (gs_pack (fun s => Zbst_Call_2 h6 bp0 b13_5 s (⟨x6.2.2.2.told_Ok, x6.2.2.2.told_Key, x6.2.2.2.told_Val, x6.2.2.2.told_Err, x6.1⟩ : Obst_Call_2)) (.cons .z (.cons (.s (.z)) .nil)) ⟨_, _, rfl, f6_2⟩ fun z9p y9p => ?_)))))))
 obtain rfl := someI hF
 exact g_retO (rst rfl rs0) (.cons (.s (.z)) (.cons .z .nil)) e6 w6 (nd1 f6_0.nd (nd1 y9p.nd nd0)) ⟨_, _, _, rfl, rfl, f6_0, y9p⟩
theorem s_bst_Tree_Insert (n : Nat) {h : Heap} (hw : Wf h) (p0 : Obst_Tree) (p0o0 : Omem_Mem) (p1 : ByteArray) (p2 : Int) {bp0 bp0_1 : Nat} {z0 : List Blk} (y0 : Zbst_Tree h bp0 bp0_1 z0 p0 p0o0) {r : Obst_Call_2 × Obst_Tree × Omem_Mem} (hF : F_bst_Tree_Insert n p0 p0o0 p1 p2 = some r) :
 EvO EE 59 [pt bp0, .string p1, .int .u64 p2] [z0] h (fun v S h1 => ∃ zy0 bw0 zw0, v = pt bw0 ∧ S = [zy0, zw0] ∧ Zbst_Tree h1 bp0 bp0_1 zy0 r.2.1 r.2.2 ∧ Zbst_Call_2 h1 bp0 bw0 zw0 r.1) := by
 unfold F_bst_Tree_Insert at hF
 refine evo_of rfl at_59 rfl rfl ?_
 refine go_seq (go_region (gs_box rfl (ot rfl) rfl (fun b3_4 => gs_box rfl (ot rfl) rfl (fun b5_5 => gAc rfl rfl (go_nil (go_seq (go_region (gls 1 ag_61 rfl rfl rfl rfl (gM rfl rfl (gr rfl (r_func os0 (os1 (ot rfl) (os1 (ot rfl) os0))) (gs_pub .z (fun h7 e7 w7 hb7 => ?_))))))))))))
 have g7_ : BK h7 b5_5 [.int .u64 p2] 93 := hb7
 refine gs_pub .z (fun h8 e8 w8 hb8 => ?_)
 have g8_ : BK h8 b3_4 [pt bp0] 61 := hb8
 obtain ⟨x6, hx6, hF⟩ := obind hF
 refine kcX EE_fr w8 (.cons .z .nil) rfl of (ops_t rfl (ops_t rfl (ops_t rfl os0))) hb_71 (s_bst_Tree_call_bst_Tree_Insert_1 n w8 p0 p0o0 p1 p2 ((y0.ext e7.kn).ext e8.kn) (g7_.ext e8.kn) g8_ hx6) ?_
 rintro _ _ h6 e6 w6 ⟨z6_y0, b6_w0, z6_w0, rfl, rfl, f6_0, f6_1⟩
 simp only [ca_, na_]
 refine gA rfl rfl (go_nil ?_)
 obtain rfl := someI hF
 exact g_retO (rst rfl rs0) (.cons .z (.cons .z .nil)) (e7.trans (e8.trans e6)) w6 (nd1 f6_0.nd (nd1 f6_1.nd nd0)) ⟨_, _, _, rfl, rfl, f6_0, f6_1⟩
theorem s_bst_Call_Step (n : Nat) {h : Heap} (hw : Wf h) (p0 : Obst_Tree) (p0o0 : Omem_Mem) (p1 : Obst_Call_2) {bp0 bp0_1 : Nat} {z0 : List Blk} {bp1 : Nat} {z1 : List Blk} (y0 : Zbst_Tree h bp0 bp0_1 z0 p0 p0o0) (y1 : Zbst_Call_2 h bp0 bp1 z1 p1) {r : Bool × Obst_Tree × Omem_Mem × Obst_Call_2} (hF : F_bst_Call_Step n p0 p0o0 p1 = some r) :
 EvO EE 65 [pt bp1] [z0, z1] h (fun v S h1 => ∃ zy0 zy1, v = .bool r.1 ∧ S = [zy0, zy1] ∧ Zbst_Tree h1 bp0 bp0_1 zy0 r.2.1 r.2.2.1 ∧ Zbst_Call_2 h1 bp0 bp1 zy1 r.2.2.2) := by
 unfold F_bst_Call_Step at hF
 refine evo_of rfl at_65 rfl rfl ?_
 refine go_seq (go_region (gAc rfl rfl (go_nil (go_seq (go_seq (go_region (gM rfl rfl (gr rfl (r_bin (v := .bool false) (ot rfl) (oc rfl) (by first | rfl | kernel_rfl)) (gM rfl rfl (g_do rfl rfl rfl (gM rfl rfl (g_do rfl rfl rfl (gN rfl rfl (g_do rfl rfl rfl (gF (fa_146_1 _ _) rfl rfl (g_do rfl rfl rfl (gs_front (.s (.z)) ?_)))))))))))))))))
 obtain ⟨v3z_4, t3z_4, rfl, f3z0⟩ := y1
 refine gs_unz ?_
 simp only [ca_, na_]
 refine gls 0 ag_135 rfl rfl rfl rfl (g_do rfl rfl rfl (gr rfl (r_bin (v := .bool ((p1.next).isNone)) (ot rfl) (oc rfl) (OC.eqn f3z0)) (gr rfl (r_pkF (ot rfl) (ot rfl)) (go_nil ?_))))
 refine g_cond (b := (p1.next).isNone) (ot rfl) (fun hc4 => ?_) (fun hc4 => ?_)
 ·
  replace hF := ifT hc4 hF
  refine go_seq (go_region (gAc rfl rfl (go_nil (gs_pack (fun s => Zbst_Call_2 h bp0 bp1 s p1) (.cons .z (.cons .z .nil)) ⟨_, _, rfl, f3z0⟩ fun z5p y5p => ?_))))
  obtain rfl := someI hF
  exact g_retO (rst rfl rs0) (.cons (.s (.z)) (.cons .z .nil)) (HExt.refl _) hw (nd1 y0.nd (nd1 y5p.nd nd0)) ⟨_, _, rfl, rfl, y0, y5p⟩
 ·
  replace hF := ifF hc4 hF
  refine go_skip (go_seq (go_region (gM rfl rfl (gM rfl rfl (gN rfl rfl (gF (fa_146_1 _ _) rfl rfl (gls 0 ag_135 rfl rfl rfl rfl ?_)))))))
  obtain ⟨x7, hx7, hF⟩ := obind hF
  have co7 := OC.get f3z0 hx7
  refine gs_pack (fun s => Zbst_Call h bp1 s (⟨p1.told_Ok, p1.told_Key, p1.told_Val, p1.told_Err⟩ : Obst_Call)) (.cons .z .nil) ⟨_, rfl⟩ fun z8p y8p => ?_
  obtain ⟨x6, hx6, hF⟩ := obind hF
  refine gs_calld EE_fr hw (.cons (.s (.s (.z))) (.cons .z (.cons .z .nil))) (fun _ h => by cases h; rfl) (ot rfl) os0 (by exact (F_step_ok n) hw p0 p0o0 (⟨p1.told_Ok, p1.told_Key, p1.told_Val, p1.told_Err⟩ : Obst_Call) y0 y8p x7 Arg.u t3z_4 co7 hx6) ?_
  rintro _ _ h6 e6 w6 ⟨z6_y0, z6_y1, v6_r, t6_r, rfl, rfl, f6_0, f6_1, f6_2⟩
  simp only [ca_, na_]
  refine gN rfl rfl (gF (fa_146_1 _ _) rfl rfl (gs_front (.s (.z)) ?_))
  obtain ⟨v9z_4, rfl⟩ := f6_1
  refine gs_unz ?_
  simp only [ca_, na_]
  refine gs_store (ot rfl) (ot rfl) sz_135 (OC.sz f6_2) (OC.one f6_2) rfl (OC.okc f6_2) rfl .z (go_nil (go_seq (go_region (gM rfl rfl (gN rfl rfl (gF (fa_146_1 _ _) rfl rfl (gls 0 ag_135 rfl rfl rfl rfl (gr rfl (r_bin (v := .bool ((x6.1).isNone)) (ot rfl) (oc rfl) (OC.eqn f6_2)) (gA rfl rfl (go_nil (gs_pack (fun s => Zbst_Call_2 h6 bp0 bp1 s (⟨x6.2.2.2.told_Ok, x6.2.2.2.told_Key, x6.2.2.2.told_Val, x6.2.2.2.told_Err, x6.1⟩ : Obst_Call_2)) (.cons .z (.cons (.s (.z)) .nil)) ⟨_, _, rfl, f6_2⟩ fun z10p y10p => ?_)))))))))))
  obtain rfl := someI hF
  exact g_retO (rst rfl rs0) (.cons (.s (.z)) (.cons .z .nil)) e6 w6 (nd1 f6_0.nd (nd1 y10p.nd nd0)) ⟨_, _, rfl, rfl, f6_0, y10p⟩
theorem s_bst_Call_Answer {h : Heap} (hw : Wf h) (p0 : Obst_Tree) (p0o0 : Omem_Mem) (p1 : Obst_Call_2) {bp0 bp0_1 : Nat} {z0 : List Blk} {bp1 : Nat} {z1 : List Blk} (y0 : Zbst_Tree h bp0 bp0_1 z0 p0 p0o0) (y1 : Zbst_Call_2 h bp0 bp1 z1 p1) {r : Tbst_Answer × Bool × Obst_Tree × Omem_Mem × Obst_Call_2} (hF : F_bst_Call_Answer p0 p0o0 p1 = some r) :
 EvO EE 44 [pt bp1] [z0, z1] h (fun v S h1 => ∃ zy0 zy1, v = .tuple #[.agg #[.bool r.1.Ok, .string r.1.Key, .int .u64 r.1.Val, .int .i64 r.1.Err], .bool r.2.1] ∧ S = [zy0, zy1] ∧ Zbst_Tree h1 bp0 bp0_1 zy0 r.2.2.1 r.2.2.2.1 ∧ Zbst_Call_2 h1 bp0 bp1 zy1 r.2.2.2.2) := by
 unfold F_bst_Call_Answer at hF
 refine evo_of rfl at_44 rfl rfl ?_
 refine go_seq (go_region (gs_alloc rfl zo_95 rfl (fun b2_3 => gAc rfl rfl (go_nil (go_seq (go_seq (go_region (gM rfl rfl (gr rfl (r_bin (v := .bool false) (ot rfl) (oc rfl) (by first | rfl | kernel_rfl)) (gM rfl rfl (g_do rfl rfl rfl (gM rfl rfl (g_do rfl rfl rfl (gN rfl rfl (g_do rfl rfl rfl (gF (fa_146_1 _ _) rfl rfl (g_do rfl rfl rfl (gs_front (.s (.s (.z))) ?_))))))))))))))))))
 obtain ⟨v4z_4, t4z_4, rfl, f4z0⟩ := y1
 refine gs_unz ?_
 simp only [ca_, na_]
 refine gls 0 ag_135 rfl rfl rfl rfl (g_do rfl rfl rfl (gr rfl (r_bin (v := .bool ((p1.next).isSome)) (ot rfl) (oc rfl) (OC.nen f4z0)) (gr rfl (r_pkF (ot rfl) (ot rfl)) (go_nil ?_))))
 refine g_cond (b := (p1.next).isSome) (ot rfl) (fun hc5 => ?_) (fun hc5 => ?_)
 ·
  replace hF := ifT hc5 hF
  refine go_seq (go_region (gr rfl (r_build op0 rfl) (gs_store (ot rfl) (ot rfl) sz_95 rfl rfl rfl rfl rfl (.s (.s (.z))) (gAc rfl rfl (go_nil (gs_pack (fun s => Zbst_Call_2 h bp0 bp1 s p1) (.cons .z (.cons .z .nil)) ⟨_, _, rfl, f4z0⟩ fun z6p y6p => ?_))))))
  obtain rfl := someI hF
  exact g_retO (rsc rfl (lm_w (mem_seg 1 rfl) ag_95 sz_95 rfl) (rst rfl rs0)) (.cons (.s (.s (.z))) (.cons .z .nil)) (HExt.refl _) hw (nd1 y0.nd (nd1 y6p.nd nd0)) ⟨_, _, rfl, rfl, y0, y6p⟩
 ·
  replace hF := ifF hc5 hF
  refine go_skip (go_seq (go_region (gM rfl rfl (gN rfl rfl (gF (fa_146_0 _ _) rfl rfl (gr rfl (r_load (ot rfl) (lm_a (vs := [_, _, _, _]) (mem_seg 0 rfl) ag_95 sz_95 rfl rfl)) (gs_store (ot rfl) (ot rfl) sz_95 rfl rfl rfl rfl rfl (.s (.s (.z))) (gAc rfl rfl (go_nil (gs_pack (fun s => Zbst_Call_2 h bp0 bp1 s p1) (.cons .z (.cons .z .nil)) ⟨_, _, rfl, f4z0⟩ fun z7p y7p => ?_))))))))))
  obtain rfl := someI hF
  exact g_retO (rsc rfl (lm_w (mem_seg 1 rfl) ag_95 sz_95 rfl) (rst rfl rs0)) (.cons (.s (.s (.z))) (.cons .z .nil)) (HExt.refl _) hw (nd1 y0.nd (nd1 y7p.nd nd0)) ⟨_, _, rfl, rfl, y0, y7p⟩
theorem s_mem_New_nil {h : Heap} (hw : Wf h)    {r : Omem_Mem} (hF : F_mem_New_nil  = some r) :
 EvO EE 24 [.int .i64 0] [] h (fun v S h1 => ∃ bw0 zw0, v = pt bw0 ∧ S = [zw0] ∧ Zmem_Mem h1 bw0 zw0 r) := by
 unfold F_mem_New_nil at hF
 refine evo_of rfl at_24 rfl rfl ?_
 refine go_seq (go_region (gAc rfl rfl (go_nil (go_seq (go_seq (go_region (gM rfl rfl (gr rfl (r_bin (ot rfl) (oc rfl) rfl) (gM rfl rfl (g_do rfl rfl rfl (gM rfl rfl (g_do rfl rfl rfl (gr rfl (r_bin (ot rfl) (oc rfl) rfl) (gr rfl (r_pkF (ot rfl) (ot rfl)) (go_nil ?_)))))))))))))))
 refine g_cond (b := false) (ot rfl) (fun hc2 => ?_) (fun hc2 => ?_)
 ·
  cases hc2
 refine go_skip (go_seq (go_region (gM rfl rfl (gs_mslice (cs := []) rfl (ot rfl) (ot rfl) ut_105 sz_93 by_93 zo_93 rfl rfl (fun b10_3 => gr rfl (r_build (op1 (ot rfl) op0) rfl) (gs_box rfl (ot rfl) rfl (fun b12_4 => gA rfl rfl (go_nil (gs_pack (fun s => Zmem_Mem h b12_4 s (⟨([] : List Int), 0⟩ : Omem_Mem)) (.cons .z (.emp .nil)) ⟨_, _, rfl, (AccR.lit _ _ _ _)⟩ fun z5p y5p => ?_)))))))))
 obtain rfl := someI hF
 exact g_retO (rst rfl rs0) (.cons .z .nil) (HExt.refl _) hw (nd1 y5p.nd nd0) ⟨_, _, rfl, rfl, y5p⟩
theorem s_bst_New {h : Heap} (hw : Wf h) (p0 : Omem_Mem) {bp0 : Nat} {z0 : List Blk} (y0 : Zmem_Mem h bp0 z0 p0) {r : Obst_Tree × Omem_Mem} (hF : F_bst_New p0 = some r) :
 EvO EE 52 [pt bp0] [z0] h (fun v S h1 => ∃ bw0 zw0, v = pt bw0 ∧ S = [zw0] ∧ Zbst_Tree h1 bw0 bp0 zw0 r.1 r.2) := by
 unfold F_bst_New at hF
 refine evo_of rfl at_52 rfl rfl ?_
 refine go_seq (go_region (gAc rfl rfl (go_nil (go_seq (go_region (gM rfl rfl ?_))))))
 obtain ⟨x2, hx2, hF⟩ := obind hF
 refine kcX EE_fr hw (.cons .z .nil) rfl of (ops_t rfl (ops_c rfl os0)) hb_89 (s_mem_Mem_Grow hw p0 3 y0 hx2) ?_
 rintro _ _ h2 e2 w2 ⟨z2_y0, rfl, rfl, f2_0⟩
 simp only [ca_, na_]
 refine gM rfl rfl (gE rfl rfl rfl (gE rfl rfl rfl (gA rfl rfl (gA rfl rfl (go_nil (go_seq (go_seq (go_region (gM rfl rfl (gr rfl (r_bin (ot rfl) (oc rfl) rfl) (go_nil ?_)))))))))))
 refine g_cond (b := (x2.2.1 != 0)) (ot rfl) (fun hc3 => ?_) (fun hc3 => ?_)
 ·
  replace hF := ifT hc3 hF
  refine go_seq (go_region (gAc rfl rfl (go_nil ?_)))
  cases hF
 ·
  replace hF := ifF hc3 hF
  refine go_skip (go_seq (go_region (gM rfl rfl (gr rfl (r_build (op1 (ot rfl) op0) rfl) (gs_box rfl (ot rfl) rfl (fun b15_4 => gA rfl rfl (go_nil (go_seq (go_region (gM rfl rfl (gr rfl (r_build op0 rfl) (gs_pack (fun s => Zbst_Tree h2 b15_4 bp0 s (⟨([] : List Tbst_node), ([] : List Tbst_info)⟩ : Obst_Tree) x2.2.2) (.cons .z (.emp (.emp (.cons .z .nil)))) ⟨_, _, _, _, _, rfl, (AccR.nil _ _ _), (AccR.nil _ _ _), f2_0⟩ fun z6p y6p => ?_))))))))))))
  obtain ⟨x5, hx5, hF⟩ := obind hF
  refine kcX EE_fr w2 (.cons .z .nil) rfl of (ops_t rfl (ops_t rfl os0)) hb_90 (s_bst_Tree_info w2 (⟨([] : List Tbst_node), ([] : List Tbst_info)⟩ : Obst_Tree) x2.2.2 (⟨0, 0, 0, 0, 0⟩ : Tbst_info) y6p hx5) ?_
  rintro _ _ h5 e5 w5 ⟨z5_y0, rfl, rfl, f5_0⟩
  simp only [ca_, na_]
  refine go_nil (go_seq (go_region (gM rfl rfl (gM rfl rfl (gr rfl (r_build (op1 (oc rfl) (op1 (ot rfl) op0)) rfl) ?_)))))
  obtain ⟨x7, hx7, hF⟩ := obind hF
  refine kcX EE_fr w5 (.cons .z .nil) rfl of (ops_t rfl (ops_t rfl os0)) hb_91 (s_bst_Tree_node w5 x5.2.1 x5.2.2 (⟨ByteArray.empty, 2, 0, x2.1⟩ : Tbst_node) f5_0 hx7) ?_
  rintro _ _ h7 e7 w7 ⟨z7_y0, rfl, rfl, f7_0⟩
  simp only [ca_, na_]
  refine go_nil (go_seq (go_regions (L := sq 0 7 ++ [(7, [3]), (8, []), (9, [])]) (by kernel_rfl) (by kernel_rfl) (fun _ => rfl) (go_sop rfl rfl (gM rfl rfl (go_nil (go_sop rfl rfl (gN rfl rfl (go_nil (go_sop rfl rfl (gF (fa_131_0 _ _) rfl rfl (go_nil (go_sop rfl rfl ?_))))))))))))
  obtain ⟨q8z_1, t8z_1, q8z_2, t8z_2, z8z_0, rfl, f8z0, f8z1, f8z2⟩ := f7_0
  refine gs_unz ?_
  simp only [ca_, na_]
  refine gls 0 ag_51 rfl rfl rfl rfl (go_nil (go_sop rfl rfl (gM rfl rfl (go_nil (go_sop rfl rfl (gr rfl (r_bin (ot rfl) (oc rfl) rfl) (go_nil (go_sop rfl rfl (gM rfl rfl (go_nil (go_sopc [(3, pt bp0)] rfl rfl rfl (rc1 rfl (r_load (ot rfl) (lm_s (mem_seg 0 rfl) ag_51 rfl)) rc0) (vq1 (veq_ptr _ _) vq0) rfl (gs_pack (fun s => Zbst_Tree h7 b15_4 bp0 s x7.2.1 x7.2.2) (.cons .z (.cons .z (.cons .z (.cons .z .nil)))) ⟨_, _, _, _, _, rfl, f8z0, f8z1, f8z2⟩ fun z10p y10p => ?_))))))))))))
  obtain ⟨x9, hx9, hF⟩ := obind hF
  refine kcX EE_fr w7 (.cons .z .nil) rfl of (ops_t rfl (ops_c rfl (ops_c rfl (ops_c rfl os0)))) hb_93 (s_bst_Tree_leaf w7 x7.2.1 x7.2.2 ByteArray.empty 1 0 y10p hx9) ?_
  rintro _ _ h9 e9 w9 ⟨z9_y0, rfl, rfl, f9_0⟩
  simp only [ca_, na_]
  refine go_nil ?_
  obtain ⟨q11z_1, t11z_1, q11z_2, t11z_2, z11z_0, rfl, f11z0, f11z1, f11z2⟩ := f9_0
  refine gs_unz ?_
  simp only [ca_, na_]
  refine go_rck (rcs 0 ag_51 rfl rfl rfl rfl rc0) (go_sop rfl rfl (gr rfl (r_conv (ot rfl) rfl) (go_nil (go_sop rfl rfl ?_))))
  obtain ⟨x12, hx12, hF⟩ := obind hF
  refine kcX EE_fr w9 (.cons (.s (.s (.s (.z)))) .nil) rfl of (ops_t rfl (ops_t rfl (ops_t rfl os0))) hb_92 (s_mem_Mem_Store w9 x9.2.2 (IntKind.i64.wrap (x2.1 + 1)) (IntKind.u64.wrap x9.1) f11z2 hx12) ?_
  rintro _ _ h12 e12 w12 ⟨z12_y0, rfl, rfl, f12_0⟩
  simp only [ca_, na_]
  refine go_nil (go_snil (go_seq (go_regions (L := sq 0 7 ++ [(7, [3]), (8, []), (9, [])]) (by kernel_rfl) (by kernel_rfl) (fun _ => rfl) (go_sop rfl rfl (gM rfl rfl (go_nil (go_sop rfl rfl (gN rfl rfl (go_nil (go_sop rfl rfl (gF (fa_131_0 _ _) rfl rfl (go_nil (go_sop rfl rfl (gls 1 ag_51 rfl rfl rfl rfl (go_nil (go_sop rfl rfl (gM rfl rfl (go_nil (go_sop rfl rfl (gr rfl (r_bin (ot rfl) (oc rfl) rfl) (go_nil (go_sop rfl rfl (gM rfl rfl ?_)))))))))))))))))))))))
  refine go_nil (go_sopc [(3, pt bp0)] rfl rfl rfl (rc1 rfl (r_load (ot rfl) (lm_s (mem_seg 1 rfl) ag_51 rfl)) rc0) (vq1 (veq_ptr _ _) vq0) rfl (gs_pack (fun s => Zbst_Tree h12 b15_4 bp0 s x9.2.1 x12.2) (.cons (.s (.z)) (.cons (.s (.z)) (.cons (.s (.z)) (.cons .z .nil)))) ⟨_, _, _, _, _, rfl, (f11z0.ext e12.kn), (f11z1.ext e12.kn), f12_0⟩ fun z14p y14p => ?_))
  obtain ⟨x13, hx13, hF⟩ := obind hF
  refine kcX EE_fr w12 (.cons .z .nil) rfl of (ops_t rfl (ops_c rfl (ops_c rfl (ops_c rfl os0)))) hb_93 (s_bst_Tree_leaf w12 x9.2.1 x12.2 ByteArray.empty 2 0 y14p hx13) ?_
  rintro _ _ h13 e13 w13 ⟨z13_y0, rfl, rfl, f13_0⟩
  simp only [ca_, na_]
  refine go_nil ?_
  obtain ⟨q15z_1, t15z_1, q15z_2, t15z_2, z15z_0, rfl, f15z0, f15z1, f15z2⟩ := f13_0
  refine gs_unz ?_
  simp only [ca_, na_]
  refine go_rck (rcs 0 ag_51 rfl rfl rfl rfl rc0) (go_sop rfl rfl (gr rfl (r_conv (ot rfl) rfl) (go_nil (go_sop rfl rfl ?_))))
  obtain ⟨x16, hx16, hF⟩ := obind hF
  refine kcX EE_fr w13 (.cons (.s (.s (.s (.z)))) .nil) rfl of (ops_t rfl (ops_t rfl (ops_t rfl os0))) hb_92 (s_mem_Mem_Store w13 x13.2.2 (IntKind.i64.wrap (x2.1 + 2)) (IntKind.u64.wrap x13.1) f15z2 hx16) ?_
  rintro _ _ h16 e16 w16 ⟨z16_y0, rfl, rfl, f16_0⟩
  simp only [ca_, na_]
  refine go_nil (go_snil (go_seq (go_region (gM rfl rfl (gA rfl rfl (go_nil (gs_pack (fun s => Zbst_Tree h16 b15_4 bp0 s x13.2.1 x16.2) (.cons (.s (.z)) (.cons (.s (.z)) (.cons (.s (.z)) (.cons .z .nil)))) ⟨_, _, _, _, _, rfl, (f15z0.ext e16.kn), (f15z1.ext e16.kn), f16_0⟩ fun z17p y17p => ?_)))))))
  obtain rfl := someI hF
  exact g_retO (rst rfl rs0) (.cons .z .nil) (e2.trans (e5.trans (e7.trans (e9.trans (e12.trans (e13.trans e16)))))) w16 (nd1 y17p.nd nd0) ⟨_, _, rfl, rfl, y17p⟩
end Go.Proofs.YtndhbaidibioeaaGreat.V
