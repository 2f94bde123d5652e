/- Walks.
   No condition: these are laws of the clean machine and of this program. -/
import Derived.Test.YtndhbaidibioeaaGreatIb
namespace Go.Proofs.YtndhbaidibioeaaGreat.V
open Go
set_option linter.unusedVariables false
set_option linter.unusedSimpArgs false
set_option maxRecDepth 100000
set_option maxHeartbeats 4000000
theorem s_index_Work_ensure (n : Nat) {rc : RCi} (hrc : RCiok rc) {h : Heap} (hw : Wf h) (p0 : Obst_Tree) (p0o0 : Omem_Mem) (p0o1 : Ochain_Store) (p1 : Oindex_Work) (p3 : ByteArray) (p4 : Cli) {bp0 bp0_1 bp0_2 bp0_3 : Nat} {z0 : List Blk} {bp1 : Nat} {z1 : List Blk} {v4 : Value} (y0 : Zindex_Index h bp0 bp0_1 bp0_2 bp0_3 z0 p0 p0o0 p0o1) (y1 : Zindex_Work h bp0 bp1 z1 p1) (c4 : COi h bp0 bp0_1 bp0_2 bp0_3 bp1 none [] p4 v4) {r : _} (hF : F_index_Work_ensure n rc p0 p0o0 p0o1 p1 p3 p4 = some r) :
 EvO EE 51 [pt bp1, .string p3, v4] [z0, z1] h (fun v S h1 => ∃ zy0 zy1 vr tr, v = vr ∧ S = [zy0, zy1, tr] ∧ Zindex_Index h1 bp0 bp0_1 bp0_2 bp0_3 zy0 r.2.1 r.2.2.1 r.2.2.2.1 ∧ Zindex_Work h1 bp0 bp1 zy1 r.2.2.2.2 ∧ OCi h1 bp0 bp0_1 bp0_2 bp0_3 bp1 tr r.1 vr) := by
 unfold F_index_Work_ensure at hF
 refine evo_of rfl at_51 rfl rfl ?_
 refine go_seq (go_region (gs_box rfl (ot rfl) rfl (fun b3_6 => gs_box rfl (ot rfl) rfl (fun b4_7 => gs_box rfl (ot rfl) (COi.one c4) (fun b5_8 => gAc rfl rfl (go_nil (go_seq (go_regA1 (L := sq 0 11) (by kernel_rfl) (by kernel_rfl) (fun _ => rfl) (fun b7_9 => go_sop rfl rfl (gls 3 ag_32 rfl rfl rfl rfl (go_nil (go_sop rfl rfl (gN rfl rfl (go_nil (go_sop rfl rfl (gF (fa_88_0 _ _) rfl rfl (go_nil (go_sop rfl rfl (gs_front (.s (.s (.s (.s (.s (.z)))))) ?_)))))))))))))))))))
 obtain ⟨v10z_1, q10z_4, t10z_4, rfl, f10z0⟩ := y1
 refine gs_unz ?_
 simp only [ca_, na_]
 refine gls 0 ag_27 rfl rfl rfl rfl (go_nil (go_sop rfl rfl (gN rfl rfl (go_nil (go_sop rfl rfl (gF (fa_91_0 _ _) rfl rfl (go_nil (go_sop rfl rfl (gs_front (.s (.s (.s (.s (.s (.s (.z))))))) ?_)))))))))
 obtain ⟨z11z_0, z11z_1, rfl, f11z0, f11z1⟩ := y0
 refine gs_unz ?_
 simp only [ca_, na_]
 refine gls 0 ag_61 rfl rfl rfl rfl (go_nil (go_sop rfl rfl (gls 7 ag_9 rfl rfl rfl rfl (go_nil (go_sop rfl rfl ?_)))))
 obtain ⟨x12, hx12, hF⟩ := obind hF
 refine kcX EE_fr hw (.cons (.s (.z)) .nil) rfl of (ops_t rfl (ops_t rfl os0)) hb_41 (s_bst_Tree_Find n hw p0 p0o0 p3 f11z0 hx12) ?_
 rintro _ _ h12 e12 w12 ⟨z12_y0, b12_w0, z12_w0, rfl, rfl, f12_0, f12_1⟩
 simp only [ca_, na_]
 refine go_nil (go_salloc rfl rfl rfl zo_85 rfl (.s (.s (.s (.s (.s (.s (.z))))))) (go_sop rfl rfl (gs_store (ot rfl) (ot rfl) sz_85 rfl rfl rfl rfl rfl (.s (.s (.s (.s (.s (.s (.z))))))) (go_nil (go_snil (go_seq (go_region (gls 6 ag_85 rfl rfl rfl rfl (gr rfl (r_iface (ot rfl) (by kernel_rfl)) (gr rfl (r_func os0 (os1 (ot rfl) (os1 (ot rfl) (os1 (ot rfl) (os1 (ot rfl) os0))))) (gs_pub (.s (.s (.s (.s (.s (.s (.z))))))) (fun h14 e14 w14 hb14 => ?_))))))))))))
 have g14_ : BK h14 b7_9 [pt b12_w0] 85 := hb14
 refine gs_pub (.s (.s (.s (.s (.s (.s (.s (.s (.z))))))))) (fun h15 e15 w15 hb15 => ?_)
 have g15_ : BK h15 b3_6 [pt bp1] 32 := hb15
 refine gs_pub (.s (.s (.s (.s (.s (.s (.z))))))) (fun h16 e16 w16 hb16 => ?_)
 have g16_ : BK h16 b5_8 [v4] 83 := hb16
 refine gs_pub (.s (.s (.s (.s (.s (.s (.z))))))) (fun h17 e17 w17 hb17 => ?_)
 have g17_ : BK h17 b4_7 [.string p3] 9 := hb17
 have co18 : COi h17 bp0 bp0_1 bp0_2 bp0_3 bp1 (some b12_w0) [] (Cli.c_Work_ensure_1 p4 p3) (.func (.func 86) #[] #[pt b7_9, pt b3_6, pt b5_8, pt b4_7]) := COi.c_Work_ensure_1 (((g14_.ext e15.kn).ext e16.kn).ext e17.kn) ((g15_.ext e16.kn).ext e17.kn) (g16_.ext e17.kn) (((((c4.ext e12.kn).ext e14.kn).ext e15.kn).ext e16.kn).ext e17.kn) g17_
 refine gs_pack (fun s => Zindex_Index h17 bp0 bp0_1 bp0_2 bp0_3 s x12.2.1 x12.2.2 p0o1) (.cons (.s (.s (.z))) (.cons .z (.cons (.s (.z)) .nil))) ⟨_, _, rfl, ((((f12_0.ext e14.kn).ext e15.kn).ext e16.kn).ext e17.kn), (((((f11z1.ext e12.kn).ext e14.kn).ext e15.kn).ext e16.kn).ext e17.kn)⟩ fun z19p y19p => (gs_pack (fun s => Zindex_Work h17 bp0 bp1 s p1) (.cons (.s (.s (.z))) (.cons (.s (.s (.z))) .nil)) ⟨_, _, _, rfl, (((((f10z0.ext e12.kn).ext e14.kn).ext e15.kn).ext e16.kn).ext e17.kn)⟩ fun z20p y20p => ?_)
 obtain ⟨x13, hx13, hF⟩ := obind hF
 refine kcX EE_fr w17 (.cons (.s (.z)) (.cons .z (.cons .z .nil))) rfl of (ops_t rfl (ops_t rfl os0)) hb_42 (s_index_after_ hrc w17 x12.2.1 x12.2.2 p0o1 p1 x12.1 (Cli.c_Work_ensure_1 p4 p3) y19p y20p ((((f12_1.ext e14.kn).ext e15.kn).ext e16.kn).ext e17.kn) co18 hx13) ?_
 rintro _ _ h13 e13 w13 ⟨z13_y0, z13_y1, v13_r, t13_r, rfl, rfl, f13_0, f13_1, f13_2⟩
 simp only [ca_, na_]
 refine gA rfl rfl (go_nil ?_)
 obtain rfl := someI hF
 exact g_retO (rst rfl rs0) (.cons .z (.cons .z (.cons .z .nil))) (e12.trans (e14.trans (e15.trans (e16.trans (e17.trans e13))))) w13 (nd1 f13_0.nd (nd1 f13_1.nd (ndci f13_2 nd0))) ⟨_, _, _, _, rfl, rfl, f13_0, f13_1, f13_2⟩
theorem s_index_Index_Ensure_1 (n : Nat) {rc : RCi} (hrc : RCiok rc) {h : Heap} (hw : Wf h) (p0 : Obst_Tree) (p0o0 : Omem_Mem) (p0o1 : Ochain_Store) (p1 : Oindex_Work) (p3 : ByteArray) {bp0 bp0_1 bp0_2 bp0_3 : Nat} {z0 : List Blk} {bp1 : Nat} {z1 : List Blk} {b3 : Nat} (y0 : Zindex_Index h bp0 bp0_1 bp0_2 bp0_3 z0 p0 p0o0 p0o1) (y1 : Zindex_Work h bp0 bp1 z1 p1) (g3 : BK h b3 [.string p3] 9) {r : _} (hF : F_index_Index_Ensure_1 n rc p0 p0o0 p0o1 p1 p3 = some r) :
 EvO EE 50 [pt bp1, pt b3] [z0, z1] h (fun v S h1 => ∃ zy0 zy1 vr tr, v = vr ∧ S = [zy0, zy1, tr] ∧ Zindex_Index h1 bp0 bp0_1 bp0_2 bp0_3 zy0 r.2.1 r.2.2.1 r.2.2.2.1 ∧ Zindex_Work h1 bp0 bp1 zy1 r.2.2.2.2 ∧ OCi h1 bp0 bp0_1 bp0_2 bp0_3 bp1 tr r.1 vr) := by
 unfold F_index_Index_Ensure_1 at hF
 refine evo_of rfl at_50 rfl rfl ?_
 refine go_seq (go_region (gAc rfl rfl (go_nil (go_seq (go_region (gM rfl rfl (glc ag_9 g3 rfl rfl rfl ?_)))))))
 have co6 : COi h bp0 bp0_1 bp0_2 bp0_3 bp1 none [] (Cli.c_end) (.func (.func 46) #[] #[]) := COi.c_end
 obtain ⟨x5, hx5, hF⟩ := obind hF
 refine kcX EE_fr hw (.cons .z (.cons .z .nil)) rfl of (ops_t rfl (ops_t rfl (os1 of os0))) hb_51 (s_index_Work_ensure n hrc hw p0 p0o0 p0o1 p1 p3 (Cli.c_end) y0 y1 co6 hx5) ?_
 rintro _ _ h5 e5 w5 ⟨z5_y0, z5_y1, v5_r, t5_r, rfl, rfl, f5_0, f5_1, f5_2⟩
 simp only [ca_, na_]
 refine gA rfl rfl (go_nil ?_)
 obtain rfl := someI hF
 exact g_retO (rst rfl rs0) (.cons .z (.cons .z (.cons .z .nil))) e5 w5 (nd1 f5_0.nd (nd1 f5_1.nd (ndci f5_2 nd0))) ⟨_, _, _, _, rfl, rfl, f5_0, f5_1, f5_2⟩
theorem s_index_Index_work_index_Index_Ensure_1 (n : Nat) {h : Heap} (hw : Wf h) (p0 : Obst_Tree) (p0o0 : Omem_Mem) (p0o1 : Ochain_Store) (p1c0 : ByteArray) {bp0 bp0_1 bp0_2 bp0_3 : Nat} {z0 : List Blk} {b1c0 : Nat} (y0 : Zindex_Index h bp0 bp0_1 bp0_2 bp0_3 z0 p0 p0o0 p0o1) (g1c0 : BK h b1c0 [.string p1c0] 9) {r : Oindex_Work_2 × Obst_Tree × Omem_Mem × Ochain_Store} (hF : F_index_Index_work_index_Index_Ensure_1 n p0 p0o0 p0o1 p1c0 = some r) :
 EvO EE 39 [pt bp0, .func (.func 50) #[] #[pt b1c0]] [z0] h (fun v S h1 => ∃ zy0 bw0 zw0, v = pt bw0 ∧ S = [zy0, zw0] ∧ Zindex_Index h1 bp0 bp0_1 bp0_2 bp0_3 zy0 r.2.1 r.2.2.1 r.2.2.2 ∧ Zindex_Work_2 h1 bp0 bp0_2 bp0_1 bp0_3 bw0 zw0 r.1) := by
 unfold F_index_Index_work_index_Index_Ensure_1 at hF
 refine evo_of rfl at_39 rfl rfl ?_
 refine go_seq (go_region (gAc rfl rfl (go_nil (go_seq (go_seq (go_region (gM rfl rfl (gr rfl (r_bin (v := .bool false) (ot rfl) (oc rfl) (by first | rfl | kernel_rfl)) (go_nil ?_)))))))))
 refine g_cond (b := false) (ot rfl) (fun hc3 => ?_) (fun hc3 => ?_)
 ·
  cases hc3
 refine go_skip (go_seq (go_region (gM rfl rfl (gr rfl (r_build (op1 (ot rfl) op0) rfl) (gs_box rfl (ot rfl) rfl (fun b10_4 => gA rfl rfl (go_nil (go_seq (go_region (gM rfl rfl (gM rfl rfl (gM rfl rfl (gs_pack (fun s => Zindex_Work h bp0 b10_4 s (⟨0, 0, ([] : List TKV)⟩ : Oindex_Work)) (.cons .z (.emp .nil)) ⟨_, _, _, rfl, (AccR.nil _ _ _)⟩ fun z6p y6p => ?_)))))))))))))
 obtain ⟨x5, hx5, hF⟩ := obind hF
 refine kcX EE_fr hw (.cons (.s (.z)) (.cons .z .nil)) rfl (ot rfl) (ops_t rfl os0) hb_50 (s_index_Index_Ensure_1 n (F_istep_ok n) hw p0 p0o0 p0o1 (⟨0, 0, ([] : List TKV)⟩ : Oindex_Work) p1c0 y0 y6p g1c0 hx5) ?_
 rintro _ _ h5 e5 w5 ⟨z5_y0, z5_y1, v5_r, t5_r, rfl, rfl, f5_0, f5_1, f5_2⟩
 simp only [ca_, na_]
 refine gN rfl rfl (gF (fa_88_1 _ _) rfl rfl (gs_front (.s (.z)) ?_))
 obtain ⟨v7z_1, q7z_4, t7z_4, rfl, f7z0⟩ := f5_1
 refine gs_unz ?_
 simp only [ca_, na_]
 refine gs_store (ot rfl) (ot rfl) sz_84 (OCi.sz f5_2) (OCi.one f5_2) rfl (OCi.okc f5_2) rfl .z (go_nil (go_seq (go_region (gM rfl rfl (gA rfl rfl (go_nil (gs_pack (fun s => Zindex_Work_2 h5 bp0 bp0_2 bp0_1 bp0_3 b10_4 s (⟨x5.1, x5.2.2.2.2.cell, x5.2.2.2.2.bad, x5.2.2.2.2.found⟩ : Oindex_Work_2)) (.cons .z (.cons (.s (.s (.z))) (.cons .z .nil))) ⟨_, _, _, _, rfl, f5_2, f7z0⟩ fun z8p y8p => ?_)))))))
 obtain rfl := someI hF
 exact g_retO (rst rfl rs0) (.cons (.s (.z)) (.cons .z .nil)) e5 w5 (nd1 f5_0.nd (nd1 y8p.nd nd0)) ⟨_, _, _, rfl, rfl, f5_0, y8p⟩
theorem s_index_Index_Ensure (n : Nat) {h : Heap} (hw : Wf h) (p0 : Obst_Tree) (p0o0 : Omem_Mem) (p0o1 : Ochain_Store) (p1 : ByteArray) {bp0 bp0_1 bp0_2 bp0_3 : Nat} {z0 : List Blk} (y0 : Zindex_Index h bp0 bp0_1 bp0_2 bp0_3 z0 p0 p0o0 p0o1) {r : Oindex_Work_2 × Obst_Tree × Omem_Mem × Ochain_Store} (hF : F_index_Index_Ensure n p0 p0o0 p0o1 p1 = some r) :
 EvO EE 20 [pt bp0, .string p1] [z0] h (fun v S h1 => ∃ zy0 bw0 zw0, v = pt bw0 ∧ S = [zy0, zw0] ∧ Zindex_Index h1 bp0 bp0_1 bp0_2 bp0_3 zy0 r.2.1 r.2.2.1 r.2.2.2 ∧ Zindex_Work_2 h1 bp0 bp0_2 bp0_1 bp0_3 bw0 zw0 r.1) := by
 unfold F_index_Index_Ensure at hF
 refine evo_of rfl at_20 rfl rfl ?_
 refine go_seq (go_region (gs_box rfl (ot rfl) rfl (fun b3_3 => gAc rfl rfl (go_nil (go_seq (go_region (gM rfl rfl (gr rfl (r_func os0 (os1 (ot rfl) os0)) (gs_pub .z (fun h5 e5 w5 hb5 => ?_))))))))))
 have g5_ : BK h5 b3_3 [.string p1] 9 := hb5
 obtain ⟨x4, hx4, hF⟩ := obind hF
 refine kcX EE_fr w5 (.cons .z .nil) rfl of (ops_t rfl (ops_t rfl os0)) hb_39 (s_index_Index_work_index_Index_Ensure_1 n w5 p0 p0o0 p0o1 p1 (y0.ext e5.kn) g5_ hx4) ?_
 rintro _ _ h4 e4 w4 ⟨z4_y0, b4_w0, z4_w0, rfl, rfl, f4_0, f4_1⟩
 simp only [ca_, na_]
 refine gA rfl rfl (go_nil ?_)
 obtain rfl := someI hF
 exact g_retO (rst rfl rs0) (.cons .z (.cons .z .nil)) (e5.trans e4) w4 (nd1 f4_0.nd (nd1 f4_1.nd nd0)) ⟨_, _, _, rfl, rfl, f4_0, f4_1⟩
theorem s_index_Index_Put_1 (n : Nat) {rc : RCi} (hrc : RCiok rc) {h : Heap} (hw : Wf h) (p0 : Obst_Tree) (p0o0 : Omem_Mem) (p0o1 : Ochain_Store) (p1 : Oindex_Work) (p3 : TEvent) {bp0 bp0_1 bp0_2 bp0_3 : Nat} {z0 : List Blk} {bp1 : Nat} {z1 : List Blk} {b3 : Nat} {b4 : Nat} (y0 : Zindex_Index h bp0 bp0_1 bp0_2 bp0_3 z0 p0 p0o0 p0o1) (y1 : Zindex_Work h bp0 bp1 z1 p1) (g3 : BK h b3 [.int .i64 p3.Rev, .string p3.Key, .string p3.Val, .bool p3.Del] 36) (g4 : BK h b4 [pt bp0] 27) {r : _} (hF : F_index_Index_Put_1 n rc p0 p0o0 p0o1 p1 p3 = some r) :
 EvO EE 54 [pt bp1, pt b3, pt b4] [z0, z1] h (fun v S h1 => ∃ zy0 zy1 vr tr, v = vr ∧ S = [zy0, zy1, tr] ∧ Zindex_Index h1 bp0 bp0_1 bp0_2 bp0_3 zy0 r.2.1 r.2.2.1 r.2.2.2.1 ∧ Zindex_Work h1 bp0 bp1 zy1 r.2.2.2.2 ∧ OCi h1 bp0 bp0_1 bp0_2 bp0_3 bp1 tr r.1 vr) := by
 unfold F_index_Index_Put_1 at hF
 refine evo_of rfl at_54 rfl rfl ?_
 refine go_seq (go_region (gs_box rfl (ot rfl) rfl (fun b3_6 => gAc rfl rfl (go_nil (go_seq (go_region (gls 0 ag_32 rfl rfl rfl rfl (gF (fa_36_1 _ _) rfl rfl (glc ag_9 g3 rfl rfl rfl (gr rfl (r_func os0 (os1 (ot rfl) (os1 (ot rfl) (os1 (ot rfl) os0)))) (gs_pub .z (fun h8 e8 w8 hb8 => ?_))))))))))))
 have g8_ : BK h8 b3_6 [pt bp1] 32 := hb8
 have co9 : COi h8 bp0 bp0_1 bp0_2 bp0_3 bp1 none [] (Cli.c_Index_Put_1_1 p3) (.func (.func 55) #[] #[pt b4, pt b3_6, pt b3]) := COi.c_Index_Put_1_1 (g4.ext e8.kn) g8_ (g3.ext e8.kn)
 obtain ⟨x7, hx7, hF⟩ := obind hF
 refine kcX EE_fr w8 (.cons .z (.cons .z .nil)) rfl of (ops_t rfl (ops_t rfl (ops_t rfl os0))) hb_51 (s_index_Work_ensure n hrc w8 p0 p0o0 p0o1 p1 p3.Key (Cli.c_Index_Put_1_1 p3) (y0.ext e8.kn) (y1.ext e8.kn) co9 hx7) ?_
 rintro _ _ h7 e7 w7 ⟨z7_y0, z7_y1, v7_r, t7_r, rfl, rfl, f7_0, f7_1, f7_2⟩
 simp only [ca_, na_]
 refine gA rfl rfl (go_nil ?_)
 obtain rfl := someI hF
 exact g_retO (rst rfl rs0) (.cons .z (.cons .z (.cons .z .nil))) (e8.trans e7) w7 (nd1 f7_0.nd (nd1 f7_1.nd (ndci f7_2 nd0))) ⟨_, _, _, _, rfl, rfl, f7_0, f7_1, f7_2⟩
theorem s_index_Index_work_index_Index_Put_1 (n : Nat) {h : Heap} (hw : Wf h) (p0 : Obst_Tree) (p0o0 : Omem_Mem) (p0o1 : Ochain_Store) (p1c0 : TEvent) {bp0 bp0_1 bp0_2 bp0_3 : Nat} {z0 : List Blk} {b1c0 : Nat} {b1c1 : Nat} (y0 : Zindex_Index h bp0 bp0_1 bp0_2 bp0_3 z0 p0 p0o0 p0o1) (g1c0 : BK h b1c0 [.int .i64 p1c0.Rev, .string p1c0.Key, .string p1c0.Val, .bool p1c0.Del] 36) (g1c1 : BK h b1c1 [pt bp0] 27) {r : Oindex_Work_2 × Obst_Tree × Omem_Mem × Ochain_Store} (hF : F_index_Index_work_index_Index_Put_1 n p0 p0o0 p0o1 p1c0 = some r) :
 EvO EE 39 [pt bp0, .func (.func 54) #[] #[pt b1c0, pt b1c1]] [z0] h (fun v S h1 => ∃ zy0 bw0 zw0, v = pt bw0 ∧ S = [zy0, zw0] ∧ Zindex_Index h1 bp0 bp0_1 bp0_2 bp0_3 zy0 r.2.1 r.2.2.1 r.2.2.2 ∧ Zindex_Work_2 h1 bp0 bp0_2 bp0_1 bp0_3 bw0 zw0 r.1) := by
 unfold F_index_Index_work_index_Index_Put_1 at hF
 refine evo_of rfl at_39 rfl rfl ?_
 refine go_seq (go_region (gAc rfl rfl (go_nil (go_seq (go_seq (go_region (gM rfl rfl (gr rfl (r_bin (v := .bool false) (ot rfl) (oc rfl) (by first | rfl | kernel_rfl)) (go_nil ?_)))))))))
 refine g_cond (b := false) (ot rfl) (fun hc3 => ?_) (fun hc3 => ?_)
 ·
  cases hc3
 refine go_skip (go_seq (go_region (gM rfl rfl (gr rfl (r_build (op1 (ot rfl) op0) rfl) (gs_box rfl (ot rfl) rfl (fun b10_4 => gA rfl rfl (go_nil (go_seq (go_region (gM rfl rfl (gM rfl rfl (gM rfl rfl (gs_pack (fun s => Zindex_Work h bp0 b10_4 s (⟨0, 0, ([] : List TKV)⟩ : Oindex_Work)) (.cons .z (.emp .nil)) ⟨_, _, _, rfl, (AccR.nil _ _ _)⟩ fun z6p y6p => ?_)))))))))))))
 obtain ⟨x5, hx5, hF⟩ := obind hF
 refine kcX EE_fr hw (.cons (.s (.z)) (.cons .z .nil)) rfl (ot rfl) (ops_t rfl os0) hb_54 (s_index_Index_Put_1 n (F_istep_ok n) hw p0 p0o0 p0o1 (⟨0, 0, ([] : List TKV)⟩ : Oindex_Work) p1c0 y0 y6p g1c0 g1c1 hx5) ?_
 rintro _ _ h5 e5 w5 ⟨z5_y0, z5_y1, v5_r, t5_r, rfl, rfl, f5_0, f5_1, f5_2⟩
 simp only [ca_, na_]
 refine gN rfl rfl (gF (fa_88_1 _ _) rfl rfl (gs_front (.s (.z)) ?_))
 obtain ⟨v7z_1, q7z_4, t7z_4, rfl, f7z0⟩ := f5_1
 refine gs_unz ?_
 simp only [ca_, na_]
 refine gs_store (ot rfl) (ot rfl) sz_84 (OCi.sz f5_2) (OCi.one f5_2) rfl (OCi.okc f5_2) rfl .z (go_nil (go_seq (go_region (gM rfl rfl (gA rfl rfl (go_nil (gs_pack (fun s => Zindex_Work_2 h5 bp0 bp0_2 bp0_1 bp0_3 b10_4 s (⟨x5.1, x5.2.2.2.2.cell, x5.2.2.2.2.bad, x5.2.2.2.2.found⟩ : Oindex_Work_2)) (.cons .z (.cons (.s (.s (.z))) (.cons .z .nil))) ⟨_, _, _, _, rfl, f5_2, f7z0⟩ fun z8p y8p => ?_)))))))
 obtain rfl := someI hF
 exact g_retO (rst rfl rs0) (.cons (.s (.z)) (.cons .z .nil)) e5 w5 (nd1 f5_0.nd (nd1 y8p.nd nd0)) ⟨_, _, _, rfl, rfl, f5_0, y8p⟩
theorem s_index_Index_Put (n : Nat) {h : Heap} (hw : Wf h) (p0 : Obst_Tree) (p0o0 : Omem_Mem) (p0o1 : Ochain_Store) (p1 : TEvent) {bp0 bp0_1 bp0_2 bp0_3 : Nat} {z0 : List Blk} (y0 : Zindex_Index h bp0 bp0_1 bp0_2 bp0_3 z0 p0 p0o0 p0o1) {r : Oindex_Work_2 × Obst_Tree × Omem_Mem × Ochain_Store} (hF : F_index_Index_Put n p0 p0o0 p0o1 p1 = some r) :
 EvO EE 25 [pt bp0, .agg #[.int .i64 p1.Rev, .string p1.Key, .string p1.Val, .bool p1.Del]] [z0] h (fun v S h1 => ∃ zy0 bw0 zw0, v = pt bw0 ∧ S = [zy0, zw0] ∧ Zindex_Index h1 bp0 bp0_1 bp0_2 bp0_3 zy0 r.2.1 r.2.2.1 r.2.2.2 ∧ Zindex_Work_2 h1 bp0 bp0_2 bp0_1 bp0_3 bw0 zw0 r.1) := by
 unfold F_index_Index_Put at hF
 refine evo_of rfl at_25 rfl rfl ?_
 refine go_seq (go_region (gs_box rfl (ot rfl) rfl (fun b2_3 => gs_box rfl (ot rfl) rfl (fun b3_4 => gAc rfl rfl (go_nil (go_seq (go_region (gls 1 ag_27 rfl rfl rfl rfl (gr rfl (r_func os0 (os1 (ot rfl) (os1 (ot rfl) os0))) (gs_pub .z (fun h6 e6 w6 hb6 => ?_)))))))))))
 have g6_ : BK h6 b3_4 [.int .i64 p1.Rev, .string p1.Key, .string p1.Val, .bool p1.Del] 36 := hb6
 refine gs_pub .z (fun h7 e7 w7 hb7 => ?_)
 have g7_ : BK h7 b2_3 [pt bp0] 27 := hb7
 obtain ⟨x5, hx5, hF⟩ := obind hF
 refine kcX EE_fr w7 (.cons .z .nil) rfl of (ops_t rfl (ops_t rfl os0)) hb_39 (s_index_Index_work_index_Index_Put_1 n w7 p0 p0o0 p0o1 p1 ((y0.ext e6.kn).ext e7.kn) (g6_.ext e7.kn) g7_ hx5) ?_
 rintro _ _ h5 e5 w5 ⟨z5_y0, b5_w0, z5_w0, rfl, rfl, f5_0, f5_1⟩
 simp only [ca_, na_]
 refine gA rfl rfl (go_nil ?_)
 obtain rfl := someI hF
 exact g_retO (rst rfl rs0) (.cons .z (.cons .z .nil)) (e6.trans (e7.trans e5)) w5 (nd1 f5_0.nd (nd1 f5_1.nd nd0)) ⟨_, _, _, rfl, rfl, f5_0, f5_1⟩
theorem s_index_Index_Get_1 (n : Nat) {rc : RCi} (hrc : RCiok rc) {h : Heap} (hw : Wf h) (p0 : Obst_Tree) (p0o0 : Omem_Mem) (p0o1 : Ochain_Store) (p1 : Oindex_Work) (p3 : ByteArray) (p4 : Int) {bp0 bp0_1 bp0_2 bp0_3 : Nat} {z0 : List Blk} {bp1 : Nat} {z1 : List Blk} {b3 : Nat} {b4 : Nat} (y0 : Zindex_Index h bp0 bp0_1 bp0_2 bp0_3 z0 p0 p0o0 p0o1) (y1 : Zindex_Work h bp0 bp1 z1 p1) (g3 : BK h b3 [.string p3] 9) (g4 : BK h b4 [.int .i64 p4] 3) {r : _} (hF : F_index_Index_Get_1 n rc p0 p0o0 p0o1 p1 p3 p4 = some r) :
 EvO EE 40 [pt bp1, pt b3, pt b4] [z0, z1] h (fun v S h1 => ∃ zy0 zy1 vr tr, v = vr ∧ S = [zy0, zy1, tr] ∧ Zindex_Index h1 bp0 bp0_1 bp0_2 bp0_3 zy0 r.2.1 r.2.2.1 r.2.2.2.1 ∧ Zindex_Work h1 bp0 bp1 zy1 r.2.2.2.2 ∧ OCi h1 bp0 bp0_1 bp0_2 bp0_3 bp1 tr r.1 vr) := by
 unfold F_index_Index_Get_1 at hF
 refine evo_of rfl at_40 rfl rfl ?_
 refine go_seq (go_region (gs_box rfl (ot rfl) rfl (fun b3_6 => gAc rfl rfl (go_nil (go_seq (go_regA1 (L := sq 0 11) (by kernel_rfl) (by kernel_rfl) (fun _ => rfl) (fun b5_7 => go_sop rfl rfl (gls 1 ag_32 rfl rfl rfl rfl (go_nil (go_sop rfl rfl (gN rfl rfl (go_nil (go_sop rfl rfl (gF (fa_88_0 _ _) rfl rfl (go_nil (go_sop rfl rfl (gs_front (.s (.s (.s (.z)))) ?_)))))))))))))))))
 obtain ⟨v8z_1, q8z_4, t8z_4, rfl, f8z0⟩ := y1
 refine gs_unz ?_
 simp only [ca_, na_]
 refine gls 0 ag_27 rfl rfl rfl rfl (go_nil (go_sop rfl rfl (gN rfl rfl (go_nil (go_sop rfl rfl (gF (fa_91_0 _ _) rfl rfl (go_nil (go_sop rfl rfl (gs_front (.s (.s (.s (.s (.z))))) ?_)))))))))
 obtain ⟨z9z_0, z9z_1, rfl, f9z0, f9z1⟩ := y0
 refine gs_unz ?_
 simp only [ca_, na_]
 refine gls 0 ag_61 rfl rfl rfl rfl (go_nil (go_sop rfl rfl (glc ag_9 g3 rfl rfl rfl (go_nil (go_sop rfl rfl ?_)))))
 obtain ⟨x10, hx10, hF⟩ := obind hF
 refine kcX EE_fr hw (.cons (.s (.z)) .nil) rfl of (ops_t rfl (ops_t rfl os0)) hb_41 (s_bst_Tree_Find n hw p0 p0o0 p3 f9z0 hx10) ?_
 rintro _ _ h10 e10 w10 ⟨z10_y0, b10_w0, z10_w0, rfl, rfl, f10_0, f10_1⟩
 simp only [ca_, na_]
 refine go_nil (go_salloc rfl rfl rfl zo_85 rfl (.s (.s (.s (.s (.s (.s (.z))))))) (go_sop rfl rfl (gs_store (ot rfl) (ot rfl) sz_85 rfl rfl rfl rfl rfl (.s (.s (.s (.s (.s (.s (.z))))))) (go_nil (go_snil (go_seq (go_region (gls 6 ag_85 rfl rfl rfl rfl (gr rfl (r_iface (ot rfl) (by kernel_rfl)) (gr rfl (r_func os0 (os1 (ot rfl) (os1 (ot rfl) (os1 (ot rfl) os0)))) (gs_pub (.s (.s (.s (.s (.s (.s (.z))))))) (fun h12 e12 w12 hb12 => ?_))))))))))))
 have g12_ : BK h12 b5_7 [pt b10_w0] 85 := hb12
 refine gs_pub (.s (.s (.s (.s (.s (.s (.z))))))) (fun h13 e13 w13 hb13 => ?_)
 have g13_ : BK h13 b3_6 [pt bp1] 32 := hb13
 have co14 : COi h13 bp0 bp0_1 bp0_2 bp0_3 bp1 (some b10_w0) [] (Cli.c_Index_Get_1_1 p4) (.func (.func 43) #[] #[pt b5_7, pt b3_6, pt b4]) := COi.c_Index_Get_1_1 (g12_.ext e13.kn) g13_ (((g4.ext e10.kn).ext e12.kn).ext e13.kn)
 refine gs_pack (fun s => Zindex_Index h13 bp0 bp0_1 bp0_2 bp0_3 s x10.2.1 x10.2.2 p0o1) (.cons (.s (.s (.z))) (.cons .z (.cons (.s (.z)) .nil))) ⟨_, _, rfl, ((f10_0.ext e12.kn).ext e13.kn), (((f9z1.ext e10.kn).ext e12.kn).ext e13.kn)⟩ fun z15p y15p => (gs_pack (fun s => Zindex_Work h13 bp0 bp1 s p1) (.cons (.s (.s (.z))) (.cons (.s (.s (.z))) .nil)) ⟨_, _, _, rfl, (((f8z0.ext e10.kn).ext e12.kn).ext e13.kn)⟩ fun z16p y16p => ?_)
 obtain ⟨x11, hx11, hF⟩ := obind hF
 refine kcX EE_fr w13 (.cons (.s (.z)) (.cons .z (.cons .z .nil))) rfl of (ops_t rfl (ops_t rfl os0)) hb_42 (s_index_after_ hrc w13 x10.2.1 x10.2.2 p0o1 p1 x10.1 (Cli.c_Index_Get_1_1 p4) y15p y16p ((f10_1.ext e12.kn).ext e13.kn) co14 hx11) ?_
 rintro _ _ h11 e11 w11 ⟨z11_y0, z11_y1, v11_r, t11_r, rfl, rfl, f11_0, f11_1, f11_2⟩
 simp only [ca_, na_]
 refine gA rfl rfl (go_nil ?_)
 obtain rfl := someI hF
 exact g_retO (rst rfl rs0) (.cons .z (.cons .z (.cons .z .nil))) (e10.trans (e12.trans (e13.trans e11))) w11 (nd1 f11_0.nd (nd1 f11_1.nd (ndci f11_2 nd0))) ⟨_, _, _, _, rfl, rfl, f11_0, f11_1, f11_2⟩
theorem s_index_Index_work_index_Index_Get_1 (n : Nat) {h : Heap} (hw : Wf h) (p0 : Obst_Tree) (p0o0 : Omem_Mem) (p0o1 : Ochain_Store) (p1c0 : ByteArray) (p1c1 : Int) {bp0 bp0_1 bp0_2 bp0_3 : Nat} {z0 : List Blk} {b1c0 : Nat} {b1c1 : Nat} (y0 : Zindex_Index h bp0 bp0_1 bp0_2 bp0_3 z0 p0 p0o0 p0o1) (g1c0 : BK h b1c0 [.string p1c0] 9) (g1c1 : BK h b1c1 [.int .i64 p1c1] 3) {r : Oindex_Work_2 × Obst_Tree × Omem_Mem × Ochain_Store} (hF : F_index_Index_work_index_Index_Get_1 n p0 p0o0 p0o1 p1c0 p1c1 = some r) :
 EvO EE 39 [pt bp0, .func (.func 40) #[] #[pt b1c0, pt b1c1]] [z0] h (fun v S h1 => ∃ zy0 bw0 zw0, v = pt bw0 ∧ S = [zy0, zw0] ∧ Zindex_Index h1 bp0 bp0_1 bp0_2 bp0_3 zy0 r.2.1 r.2.2.1 r.2.2.2 ∧ Zindex_Work_2 h1 bp0 bp0_2 bp0_1 bp0_3 bw0 zw0 r.1) := by
 unfold F_index_Index_work_index_Index_Get_1 at hF
 refine evo_of rfl at_39 rfl rfl ?_
 refine go_seq (go_region (gAc rfl rfl (go_nil (go_seq (go_seq (go_region (gM rfl rfl (gr rfl (r_bin (v := .bool false) (ot rfl) (oc rfl) (by first | rfl | kernel_rfl)) (go_nil ?_)))))))))
 refine g_cond (b := false) (ot rfl) (fun hc3 => ?_) (fun hc3 => ?_)
 ·
  cases hc3
 refine go_skip (go_seq (go_region (gM rfl rfl (gr rfl (r_build (op1 (ot rfl) op0) rfl) (gs_box rfl (ot rfl) rfl (fun b10_4 => gA rfl rfl (go_nil (go_seq (go_region (gM rfl rfl (gM rfl rfl (gM rfl rfl (gs_pack (fun s => Zindex_Work h bp0 b10_4 s (⟨0, 0, ([] : List TKV)⟩ : Oindex_Work)) (.cons .z (.emp .nil)) ⟨_, _, _, rfl, (AccR.nil _ _ _)⟩ fun z6p y6p => ?_)))))))))))))
 obtain ⟨x5, hx5, hF⟩ := obind hF
 refine kcX EE_fr hw (.cons (.s (.z)) (.cons .z .nil)) rfl (ot rfl) (ops_t rfl os0) hb_40 (s_index_Index_Get_1 n (F_istep_ok n) hw p0 p0o0 p0o1 (⟨0, 0, ([] : List TKV)⟩ : Oindex_Work) p1c0 p1c1 y0 y6p g1c0 g1c1 hx5) ?_
 rintro _ _ h5 e5 w5 ⟨z5_y0, z5_y1, v5_r, t5_r, rfl, rfl, f5_0, f5_1, f5_2⟩
 simp only [ca_, na_]
 refine gN rfl rfl (gF (fa_88_1 _ _) rfl rfl (gs_front (.s (.z)) ?_))
 obtain ⟨v7z_1, q7z_4, t7z_4, rfl, f7z0⟩ := f5_1
 refine gs_unz ?_
 simp only [ca_, na_]
 refine gs_store (ot rfl) (ot rfl) sz_84 (OCi.sz f5_2) (OCi.one f5_2) rfl (OCi.okc f5_2) rfl .z (go_nil (go_seq (go_region (gM rfl rfl (gA rfl rfl (go_nil (gs_pack (fun s => Zindex_Work_2 h5 bp0 bp0_2 bp0_1 bp0_3 b10_4 s (⟨x5.1, x5.2.2.2.2.cell, x5.2.2.2.2.bad, x5.2.2.2.2.found⟩ : Oindex_Work_2)) (.cons .z (.cons (.s (.s (.z))) (.cons .z .nil))) ⟨_, _, _, _, rfl, f5_2, f7z0⟩ fun z8p y8p => ?_)))))))
 obtain rfl := someI hF
 exact g_retO (rst rfl rs0) (.cons (.s (.z)) (.cons .z .nil)) e5 w5 (nd1 f5_0.nd (nd1 y8p.nd nd0)) ⟨_, _, _, rfl, rfl, f5_0, y8p⟩
theorem s_index_Index_Get (n : Nat) {h : Heap} (hw : Wf h) (p0 : Obst_Tree) (p0o0 : Omem_Mem) (p0o1 : Ochain_Store) (p1 : ByteArray) (p2 : Int) {bp0 bp0_1 bp0_2 bp0_3 : Nat} {z0 : List Blk} (y0 : Zindex_Index h bp0 bp0_1 bp0_2 bp0_3 z0 p0 p0o0 p0o1) {r : Oindex_Work_2 × Obst_Tree × Omem_Mem × Ochain_Store} (hF : F_index_Index_Get n p0 p0o0 p0o1 p1 p2 = some r) :
 EvO EE 15 [pt bp0, .string p1, .int .i64 p2] [z0] h (fun v S h1 => ∃ zy0 bw0 zw0, v = pt bw0 ∧ S = [zy0, zw0] ∧ Zindex_Index h1 bp0 bp0_1 bp0_2 bp0_3 zy0 r.2.1 r.2.2.1 r.2.2.2 ∧ Zindex_Work_2 h1 bp0 bp0_2 bp0_1 bp0_3 bw0 zw0 r.1) := by
 unfold F_index_Index_Get at hF
 refine evo_of rfl at_15 rfl rfl ?_
 refine go_seq (go_region (gs_box rfl (ot rfl) rfl (fun b4_4 => gs_box rfl (ot rfl) rfl (fun b5_5 => gAc rfl rfl (go_nil (go_seq (go_region (gM rfl rfl (gr rfl (r_func os0 (os1 (ot rfl) (os1 (ot rfl) os0))) (gs_pub (.s (.z)) (fun h7 e7 w7 hb7 => ?_)))))))))))
 have g7_ : BK h7 b4_4 [.string p1] 9 := hb7
 refine gs_pub .z (fun h8 e8 w8 hb8 => ?_)
 have g8_ : BK h8 b5_5 [.int .i64 p2] 3 := hb8
 obtain ⟨x6, hx6, hF⟩ := obind hF
 refine kcX EE_fr w8 (.cons .z .nil) rfl of (ops_t rfl (ops_t rfl os0)) hb_39 (s_index_Index_work_index_Index_Get_1 n w8 p0 p0o0 p0o1 p1 p2 ((y0.ext e7.kn).ext e8.kn) (g7_.ext e8.kn) g8_ hx6) ?_
 rintro _ _ h6 e6 w6 ⟨z6_y0, b6_w0, z6_w0, rfl, rfl, f6_0, f6_1⟩
 simp only [ca_, na_]
 refine gA rfl rfl (go_nil ?_)
 obtain rfl := someI hF
 exact g_retO (rst rfl rs0) (.cons .z (.cons .z .nil)) (e7.trans (e8.trans e6)) w6 (nd1 f6_0.nd (nd1 f6_1.nd nd0)) ⟨_, _, _, rfl, rfl, f6_0, f6_1⟩
theorem s_index_Index_Walk_1 (n : Nat) {rc : RCi} (hrc : RCiok rc) {h : Heap} (hw : Wf h) (p0 : Obst_Tree) (p0o0 : Omem_Mem) (p0o1 : Ochain_Store) (p1 : Oindex_Work) (p3 : TRange) (p4 : Int) {bp0 bp0_1 bp0_2 bp0_3 : Nat} {z0 : List Blk} {bp1 : Nat} {z1 : List Blk} {b3 : Nat} {b4 : Nat} (y0 : Zindex_Index h bp0 bp0_1 bp0_2 bp0_3 z0 p0 p0o0 p0o1) (y1 : Zindex_Work h bp0 bp1 z1 p1) (g3 : BK h b3 [.string p3.From, .string p3.To] 24) (g4 : BK h b4 [.int .i64 p4] 3) {r : _} (hF : F_index_Index_Walk_1 n rc p0 p0o0 p0o1 p1 p3 p4 = some r) :
 EvO EE 47 [pt bp1, pt b3, pt b4] [z0, z1] h (fun v S h1 => ∃ zy0 zy1 vr tr, v = vr ∧ S = [zy0, zy1, tr] ∧ Zindex_Index h1 bp0 bp0_1 bp0_2 bp0_3 zy0 r.2.1 r.2.2.1 r.2.2.2.1 ∧ Zindex_Work h1 bp0 bp1 zy1 r.2.2.2.2 ∧ OCi h1 bp0 bp0_1 bp0_2 bp0_3 bp1 tr r.1 vr) := by
 unfold F_index_Index_Walk_1 at hF
 refine evo_of rfl at_47 rfl rfl ?_
 refine go_seq (go_region (gAc rfl rfl (go_nil (go_seq (go_region (gM rfl rfl (glb ag_24 sz_24 g3 rfl rfl rfl (gF (fa_24_0 _ _) rfl rfl (glc ag_9 g3 rfl rfl rfl (glc ag_3 g4 rfl rfl rfl ?_))))))))))
 obtain ⟨x6, hx6, hF⟩ := obind hF
 refine kcX EE_fr hw (.cons .z (.cons .z .nil)) rfl of (ops_t rfl (ops_t rfl (ops_t rfl (ops_t rfl os0)))) hb_48 (s_index_Work_walk n hrc hw p0 p0o0 p0o1 p1 p3 p3.From p4 y0 y1 hx6) ?_
 rintro _ _ h6 e6 w6 ⟨z6_y0, z6_y1, v6_r, t6_r, rfl, rfl, f6_0, f6_1, f6_2⟩
 simp only [ca_, na_]
 refine gA rfl rfl (go_nil ?_)
 obtain rfl := someI hF
 exact g_retO (rst rfl rs0) (.cons .z (.cons .z (.cons .z .nil))) e6 w6 (nd1 f6_0.nd (nd1 f6_1.nd (ndci f6_2 nd0))) ⟨_, _, _, _, rfl, rfl, f6_0, f6_1, f6_2⟩
theorem s_index_Index_work_index_Index_Walk_1 (n : Nat) {h : Heap} (hw : Wf h) (p0 : Obst_Tree) (p0o0 : Omem_Mem) (p0o1 : Ochain_Store) (p1c0 : TRange) (p1c1 : Int) {bp0 bp0_1 bp0_2 bp0_3 : Nat} {z0 : List Blk} {b1c0 : Nat} {b1c1 : Nat} (y0 : Zindex_Index h bp0 bp0_1 bp0_2 bp0_3 z0 p0 p0o0 p0o1) (g1c0 : BK h b1c0 [.string p1c0.From, .string p1c0.To] 24) (g1c1 : BK h b1c1 [.int .i64 p1c1] 3) {r : Oindex_Work_2 × Obst_Tree × Omem_Mem × Ochain_Store} (hF : F_index_Index_work_index_Index_Walk_1 n p0 p0o0 p0o1 p1c0 p1c1 = some r) :
 EvO EE 39 [pt bp0, .func (.func 47) #[] #[pt b1c0, pt b1c1]] [z0] h (fun v S h1 => ∃ zy0 bw0 zw0, v = pt bw0 ∧ S = [zy0, zw0] ∧ Zindex_Index h1 bp0 bp0_1 bp0_2 bp0_3 zy0 r.2.1 r.2.2.1 r.2.2.2 ∧ Zindex_Work_2 h1 bp0 bp0_2 bp0_1 bp0_3 bw0 zw0 r.1) := by
 unfold F_index_Index_work_index_Index_Walk_1 at hF
 refine evo_of rfl at_39 rfl rfl ?_
 refine go_seq (go_region (gAc rfl rfl (go_nil (go_seq (go_seq (go_region (gM rfl rfl (gr rfl (r_bin (v := .bool false) (ot rfl) (oc rfl) (by first | rfl | kernel_rfl)) (go_nil ?_)))))))))
 refine g_cond (b := false) (ot rfl) (fun hc3 => ?_) (fun hc3 => ?_)
 ·
  cases hc3
 refine go_skip (go_seq (go_region (gM rfl rfl (gr rfl (r_build (op1 (ot rfl) op0) rfl) (gs_box rfl (ot rfl) rfl (fun b10_4 => gA rfl rfl (go_nil (go_seq (go_region (gM rfl rfl (gM rfl rfl (gM rfl rfl (gs_pack (fun s => Zindex_Work h bp0 b10_4 s (⟨0, 0, ([] : List TKV)⟩ : Oindex_Work)) (.cons .z (.emp .nil)) ⟨_, _, _, rfl, (AccR.nil _ _ _)⟩ fun z6p y6p => ?_)))))))))))))
 obtain ⟨x5, hx5, hF⟩ := obind hF
 refine kcX EE_fr hw (.cons (.s (.z)) (.cons .z .nil)) rfl (ot rfl) (ops_t rfl os0) hb_47 (s_index_Index_Walk_1 n (F_istep_ok n) hw p0 p0o0 p0o1 (⟨0, 0, ([] : List TKV)⟩ : Oindex_Work) p1c0 p1c1 y0 y6p g1c0 g1c1 hx5) ?_
 rintro _ _ h5 e5 w5 ⟨z5_y0, z5_y1, v5_r, t5_r, rfl, rfl, f5_0, f5_1, f5_2⟩
 simp only [ca_, na_]
 refine gN rfl rfl (gF (fa_88_1 _ _) rfl rfl (gs_front (.s (.z)) ?_))
 obtain ⟨v7z_1, q7z_4, t7z_4, rfl, f7z0⟩ := f5_1
 refine gs_unz ?_
 simp only [ca_, na_]
 refine gs_store (ot rfl) (ot rfl) sz_84 (OCi.sz f5_2) (OCi.one f5_2) rfl (OCi.okc f5_2) rfl .z (go_nil (go_seq (go_region (gM rfl rfl (gA rfl rfl (go_nil (gs_pack (fun s => Zindex_Work_2 h5 bp0 bp0_2 bp0_1 bp0_3 b10_4 s (⟨x5.1, x5.2.2.2.2.cell, x5.2.2.2.2.bad, x5.2.2.2.2.found⟩ : Oindex_Work_2)) (.cons .z (.cons (.s (.s (.z))) (.cons .z .nil))) ⟨_, _, _, _, rfl, f5_2, f7z0⟩ fun z8p y8p => ?_)))))))
 obtain rfl := someI hF
 exact g_retO (rst rfl rs0) (.cons (.s (.z)) (.cons .z .nil)) e5 w5 (nd1 f5_0.nd (nd1 y8p.nd nd0)) ⟨_, _, _, rfl, rfl, f5_0, y8p⟩
theorem s_index_Index_Walk (n : Nat) {h : Heap} (hw : Wf h) (p0 : Obst_Tree) (p0o0 : Omem_Mem) (p0o1 : Ochain_Store) (p1 : TRange) (p2 : Int) {bp0 bp0_1 bp0_2 bp0_3 : Nat} {z0 : List Blk} (y0 : Zindex_Index h bp0 bp0_1 bp0_2 bp0_3 z0 p0 p0o0 p0o1) {r : Oindex_Work_2 × Obst_Tree × Omem_Mem × Ochain_Store} (hF : F_index_Index_Walk n p0 p0o0 p0o1 p1 p2 = some r) :
 EvO EE 18 [pt bp0, .agg #[.string p1.From, .string p1.To], .int .i64 p2] [z0] h (fun v S h1 => ∃ zy0 bw0 zw0, v = pt bw0 ∧ S = [zy0, zw0] ∧ Zindex_Index h1 bp0 bp0_1 bp0_2 bp0_3 zy0 r.2.1 r.2.2.1 r.2.2.2 ∧ Zindex_Work_2 h1 bp0 bp0_2 bp0_1 bp0_3 bw0 zw0 r.1) := by
 unfold F_index_Index_Walk at hF
 refine evo_of rfl at_18 rfl rfl ?_
 refine go_seq (go_region (gs_box rfl (ot rfl) rfl (fun b4_4 => gs_box rfl (ot rfl) rfl (fun b5_5 => gAc rfl rfl (go_nil (go_seq (go_region (gM rfl rfl (gr rfl (r_func os0 (os1 (ot rfl) (os1 (ot rfl) os0))) (gs_pub (.s (.z)) (fun h7 e7 w7 hb7 => ?_)))))))))))
 have g7_ : BK h7 b4_4 [.string p1.From, .string p1.To] 24 := hb7
 refine gs_pub .z (fun h8 e8 w8 hb8 => ?_)
 have g8_ : BK h8 b5_5 [.int .i64 p2] 3 := hb8
 obtain ⟨x6, hx6, hF⟩ := obind hF
 refine kcX EE_fr w8 (.cons .z .nil) rfl of (ops_t rfl (ops_t rfl os0)) hb_39 (s_index_Index_work_index_Index_Walk_1 n w8 p0 p0o0 p0o1 p1 p2 ((y0.ext e7.kn).ext e8.kn) (g7_.ext e8.kn) g8_ hx6) ?_
 rintro _ _ h6 e6 w6 ⟨z6_y0, b6_w0, z6_w0, rfl, rfl, f6_0, f6_1⟩
 simp only [ca_, na_]
 refine gA rfl rfl (go_nil ?_)
 obtain rfl := someI hF
 exact g_retO (rst rfl rs0) (.cons .z (.cons .z .nil)) (e7.trans (e8.trans e6)) w6 (nd1 f6_0.nd (nd1 f6_1.nd nd0)) ⟨_, _, _, rfl, rfl, f6_0, f6_1⟩
end Go.Proofs.YtndhbaidibioeaaGreat.V
