/- Walks.
   No condition: these are laws of the clean machine and of this program. -/
import Derived.Test.YtndhbaidibioeaaGreatIa
namespace Go.Proofs.YtndhbaidibioeaaGreat.V
open Go
set_option linter.unusedVariables false
set_option linter.unusedSimpArgs false
set_option maxRecDepth 100000
set_option maxHeartbeats 4000000
theorem F_istep_ok : ∀ n, RCiok (F_istep n)
 | 0 => by
  intro hw p0 p0o0 p0o1 p1 bp0 bp0_1 bp0_2 bp0_3 z0 bp1 z1 y0 y1 x a v seg co r hx
  cases hx
 | n + 1 => by
  intro hw p0 p0o0 p0o1 p1 bp0 bp0_1 bp0_2 bp0_3 z0 bp1 z1 y0 y1 x a v seg co r hx
  cases co with
  | c_end  =>
   cases a with
   | u => exact ⟨46, _, rfl, hb_46, s_index_end (F_istep_ok n) hw p0 p0o0 p0o1 p1   y0 y1  hx⟩
  | c_Index_Put_1_1 g0 g1 g2 =>
   cases a with
   | u => exact ⟨55, _, rfl, hb_55, s_index_Index_Put_1_1 (F_istep_ok n) hw p0 p0o0 p0o1 p1  _ y0 y1 g0 g1 g2 hx⟩
  | c_after_1 g0 g1 k1 g2 z =>
   cases a with
   | u => exact ⟨77, _, rfl, hb_77, s_index_after_1 n (F_istep_ok n) hw p0 p0o0 p0o1 p1  _ _ y0 y1 z g0 g1 k1 g2 hx⟩
  | c_after_1_v1 g0 g1 k1 g2 z =>
   cases a with
   | u => exact ⟨77, _, rfl, hb_77, s_index_after_1_ (F_istep_ok n) hw p0 p0o0 p0o1 p1  _ _ y0 y1 z g0 g1 k1 g2 hx⟩
  | c_Work_look_1 g0 g1 g2 g3 k3 =>
   cases a with
   | u => exact ⟨78, _, rfl, hb_78, s_index_Work_look_1 n (F_istep_ok n) hw p0 p0o0 p0o1 p1  _ _ _ y0 y1 g0 g1 g2 g3 k3 hx⟩
  | c_Work_walk_1_1 g0 g1 g2 g3 =>
   cases a with
   | u => exact ⟨84, _, rfl, hb_84, s_index_Work_walk_1_1 n (F_istep_ok n) hw p0 p0o0 p0o1 p1  _ _ _ y0 y1 g0 g1 g2 g3 hx⟩
  | w146 k z =>
   cases a with
   | u =>
    cases k with
    | c_Index_Get_1_1 g0 g1 g2 => exact ⟨43, _, rfl, hb_43, s_index_Index_Get_1_1 (F_istep_ok n) hw p0 p0o0 p0o1 p1 _ _ y0 y1 z g0 g1 g2 hx⟩
    | c_Work_walk_1 g0 g1 g2 g3 => exact ⟨82, _, rfl, hb_82, s_index_Work_walk_1 (F_istep_ok n) hw p0 p0o0 p0o1 p1 _ _ _ y0 y1 z g0 g1 g2 g3 hx⟩
    | c_Work_ensure_1 g0 g1 g2 k2 g3 => exact ⟨86, _, rfl, hb_86, s_index_Work_ensure_1 n (F_istep_ok n) hw p0 p0o0 p0o1 p1 _ _ _ y0 y1 z g0 g1 g2 k2 g3 hx⟩
    | c_Work_ensure_1_1 g0 g1 g2 k2 => exact ⟨88, _, rfl, hb_88, s_index_Work_ensure_1_1 (F_istep_ok n) hw p0 p0o0 p0o1 p1 _ _ y0 y1 z g0 g1 g2 k2 hx⟩
theorem s_index_Work_ensure (n : Nat) {rc : RCi} (hrc : RCiok rc) {h : Heap} (hw : Wf h) (p0 : Obst_Tree) (p0o0 : Omem_Mem) (p0o1 : Ochain_Store) (p1 : Oindex_Work) (p3 : ByteArray) (p4 : Cli) {bp0 bp0_1 bp0_2 bp0_3 : Nat} {z0 : List Blk} {bp1 : Nat} {z1 : List Blk} {v4 : Value} (y0 : Zindex_Index h bp0 bp0_1 bp0_2 bp0_3 z0 p0 p0o0 p0o1) (y1 : Zindex_Work h bp0 bp1 z1 p1) (c4 : COi h bp0 bp0_1 bp0_2 bp0_3 bp1 none [] p4 v4) {r : _} (hF : F_index_Work_ensure n rc p0 p0o0 p0o1 p1 p3 p4 = some r) :
 EvO EE 51 [pt bp1, .string p3, v4] [z0, z1] h (fun v S h1 => ∃ zy0 zy1 vr tr, v = vr ∧ S = [zy0, zy1, tr] ∧ Zindex_Index h1 bp0 bp0_1 bp0_2 bp0_3 zy0 r.2.1 r.2.2.1 r.2.2.2.1 ∧ Zindex_Work h1 bp0 bp1 zy1 r.2.2.2.2 ∧ OCi h1 bp0 bp0_1 bp0_2 bp0_3 bp1 tr r.1 vr) := by
 unfold F_index_Work_ensure at hF
 refine evo_of rfl at_51 rfl rfl ?_
 refine go_seq (go_region (gs_box rfl (ot rfl) rfl (fun b3_6 => gs_box rfl (ot rfl) rfl (fun b4_7 => gs_box rfl (ot rfl) (COi.one c4) (fun b5_8 => gAc rfl rfl (go_nil (go_seq (go_regA1 (L := sq 0 11) (by kernel_rfl) (by kernel_rfl) (fun _ => rfl) (fun b7_9 => go_sop rfl rfl (gls 3 ag_32 rfl rfl rfl rfl (go_nil (go_sop rfl rfl (gN rfl rfl (go_nil (go_sop rfl rfl (gF (fa_88_0 _ _) rfl rfl (go_nil (go_sop rfl rfl (gs_front (.s (.s (.s (.s (.s (.z)))))) ?_)))))))))))))))))))
 obtain ⟨v10z_1, q10z_4, t10z_4, rfl, f10z0⟩ := y1
 refine gs_unz ?_
 simp only [ca_, na_]
 refine gls 0 ag_27 rfl rfl rfl rfl (go_nil (go_sop rfl rfl (gN rfl rfl (go_nil (go_sop rfl rfl (gF (fa_91_0 _ _) rfl rfl (go_nil (go_sop rfl rfl (gs_front (.s (.s (.s (.s (.s (.s (.z))))))) ?_)))))))))
 obtain ⟨z11z_0, z11z_1, rfl, f11z0, f11z1⟩ := y0
 refine gs_unz ?_
 simp only [ca_, na_]
 refine gls 0 ag_61 rfl rfl rfl rfl (go_nil (go_sop rfl rfl (gls 7 ag_9 rfl rfl rfl rfl (go_nil (go_sop rfl rfl ?_)))))
 obtain ⟨x12, hx12, hF⟩ := obind hF
 refine kcX EE_fr hw (.cons (.s (.z)) .nil) rfl of (ops_t rfl (ops_t rfl os0)) hb_41 (s_bst_Tree_Find n hw p0 p0o0 p3 f11z0 hx12) ?_
 rintro _ _ h12 e12 w12 ⟨z12_y0, b12_w0, z12_w0, rfl, rfl, f12_0, f12_1⟩
 simp only [ca_, na_]
 refine go_nil (go_salloc rfl rfl rfl zo_85 rfl (.s (.s (.s (.s (.s (.s (.z))))))) (go_sop rfl rfl (gs_store (ot rfl) (ot rfl) sz_85 rfl rfl rfl rfl rfl (.s (.s (.s (.s (.s (.s (.z))))))) (go_nil (go_snil (go_seq (go_region (gls 6 ag_85 rfl rfl rfl rfl (gr rfl (r_iface (ot rfl) (by kernel_rfl)) (gr rfl (r_func os0 (os1 (ot rfl) (os1 (ot rfl) (os1 (ot rfl) (os1 (ot rfl) os0))))) (gs_pub (.s (.s (.s (.s (.s (.s (.z))))))) (fun h14 e14 w14 hb14 => ?_))))))))))))
 have g14_ : BK h14 b7_9 [pt b12_w0] 85 := hb14
 refine gs_pub (.s (.s (.s (.s (.s (.s (.s (.s (.z))))))))) (fun h15 e15 w15 hb15 => ?_)
 have g15_ : BK h15 b3_6 [pt bp1] 32 := hb15
 refine gs_pub (.s (.s (.s (.s (.s (.s (.z))))))) (fun h16 e16 w16 hb16 => ?_)
 have g16_ : BK h16 b5_8 [v4] 83 := hb16
 refine gs_pub (.s (.s (.s (.s (.s (.s (.z))))))) (fun h17 e17 w17 hb17 => ?_)
 have g17_ : BK h17 b4_7 [.string p3] 9 := hb17
 have co18 : COi h17 bp0 bp0_1 bp0_2 bp0_3 bp1 (some b12_w0) [] (Cli.c_Work_ensure_1 p4 p3) (.func (.func 86) #[] #[pt b7_9, pt b3_6, pt b5_8, pt b4_7]) := COi.c_Work_ensure_1 (((g14_.ext e15.kn).ext e16.kn).ext e17.kn) ((g15_.ext e16.kn).ext e17.kn) (g16_.ext e17.kn) (((((c4.ext e12.kn).ext e14.kn).ext e15.kn).ext e16.kn).ext e17.kn) g17_
 refine gs_pack (fun s => Zindex_Index h17 bp0 bp0_1 bp0_2 bp0_3 s x12.2.1 x12.2.2 p0o1) (.cons (.s (.s (.z))) (.cons .z (.cons (.s (.z)) .nil))) ⟨_, _, rfl, ((((f12_0.ext e14.kn).ext e15.kn).ext e16.kn).ext e17.kn), (((((f11z1.ext e12.kn).ext e14.kn).ext e15.kn).ext e16.kn).ext e17.kn)⟩ fun z19p y19p => (gs_pack (fun s => Zindex_Work h17 bp0 bp1 s p1) (.cons (.s (.s (.z))) (.cons (.s (.s (.z))) .nil)) ⟨_, _, _, rfl, (((((f10z0.ext e12.kn).ext e14.kn).ext e15.kn).ext e16.kn).ext e17.kn)⟩ fun z20p y20p => ?_)
 obtain ⟨x13, hx13, hF⟩ := obind hF
 refine kcX EE_fr w17 (.cons (.s (.z)) (.cons .z (.cons .z .nil))) rfl of (ops_t rfl (ops_t rfl os0)) hb_42 (s_index_after_ hrc w17 x12.2.1 x12.2.2 p0o1 p1 x12.1 (Cli.c_Work_ensure_1 p4 p3) y19p y20p ((((f12_1.ext e14.kn).ext e15.kn).ext e16.kn).ext e17.kn) co18 hx13) ?_
 rintro _ _ h13 e13 w13 ⟨z13_y0, z13_y1, v13_r, t13_r, rfl, rfl, f13_0, f13_1, f13_2⟩
 simp only [ca_, na_]
 refine gA rfl rfl (go_nil ?_)
 obtain rfl := someI hF
 exact g_retO (rst rfl rs0) (.cons .z (.cons .z (.cons .z .nil))) (e12.trans (e14.trans (e15.trans (e16.trans (e17.trans e13))))) w13 (nd1 f13_0.nd (nd1 f13_1.nd (ndci f13_2 nd0))) ⟨_, _, _, _, rfl, rfl, f13_0, f13_1, f13_2⟩
theorem s_index_Index_Ensure_1 (n : Nat) {rc : RCi} (hrc : RCiok rc) {h : Heap} (hw : Wf h) (p0 : Obst_Tree) (p0o0 : Omem_Mem) (p0o1 : Ochain_Store) (p1 : Oindex_Work) (p3 : ByteArray) {bp0 bp0_1 bp0_2 bp0_3 : Nat} {z0 : List Blk} {bp1 : Nat} {z1 : List Blk} {b3 : Nat} (y0 : Zindex_Index h bp0 bp0_1 bp0_2 bp0_3 z0 p0 p0o0 p0o1) (y1 : Zindex_Work h bp0 bp1 z1 p1) (g3 : BK h b3 [.string p3] 9) {r : _} (hF : F_index_Index_Ensure_1 n rc p0 p0o0 p0o1 p1 p3 = some r) :
 EvO EE 50 [pt bp1, pt b3] [z0, z1] h (fun v S h1 => ∃ zy0 zy1 vr tr, v = vr ∧ S = [zy0, zy1, tr] ∧ Zindex_Index h1 bp0 bp0_1 bp0_2 bp0_3 zy0 r.2.1 r.2.2.1 r.2.2.2.1 ∧ Zindex_Work h1 bp0 bp1 zy1 r.2.2.2.2 ∧ OCi h1 bp0 bp0_1 bp0_2 bp0_3 bp1 tr r.1 vr) := by
 unfold F_index_Index_Ensure_1 at hF
 refine evo_of rfl at_50 rfl rfl ?_
 refine go_seq (go_region (gAc rfl rfl (go_nil (go_seq (go_region (gM rfl rfl (glc ag_9 g3 rfl rfl rfl ?_)))))))
 have co6 : COi h bp0 bp0_1 bp0_2 bp0_3 bp1 none [] (Cli.c_end) (.func (.func 46) #[] #[]) := COi.c_end
 obtain ⟨x5, hx5, hF⟩ := obind hF
 refine kcX EE_fr hw (.cons .z (.cons .z .nil)) rfl of (ops_t rfl (ops_t rfl (os1 of os0))) hb_51 (s_index_Work_ensure n hrc hw p0 p0o0 p0o1 p1 p3 (Cli.c_end) y0 y1 co6 hx5) ?_
 rintro _ _ h5 e5 w5 ⟨z5_y0, z5_y1, v5_r, t5_r, rfl, rfl, f5_0, f5_1, f5_2⟩
 simp only [ca_, na_]
 refine gA rfl rfl (go_nil ?_)
 obtain rfl := someI hF
 exact g_retO (rst rfl rs0) (.cons .z (.cons .z (.cons .z .nil))) e5 w5 (nd1 f5_0.nd (nd1 f5_1.nd (ndci f5_2 nd0))) ⟨_, _, _, _, rfl, rfl, f5_0, f5_1, f5_2⟩
theorem s_index_Index_work_index_Index_Ensure_1 (n : Nat) {h : Heap} (hw : Wf h) (p0 : Obst_Tree) (p0o0 : Omem_Mem) (p0o1 : Ochain_Store) (p1c0 : ByteArray) {bp0 bp0_1 bp0_2 bp0_3 : Nat} {z0 : List Blk} {b1c0 : Nat} (y0 : Zindex_Index h bp0 bp0_1 bp0_2 bp0_3 z0 p0 p0o0 p0o1) (g1c0 : BK h b1c0 [.string p1c0] 9) {r : Oindex_Work_2 × Obst_Tree × Omem_Mem × Ochain_Store} (hF : F_index_Index_work_index_Index_Ensure_1 n p0 p0o0 p0o1 p1c0 = some r) :
 EvO EE 39 [pt bp0, .func (.func 50) #[] #[pt b1c0]] [z0] h (fun v S h1 => ∃ zy0 bw0 zw0, v = pt bw0 ∧ S = [zy0, zw0] ∧ Zindex_Index h1 bp0 bp0_1 bp0_2 bp0_3 zy0 r.2.1 r.2.2.1 r.2.2.2 ∧ Zindex_Work_2 h1 bp0 bp0_2 bp0_1 bp0_3 bw0 zw0 r.1) := by
 unfold F_index_Index_work_index_Index_Ensure_1 at hF
 refine evo_of rfl at_39 rfl rfl ?_
 refine go_seq (go_region (gAc rfl rfl (go_nil (go_seq (go_seq (go_region (gM rfl rfl (gr rfl (r_bin (v := .bool false) (ot rfl) (oc rfl) (by first | rfl | kernel_rfl)) (go_nil ?_)))))))))
 refine g_cond (b := false) (ot rfl) (fun hc3 => ?_) (fun hc3 => ?_)
 ·
  cases hc3
 refine go_skip (go_seq (go_region (gM rfl rfl (gr rfl (r_build (op1 (ot rfl) op0) rfl) (gs_box rfl (ot rfl) rfl (fun b10_4 => gA rfl rfl (go_nil (go_seq (go_region (gM rfl rfl (gM rfl rfl (gM rfl rfl (gs_pack (fun s => Zindex_Work h bp0 b10_4 s (⟨0, 0, ([] : List TKV)⟩ : Oindex_Work)) (.cons .z (.emp .nil)) ⟨_, _, _, rfl, (AccR.nil _ _ _)⟩ fun z6p y6p => ?_)))))))))))))
 obtain ⟨x5, hx5, hF⟩ := obind hF
 refine kcX EE_fr hw (.cons (.s (.z)) (.cons .z .nil)) rfl (ot rfl) (ops_t rfl os0) hb_50 (s_index_Index_Ensure_1 n (F_istep_ok n) hw p0 p0o0 p0o1 (⟨0, 0, ([] : List TKV)⟩ : Oindex_Work) p1c0 y0 y6p g1c0 hx5) ?_
 rintro _ _ h5 e5 w5 ⟨z5_y0, z5_y1, v5_r, t5_r, rfl, rfl, f5_0, f5_1, f5_2⟩
 simp only [ca_, na_]
 refine gN rfl rfl (gF (fa_88_1 _ _) rfl rfl (gs_front (.s (.z)) ?_))
 obtain ⟨v7z_1, q7z_4, t7z_4, rfl, f7z0⟩ := f5_1
 refine gs_unz ?_
 simp only [ca_, na_]
 refine gs_store (ot rfl) (ot rfl) sz_84 (OCi.sz f5_2) (OCi.one f5_2) rfl (OCi.okc f5_2) rfl .z (go_nil (go_seq (go_region (gM rfl rfl (gA rfl rfl (go_nil (gs_pack (fun s => Zindex_Work_2 h5 bp0 bp0_2 bp0_1 bp0_3 b10_4 s (⟨x5.1, x5.2.2.2.2.cell, x5.2.2.2.2.bad, x5.2.2.2.2.found⟩ : Oindex_Work_2)) (.cons .z (.cons (.s (.s (.z))) (.cons .z .nil))) ⟨_, _, _, _, rfl, f5_2, f7z0⟩ fun z8p y8p => ?_)))))))
 obtain rfl := someI hF
 exact g_retO (rst rfl rs0) (.cons (.s (.z)) (.cons .z .nil)) e5 w5 (nd1 f5_0.nd (nd1 y8p.nd nd0)) ⟨_, _, _, rfl, rfl, f5_0, y8p⟩
theorem s_index_Index_Ensure (n : Nat) {h : Heap} (hw : Wf h) (p0 : Obst_Tree) (p0o0 : Omem_Mem) (p0o1 : Ochain_Store) (p1 : ByteArray) {bp0 bp0_1 bp0_2 bp0_3 : Nat} {z0 : List Blk} (y0 : Zindex_Index h bp0 bp0_1 bp0_2 bp0_3 z0 p0 p0o0 p0o1) {r : Oindex_Work_2 × Obst_Tree × Omem_Mem × Ochain_Store} (hF : F_index_Index_Ensure n p0 p0o0 p0o1 p1 = some r) :
 EvO EE 20 [pt bp0, .string p1] [z0] h (fun v S h1 => ∃ zy0 bw0 zw0, v = pt bw0 ∧ S = [zy0, zw0] ∧ Zindex_Index h1 bp0 bp0_1 bp0_2 bp0_3 zy0 r.2.1 r.2.2.1 r.2.2.2 ∧ Zindex_Work_2 h1 bp0 bp0_2 bp0_1 bp0_3 bw0 zw0 r.1) := by
 unfold F_index_Index_Ensure at hF
 refine evo_of rfl at_20 rfl rfl ?_
 refine go_seq (go_region (gs_box rfl (ot rfl) rfl (fun b3_3 => gAc rfl rfl (go_nil (go_seq (go_region (gM rfl rfl (gr rfl (r_func os0 (os1 (ot rfl) os0)) (gs_pub .z (fun h5 e5 w5 hb5 => ?_))))))))))
 have g5_ : BK h5 b3_3 [.string p1] 9 := hb5
 obtain ⟨x4, hx4, hF⟩ := obind hF
 refine kcX EE_fr w5 (.cons .z .nil) rfl of (ops_t rfl (ops_t rfl os0)) hb_39 (s_index_Index_work_index_Index_Ensure_1 n w5 p0 p0o0 p0o1 p1 (y0.ext e5.kn) g5_ hx4) ?_
 rintro _ _ h4 e4 w4 ⟨z4_y0, b4_w0, z4_w0, rfl, rfl, f4_0, f4_1⟩
 simp only [ca_, na_]
 refine gA rfl rfl (go_nil ?_)
 obtain rfl := someI hF
 exact g_retO (rst rfl rs0) (.cons .z (.cons .z .nil)) (e5.trans e4) w4 (nd1 f4_0.nd (nd1 f4_1.nd nd0)) ⟨_, _, _, rfl, rfl, f4_0, f4_1⟩
theorem s_index_Index_Put_1 (n : Nat) {rc : RCi} (hrc : RCiok rc) {h : Heap} (hw : Wf h) (p0 : Obst_Tree) (p0o0 : Omem_Mem) (p0o1 : Ochain_Store) (p1 : Oindex_Work) (p3 : TEvent) {bp0 bp0_1 bp0_2 bp0_3 : Nat} {z0 : List Blk} {bp1 : Nat} {z1 : List Blk} {b3 : Nat} {b4 : Nat} (y0 : Zindex_Index h bp0 bp0_1 bp0_2 bp0_3 z0 p0 p0o0 p0o1) (y1 : Zindex_Work h bp0 bp1 z1 p1) (g3 : BK h b3 [.int .i64 p3.Rev, .string p3.Key, .string p3.Val, .bool p3.Del] 36) (g4 : BK h b4 [pt bp0] 27) {r : _} (hF : F_index_Index_Put_1 n rc p0 p0o0 p0o1 p1 p3 = some r) :
 EvO EE 54 [pt bp1, pt b3, pt b4] [z0, z1] h (fun v S h1 => ∃ zy0 zy1 vr tr, v = vr ∧ S = [zy0, zy1, tr] ∧ Zindex_Index h1 bp0 bp0_1 bp0_2 bp0_3 zy0 r.2.1 r.2.2.1 r.2.2.2.1 ∧ Zindex_Work h1 bp0 bp1 zy1 r.2.2.2.2 ∧ OCi h1 bp0 bp0_1 bp0_2 bp0_3 bp1 tr r.1 vr) := by
 unfold F_index_Index_Put_1 at hF
 refine evo_of rfl at_54 rfl rfl ?_
 refine go_seq (go_region (gs_box rfl (ot rfl) rfl (fun b3_6 => gAc rfl rfl (go_nil (go_seq (go_region (gls 0 ag_32 rfl rfl rfl rfl (gF (fa_36_1 _ _) rfl rfl (glc ag_9 g3 rfl rfl rfl (gr rfl (r_func os0 (os1 (ot rfl) (os1 (ot rfl) (os1 (ot rfl) os0)))) (gs_pub .z (fun h8 e8 w8 hb8 => ?_))))))))))))
 have g8_ : BK h8 b3_6 [pt bp1] 32 := hb8
 have co9 : COi h8 bp0 bp0_1 bp0_2 bp0_3 bp1 none [] (Cli.c_Index_Put_1_1 p3) (.func (.func 55) #[] #[pt b4, pt b3_6, pt b3]) := COi.c_Index_Put_1_1 (g4.ext e8.kn) g8_ (g3.ext e8.kn)
 obtain ⟨x7, hx7, hF⟩ := obind hF
 refine kcX EE_fr w8 (.cons .z (.cons .z .nil)) rfl of (ops_t rfl (ops_t rfl (ops_t rfl os0))) hb_51 (s_index_Work_ensure n hrc w8 p0 p0o0 p0o1 p1 p3.Key (Cli.c_Index_Put_1_1 p3) (y0.ext e8.kn) (y1.ext e8.kn) co9 hx7) ?_
 rintro _ _ h7 e7 w7 ⟨z7_y0, z7_y1, v7_r, t7_r, rfl, rfl, f7_0, f7_1, f7_2⟩
 simp only [ca_, na_]
 refine gA rfl rfl (go_nil ?_)
 obtain rfl := someI hF
 exact g_retO (rst rfl rs0) (.cons .z (.cons .z (.cons .z .nil))) (e8.trans e7) w7 (nd1 f7_0.nd (nd1 f7_1.nd (ndci f7_2 nd0))) ⟨_, _, _, _, rfl, rfl, f7_0, f7_1, f7_2⟩
theorem s_index_Index_work_index_Index_Put_1 (n : Nat) {h : Heap} (hw : Wf h) (p0 : Obst_Tree) (p0o0 : Omem_Mem) (p0o1 : Ochain_Store) (p1c0 : TEvent) {bp0 bp0_1 bp0_2 bp0_3 : Nat} {z0 : List Blk} {b1c0 : Nat} {b1c1 : Nat} (y0 : Zindex_Index h bp0 bp0_1 bp0_2 bp0_3 z0 p0 p0o0 p0o1) (g1c0 : BK h b1c0 [.int .i64 p1c0.Rev, .string p1c0.Key, .string p1c0.Val, .bool p1c0.Del] 36) (g1c1 : BK h b1c1 [pt bp0] 27) {r : Oindex_Work_2 × Obst_Tree × Omem_Mem × Ochain_Store} (hF : F_index_Index_work_index_Index_Put_1 n p0 p0o0 p0o1 p1c0 = some r) :
 EvO EE 39 [pt bp0, .func (.func 54) #[] #[pt b1c0, pt b1c1]] [z0] h (fun v S h1 => ∃ zy0 bw0 zw0, v = pt bw0 ∧ S = [zy0, zw0] ∧ Zindex_Index h1 bp0 bp0_1 bp0_2 bp0_3 zy0 r.2.1 r.2.2.1 r.2.2.2 ∧ Zindex_Work_2 h1 bp0 bp0_2 bp0_1 bp0_3 bw0 zw0 r.1) := by
 unfold F_index_Index_work_index_Index_Put_1 at hF
 refine evo_of rfl at_39 rfl rfl ?_
 refine go_seq (go_region (gAc rfl rfl (go_nil (go_seq (go_seq (go_region (gM rfl rfl (gr rfl (r_bin (v := .bool false) (ot rfl) (oc rfl) (by first | rfl | kernel_rfl)) (go_nil ?_)))))))))
 refine g_cond (b := false) (ot rfl) (fun hc3 => ?_) (fun hc3 => ?_)
 ·
  cases hc3
 refine go_skip (go_seq (go_region (gM rfl rfl (gr rfl (r_build (op1 (ot rfl) op0) rfl) (gs_box rfl (ot rfl) rfl (fun b10_4 => gA rfl rfl (go_nil (go_seq (go_region (gM rfl rfl (gM rfl rfl (gM rfl rfl (gs_pack (fun s => Zindex_Work h bp0 b10_4 s (⟨0, 0, ([] : List TKV)⟩ : Oindex_Work)) (.cons .z (.emp .nil)) ⟨_, _, _, rfl, (AccR.nil _ _ _)⟩ fun z6p y6p => ?_)))))))))))))
 obtain ⟨x5, hx5, hF⟩ := obind hF
 refine kcX EE_fr hw (.cons (.s (.z)) (.cons .z .nil)) rfl (ot rfl) (ops_t rfl os0) hb_54 (s_index_Index_Put_1 n (F_istep_ok n) hw p0 p0o0 p0o1 (⟨0, 0, ([] : List TKV)⟩ : Oindex_Work) p1c0 y0 y6p g1c0 g1c1 hx5) ?_
 rintro _ _ h5 e5 w5 ⟨z5_y0, z5_y1, v5_r, t5_r, rfl, rfl, f5_0, f5_1, f5_2⟩
 simp only [ca_, na_]
 refine gN rfl rfl (gF (fa_88_1 _ _) rfl rfl (gs_front (.s (.z)) ?_))
 obtain ⟨v7z_1, q7z_4, t7z_4, rfl, f7z0⟩ := f5_1
 refine gs_unz ?_
 simp only [ca_, na_]
 refine gs_store (ot rfl) (ot rfl) sz_84 (OCi.sz f5_2) (OCi.one f5_2) rfl (OCi.okc f5_2) rfl .z (go_nil (go_seq (go_region (gM rfl rfl (gA rfl rfl (go_nil (gs_pack (fun s => Zindex_Work_2 h5 bp0 bp0_2 bp0_1 bp0_3 b10_4 s (⟨x5.1, x5.2.2.2.2.cell, x5.2.2.2.2.bad, x5.2.2.2.2.found⟩ : Oindex_Work_2)) (.cons .z (.cons (.s (.s (.z))) (.cons .z .nil))) ⟨_, _, _, _, rfl, f5_2, f7z0⟩ fun z8p y8p => ?_)))))))
 obtain rfl := someI hF
 exact g_retO (rst rfl rs0) (.cons (.s (.z)) (.cons .z .nil)) e5 w5 (nd1 f5_0.nd (nd1 y8p.nd nd0)) ⟨_, _, _, rfl, rfl, f5_0, y8p⟩
theorem s_index_Index_Put (n : Nat) {h : Heap} (hw : Wf h) (p0 : Obst_Tree) (p0o0 : Omem_Mem) (p0o1 : Ochain_Store) (p1 : TEvent) {bp0 bp0_1 bp0_2 bp0_3 : Nat} {z0 : List Blk} (y0 : Zindex_Index h bp0 bp0_1 bp0_2 bp0_3 z0 p0 p0o0 p0o1) {r : Oindex_Work_2 × Obst_Tree × Omem_Mem × Ochain_Store} (hF : F_index_Index_Put n p0 p0o0 p0o1 p1 = some r) :
 EvO EE 25 [pt bp0, .agg #[.int .i64 p1.Rev, .string p1.Key, .string p1.Val, .bool p1.Del]] [z0] h (fun v S h1 => ∃ zy0 bw0 zw0, v = pt bw0 ∧ S = [zy0, zw0] ∧ Zindex_Index h1 bp0 bp0_1 bp0_2 bp0_3 zy0 r.2.1 r.2.2.1 r.2.2.2 ∧ Zindex_Work_2 h1 bp0 bp0_2 bp0_1 bp0_3 bw0 zw0 r.1) := by
 unfold F_index_Index_Put at hF
 refine evo_of rfl at_25 rfl rfl ?_
 refine go_seq (go_region (gs_box rfl (ot rfl) rfl (fun b2_3 => gs_box rfl (ot rfl) rfl (fun b3_4 => gAc rfl rfl (go_nil (go_seq (go_region (gls 1 ag_27 rfl rfl rfl rfl (gr rfl (r_func os0 (os1 (ot rfl) (os1 (ot rfl) os0))) (gs_pub .z (fun h6 e6 w6 hb6 => ?_)))))))))))
 have g6_ : BK h6 b3_4 [.int .i64 p1.Rev, .string p1.Key, .string p1.Val, .bool p1.Del] 36 := hb6
 refine gs_pub .z (fun h7 e7 w7 hb7 => ?_)
 have g7_ : BK h7 b2_3 [pt bp0] 27 := hb7
 obtain ⟨x5, hx5, hF⟩ := obind hF
 refine kcX EE_fr w7 (.cons .z .nil) rfl of (ops_t rfl (ops_t rfl os0)) hb_39 (s_index_Index_work_index_Index_Put_1 n w7 p0 p0o0 p0o1 p1 ((y0.ext e6.kn).ext e7.kn) (g6_.ext e7.kn) g7_ hx5) ?_
 rintro _ _ h5 e5 w5 ⟨z5_y0, b5_w0, z5_w0, rfl, rfl, f5_0, f5_1⟩
 simp only [ca_, na_]
 refine gA rfl rfl (go_nil ?_)
 obtain rfl := someI hF
 exact g_retO (rst rfl rs0) (.cons .z (.cons .z .nil)) (e6.trans (e7.trans e5)) w5 (nd1 f5_0.nd (nd1 f5_1.nd nd0)) ⟨_, _, _, rfl, rfl, f5_0, f5_1⟩
theorem s_index_Index_Walk_1 (n : Nat) {rc : RCi} (hrc : RCiok rc) {h : Heap} (hw : Wf h) (p0 : Obst_Tree) (p0o0 : Omem_Mem) (p0o1 : Ochain_Store) (p1 : Oindex_Work) (p3 : TRange) (p4 : Int) {bp0 bp0_1 bp0_2 bp0_3 : Nat} {z0 : List Blk} {bp1 : Nat} {z1 : List Blk} {b3 : Nat} {b4 : Nat} (y0 : Zindex_Index h bp0 bp0_1 bp0_2 bp0_3 z0 p0 p0o0 p0o1) (y1 : Zindex_Work h bp0 bp1 z1 p1) (g3 : BK h b3 [.string p3.From, .string p3.To] 24) (g4 : BK h b4 [.int .i64 p4] 3) {r : _} (hF : F_index_Index_Walk_1 n rc p0 p0o0 p0o1 p1 p3 p4 = some r) :
 EvO EE 47 [pt bp1, pt b3, pt b4] [z0, z1] h (fun v S h1 => ∃ zy0 zy1 vr tr, v = vr ∧ S = [zy0, zy1, tr] ∧ Zindex_Index h1 bp0 bp0_1 bp0_2 bp0_3 zy0 r.2.1 r.2.2.1 r.2.2.2.1 ∧ Zindex_Work h1 bp0 bp1 zy1 r.2.2.2.2 ∧ OCi h1 bp0 bp0_1 bp0_2 bp0_3 bp1 tr r.1 vr) := by
 unfold F_index_Index_Walk_1 at hF
 refine evo_of rfl at_47 rfl rfl ?_
 refine go_seq (go_region (gAc rfl rfl (go_nil (go_seq (go_region (gM rfl rfl (glb ag_24 sz_24 g3 rfl rfl rfl (gF (fa_24_0 _ _) rfl rfl (glc ag_9 g3 rfl rfl rfl (glc ag_3 g4 rfl rfl rfl ?_))))))))))
 obtain ⟨x6, hx6, hF⟩ := obind hF
 refine kcX EE_fr hw (.cons .z (.cons .z .nil)) rfl of (ops_t rfl (ops_t rfl (ops_t rfl (ops_t rfl os0)))) hb_48 (s_index_Work_walk n hrc hw p0 p0o0 p0o1 p1 p3 p3.From p4 y0 y1 hx6) ?_
 rintro _ _ h6 e6 w6 ⟨z6_y0, z6_y1, v6_r, t6_r, rfl, rfl, f6_0, f6_1, f6_2⟩
 simp only [ca_, na_]
 refine gA rfl rfl (go_nil ?_)
 obtain rfl := someI hF
 exact g_retO (rst rfl rs0) (.cons .z (.cons .z (.cons .z .nil))) e6 w6 (nd1 f6_0.nd (nd1 f6_1.nd (ndci f6_2 nd0))) ⟨_, _, _, _, rfl, rfl, f6_0, f6_1, f6_2⟩
theorem s_index_Index_work_index_Index_Walk_1 (n : Nat) {h : Heap} (hw : Wf h) (p0 : Obst_Tree) (p0o0 : Omem_Mem) (p0o1 : Ochain_Store) (p1c0 : TRange) (p1c1 : Int) {bp0 bp0_1 bp0_2 bp0_3 : Nat} {z0 : List Blk} {b1c0 : Nat} {b1c1 : Nat} (y0 : Zindex_Index h bp0 bp0_1 bp0_2 bp0_3 z0 p0 p0o0 p0o1) (g1c0 : BK h b1c0 [.string p1c0.From, .string p1c0.To] 24) (g1c1 : BK h b1c1 [.int .i64 p1c1] 3) {r : Oindex_Work_2 × Obst_Tree × Omem_Mem × Ochain_Store} (hF : F_index_Index_work_index_Index_Walk_1 n p0 p0o0 p0o1 p1c0 p1c1 = some r) :
 EvO EE 39 [pt bp0, .func (.func 47) #[] #[pt b1c0, pt b1c1]] [z0] h (fun v S h1 => ∃ zy0 bw0 zw0, v = pt bw0 ∧ S = [zy0, zw0] ∧ Zindex_Index h1 bp0 bp0_1 bp0_2 bp0_3 zy0 r.2.1 r.2.2.1 r.2.2.2 ∧ Zindex_Work_2 h1 bp0 bp0_2 bp0_1 bp0_3 bw0 zw0 r.1) := by
 unfold F_index_Index_work_index_Index_Walk_1 at hF
 refine evo_of rfl at_39 rfl rfl ?_
 refine go_seq (go_region (gAc rfl rfl (go_nil (go_seq (go_seq (go_region (gM rfl rfl (gr rfl (r_bin (v := .bool false) (ot rfl) (oc rfl) (by first | rfl | kernel_rfl)) (go_nil ?_)))))))))
 refine g_cond (b := false) (ot rfl) (fun hc3 => ?_) (fun hc3 => ?_)
 ·
  cases hc3
 refine go_skip (go_seq (go_region (gM rfl rfl (gr rfl (r_build (op1 (ot rfl) op0) rfl) (gs_box rfl (ot rfl) rfl (fun b10_4 => gA rfl rfl (go_nil (go_seq (go_region (gM rfl rfl (gM rfl rfl (gM rfl rfl (gs_pack (fun s => Zindex_Work h bp0 b10_4 s (⟨0, 0, ([] : List TKV)⟩ : Oindex_Work)) (.cons .z (.emp .nil)) ⟨_, _, _, rfl, (AccR.nil _ _ _)⟩ fun z6p y6p => ?_)))))))))))))
 obtain ⟨x5, hx5, hF⟩ := obind hF
 refine kcX EE_fr hw (.cons (.s (.z)) (.cons .z .nil)) rfl (ot rfl) (ops_t rfl os0) hb_47 (s_index_Index_Walk_1 n (F_istep_ok n) hw p0 p0o0 p0o1 (⟨0, 0, ([] : List TKV)⟩ : Oindex_Work) p1c0 p1c1 y0 y6p g1c0 g1c1 hx5) ?_
 rintro _ _ h5 e5 w5 ⟨z5_y0, z5_y1, v5_r, t5_r, rfl, rfl, f5_0, f5_1, f5_2⟩
 simp only [ca_, na_]
 refine gN rfl rfl (gF (fa_88_1 _ _) rfl rfl (gs_front (.s (.z)) ?_))
 obtain ⟨v7z_1, q7z_4, t7z_4, rfl, f7z0⟩ := f5_1
 refine gs_unz ?_
 simp only [ca_, na_]
 refine gs_store (ot rfl) (ot rfl) sz_84 (OCi.sz f5_2) (OCi.one f5_2) rfl (OCi.okc f5_2) rfl .z (go_nil (go_seq (go_region (gM rfl rfl (gA rfl rfl (go_nil (gs_pack (fun s => Zindex_Work_2 h5 bp0 bp0_2 bp0_1 bp0_3 b10_4 s (⟨x5.1, x5.2.2.2.2.cell, x5.2.2.2.2.bad, x5.2.2.2.2.found⟩ : Oindex_Work_2)) (.cons .z (.cons (.s (.s (.z))) (.cons .z .nil))) ⟨_, _, _, _, rfl, f5_2, f7z0⟩ fun z8p y8p => ?_)))))))
 obtain rfl := someI hF
 exact g_retO (rst rfl rs0) (.cons (.s (.z)) (.cons .z .nil)) e5 w5 (nd1 f5_0.nd (nd1 y8p.nd nd0)) ⟨_, _, _, rfl, rfl, f5_0, y8p⟩
theorem s_index_Index_Walk (n : Nat) {h : Heap} (hw : Wf h) (p0 : Obst_Tree) (p0o0 : Omem_Mem) (p0o1 : Ochain_Store) (p1 : TRange) (p2 : Int) {bp0 bp0_1 bp0_2 bp0_3 : Nat} {z0 : List Blk} (y0 : Zindex_Index h bp0 bp0_1 bp0_2 bp0_3 z0 p0 p0o0 p0o1) {r : Oindex_Work_2 × Obst_Tree × Omem_Mem × Ochain_Store} (hF : F_index_Index_Walk n p0 p0o0 p0o1 p1 p2 = some r) :
 EvO EE 18 [pt bp0, .agg #[.string p1.From, .string p1.To], .int .i64 p2] [z0] h (fun v S h1 => ∃ zy0 bw0 zw0, v = pt bw0 ∧ S = [zy0, zw0] ∧ Zindex_Index h1 bp0 bp0_1 bp0_2 bp0_3 zy0 r.2.1 r.2.2.1 r.2.2.2 ∧ Zindex_Work_2 h1 bp0 bp0_2 bp0_1 bp0_3 bw0 zw0 r.1) := by
 unfold F_index_Index_Walk at hF
 refine evo_of rfl at_18 rfl rfl ?_
 refine go_seq (go_region (gs_box rfl (ot rfl) rfl (fun b4_4 => gs_box rfl (ot rfl) rfl (fun b5_5 => gAc rfl rfl (go_nil (go_seq (go_region (gM rfl rfl (gr rfl (r_func os0 (os1 (ot rfl) (os1 (ot rfl) os0))) (gs_pub (.s (.z)) (fun h7 e7 w7 hb7 => ?_)))))))))))
 have g7_ : BK h7 b4_4 [.string p1.From, .string p1.To] 24 := hb7
 refine gs_pub .z (fun h8 e8 w8 hb8 => ?_)
 have g8_ : BK h8 b5_5 [.int .i64 p2] 3 := hb8
 obtain ⟨x6, hx6, hF⟩ := obind hF
 refine kcX EE_fr w8 (.cons .z .nil) rfl of (ops_t rfl (ops_t rfl os0)) hb_39 (s_index_Index_work_index_Index_Walk_1 n w8 p0 p0o0 p0o1 p1 p2 ((y0.ext e7.kn).ext e8.kn) (g7_.ext e8.kn) g8_ hx6) ?_
 rintro _ _ h6 e6 w6 ⟨z6_y0, b6_w0, z6_w0, rfl, rfl, f6_0, f6_1⟩
 simp only [ca_, na_]
 refine gA rfl rfl (go_nil ?_)
 obtain rfl := someI hF
 exact g_retO (rst rfl rs0) (.cons .z (.cons .z .nil)) (e7.trans (e8.trans e6)) w6 (nd1 f6_0.nd (nd1 f6_1.nd nd0)) ⟨_, _, _, rfl, rfl, f6_0, f6_1⟩
theorem s_index_Work_Step (n : Nat) {h : Heap} (hw : Wf h) (p0 : Obst_Tree) (p0o0 : Omem_Mem) (p0o1 : Ochain_Store) (p1 : Oindex_Work_2) {bp0 bp0_1 bp0_2 bp0_3 : Nat} {z0 : List Blk} {bp1 : Nat} {z1 : List Blk} (y0 : Zindex_Index h bp0 bp0_1 bp0_2 bp0_3 z0 p0 p0o0 p0o1) (y1 : Zindex_Work_2 h bp0 bp0_2 bp0_1 bp0_3 bp1 z1 p1) {r : Bool × Obst_Tree × Omem_Mem × Ochain_Store × Oindex_Work_2} (hF : F_index_Work_Step n p0 p0o0 p0o1 p1 = some r) :
 EvO EE 21 [pt bp1] [z0, z1] h (fun v S h1 => ∃ zy0 zy1, v = .bool r.1 ∧ S = [zy0, zy1] ∧ Zindex_Index h1 bp0 bp0_1 bp0_2 bp0_3 zy0 r.2.1 r.2.2.1 r.2.2.2.1 ∧ Zindex_Work_2 h1 bp0 bp0_2 bp0_1 bp0_3 bp1 zy1 r.2.2.2.2) := by
 unfold F_index_Work_Step at hF
 refine evo_of rfl at_21 rfl rfl ?_
 refine go_seq (go_region (gAc rfl rfl (go_nil (go_seq (go_seq (go_region (gM rfl rfl (gr rfl (r_bin (v := .bool false) (ot rfl) (oc rfl) (by first | rfl | kernel_rfl)) (gM rfl rfl (g_do rfl rfl rfl (gM rfl rfl (g_do rfl rfl rfl (gN rfl rfl (g_do rfl rfl rfl (gF (fa_88_1 _ _) rfl rfl (g_do rfl rfl rfl (gs_front (.s (.z)) ?_)))))))))))))))))
 obtain ⟨v3z_1, t3z_1, q3z_4, t3z_4, rfl, f3z0, f3z1⟩ := y1
 refine gs_unz ?_
 simp only [ca_, na_]
 refine gls 0 ag_84 rfl rfl rfl rfl (g_do rfl rfl rfl (gr rfl (r_bin (v := .bool ((p1.next).isNone)) (ot rfl) (oc rfl) (OCi.eqn f3z0)) (gr rfl (r_pkF (ot rfl) (ot rfl)) (go_nil ?_))))
 refine g_cond (b := (p1.next).isNone) (ot rfl) (fun hc4 => ?_) (fun hc4 => ?_)
 ·
  replace hF := ifT hc4 hF
  refine go_seq (go_region (gAc rfl rfl (go_nil (gs_pack (fun s => Zindex_Work_2 h bp0 bp0_2 bp0_1 bp0_3 bp1 s p1) (.cons .z (.cons .z (.cons .z .nil))) ⟨_, _, _, _, rfl, f3z0, f3z1⟩ fun z5p y5p => ?_))))
  obtain rfl := someI hF
  exact g_retO (rst rfl rs0) (.cons (.s (.z)) (.cons .z .nil)) (HExt.refl _) hw (nd1 y0.nd (nd1 y5p.nd nd0)) ⟨_, _, rfl, rfl, y0, y5p⟩
 ·
  replace hF := ifF hc4 hF
  refine go_skip (go_seq (go_region (gM rfl rfl (gM rfl rfl (gN rfl rfl (gF (fa_88_1 _ _) rfl rfl (gls 0 ag_84 rfl rfl rfl rfl ?_)))))))
  obtain ⟨x7, hx7, hF⟩ := obind hF
  have co7 := OCi.get f3z0 hx7
  refine gs_pack (fun s => Zindex_Work h bp0 bp1 s (⟨p1.cell, p1.bad, p1.found⟩ : Oindex_Work)) (.cons .z (.cons (.s (.z)) .nil)) ⟨_, _, _, rfl, f3z1⟩ fun z8p y8p => ?_
  obtain ⟨x6, hx6, hF⟩ := obind hF
  refine gs_calld EE_fr hw (.cons (.s (.s (.z))) (.cons .z (.cons .z .nil))) (fun _ h => by cases h; rfl) (ot rfl) os0 (by exact (F_istep_ok n) hw p0 p0o0 p0o1 (⟨p1.cell, p1.bad, p1.found⟩ : Oindex_Work) y0 y8p x7 Argi.u t3z_1 co7 hx6) ?_
  rintro _ _ h6 e6 w6 ⟨z6_y0, z6_y1, v6_r, t6_r, rfl, rfl, f6_0, f6_1, f6_2⟩
  simp only [ca_, na_]
  refine gN rfl rfl (gF (fa_88_1 _ _) rfl rfl (gs_front (.s (.z)) ?_))
  obtain ⟨v9z_1, q9z_4, t9z_4, rfl, f9z0⟩ := f6_1
  refine gs_unz ?_
  simp only [ca_, na_]
  refine gs_store (ot rfl) (ot rfl) sz_84 (OCi.sz f6_2) (OCi.one f6_2) rfl (OCi.okc f6_2) rfl .z (go_nil (go_seq (go_region (gM rfl rfl (gN rfl rfl (gF (fa_88_1 _ _) rfl rfl (gls 0 ag_84 rfl rfl rfl rfl (gr rfl (r_bin (v := .bool ((x6.1).isNone)) (ot rfl) (oc rfl) (OCi.eqn f6_2)) (gA rfl rfl (go_nil (gs_pack (fun s => Zindex_Work_2 h6 bp0 bp0_2 bp0_1 bp0_3 bp1 s (⟨x6.1, x6.2.2.2.2.cell, x6.2.2.2.2.bad, x6.2.2.2.2.found⟩ : Oindex_Work_2)) (.cons .z (.cons (.s (.s (.z))) (.cons .z .nil))) ⟨_, _, _, _, rfl, f6_2, f9z0⟩ fun z10p y10p => ?_)))))))))))
  obtain rfl := someI hF
  exact g_retO (rst rfl rs0) (.cons (.s (.z)) (.cons .z .nil)) e6 w6 (nd1 f6_0.nd (nd1 y10p.nd nd0)) ⟨_, _, rfl, rfl, f6_0, y10p⟩
theorem s_index_Work_Found {h : Heap} (hw : Wf h) (p0 : Oindex_Work_2) {bp0 : Nat} {z0 : List Blk} {bW91 : Nat} {bW107 : Nat} {bW131 : Nat} {bW161 : Nat} (y0 : Zindex_Work_2 h bW91 bW107 bW131 bW161 bp0 z0 p0) {r : (List TKV)} (hF : F_index_Work_Found p0 = some r) :
 EvO EE 16 [pt bp0] [z0] h (fun v S h1 => ∃ a0 c0, v = .slice a0 r.length c0 ∧ S = [] ∧ RL R_TKV h1 a0 c0 r) := by
 unfold F_index_Work_Found at hF
 refine evo_of rfl at_16 rfl rfl ?_
 refine go_seq (go_region (gAc rfl rfl (go_nil (go_seq (go_seq (go_region (gM rfl rfl (gr rfl (r_bin (v := .bool false) (ot rfl) (oc rfl) (by first | rfl | kernel_rfl)) (go_nil ?_)))))))))
 refine g_cond (b := false) (ot rfl) (fun hc2 => ?_) (fun hc2 => ?_)
 ·
  cases hc2
 refine go_skip (go_seq (go_region (gM rfl rfl (gN rfl rfl (gF (fa_88_4 _ _) rfl rfl ?_)))))
 obtain ⟨v3z_1, t3z_1, q3z_4, t3z_4, rfl, f3z0, f3z1⟩ := y0
 refine gs_unz ?_
 simp only [ca_, na_]
 refine gls 0 ag_29 rfl rfl rfl rfl (gA rfl rfl (go_nil ?_))
 refine gs_accpub (.s (.s (.z))) f3z1 (fun h4 e4 w4 f4_ => ?_) rfl
 obtain rfl := someI hF
 exact g_retO (rst rfl rs0) .nil e4 w4 nd0 ⟨_, _, rfl, rfl, f4_⟩
theorem s_index_Run (n : Nat) {h : Heap} (hw : Wf h) (p0 : Obst_Tree) (p0o0 : Omem_Mem) (p0o1 : Ochain_Store) (p1 : Oindex_Work_2) {bp0 bp0_1 bp0_2 bp0_3 : Nat} {z0 : List Blk} {bp1 : Nat} {z1 : List Blk} (y0 : Zindex_Index h bp0 bp0_1 bp0_2 bp0_3 z0 p0 p0o0 p0o1) (y1 : Zindex_Work_2 h bp0 bp0_2 bp0_1 bp0_3 bp1 z1 p1) {r : Obst_Tree × Omem_Mem × Ochain_Store × Oindex_Work_2} (hF : F_index_Run n p0 p0o0 p0o1 p1 = some r) :
 EvO EE 14 [pt bp1] [z0, z1] h (fun v S h1 => ∃ zy0 zy1, v = pt bp1 ∧ S = [zy0, zy1] ∧ Zindex_Index h1 bp0 bp0_1 bp0_2 bp0_3 zy0 r.1 r.2.1 r.2.2.1 ∧ Zindex_Work_2 h1 bp0 bp0_2 bp0_1 bp0_3 bp1 zy1 r.2.2.2) := by
 unfold F_index_Run at hF
 refine evo_of rfl at_14 rfl rfl ?_
 refine go_seq (go_region (gAc rfl rfl (go_nil (go_seq ?_))))
 obtain ⟨s3, hF, hK3⟩ := obind hF
 refine go_joinc (β := List Blk × List Blk) (fun s h' => Zindex_Index h' bp0 bp0_1 bp0_2 bp0_3 s.1 s3.1.1 s3.1.2.1 s3.1.2.2 ∧ Zindex_Work_2 h' bp0 bp0_2 bp0_1 bp0_3 bp1 s.2 s3.2) (fun s => [(0, true, pt bp1), (2, true, .pointer none)]) (fun s => (List.flatten [s.1, s.2] : List Blk)) ?_ (fun J3 => ?_)
 ·
  rintro ⟨a3_0, a3_1⟩ h3 e3 w3 ⟨f3_0, f3_1⟩
  try dsimp only at f3_0 f3_1
  replace hF := hK3
  refine go_seq (go_region (gM rfl rfl (gA rfl rfl (go_nil ?_))))
  obtain rfl := someI hF
  exact g_retO (rst rfl rs0) (.cons .z (.cons .z .nil)) e3 w3 (nd1 f3_0.nd (nd1 f3_1.nd nd0)) ⟨_, _, rfl, rfl, f3_0, f3_1⟩
 ·
  refine go_block ?_
  refine go_loop (α := Nat × (Obst_Tree × Omem_Mem × Ochain_Store) × (Oindex_Work_2) × List Blk × List Blk × Heap) (fun a => HExt h a.2.2.2.2.2 ∧ Wf a.2.2.2.2.2 ∧ F_index_Run_L1 n a.1 a.2.1 a.2.2.1 = some s3 ∧ Zindex_Index a.2.2.2.2.2 bp0 bp0_1 bp0_2 bp0_3 a.2.2.2.1 a.2.1.1 a.2.1.2.1 a.2.1.2.2 ∧ Zindex_Work_2 a.2.2.2.2.2 bp0 bp0_2 bp0_1 bp0_3 bp1 a.2.2.2.2.1 a.2.2.1) (fun a => a.1) (fun a => [(0, true, pt bp1), (2, true, .pointer none)]) (fun a => (List.flatten [a.2.2.2.1, a.2.2.2.2.1] : List Blk)) (fun a => a.2.2.2.2.2) ?_ (n, (p0, p0o0, p0o1), p1, z0, z1, h) ⟨HExt.refl _, hw, hF, y0, y1⟩ (Sub.cons (Sub.cons (Sub.nil _) rfl) rfl) rfl rfl
  rintro ⟨m4, y4_0, y4_1, a4_0, a4_1, h4⟩ ⟨e4, w4, hF, f4_0, f4_1⟩ ih4
  try dsimp only at f4_0 f4_1
  rcases m4 with _ | m4
  ·
   rw [F_index_Run_L1.eq_1] at hF; cases hF
  ·
   rw [F_index_Run_L1.eq_2] at hF
   refine go_seq (go_seq (go_region (gM rfl rfl ?_)))
   obtain ⟨x5, hx5, hF⟩ := obind hF
   refine kcX EE_fr w4 (.cons .z (.cons .z .nil)) rfl of (ops_t rfl os0) hb_21 (s_index_Work_Step n w4 y4_0.1 y4_0.2.1 y4_0.2.2 y4_1 f4_0 f4_1 hx5) ?_
   rintro _ _ h5 e5 w5 ⟨z5_y0, z5_y1, rfl, rfl, f5_0, f5_1⟩
   simp only [ca_, na_]
   refine gr rfl (r_un (ot rfl) rfl) (go_nil ?_)
   refine g_cond (b := (!x5.1)) (ot rfl) (fun hc6 => ?_) (fun hc6 => ?_)
   ·
    replace hF := ifT hc6 hF
    refine go_skip (go_block (go_skip (go_endb ?_)))
    exact Goes.weak (ih4 (m4, (x5.2.1, x5.2.2.1, x5.2.2.2.1), x5.2.2.2.2, z5_y0, z5_y1, h5) ⟨(e4.trans e5), w5, hF, f5_0, f5_1⟩ (Nat.lt_succ_self _)) (Sub.cons (Sub.cons (Sub.nil _) rfl) rfl)
   ·
    replace hF := ifF hc6 hF
    refine go_exit rfl ?_
    obtain rfl := someI hF
    exact Goes.weak (J3 (z5_y0, z5_y1) _ (e4.trans e5) w5 ⟨f5_0, f5_1⟩) (Sub.cons (Sub.cons (Sub.nil _) rfl) rfl)
theorem s_chain_New {h : Heap} (hw : Wf h) (p0 : Omem_Mem) {bp0 : Nat} {z0 : List Blk} (y0 : Zmem_Mem h bp0 z0 p0) {r : Ochain_Store × Omem_Mem} (hF : F_chain_New p0 = some r) :
 EvO EE 53 [pt bp0] [z0] h (fun v S h1 => ∃ zy0 bw0 zw0, v = pt bw0 ∧ S = [zy0, zw0] ∧ Zmem_Mem h1 bp0 zy0 r.2 ∧ Zchain_Store h1 bp0 bw0 zw0 r.1) := by
 unfold F_chain_New at hF
 refine evo_of rfl at_53 rfl rfl ?_
 refine go_seq (go_region (gAc rfl rfl (go_nil (go_seq (go_seq (go_region (gM rfl rfl (gr rfl (r_bin (v := .bool false) (ot rfl) (oc rfl) (by first | rfl | kernel_rfl)) (go_nil ?_)))))))))
 refine g_cond (b := false) (ot rfl) (fun hc2 => ?_) (fun hc2 => ?_)
 ·
  cases hc2
 refine go_skip (go_seq (go_region (gM rfl rfl (gr rfl (r_build (op1 (ot rfl) op0) rfl) (gs_box rfl (ot rfl) rfl (fun b7_3 => gA rfl rfl (go_nil (gs_pack (fun s => Zchain_Store h bp0 b7_3 s (⟨([] : List Tchain_version)⟩ : Ochain_Store)) (.cons .z (.emp .nil)) ⟨_, _, rfl, (AccR.nil _ _ _)⟩ fun z4p y4p => ?_))))))))
 obtain rfl := someI hF
 exact g_retO (rst rfl rs0) (.cons (.s (.z)) (.cons .z .nil)) (HExt.refl _) hw (nd1 y0.nd (nd1 y4p.nd nd0)) ⟨_, _, _, rfl, rfl, y0, y4p⟩
theorem s_index_New {h : Heap} (hw : Wf h) (p0 : Omem_Mem) {bp0 : Nat} {z0 : List Blk} (y0 : Zmem_Mem h bp0 z0 p0) {r : Obst_Tree × Omem_Mem × Ochain_Store} (hF : F_index_New p0 = some r) :
 EvO EE 23 [pt bp0] [z0] h (fun v S h1 => ∃ bw0 bw0_1 bw0_3 zw0, v = pt bw0 ∧ S = [zw0] ∧ Zindex_Index h1 bw0 bw0_1 bp0 bw0_3 zw0 r.1 r.2.1 r.2.2) := by
 unfold F_index_New at hF
 refine evo_of rfl at_23 rfl rfl ?_
 refine go_seq (go_region (gAc rfl rfl (go_nil (go_seq (go_region (gM rfl rfl ?_))))))
 obtain ⟨x2, hx2, hF⟩ := obind hF
 refine kcX EE_fr hw (.cons .z .nil) rfl of (ops_t rfl os0) hb_52 (s_bst_New hw p0 y0 hx2) ?_
 rintro _ _ h2 e2 w2 ⟨b2_w0, z2_w0, rfl, rfl, f2_0⟩
 simp only [ca_, na_]
 refine gA rfl rfl (go_nil (go_seq (go_seq (go_region (gM rfl rfl (gr rfl (r_bin (v := .bool false) (ot rfl) (oc rfl) (by first | rfl | kernel_rfl)) (go_nil ?_)))))))
 refine g_cond (b := false) (ot rfl) (fun hc3 => ?_) (fun hc3 => ?_)
 ·
  cases hc3
 refine go_skip (go_seq (go_region (gM rfl rfl (gM rfl rfl ?_))))
 obtain ⟨q5z_1, t5z_1, q5z_2, t5z_2, z5z_0, rfl, f5z0, f5z1, f5z2⟩ := f2_0
 refine gs_unz ?_
 simp only [ca_, na_]
 refine gs_front (.s (.s (.s (.z)))) ?_
 obtain ⟨q6z_0, t6z_0, rfl, f6z0⟩ := f5z2
 refine gs_unz ?_
 simp only [ca_, na_]
 refine gs_pack (fun s => Zmem_Mem h2 bp0 s x2.2) (.cons .z (.cons .z .nil)) ⟨_, _, rfl, f6z0⟩ fun z7p y7p => ?_
 obtain ⟨x4, hx4, hF⟩ := obind hF
 refine kcX EE_fr w2 (.cons .z .nil) rfl of (ops_t rfl os0) hb_53 (s_chain_New w2 x2.2 y7p hx4) ?_
 rintro _ _ h4 e4 w4 ⟨z4_y0, b4_w0, z4_w0, rfl, rfl, f4_0, f4_1⟩
 simp only [ca_, na_]
 refine gM rfl rfl (gr rfl (r_build (op1 (ot rfl) (op1 (ot rfl) (op1 (ot rfl) op0))) rfl) (gs_box rfl (ot rfl) rfl (fun b13_8 => gA rfl rfl (go_nil (gs_pack (fun s => Zbst_Tree h4 b2_w0 bp0 s x2.1 x4.2) (.cons (.s (.s (.s (.z)))) (.cons (.s (.s (.s (.z)))) (.cons (.s (.s (.s (.z)))) (.cons (.s (.z)) .nil)))) ⟨_, _, _, _, _, rfl, (f5z0.ext e4.kn), (f5z1.ext e4.kn), f4_0⟩ fun z9p y9p => (gs_pack (fun s => Zindex_Index h4 b13_8 b2_w0 bp0 b4_w0 s x2.1 x4.2 x4.1) (.cons (.s (.z)) (.cons .z (.cons .z .nil))) ⟨_, _, rfl, y9p, f4_1⟩ fun z10p y10p => ?_))))))
 obtain rfl := someI hF
 exact g_retO (rst rfl rs0) (.cons .z .nil) (e2.trans e4) w4 (nd1 y10p.nd nd0) ⟨_, _, _, _, rfl, rfl, y10p⟩
theorem s_ref19_Rises (n : Nat) {h : Heap} (hw : Wf h) (p0 : (List TEvent)) {a0_0 : Option Addr} {c0_0 : Nat} (f0_0 : RL R_TEvent h a0_0 c0_0 p0) {r : Bool} (hF : F_ref19_Rises n p0 = some r) :
 Ev EE 37 [.slice a0_0 p0.length c0_0] h (fun v _ => v = .bool r) := by
 unfold F_ref19_Rises at hF
 refine ev_of hw rfl at_37 rfl rfl (go_seg0 ?_)
 refine go_seq (go_region (gAc rfl rfl (go_nil (go_seq (go_seq (go_region (gAc rfl rfl (go_nil ?_))))))))
 obtain ⟨s2, hF, hK2⟩ := obind hF
 refine go_joinc (β := (Unit)) (fun s h' => s2 = .go s) (fun s => [(2, true, .bool false)]) (fun s => (List.flatten [] : List Blk)) ?_ (fun J2 => ?_)
 ·
  rintro _ h2 e2 w2 hs2
  subst hs2
  replace hF := lpgo hK2
  refine go_seq (go_region (gAc rfl rfl (go_nil ?_)))
  obtain rfl := someI hF
  exact g_ret (rst rfl rs0) (fun h1 hf hs => ⟨(e2.trans hs.hext), rfl⟩)
 ·
  refine go_block ?_
  refine go_loop (α := (List TEvent) × Nat × Heap) (fun a => a.1 = List.drop a.2.1 p0 ∧ HExt h a.2.2 ∧ Wf a.2.2 ∧ F_ref19_Rises_L1 n p0 a.1 a.2.1 = some s2) (fun a => a.1.length) (fun a => [(0, true, .slice a0_0 p0.length c0_0), (2, true, .bool false), (3, true, .int .i64 (a.2.1 : Int))]) (fun a => (List.flatten [] : List Blk)) (fun a => a.2.2) ?_ (p0, 0, h) ⟨rfl, HExt.refl _, hw, hF⟩ (Sub.cons (Sub.cons (Sub.cons (Sub.nil _) rfl) rfl) rfl) rfl rfl
  rintro ⟨r3, i3, h3⟩ ⟨hr3, e3, w3, hF⟩ ih3
  rcases r3 with _ | ⟨z3, r3⟩
  ·
   have hi3 := drop_nil hr3
   rw [F_ref19_Rises_L1.eq_1] at hF
   refine go_seq (go_seq (go_region (gM rfl rfl (gM rfl rfl (gr rfl (r_len rfl (os1 (ot rfl) os0) (fun _ _ => ln_22)) (gr rfl (r_bin (ot rfl) (ot rfl) rfl) (go_cast (.bool false) (congrArg Value.bool (decide_eq_false hi3)) (go_nil ?_))))))))
   refine g_cond (b := false) (ot rfl) (fun hc4 => ?_) (fun hc4 => ?_)
   ·
    cases hc4
   refine go_exit rfl ?_
   obtain rfl := someI hF
   exact Goes.weak (J2 () _ e3 w3 rfl) (Sub.cons (Sub.nil _) rfl)
  ·
   obtain ⟨hi3, hx3, hr3⟩ := drop_cons hr3
   have hb3 := (f0_0.ext e3.kn).1
   rw [F_ref19_Rises_L1.eq_2] at hF
   refine go_seq (go_seq (go_region (gM rfl rfl (gM rfl rfl (gr rfl (r_len rfl (os1 (ot rfl) os0) (fun _ _ => ln_22)) (gr rfl (r_bin (ot rfl) (ot rfl) rfl) (go_cast (.bool true) (congrArg Value.bool (decide_eq_true (Int.ofNat_lt.mpr hi3))) (go_nil ?_))))))))
   refine g_cond (b := true) (ot rfl) (fun hc5 => ?_) (fun hc5 => ?_)
   rotate_left
   ·
    cases hc5
   refine go_skip (go_seq (go_block (go_seq (go_seq (go_regionq (by kernel_rfl) (gM rfl rfl (gM rfl rfl ?_)))))))
   obtain ⟨q6, row6, i6, cl6, rc6, sp6⟩ := ix (ik := .i64) (cap := c0_0) (E := EE) (f0_0.ext e3.kn) ((getI_nat _ _).trans hx3) ut_22 sz_36 rfl
   obtain rfl := rc6
   refine gr rfl (r_ia (ot rfl) (ot rfl) i6) (gF (fs_36_0 sp6) rfl rfl (gr rfl (r_load (ot rfl) (v := .int .i64 z3.Rev) (lo_e (fun hf kn => ld_field (r := [.int .i64 z3.Rev, .string z3.Key, .string z3.Val, .bool z3.Del]) ag_3 (kn.cellsAt cl6) rfl))) (gr rfl (r_bin (ot rfl) (oc rfl) rfl) (gM rfl rfl ?_))))
   obtain ⟨s8, hF, hK8⟩ := obind hF
   refine go_joinr 17 (β := Unit) (fun s h' => True) (fun s => [(0, true, .slice a0_0 p0.length c0_0), (2, true, .bool false), (3, true, .int .i64 (i3 : Int)), (5, true, .int .i64 (i3 : Int)), (6, true, .slice a0_0 p0.length c0_0), (7, true, .int .i64 (p0.length : Int)), (8, true, .bool true), (11, true, .slice a0_0 p0.length c0_0), (12, true, .int .i64 (i3 : Int)), (13, true, .pointer (some q6)), (14, true, .pointer (some ⟨q6.block, q6.off + 0, q6.spot⟩)), (15, true, .int .i64 z3.Rev), (16, true, .bool (decide (z3.Rev < 1))), (17, true, .bool s8.1), (34, true, .bool s8.2)]) (fun s => (List.flatten [] : List Blk)) ?_ (fun J8 => ?_)
   ·
    rintro _ h8 e8 w8 _
    replace hF := hK8
    refine gM rfl rfl ?_
    obtain ⟨s10, hF, hK10⟩ := obind hF
    refine go_joinr 14 (β := Unit) (fun s h' => True) (fun s => [(0, true, .slice a0_0 p0.length c0_0), (2, true, .bool false), (3, true, .int .i64 (i3 : Int)), (5, true, .int .i64 (i3 : Int)), (6, true, .slice a0_0 p0.length c0_0), (7, true, .int .i64 (p0.length : Int)), (8, true, .bool true), (11, true, .slice a0_0 p0.length c0_0), (12, true, .int .i64 (i3 : Int)), (13, true, .pointer (some q6)), (14, true, .pointer (some ⟨q6.block, q6.off + 0, q6.spot⟩)), (15, true, .int .i64 z3.Rev), (16, true, .bool (decide (z3.Rev < 1))), (17, true, .bool s8.1), (34, true, .bool s8.2), (35, true, .bool s10.1), (49, true, .bool s10.2)]) (fun s => (List.flatten [] : List Blk)) ?_ (fun J10 => ?_)
    ·
     rintro _ h10 e10 w10 _
     replace hF := hK10
     refine go_nil ?_
     refine g_cond (b := s10.2) (ot rfl) (fun hc11 => ?_) (fun hc11 => ?_)
     ·
      replace hF := ifT hc11 hF
      refine go_seq (go_region (gAc rfl rfl (go_nil ?_)))
      obtain rfl := someI hF
      obtain rfl := someI hK2
      exact g_ret (rst rfl rs0) (fun h1 hf hs => ⟨(e3.trans (e8.trans (e10.trans hs.hext))), rfl⟩)
     ·
      replace hF := ifF hc11 hF
      refine go_skip (go_seq (go_region (gAc rfl rfl (go_nil ?_))))
      obtain ⟨s12, hF, hK12⟩ := obind hF
      refine go_joinc (β := (Int × Int × Bool)) (fun s h' => s12 = .go s) (fun s => [(0, true, .slice a0_0 p0.length c0_0), (2, true, .bool false), (3, true, .int .i64 (i3 : Int)), (4, true, .int .i64 s.1), (5, true, .int .i64 (i3 : Int)), (6, true, .slice a0_0 p0.length c0_0), (7, true, .int .i64 (p0.length : Int)), (8, true, .bool true), (11, true, .slice a0_0 p0.length c0_0), (12, true, .int .i64 (i3 : Int)), (13, true, .pointer (some q6)), (14, true, .pointer (some ⟨q6.block, q6.off + 0, q6.spot⟩)), (15, true, .int .i64 z3.Rev), (16, true, .bool (decide (z3.Rev < 1))), (17, true, .bool s8.1), (34, true, .bool s8.2), (35, true, .bool s10.1), (49, true, .bool s10.2), (50, true, .int .i64 s.2.1), (51, true, .int .i64 (i3 : Int)), (52, true, .bool s.2.2)]) (fun s => (List.flatten [] : List Blk)) ?_ (fun J12 => ?_)
      ·
       rintro ⟨x12_0, x12_1, x12_2⟩ h12 e12 w12 hs12
       subst hs12
       replace hF := lpgo2 hK12
       refine go_endb (go_region (gM rfl rfl (gr rfl (r_bin (ot rfl) (oc rfl) rfl) (gA rfl rfl (go_nil (go_re 3 (v2 := .int .i64 ((i3 + 1 : Nat) : Int)) rfl (wrap_succ hi3 hb3) ?_))))))
       exact Goes.weak (ih3 (r3, i3 + 1, h12) ⟨hr3, (e3.trans (e8.trans (e10.trans e12))), w12, hF⟩ (Nat.lt_succ_self _)) (Sub.cons (Sub.cons (Sub.cons (Sub.nil _) rfl) rfl) rfl)
      ·
       refine go_block ?_
       refine go_loop (α := Nat × Int × Heap) (fun a => HExt h10 a.2.2 ∧ Wf a.2.2 ∧ F_ref19_Rises_L2 p0 i3 z3 a.1 a.2.1 = some s12) (fun a => a.1) (fun a => [(0, true, .slice a0_0 p0.length c0_0), (2, true, .bool false), (3, true, .int .i64 (i3 : Int)), (4, true, .int .i64 a.2.1), (5, true, .int .i64 (i3 : Int)), (6, true, .slice a0_0 p0.length c0_0), (7, true, .int .i64 (p0.length : Int)), (8, true, .bool true), (11, true, .slice a0_0 p0.length c0_0), (12, true, .int .i64 (i3 : Int)), (13, true, .pointer (some q6)), (14, true, .pointer (some ⟨q6.block, q6.off + 0, q6.spot⟩)), (15, true, .int .i64 z3.Rev), (16, true, .bool (decide (z3.Rev < 1))), (17, true, .bool s8.1), (34, true, .bool s8.2), (35, true, .bool s10.1), (49, true, .bool s10.2)]) (fun a => (List.flatten [] : List Blk)) (fun a => a.2.2) ?_ (n, 0, h10) ⟨HExt.refl _, w10, hF⟩ (Sub8 (Sub8 (Sub.cons (Sub.cons (Sub.nil _) rfl) rfl) rfl rfl rfl rfl rfl rfl rfl rfl) rfl rfl rfl rfl rfl rfl rfl rfl) rfl rfl
       rintro ⟨m13, y13_0, h13⟩ ⟨e13, w13, hF⟩ ih13
       rcases m13 with _ | m13
       ·
        rw [F_ref19_Rises_L2.eq_1] at hF; cases hF
       ·
        rw [F_ref19_Rises_L2.eq_2] at hF
        refine go_seq (go_seq (go_region (gM rfl rfl (gM rfl rfl (gr rfl (r_bin (ot rfl) (ot rfl) rfl) (go_nil ?_))))))
        refine g_cond (b := (decide (y13_0 < (i3 : Int)))) (ot rfl) (fun hc14 => ?_) (fun hc14 => ?_)
        ·
         replace hF := ifT hc14 hF
         refine go_skip (go_seq (go_block (go_seq (go_regionq (by kernel_rfl) (gM rfl rfl (gM rfl rfl ?_))))))
         obtain ⟨x15, hx15, hF⟩ := obind hF
         obtain ⟨q15, row15, i15, cl15, rc15, sp15⟩ := ix (ik := .i64) (cap := c0_0) (E := EE) ((((f0_0.ext e3.kn).ext e8.kn).ext e10.kn).ext e13.kn) hx15 ut_22 sz_36 rfl
         obtain rfl := rc15
         refine gr rfl (r_ia (ot rfl) (ot rfl) i15) (gF (fs_36_0 sp15) rfl rfl (gr rfl (r_load (ot rfl) (v := .int .i64 x15.Rev) (lo_e (fun hf kn => ld_field (r := [.int .i64 x15.Rev, .string x15.Key, .string x15.Val, .bool x15.Del]) ag_3 (kn.cellsAt cl15) rfl))) (gM rfl rfl (gM rfl rfl ?_))))
         obtain ⟨q16, row16, i16, cl16, rc16, sp16⟩ := ix (ik := .i64) (cap := c0_0) (E := EE) ((((f0_0.ext e3.kn).ext e8.kn).ext e10.kn).ext e13.kn) ((getI_nat _ _).trans hx3) ut_22 sz_36 rfl
         obtain rfl := rc16
         refine gr rfl (r_ia (ot rfl) (ot rfl) i16) (gF (fs_36_0 sp16) rfl rfl (gr rfl (r_load (ot rfl) (v := .int .i64 z3.Rev) (lo_e (fun hf kn => ld_field (r := [.int .i64 z3.Rev, .string z3.Key, .string z3.Val, .bool z3.Del]) ag_3 (kn.cellsAt cl16) rfl))) (gr rfl (r_bin (ot rfl) (ot rfl) rfl) (gM rfl rfl ?_))))
         obtain ⟨s18, hF, hK18⟩ := obind hF
         refine go_joinr 12 (β := Unit) (fun s h' => True) (fun s => [(0, true, .slice a0_0 p0.length c0_0), (2, true, .bool false), (3, true, .int .i64 (i3 : Int)), (4, true, .int .i64 y13_0), (5, true, .int .i64 (i3 : Int)), (6, true, .slice a0_0 p0.length c0_0), (7, true, .int .i64 (p0.length : Int)), (8, true, .bool true), (11, true, .slice a0_0 p0.length c0_0), (12, true, .int .i64 (i3 : Int)), (13, true, .pointer (some q6)), (14, true, .pointer (some ⟨q6.block, q6.off + 0, q6.spot⟩)), (15, true, .int .i64 z3.Rev), (16, true, .bool (decide (z3.Rev < 1))), (17, true, .bool s8.1), (34, true, .bool s8.2), (35, true, .bool s10.1), (49, true, .bool s10.2), (50, true, .int .i64 y13_0), (51, true, .int .i64 (i3 : Int)), (52, true, .bool (decide (y13_0 < (i3 : Int)))), (55, true, .slice a0_0 p0.length c0_0), (56, true, .int .i64 y13_0), (57, true, .pointer (some q15)), (58, true, .pointer (some ⟨q15.block, q15.off + 0, q15.spot⟩)), (59, true, .int .i64 x15.Rev), (60, true, .slice a0_0 p0.length c0_0), (61, true, .int .i64 (i3 : Int)), (62, true, .pointer (some q16)), (63, true, .pointer (some ⟨q16.block, q16.off + 0, q16.spot⟩)), (64, true, .int .i64 z3.Rev), (65, true, .bool (x15.Rev == z3.Rev)), (66, true, .bool s18.1), (78, true, .bool s18.2)]) (fun s => (List.flatten [] : List Blk)) ?_ (fun J18 => ?_)
         ·
          rintro _ h18 e18 w18 _
          replace hF := hK18
          refine go_nil ?_
          refine g_cond (b := s18.2) (ot rfl) (fun hc19 => ?_) (fun hc19 => ?_)
          ·
           replace hF := ifT hc19 hF
           refine go_seq (go_region (gAc rfl rfl (go_nil ?_)))
           obtain rfl := someI hF
           obtain rfl := someI hK12
           obtain rfl := someI hK2
           exact g_ret (rst rfl rs0) (fun h1 hf hs => ⟨(e3.trans (e8.trans (e10.trans (e13.trans (e18.trans hs.hext))))), rfl⟩)
          ·
           replace hF := ifF hc19 hF
           refine go_skip (go_endb (go_region (gM rfl rfl (gr rfl (r_bin (ot rfl) (oc rfl) rfl) (gA rfl rfl (go_nil ?_))))))
           exact Goes.weak (ih13 (m13, (IntKind.i64.wrap (y13_0 + 1)), h18) ⟨(e13.trans e18), w18, hF⟩ (Nat.lt_succ_self _)) (Sub8 (Sub8 (Sub.cons (Sub.cons (Sub.nil _) rfl) rfl) rfl rfl rfl rfl rfl rfl rfl rfl) rfl rfl rfl rfl rfl rfl rfl rfl)
         ·
          rcases Bool.eq_false_or_eq_true (x15.Rev == z3.Rev) with hb17 | hb17
          ·
           replace hF := ifT hb17 hF
           refine go_re 66 (v2 := .bool true) rfl (congrArg Value.bool hb17) (g_do rfl rfl rfl (gM rfl rfl (g_do rfl rfl rfl (gM rfl rfl (g_do rfl rfl rfl ?_)))))
           obtain ⟨x20, hx20, hF⟩ := obind hF
           obtain ⟨q20, row20, i20, cl20, rc20, sp20⟩ := ix (ik := .i64) (cap := c0_0) (E := EE) ((((f0_0.ext e3.kn).ext e8.kn).ext e10.kn).ext e13.kn) hx20 ut_22 sz_36 rfl
           obtain rfl := rc20
           refine gr rfl (r_ia (ot rfl) (ot rfl) i20) (g_do rfl rfl rfl (gF (fs_36_1 sp20) rfl rfl (g_do rfl rfl rfl (gr rfl (r_load (ot rfl) (v := .string x20.Key) (lo_e (fun hf kn => ld_field (r := [.int .i64 x20.Rev, .string x20.Key, .string x20.Val, .bool x20.Del]) ag_9 (kn.cellsAt cl20) rfl))) (g_do rfl rfl rfl (gM rfl rfl (g_do rfl rfl rfl (gM rfl rfl (g_do rfl rfl rfl ?_)))))))))
           obtain ⟨q21, row21, i21, cl21, rc21, sp21⟩ := ix (ik := .i64) (cap := c0_0) (E := EE) ((((f0_0.ext e3.kn).ext e8.kn).ext e10.kn).ext e13.kn) ((getI_nat _ _).trans hx3) ut_22 sz_36 rfl
           obtain rfl := rc21
           refine gr rfl (r_ia (ot rfl) (ot rfl) i21) (g_do rfl rfl rfl (gF (fs_36_1 sp21) rfl rfl (g_do rfl rfl rfl (gr rfl (r_load (ot rfl) (v := .string z3.Key) (lo_e (fun hf kn => ld_field (r := [.int .i64 z3.Rev, .string z3.Key, .string z3.Val, .bool z3.Del]) ag_9 (kn.cellsAt cl21) rfl))) (g_do rfl rfl rfl (gr rfl (r_bin (ot rfl) (ot rfl) rfl) (gr rfl (r_pkT (ot rfl) (ot rfl)) ?_)))))))
           obtain rfl := someI hF
           exact Goes.weak (J18 () _ (HExt.refl _) w13 trivial) (Sub8 (Sub8 (Sub8 (Sub8 (Sub.cons (Sub.cons (Sub.nil _) rfl) rfl) rfl rfl rfl rfl rfl rfl rfl rfl) rfl rfl rfl rfl rfl rfl rfl rfl) rfl rfl rfl rfl rfl rfl rfl rfl) rfl rfl rfl rfl rfl rfl rfl rfl)
          ·
           replace hF := ifF hb17 hF
           refine go_re 66 (v2 := .bool false) rfl (congrArg Value.bool hb17) (g_no rfl rfl rfl rfl rfl (g_no rfl rfl rfl rfl rfl (g_no rfl rfl rfl rfl rfl (g_no rfl rfl rfl rfl rfl (g_no rfl rfl rfl rfl rfl (g_no rfl rfl rfl rfl rfl (g_no rfl rfl rfl rfl rfl (g_no rfl rfl rfl rfl rfl (g_no rfl rfl rfl rfl rfl (g_no rfl rfl rfl rfl rfl (g_no rfl rfl rfl rfl rfl (gr rfl (r_pkF (ot rfl) (oc rfl)) ?_))))))))))))
           obtain rfl := someI hF
           exact Goes.weak (J18 () _ (HExt.refl _) w13 trivial) (Sub8 (Sub8 (Sub8 (Sub8 (Sub.cons (Sub.cons (Sub.nil _) rfl) rfl) rfl rfl rfl rfl rfl rfl rfl rfl) rfl rfl rfl rfl rfl rfl rfl rfl) rfl rfl rfl rfl rfl rfl rfl rfl) rfl rfl rfl rfl rfl rfl rfl rfl)
        ·
         replace hF := ifF hc14 hF
         refine go_exit rfl ?_
         obtain rfl := someI hF
         exact Goes.weak (J12 (y13_0, y13_0, (decide (y13_0 < (i3 : Int)))) _ e13 w13 rfl) (Sub8 (Sub8 (Sub.cons (Sub.cons (Sub.cons (Sub.cons (Sub.cons (Sub.nil _) rfl) rfl) rfl) rfl) rfl) rfl rfl rfl rfl rfl rfl rfl rfl) rfl rfl rfl rfl rfl rfl rfl rfl)
    ·
     rcases Bool.eq_false_or_eq_true s8.2 with hb9 | hb9
     ·
      replace hF := ifT hb9 hF
      refine go_re 35 (v2 := .bool true) rfl (congrArg Value.bool hb9) (g_no rfl rfl rfl rfl rfl (g_no rfl rfl rfl rfl rfl (g_no rfl rfl rfl rfl rfl (g_no rfl rfl rfl rfl rfl (g_no rfl rfl rfl rfl rfl (g_no rfl rfl rfl rfl rfl (g_nu rfl rfl rfl rfl (g_nu rfl rfl rfl rfl (g_nu rfl rfl rfl rfl (g_nu rfl rfl rfl rfl (g_nu rfl rfl rfl rfl (g_nu rfl rfl rfl rfl (g_no rfl rfl rfl rfl rfl (gr rfl (r_pkT (ot rfl) (oc rfl)) ?_))))))))))))))
      obtain rfl := someI hF
      exact Goes.weak (J10 () _ (HExt.refl _) w8 trivial) (Sub8 (Sub8 (Sub.cons (Sub.nil _) rfl) rfl rfl rfl rfl rfl rfl rfl rfl) rfl rfl rfl rfl rfl rfl rfl rfl)
     ·
      replace hF := ifF hb9 hF
      refine go_re 35 (v2 := .bool false) rfl (congrArg Value.bool hb9) (g_do rfl rfl rfl (gM rfl rfl (g_do rfl rfl rfl (gM rfl rfl (g_do rfl rfl rfl ?_)))))
      obtain ⟨q22, row22, i22, cl22, rc22, sp22⟩ := ix (ik := .i64) (cap := c0_0) (E := EE) ((f0_0.ext e3.kn).ext e8.kn) ((getI_nat _ _).trans hx3) ut_22 sz_36 rfl
      obtain rfl := rc22
      refine gr rfl (r_ia (ot rfl) (ot rfl) i22) (g_do rfl rfl rfl (gF (fs_36_3 sp22) rfl rfl (g_do rfl rfl rfl (gr rfl (r_load (ot rfl) (v := .bool z3.Del) (lo_e (fun hf kn => ld_field (r := [.int .i64 z3.Rev, .string z3.Key, .string z3.Val, .bool z3.Del]) ag_4 (kn.cellsAt cl22) rfl))) (g_do rfl rfl rfl (gM rfl rfl ?_))))))
      obtain ⟨s24, hF, hK24⟩ := obind hF
      refine go_joinr 7 (β := Unit) (fun s h' => True) (fun s => [(0, true, .slice a0_0 p0.length c0_0), (2, true, .bool false), (3, true, .int .i64 (i3 : Int)), (5, true, .int .i64 (i3 : Int)), (6, true, .slice a0_0 p0.length c0_0), (7, true, .int .i64 (p0.length : Int)), (8, true, .bool true), (11, true, .slice a0_0 p0.length c0_0), (12, true, .int .i64 (i3 : Int)), (13, true, .pointer (some q6)), (14, true, .pointer (some ⟨q6.block, q6.off + 0, q6.spot⟩)), (15, true, .int .i64 z3.Rev), (16, true, .bool (decide (z3.Rev < 1))), (17, true, .bool s8.1), (34, true, .bool s8.2), (35, true, .bool false), (36, true, .slice a0_0 p0.length c0_0), (37, true, .int .i64 (i3 : Int)), (38, true, .pointer (some q22)), (39, true, .pointer (some ⟨q22.block, q22.off + 3, q22.spot⟩)), (40, true, .bool z3.Del), (41, true, .bool s24.1), (48, true, .bool s24.2)]) (fun s => (List.flatten [] : List Blk)) ?_ (fun J24 => ?_)
      ·
       rintro _ h24 e24 w24 _
       replace hF := hK24
       refine gr rfl (r_pkF (ot rfl) (ot rfl)) ?_
       obtain rfl := someI hF
       exact Goes.weak (J10 () _ e24 w24 trivial) (Sub8 (Sub8 (Sub.cons (Sub.nil _) rfl) rfl rfl rfl rfl rfl rfl rfl rfl) rfl rfl rfl rfl rfl rfl rfl rfl)
      ·
       rcases Bool.eq_false_or_eq_true z3.Del with hb23 | hb23
       ·
        replace hF := ifT hb23 hF
        refine go_re 41 (v2 := .bool true) rfl (congrArg Value.bool hb23) (g_do rfl rfl rfl (gM rfl rfl (g_do rfl rfl rfl (gM rfl rfl (g_do rfl rfl rfl ?_)))))
        obtain ⟨q25, row25, i25, cl25, rc25, sp25⟩ := ix (ik := .i64) (cap := c0_0) (E := EE) ((f0_0.ext e3.kn).ext e8.kn) ((getI_nat _ _).trans hx3) ut_22 sz_36 rfl
        obtain rfl := rc25
        refine gr rfl (r_ia (ot rfl) (ot rfl) i25) (g_do rfl rfl rfl (gF (fs_36_2 sp25) rfl rfl (g_do rfl rfl rfl (gr rfl (r_load (ot rfl) (v := .string z3.Val) (lo_e (fun hf kn => ld_field (r := [.int .i64 z3.Rev, .string z3.Key, .string z3.Val, .bool z3.Del]) ag_9 (kn.cellsAt cl25) rfl))) (g_do rfl rfl rfl (gr rfl (r_bin (ot rfl) (oc rfl) rfl) (g_do rfl rfl rfl (gr rfl (r_pkT (ot rfl) (ot rfl)) ?_))))))))
        obtain rfl := someI hF
        exact Goes.weak (J24 () _ (HExt.refl _) w8 trivial) (Sub8 (Sub8 (Sub.cons (Sub.cons (Sub.cons (Sub.cons (Sub.cons (Sub.cons (Sub.cons (Sub.nil _) rfl) rfl) rfl) rfl) rfl) rfl) rfl) rfl rfl rfl rfl rfl rfl rfl rfl) rfl rfl rfl rfl rfl rfl rfl rfl)
       ·
        replace hF := ifF hb23 hF
        refine go_re 41 (v2 := .bool false) rfl (congrArg Value.bool hb23) (g_no rfl rfl rfl rfl rfl (g_no rfl rfl rfl rfl rfl (g_no rfl rfl rfl rfl rfl (g_no rfl rfl rfl rfl rfl (g_no rfl rfl rfl rfl rfl (g_no rfl rfl rfl rfl rfl (g_do rfl rfl rfl (gr rfl (r_pkF (ot rfl) (oc rfl)) ?_))))))))
        obtain rfl := someI hF
        exact Goes.weak (J24 () _ (HExt.refl _) w8 trivial) (Sub8 (Sub8 (Sub.cons (Sub.cons (Sub.cons (Sub.cons (Sub.cons (Sub.cons (Sub.cons (Sub.nil _) rfl) rfl) rfl) rfl) rfl) rfl) rfl) rfl rfl rfl rfl rfl rfl rfl rfl) rfl rfl rfl rfl rfl rfl rfl rfl)
   ·
    rcases Bool.eq_false_or_eq_true (decide (z3.Rev < 1)) with hb7 | hb7
    ·
     replace hF := ifT hb7 hF
     refine go_re 17 (v2 := .bool true) rfl (congrArg Value.bool hb7) (g_no rfl rfl rfl rfl rfl (g_no rfl rfl rfl rfl rfl (g_no rfl rfl rfl rfl rfl (g_nu rfl rfl rfl rfl (g_nu rfl rfl rfl rfl (g_nu rfl rfl rfl rfl (g_nu rfl rfl rfl rfl (g_nu rfl rfl rfl rfl (g_nu rfl rfl rfl rfl (g_nu rfl rfl rfl rfl (g_nu rfl rfl rfl rfl (g_nu rfl rfl rfl rfl (g_nu rfl rfl rfl rfl (g_nu rfl rfl rfl rfl (g_nu rfl rfl rfl rfl (g_no rfl rfl rfl rfl rfl (gr rfl (r_pkT (ot rfl) (oc rfl)) ?_)))))))))))))))))
     obtain rfl := someI hF
     exact Goes.weak (J8 () _ (HExt.refl _) w3 trivial) (Sub8 (Sub.cons (Sub.cons (Sub.cons (Sub.cons (Sub.cons (Sub.cons (Sub.cons (Sub.nil _) rfl) rfl) rfl) rfl) rfl) rfl) rfl) rfl rfl rfl rfl rfl rfl rfl rfl)
    ·
     replace hF := ifF hb7 hF
     refine go_re 17 (v2 := .bool false) rfl (congrArg Value.bool hb7) (g_do rfl rfl rfl (gM rfl rfl (g_do rfl rfl rfl (gr rfl (r_bin (ot rfl) (oc rfl) rfl) (g_do rfl rfl rfl (gM rfl rfl ?_))))))
     obtain ⟨s27, hF, hK27⟩ := obind hF
     refine go_joinr 13 (β := Unit) (fun s h' => True) (fun s => [(0, true, .slice a0_0 p0.length c0_0), (2, true, .bool false), (3, true, .int .i64 (i3 : Int)), (5, true, .int .i64 (i3 : Int)), (6, true, .slice a0_0 p0.length c0_0), (7, true, .int .i64 (p0.length : Int)), (8, true, .bool true), (11, true, .slice a0_0 p0.length c0_0), (12, true, .int .i64 (i3 : Int)), (13, true, .pointer (some q6)), (14, true, .pointer (some ⟨q6.block, q6.off + 0, q6.spot⟩)), (15, true, .int .i64 z3.Rev), (16, true, .bool (decide (z3.Rev < 1))), (17, true, .bool false), (18, true, .int .i64 (i3 : Int)), (19, true, .bool (decide ((i3 : Int) > 0))), (20, true, .bool s27.1), (33, true, .bool s27.2)]) (fun s => (List.flatten [] : List Blk)) ?_ (fun J27 => ?_)
     ·
      rintro _ h27 e27 w27 _
      replace hF := hK27
      refine gr rfl (r_pkF (ot rfl) (ot rfl)) ?_
      obtain rfl := someI hF
      exact Goes.weak (J8 () _ e27 w27 trivial) (Sub8 (Sub.cons (Sub.cons (Sub.cons (Sub.cons (Sub.cons (Sub.cons (Sub.cons (Sub.nil _) rfl) rfl) rfl) rfl) rfl) rfl) rfl) rfl rfl rfl rfl rfl rfl rfl rfl)
     ·
      rcases Bool.eq_false_or_eq_true (decide ((i3 : Int) > 0)) with hb26 | hb26
      ·
       replace hF := ifT hb26 hF
       refine go_re 20 (v2 := .bool true) rfl (congrArg Value.bool hb26) (g_do rfl rfl rfl (gM rfl rfl (g_do rfl rfl rfl (gM rfl rfl (g_do rfl rfl rfl ?_)))))
       obtain ⟨q28, row28, i28, cl28, rc28, sp28⟩ := ix (ik := .i64) (cap := c0_0) (E := EE) (f0_0.ext e3.kn) ((getI_nat _ _).trans hx3) ut_22 sz_36 rfl
       obtain rfl := rc28
       refine gr rfl (r_ia (ot rfl) (ot rfl) i28) (g_do rfl rfl rfl (gF (fs_36_0 sp28) rfl rfl (g_do rfl rfl rfl (gr rfl (r_load (ot rfl) (v := .int .i64 z3.Rev) (lo_e (fun hf kn => ld_field (r := [.int .i64 z3.Rev, .string z3.Key, .string z3.Val, .bool z3.Del]) ag_3 (kn.cellsAt cl28) rfl))) (g_do rfl rfl rfl (gM rfl rfl (g_do rfl rfl rfl (gM rfl rfl (g_do rfl rfl rfl (gr rfl (r_bin (ot rfl) (oc rfl) rfl) (g_do rfl rfl rfl ?_)))))))))))
       obtain ⟨x29, hx29, hF⟩ := obind hF
       obtain ⟨q29, row29, i29, cl29, rc29, sp29⟩ := ix (ik := .i64) (cap := c0_0) (E := EE) (f0_0.ext e3.kn) hx29 ut_22 sz_36 rfl
       obtain rfl := rc29
       refine gr rfl (r_ia (ot rfl) (ot rfl) i29) (g_do rfl rfl rfl (gF (fs_36_0 sp29) rfl rfl (g_do rfl rfl rfl (gr rfl (r_load (ot rfl) (v := .int .i64 x29.Rev) (lo_e (fun hf kn => ld_field (r := [.int .i64 x29.Rev, .string x29.Key, .string x29.Val, .bool x29.Del]) ag_3 (kn.cellsAt cl29) rfl))) (g_do rfl rfl rfl (gr rfl (r_bin (ot rfl) (ot rfl) rfl) (g_do rfl rfl rfl (gr rfl (r_pkT (ot rfl) (ot rfl)) ?_))))))))
       obtain rfl := someI hF
       exact Goes.weak (J27 () _ (HExt.refl _) w3 trivial) (Sub8 (Sub8 (Sub.cons (Sub.cons (Sub.nil _) rfl) rfl) rfl rfl rfl rfl rfl rfl rfl rfl) rfl rfl rfl rfl rfl rfl rfl rfl)
      ·
       replace hF := ifF hb26 hF
       refine go_re 20 (v2 := .bool false) rfl (congrArg Value.bool hb26) (g_no rfl rfl rfl rfl rfl (g_no rfl rfl rfl rfl rfl (g_no rfl rfl rfl rfl rfl (g_no rfl rfl rfl rfl rfl (g_no rfl rfl rfl rfl rfl (g_no rfl rfl rfl rfl rfl (g_no rfl rfl rfl rfl rfl (g_no rfl rfl rfl rfl rfl (g_no rfl rfl rfl rfl rfl (g_no rfl rfl rfl rfl rfl (g_no rfl rfl rfl rfl rfl (g_no rfl rfl rfl rfl rfl (g_do rfl rfl rfl (gr rfl (r_pkF (ot rfl) (oc rfl)) ?_))))))))))))))
       obtain rfl := someI hF
       exact Goes.weak (J27 () _ (HExt.refl _) w3 trivial) (Sub8 (Sub8 (Sub.cons (Sub.cons (Sub.nil _) rfl) rfl) rfl rfl rfl rfl rfl rfl rfl rfl) rfl rfl rfl rfl rfl rfl rfl rfl)
theorem s_law19_few (n : Nat) {h : Heap} (hw : Wf h) (p0 : (List TEvent)) {a0_0 : Option Addr} {c0_0 : Nat} (f0_0 : RL R_TEvent h a0_0 c0_0 p0) {r : Bool} (hF : F_law19_few n p0 = some r) :
 Ev EE 10 [.slice a0_0 p0.length c0_0] h (fun v _ => v = .bool r) := by
 unfold F_law19_few at hF
 refine ev_of hw rfl at_10 rfl rfl (go_seg0 ?_)
 refine go_seq (go_region (gAc rfl rfl (go_nil (go_seq (go_region (gM rfl rfl (gr rfl (r_len rfl (os1 (ot rfl) os0) (fun _ _ => ln_22)) (gr rfl (r_bin (ot rfl) (oc rfl) rfl) (gM rfl rfl ?_)))))))))
 obtain ⟨s3, hF, hK3⟩ := obind hF
 refine go_joinr 3 (β := Unit) (fun s h' => True) (fun s => [(2, true, .bool false), (9, true, .bool s3)]) (fun s => (List.flatten [] : List Blk)) ?_ (fun J3 => ?_)
 ·
  rintro _ h3 e3 w3 _
  replace hF := hK3
  refine gA rfl rfl (go_nil ?_)
  obtain rfl := someI hF
  exact g_ret (rst rfl rs0) (fun h1 hf hs => ⟨(e3.trans hs.hext), rfl⟩)
 ·
  rcases Bool.eq_false_or_eq_true (decide ((p0.length : Int) ≤ 40)) with hb2 | hb2
  ·
   replace hF := ifT hb2 hF
   refine go_re 6 (v2 := .bool true) rfl (congrArg Value.bool hb2) (g_do rfl rfl rfl (gM rfl rfl (g_do rfl rfl rfl ?_)))
   obtain ⟨x4, hx4, hF⟩ := obind hF
   refine g_callp (v := .bool x4) EE_fr rfl of (os1 (ot rfl) os0) hb_37 (fun _ => rfl) (fun hf kn w => by exact s_ref19_Rises n w p0 (f0_0.ext kn) hx4) (gr rfl (r_pkT (ot rfl) (ot rfl)) ?_)
   obtain rfl := someI hF
   exact Goes.weak (J3 () _ (HExt.refl _) hw trivial) (Sub.cons (Sub.cons (Sub.nil _) rfl) rfl)
  ·
   replace hF := ifF hb2 hF
   refine go_re 6 (v2 := .bool false) rfl (congrArg Value.bool hb2) (g_no rfl rfl rfl rfl rfl (g_no rfl rfl rfl rfl rfl (gr rfl (r_pkF (ot rfl) (oc rfl)) ?_)))
   obtain rfl := someI hF
   exact Goes.weak (J3 () _ (HExt.refl _) hw trivial) (Sub.cons (Sub.cons (Sub.nil _) rfl) rfl)
theorem s_ref05_One (n : Nat) {h : Heap} (hw : Wf h) (p0 : (List TKV)) (p1 : TEvent) {a0_0 : Option Addr} {c0_0 : Nat} (f0_0 : RL R_TKV h a0_0 c0_0 p0) {r : (List TKV)} (hF : F_ref05_One n p0 p1 = some r) :
 Ev EE 38 [.slice a0_0 p0.length c0_0, .agg #[.int .i64 p1.Rev, .string p1.Key, .string p1.Val, .bool p1.Del]] h (fun v h1 => ∃ a0 c0, v = .slice a0 r.length c0 ∧ RL R_TKV h1 a0 c0 r) := by
 unfold F_ref05_One at hF
 refine ev_of hw rfl at_38 rfl rfl (go_seg0 ?_)
 refine go_seq (go_region (gs_box rfl (ot rfl) rfl (fun b3_3 => gAc rfl rfl (go_nil (go_seq (go_region (gAc rfl rfl (go_nil (go_seq (go_region (gAc rfl rfl (go_nil (go_seq ?_)))))))))))))
 obtain ⟨s4, hF, hK4⟩ := obind hF
 refine go_joinc (β := Option Addr × List Blk) (fun s h' => AccR R_TKV 56 h' s.2 (.slice s.1 s4.1.length s4.1.length) s4.1) (fun s => [(0, true, .slice a0_0 p0.length c0_0), (3, true, pt b3_3), (4, true, .slice none 0 0), (5, true, .slice s.1 s4.1.length s4.1.length), (6, true, .int .i64 s4.2)]) (fun s => (List.flatten [s.2, [⟨b3_3, .cells [.int .i64 p1.Rev, .string p1.Key, .string p1.Val, .bool p1.Del] 36⟩]] : List Blk)) ?_ (fun J4 => ?_)
 ·
  rintro ⟨a4_0, a4_1⟩ h4 e4 w4 f4_0
  replace hF := hK4
  refine go_seq (go_seq (go_region (gF (fa_36_3 _ _) rfl rfl (gls 1 ag_4 rfl rfl rfl rfl (gr rfl (r_un (ot rfl) rfl) (go_nil ?_))))))
  obtain ⟨s6, hF, hK6⟩ := obind hF
  refine go_joinc (β := Option Addr × List Blk) (fun s h' => AccR R_TKV 56 h' s.2 (.slice s.1 s6.length s6.length) s6) (fun s => [(0, true, .slice a0_0 p0.length c0_0), (3, true, pt b3_3), (4, true, .slice none 0 0), (5, true, .slice s.1 s6.length s6.length), (6, true, .int .i64 s4.2)]) (fun s => (List.flatten [s.2, [⟨b3_3, .cells [.int .i64 p1.Rev, .string p1.Key, .string p1.Val, .bool p1.Del] 36⟩]] : List Blk)) ?_ (fun J6 => ?_)
  ·
   rintro ⟨a6_0, a6_1⟩ h6 e6 w6 f6_0
   replace hF := hK6
   refine go_seq (go_seq (go_region (gM rfl rfl (gA rfl rfl (go_nil ?_)))))
   obtain ⟨s7, hF, hK7⟩ := obind hF
   refine go_joinc (β := Option Addr × List Blk) (fun s h' => AccR R_TKV 56 h' s.2 (.slice s.1 s7.length s7.length) s7) (fun s => [(4, true, .slice none 0 0), (5, true, .slice s.1 s7.length s7.length)]) (fun s => (List.flatten [s.2, [⟨b3_3, .cells [.int .i64 p1.Rev, .string p1.Key, .string p1.Val, .bool p1.Del] 36⟩]] : List Blk)) ?_ (fun J7 => ?_)
   ·
    rintro ⟨a7_0, a7_1⟩ h7 e7 w7 f7_0
    replace hF := hK7
    refine go_seq (go_region (gM rfl rfl (gA rfl rfl (go_nil ?_))))
    refine gs_accpub .z f7_0 (fun h8 e8 w8 f8_ => ?_) rfl
    obtain rfl := someI hF
    exact g_ret (rst rfl rs0) (fun h1 hf hs => ⟨(e4.trans (e6.trans (e7.trans (e8.trans hs.hext)))), ⟨_, _, rfl, (f8_.ext hs.hext.kn)⟩⟩)
   ·
    refine go_block ?_
    refine go_loop (α := Nat × (List TKV) × Int × Option Addr × List Blk × Heap) (fun a => HExt h6 a.2.2.2.2.2 ∧ Wf a.2.2.2.2.2 ∧ F_ref05_One_L1 p0 p1 a.1 a.2.1 a.2.2.1 = some s7 ∧ AccR R_TKV 56 a.2.2.2.2.2 a.2.2.2.2.1 (.slice a.2.2.2.1 a.2.1.length a.2.1.length) a.2.1) (fun a => a.1) (fun a => [(0, true, .slice a0_0 p0.length c0_0), (3, true, pt b3_3), (4, true, .slice none 0 0), (5, true, .slice a.2.2.2.1 a.2.1.length a.2.1.length), (7, true, .int .i64 a.2.2.1)]) (fun a => (List.flatten [a.2.2.2.2.1, [⟨b3_3, .cells [.int .i64 p1.Rev, .string p1.Key, .string p1.Val, .bool p1.Del] 36⟩]] : List Blk)) (fun a => a.2.2.2.2.2) ?_ (n, s6, s4.2, a6_0, a6_1, h6) ⟨HExt.refl _, w6, hF, f6_0⟩ (Sub.cons (Sub.cons (Sub.cons (Sub.cons (Sub.cons (Sub.nil _) rfl) rfl) rfl) rfl) rfl) rfl rfl
    rintro ⟨m9, y9_0, y9_1, a9_0, a9_1, h9⟩ ⟨e9, w9, hF, f9_0⟩ ih9
    rcases m9 with _ | m9
    ·
     rw [F_ref05_One_L1.eq_1] at hF; cases hF
    ·
     rw [F_ref05_One_L1.eq_2] at hF
     refine go_seq (go_seq (go_region (gM rfl rfl (gM rfl rfl (gr rfl (r_len rfl (os1 (ot rfl) os0) (fun _ _ => ln_29)) (gr rfl (r_bin (ot rfl) (ot rfl) rfl) (go_nil ?_)))))))
     refine g_cond (b := (decide (y9_1 < (p0.length : Int)))) (ot rfl) (fun hc10 => ?_) (fun hc10 => ?_)
     ·
      replace hF := ifT hc10 hF
      refine go_skip (go_seq (go_block (go_seq (go_regionq (by kernel_rfl) (gM rfl rfl (gM rfl rfl ?_))))))
      obtain ⟨x11, hx11, hF⟩ := obind hF
      obtain ⟨q11, row11, i11, cl11, rc11, sp11⟩ := ix (ik := .i64) (cap := c0_0) (E := EE) (((f0_0.ext e4.kn).ext e6.kn).ext e9.kn) hx11 ut_29 sz_56 rfl
      obtain rfl := rc11
      refine gr rfl (r_ia (ot rfl) (ot rfl) i11) (gF (fs_56_0 sp11) rfl rfl (gr rfl (r_load (ot rfl) (v := .string x11.Key) (lo_e (fun hf kn => ld_field (r := [.string x11.Key, .string x11.Val, .int .i64 x11.Rev]) ag_9 (kn.cellsAt cl11) rfl))) (gF (fa_36_1 _ _) rfl rfl (gls 1 ag_9 rfl rfl rfl rfl (gr rfl (r_bin (ot rfl) (ot rfl) rfl) (go_nil ?_))))))
      obtain ⟨s13, hF, hK13⟩ := obind hF
      refine go_joinc (β := Option Addr × List Blk) (fun s h' => AccR R_TKV 56 h' s.2 (.slice s.1 s13.length s13.length) s13) (fun s => [(0, true, .slice a0_0 p0.length c0_0), (3, true, pt b3_3), (4, true, .slice none 0 0), (5, true, .slice s.1 s13.length s13.length), (7, true, .int .i64 y9_1), (45, true, .int .i64 y9_1), (46, true, .slice a0_0 p0.length c0_0), (47, true, .int .i64 (p0.length : Int)), (48, true, .bool (decide (y9_1 < (p0.length : Int)))), (51, true, .slice a0_0 p0.length c0_0), (52, true, .int .i64 y9_1), (53, true, .pointer (some q11)), (54, true, .pointer (some ⟨q11.block, q11.off + 0, q11.spot⟩)), (55, true, .string x11.Key), (56, true, .pointer (some ⟨b3_3, 1, none⟩)), (57, true, .string p1.Key), (58, true, .bool (!eqB x11.Key p1.Key))]) (fun s => (List.flatten [s.2, [⟨b3_3, .cells [.int .i64 p1.Rev, .string p1.Key, .string p1.Val, .bool p1.Del] 36⟩]] : List Blk)) ?_ (fun J13 => ?_)
      ·
       rintro ⟨a13_0, a13_1⟩ h13 e13 w13 f13_0
       replace hF := hK13
       refine go_endb (go_region (gM rfl rfl (gr rfl (r_bin (ot rfl) (oc rfl) rfl) (gA rfl rfl (go_nil ?_)))))
       exact Goes.weak (ih9 (m9, s13, (IntKind.i64.wrap (y9_1 + 1)), a13_0, a13_1, h13) ⟨(e9.trans e13), w13, hF, f13_0⟩ (Nat.lt_succ_self _)) (Sub.cons (Sub.cons (Sub.cons (Sub.cons (Sub.cons (Sub.nil _) rfl) rfl) rfl) rfl) rfl)
      ·
       refine g_cond (b := (!eqB x11.Key p1.Key)) (ot rfl) (fun hc12 => ?_) (fun hc12 => ?_)
       ·
        replace hF := ifT hc12 hF
        refine go_region (gM rfl rfl (gM rfl rfl (gM rfl rfl ?_)))
        obtain ⟨x14, hx14, hF⟩ := obind hF
        obtain ⟨q14, row14, i14, cl14, rc14, sp14⟩ := ix (ik := .i64) (cap := c0_0) (E := EE) (((f0_0.ext e4.kn).ext e6.kn).ext e9.kn) hx14 ut_29 sz_56 rfl
        obtain rfl := rc14
        refine gr rfl (r_ia (ot rfl) (ot rfl) i14) (gr rfl (r_load (ot rfl) (v := .agg #[.string x14.Key, .string x14.Val, .int .i64 x14.Rev]) (lo_e (fun hf kn => ld_of (r := [.string x14.Key, .string x14.Val, .int .i64 x14.Rev]) ag_56 sz_56 (kn.cellsAt cl14)))) (gs_bslice (cs := [.string x14.Key, .string x14.Val, .int .i64 x14.Rev]) rfl (op1 (ot rfl) op0) ut_29 sz_56 zo_56 rfl rfl (fun b64_15 => ?_)))
        obtain ⟨x16, hx16, hF⟩ := obind hF
        obtain ⟨hr16, hz16_⟩ := appL_some hx16; subst x16
        refine gs_front (.s (.z)) (gs_app (rows2 := [[.string x14.Key, .string x14.Val, .int .i64 x14.Rev]]) (R := R_TKV) rfl (os1 (ot rfl) (os1 (ot rfl) os0)) rfl ut_29 sz_56 rfl (by decide) by_56 zo_56 rfl zs_29_29 rfl rfl (first_m (mem_seg 1 rfl) rfl (by decide)) (Rws.one (x := x14) rfl) f9_0 hr16 (fun p16_ tl16 f16_ => gA rfl rfl (go_nil ?_)))
        obtain rfl := someI hF
        refine gs_sub (.cons_cons _ (.cons _ (.cons_cons _ (.refl _)))) ?_
        exact Goes.weak (J13 (p16_, tl16) _ (HExt.refl _) w9 f16_) (Sub8 (Sub8 (Sub.cons (Sub.nil _) rfl) rfl rfl rfl rfl rfl rfl rfl rfl) rfl rfl rfl rfl rfl rfl rfl rfl)
       ·
        replace hF := ifF hc12 hF
        refine go_skip ?_
        obtain rfl := someI hF
        exact Goes.weak (J13 (a9_0, a9_1) _ (HExt.refl _) w9 f9_0) (Sub8 (Sub8 (Sub.cons (Sub.nil _) rfl) rfl rfl rfl rfl rfl rfl rfl rfl) rfl rfl rfl rfl rfl rfl rfl rfl)
     ·
      replace hF := ifF hc10 hF
      refine go_exit rfl ?_
      obtain rfl := someI hF
      exact Goes.weak (J7 (a9_0, a9_1) _ e9 w9 f9_0) (Sub.cons (Sub.cons (Sub.nil _) rfl) rfl)
  ·
   refine g_cond (b := (!p1.Del)) (ot rfl) (fun hc5 => ?_) (fun hc5 => ?_)
   ·
    replace hF := ifT hc5 hF
    refine go_region (gM rfl rfl (gF (fa_36_1 _ _) rfl rfl (gls 1 ag_9 rfl rfl rfl rfl (gF (fa_36_2 _ _) rfl rfl (gls 1 ag_9 rfl rfl rfl rfl (gF (fa_36_0 _ _) rfl rfl (gls 1 ag_3 rfl rfl rfl rfl (gr rfl (r_build (op1 (ot rfl) (op1 (ot rfl) (op1 (ot rfl) op0))) rfl) (gs_bslice (cs := [.string p1.Key, .string p1.Val, .int .i64 p1.Rev]) rfl (op1 (ot rfl) op0) ut_29 sz_56 zo_56 rfl rfl (fun b42_17 => ?_))))))))))
    obtain ⟨x18, hx18, hF⟩ := obind hF
    obtain ⟨hr18, hz18_⟩ := appL_some hx18; subst x18
    refine gs_front (.s (.z)) (gs_app (rows2 := [[.string p1.Key, .string p1.Val, .int .i64 p1.Rev]]) (R := R_TKV) rfl (os1 (ot rfl) (os1 (ot rfl) os0)) rfl ut_29 sz_56 rfl (by decide) by_56 zo_56 rfl zs_29_29 rfl rfl (first_m (mem_seg 1 rfl) rfl (by decide)) (Rws.one (x := (⟨p1.Key, p1.Val, p1.Rev⟩ : TKV)) rfl) f4_0 hr18 (fun p18_ tl18 f18_ => gA rfl rfl (go_nil ?_)))
    obtain rfl := someI hF
    refine gs_sub (.cons_cons _ (.cons _ (.cons_cons _ (.refl _)))) ?_
    exact Goes.weak (J6 (p18_, tl18) _ (HExt.refl _) w4 f18_) (Sub.cons (Sub.cons (Sub.cons (Sub.cons (Sub.cons (Sub.nil _) rfl) rfl) rfl) rfl) rfl)
   ·
    replace hF := ifF hc5 hF
    refine go_skip ?_
    obtain rfl := someI hF
    exact Goes.weak (J6 (a4_0, a4_1) _ (HExt.refl _) w4 f4_0) (Sub.cons (Sub.cons (Sub.cons (Sub.cons (Sub.cons (Sub.nil _) rfl) rfl) rfl) rfl) rfl)
 ·
  refine go_block ?_
  refine go_loop (α := (List TKV) × Nat × (List TKV) × Option Addr × List Blk × Heap) (fun a => a.1 = List.drop a.2.1 p0 ∧ HExt h a.2.2.2.2.2 ∧ Wf a.2.2.2.2.2 ∧ F_ref05_One_L2 p1 a.1 a.2.1 a.2.2.1 = some s4 ∧ AccR R_TKV 56 a.2.2.2.2.2 a.2.2.2.2.1 (.slice a.2.2.2.1 a.2.2.1.length a.2.2.1.length) a.2.2.1) (fun a => a.1.length) (fun a => [(0, true, .slice a0_0 p0.length c0_0), (3, true, pt b3_3), (4, true, .slice none 0 0), (5, true, .slice a.2.2.2.1 a.2.2.1.length a.2.2.1.length), (6, true, .int .i64 (a.2.1 : Int))]) (fun a => (List.flatten [a.2.2.2.2.1, [⟨b3_3, .cells [.int .i64 p1.Rev, .string p1.Key, .string p1.Val, .bool p1.Del] 36⟩]] : List Blk)) (fun a => a.2.2.2.2.2) ?_ (p0, 0, ([] : List TKV), none, [], h) ⟨rfl, HExt.refl _, hw, hF, (AccR.nil _ _ _)⟩ (Sub.cons (Sub.cons (Sub.cons (Sub.cons (Sub.cons (Sub.nil _) rfl) rfl) rfl) rfl) rfl) rfl rfl
  rintro ⟨r19, i19, y19_0, a19_0, a19_1, h19⟩ ⟨hr19, e19, w19, hF, f19_0⟩ ih19
  rcases r19 with _ | ⟨z19, r19⟩
  ·
   have hi19 := drop_nil hr19
   rw [F_ref05_One_L2.eq_1] at hF
   refine go_seq (go_seq (go_regionq (by kernel_rfl) (gM rfl rfl (gM rfl rfl (gr rfl (r_len rfl (os1 (ot rfl) os0) (fun _ _ => ln_29)) (gr rfl (r_bin (ot rfl) (ot rfl) rfl) (go_cast (.bool false) (congrArg Value.bool (decide_eq_false hi19)) (gM rfl rfl (g_no rfl rfl rfl rfl rfl (g_no rfl rfl rfl rfl rfl (g_no rfl rfl rfl rfl rfl (g_no rfl rfl rfl rfl rfl (g_no rfl rfl rfl rfl rfl (g_no rfl rfl rfl rfl rfl (g_no rfl rfl rfl rfl rfl (g_no rfl rfl rfl rfl rfl (gr rfl (r_pkF (ot rfl) (oc rfl)) (go_nil ?_))))))))))))))))))
   refine g_cond (b := false) (ot rfl) (fun hc20 => ?_) (fun hc20 => ?_)
   ·
    cases hc20
   refine go_exit rfl ?_
   obtain rfl := someI hF
   exact Goes.weak (J4 (a19_0, a19_1) _ e19 w19 f19_0) (Sub.cons (Sub.cons (Sub.cons (Sub.cons (Sub.cons (Sub.nil _) rfl) rfl) rfl) rfl) rfl)
  ·
   obtain ⟨hi19, hx19, hr19⟩ := drop_cons hr19
   have hb19 := (f0_0.ext e19.kn).1
   rw [F_ref05_One_L2.eq_2] at hF
   refine go_seq (go_seq (go_regionq (by kernel_rfl) (gM rfl rfl (gM rfl rfl (gr rfl (r_len rfl (os1 (ot rfl) os0) (fun _ _ => ln_29)) (gr rfl (r_bin (ot rfl) (ot rfl) rfl) (go_cast (.bool true) (congrArg Value.bool (decide_eq_true (Int.ofNat_lt.mpr hi19))) (gM rfl rfl (g_do rfl rfl rfl (gM rfl rfl (g_do rfl rfl rfl (gM rfl rfl (g_do rfl rfl rfl ?_)))))))))))))
   obtain ⟨q21, row21, i21, cl21, rc21, sp21⟩ := ix (ik := .i64) (cap := c0_0) (E := EE) (f0_0.ext e19.kn) ((getI_nat _ _).trans hx19) ut_29 sz_56 rfl
   obtain rfl := rc21
   refine gr rfl (r_ia (ot rfl) (ot rfl) i21) (g_do rfl rfl rfl (gF (fs_56_0 sp21) rfl rfl (g_do rfl rfl rfl (gr rfl (r_load (ot rfl) (v := .string z19.Key) (lo_e (fun hf kn => ld_field (r := [.string z19.Key, .string z19.Val, .int .i64 z19.Rev]) ag_9 (kn.cellsAt cl21) rfl))) (g_do rfl rfl rfl (gF (fa_36_1 _ _) rfl rfl (g_do rfl rfl rfl (gls 1 ag_9 rfl rfl rfl rfl (g_do rfl rfl rfl (gr rfl (r_bin (ot rfl) (ot rfl) rfl) (gr rfl (r_pkT (ot rfl) (ot rfl)) (go_nil ?_))))))))))))
   refine g_cond (b := (lessB z19.Key p1.Key)) (ot rfl) (fun hc22 => ?_) (fun hc22 => ?_)
   ·
    replace hF := ifT hc22 hF
    refine go_skip (go_block (go_seq (go_region (gM rfl rfl (gM rfl rfl (gM rfl rfl ?_))))))
    obtain ⟨q23, row23, i23, cl23, rc23, sp23⟩ := ix (ik := .i64) (cap := c0_0) (E := EE) (f0_0.ext e19.kn) ((getI_nat _ _).trans hx19) ut_29 sz_56 rfl
    obtain rfl := rc23
    refine gr rfl (r_ia (ot rfl) (ot rfl) i23) (gr rfl (r_load (ot rfl) (v := .agg #[.string z19.Key, .string z19.Val, .int .i64 z19.Rev]) (lo_e (fun hf kn => ld_of (r := [.string z19.Key, .string z19.Val, .int .i64 z19.Rev]) ag_56 sz_56 (kn.cellsAt cl23)))) (gs_bslice (cs := [.string z19.Key, .string z19.Val, .int .i64 z19.Rev]) rfl (op1 (ot rfl) op0) ut_29 sz_56 zo_56 rfl rfl (fun b27_24 => ?_)))
    obtain ⟨x25, hx25, hF⟩ := obind hF
    obtain ⟨hr25, hz25_⟩ := appL_some hx25; subst x25
    refine gs_front (.s (.z)) (gs_app (rows2 := [[.string z19.Key, .string z19.Val, .int .i64 z19.Rev]]) (R := R_TKV) rfl (os1 (ot rfl) (os1 (ot rfl) os0)) rfl ut_29 sz_56 rfl (by decide) by_56 zo_56 rfl zs_29_29 rfl rfl (first_m (mem_seg 1 rfl) rfl (by decide)) (Rws.one (x := z19) rfl) f19_0 hr25 (fun p25_ tl25 f25_ => gA rfl rfl (go_nil (go_region (gM rfl rfl (gr rfl (r_bin (ot rfl) (oc rfl) rfl) (gA rfl rfl (go_nil (go_endb (gs_sub (.cons_cons _ (.cons _ (.cons_cons _ (.refl _)))) (go_re 6 (v2 := .int .i64 ((i19 + 1 : Nat) : Int)) rfl (wrap_succ hi19 hb19) ?_)))))))))))
    exact Goes.weak (ih19 (r19, i19 + 1, (y19_0 ++ ([z19] : List TKV)), p25_, tl25, h19) ⟨hr19, e19, w19, hF, f25_⟩ (Nat.lt_succ_self _)) (Sub.cons (Sub.cons (Sub.cons (Sub.cons (Sub.cons (Sub.nil _) rfl) rfl) rfl) rfl) rfl)
   ·
    replace hF := ifF hc22 hF
    refine go_exit rfl ?_
    obtain rfl := someI hF
    exact Goes.weak (J4 (a19_0, a19_1) _ e19 w19 f19_0) (Sub.cons (Sub.cons (Sub.cons (Sub.cons (Sub.cons (Sub.nil _) rfl) rfl) rfl) rfl) rfl)
theorem s_ref19_Map (n : Nat) {h : Heap} (hw : Wf h) (p0 : (List TEvent)) (p1 : Int) {a0_0 : Option Addr} {c0_0 : Nat} (f0_0 : RL R_TEvent h a0_0 c0_0 p0) {r : (List TKV)} (hF : F_ref19_Map n p0 p1 = some r) :
 Ev EE 12 [.slice a0_0 p0.length c0_0, .int .i64 p1] h (fun v h1 => ∃ a0 c0, v = .slice a0 r.length c0 ∧ RL R_TKV h1 a0 c0 r) := by
 unfold F_ref19_Map at hF
 refine ev_of hw rfl at_12 rfl rfl (go_seg0 ?_)
 refine go_seq (go_region (gAc rfl rfl (go_nil (go_seq (go_region (gAc rfl rfl (go_nil (go_seq (go_seq (go_region (gAc rfl rfl (go_nil ?_))))))))))))
 obtain ⟨s3, hF, hK3⟩ := obind hF
 refine go_joinc (β := Option Addr × Nat) (fun s h' => RL R_TKV h' s.1 s.2 s3) (fun s => [(4, true, .slice none 0 0), (5, true, .slice s.1 s3.length s.2)]) (fun s => (List.flatten [] : List Blk)) ?_ (fun J3 => ?_)
 ·
  rintro ⟨a3_0, a3_1⟩ h3 e3 w3 f3_0
  replace hF := hK3
  refine go_seq (go_region (gM rfl rfl (gA rfl rfl (go_nil ?_))))
  obtain rfl := someI hF
  exact g_ret (rst rfl rs0) (fun h1 hf hs => ⟨(e3.trans hs.hext), ⟨_, _, rfl, (f3_0.ext hs.hext.kn)⟩⟩)
 ·
  refine go_block ?_
  refine go_loop (α := (List TEvent) × Nat × (List TKV) × Option Addr × Nat × Heap) (fun a => a.1 = List.drop a.2.1 p0 ∧ HExt h a.2.2.2.2.2 ∧ Wf a.2.2.2.2.2 ∧ F_ref19_Map_L1 n p1 a.1 a.2.1 a.2.2.1 = some s3 ∧ RL R_TKV a.2.2.2.2.2 a.2.2.2.1 a.2.2.2.2.1 a.2.2.1) (fun a => a.1.length) (fun a => [(0, true, .slice a0_0 p0.length c0_0), (1, true, .int .i64 p1), (4, true, .slice none 0 0), (5, true, .slice a.2.2.2.1 a.2.2.1.length a.2.2.2.2.1), (6, true, .int .i64 (a.2.1 : Int))]) (fun a => (List.flatten [] : List Blk)) (fun a => a.2.2.2.2.2) ?_ (p0, 0, ([] : List TKV), none, 0, h) ⟨rfl, HExt.refl _, hw, hF, (RL.nil _ _ _)⟩ (Sub.cons (Sub.cons (Sub.cons (Sub.cons (Sub.cons (Sub.nil _) rfl) rfl) rfl) rfl) rfl) rfl rfl
  rintro ⟨r4, i4, y4_0, a4_0, a4_1, h4⟩ ⟨hr4, e4, w4, hF, f4_0⟩ ih4
  rcases r4 with _ | ⟨z4, r4⟩
  ·
   have hi4 := drop_nil hr4
   rw [F_ref19_Map_L1.eq_1] at hF
   refine go_seq (go_seq (go_region (gM rfl rfl (gM rfl rfl (gr rfl (r_len rfl (os1 (ot rfl) os0) (fun _ _ => ln_22)) (gr rfl (r_bin (ot rfl) (ot rfl) rfl) (go_cast (.bool false) (congrArg Value.bool (decide_eq_false hi4)) (go_nil ?_))))))))
   refine g_cond (b := false) (ot rfl) (fun hc5 => ?_) (fun hc5 => ?_)
   ·
    cases hc5
   refine go_exit rfl ?_
   obtain rfl := someI hF
   exact Goes.weak (J3 (a4_0, a4_1) _ e4 w4 f4_0) (Sub.cons (Sub.cons (Sub.nil _) rfl) rfl)
  ·
   obtain ⟨hi4, hx4, hr4⟩ := drop_cons hr4
   have hb4 := (f0_0.ext e4.kn).1
   rw [F_ref19_Map_L1.eq_2] at hF
   refine go_seq (go_seq (go_region (gM rfl rfl (gM rfl rfl (gr rfl (r_len rfl (os1 (ot rfl) os0) (fun _ _ => ln_22)) (gr rfl (r_bin (ot rfl) (ot rfl) rfl) (go_cast (.bool true) (congrArg Value.bool (decide_eq_true (Int.ofNat_lt.mpr hi4))) (go_nil ?_))))))))
   refine g_cond (b := true) (ot rfl) (fun hc6 => ?_) (fun hc6 => ?_)
   rotate_left
   ·
    cases hc6
   refine go_skip (go_seq (go_block (go_seq (go_region (gM rfl rfl (gM rfl rfl ?_))))))
   obtain ⟨q7, row7, i7, cl7, rc7, sp7⟩ := ix (ik := .i64) (cap := c0_0) (E := EE) (f0_0.ext e4.kn) ((getI_nat _ _).trans hx4) ut_22 sz_36 rfl
   obtain rfl := rc7
   refine gr rfl (r_ia (ot rfl) (ot rfl) i7) (gF (fs_36_0 sp7) rfl rfl (gr rfl (r_load (ot rfl) (v := .int .i64 z4.Rev) (lo_e (fun hf kn => ld_field (r := [.int .i64 z4.Rev, .string z4.Key, .string z4.Val, .bool z4.Del]) ag_3 (kn.cellsAt cl7) rfl))) (gM rfl rfl (gr rfl (r_bin (ot rfl) (ot rfl) rfl) (go_nil ?_)))))
   obtain ⟨s9, hF, hK9⟩ := obind hF
   refine go_joinc (β := Option Addr × Nat) (fun s h' => RL R_TKV h' s.1 s.2 s9) (fun s => [(0, true, .slice a0_0 p0.length c0_0), (1, true, .int .i64 p1), (4, true, .slice none 0 0), (5, true, .slice s.1 s9.length s.2), (6, true, .int .i64 (i4 : Int)), (7, true, .int .i64 (i4 : Int)), (8, true, .slice a0_0 p0.length c0_0), (9, true, .int .i64 (p0.length : Int)), (10, true, .bool true), (13, true, .slice a0_0 p0.length c0_0), (14, true, .int .i64 (i4 : Int)), (15, true, .pointer (some q7)), (16, true, .pointer (some ⟨q7.block, q7.off + 0, q7.spot⟩)), (17, true, .int .i64 z4.Rev), (18, true, .int .i64 p1), (19, true, .bool (decide (z4.Rev ≤ p1)))]) (fun s => (List.flatten [] : List Blk)) ?_ (fun J9 => ?_)
   ·
    rintro ⟨a9_0, a9_1⟩ h9 e9 w9 f9_0
    replace hF := hK9
    refine go_endb (go_region (gM rfl rfl (gr rfl (r_bin (ot rfl) (oc rfl) rfl) (gA rfl rfl (go_nil (go_re 6 (v2 := .int .i64 ((i4 + 1 : Nat) : Int)) rfl (wrap_succ hi4 hb4) ?_))))))
    exact Goes.weak (ih4 (r4, i4 + 1, s9, a9_0, a9_1, h9) ⟨hr4, (e4.trans e9), w9, hF, f9_0⟩ (Nat.lt_succ_self _)) (Sub.cons (Sub.cons (Sub.cons (Sub.cons (Sub.cons (Sub.nil _) rfl) rfl) rfl) rfl) rfl)
   ·
    refine g_cond (b := (decide (z4.Rev ≤ p1))) (ot rfl) (fun hc8 => ?_) (fun hc8 => ?_)
    ·
     replace hF := ifT hc8 hF
     refine go_region (gM rfl rfl (gM rfl rfl (gM rfl rfl ?_)))
     obtain ⟨q10, row10, i10, cl10, rc10, sp10⟩ := ix (ik := .i64) (cap := c0_0) (E := EE) (f0_0.ext e4.kn) ((getI_nat _ _).trans hx4) ut_22 sz_36 rfl
     obtain rfl := rc10
     refine gr rfl (r_ia (ot rfl) (ot rfl) i10) (gr rfl (r_load (ot rfl) (v := .agg #[.int .i64 z4.Rev, .string z4.Key, .string z4.Val, .bool z4.Del]) (lo_e (fun hf kn => ld_of (r := [.int .i64 z4.Rev, .string z4.Key, .string z4.Val, .bool z4.Del]) ag_36 sz_36 (kn.cellsAt cl10)))) ?_)
     obtain ⟨x11, hx11, hF⟩ := obind hF
     refine g_call EE_fr (fun _ h => by cases h; rfl) of (os1 (ot rfl) (os1 (ot rfl) os0)) hb_38 (fun hf kn w => by exact s_ref05_One n w y4_0 z4 (f4_0.ext kn) hx11) ?_
     rintro v11 h11 e11 w11 ⟨a11_0, c11_0, rfl, f11_0⟩
     refine gA rfl rfl (go_nil ?_)
     obtain rfl := someI hF
     exact Goes.weak (J9 (a11_0, c11_0) _ e11 w11 f11_0) (Sub8 (Sub8 (Sub.nil _) rfl rfl rfl rfl rfl rfl rfl rfl) rfl rfl rfl rfl rfl rfl rfl rfl)
    ·
     replace hF := ifF hc8 hF
     refine go_skip ?_
     obtain rfl := someI hF
     exact Goes.weak (J9 (a4_0, a4_1) _ (HExt.refl _) w4 f4_0) (Sub8 (Sub8 (Sub.nil _) rfl rfl rfl rfl rfl rfl rfl rfl) rfl rfl rfl rfl rfl rfl rfl rfl)
theorem s_ref05_KVs {h : Heap} (hw : Wf h) (p0 : (List TKV)) (p1 : (List TKV)) {a0_0 : Option Addr} {c0_0 : Nat} {a1_0 : Option Addr} {c1_0 : Nat} (f0_0 : RL R_TKV h a0_0 c0_0 p0) (f1_0 : RL R_TKV h a1_0 c1_0 p1) {r : Bool} (hF : F_ref05_KVs p0 p1 = some r) :
 Ev EE 13 [.slice a0_0 p0.length c0_0, .slice a1_0 p1.length c1_0] h (fun v _ => v = .bool r) := by
 unfold F_ref05_KVs at hF
 refine ev_of hw rfl at_13 rfl rfl (go_seg0 ?_)
 refine go_seq (go_region (gAc rfl rfl (go_nil (go_seq (go_seq (go_region (gM rfl rfl (gr rfl (r_len rfl (os1 (ot rfl) os0) (fun _ _ => ln_29)) (gM rfl rfl (gr rfl (r_len rfl (os1 (ot rfl) os0) (fun _ _ => ln_29)) (gr rfl (r_bin (ot rfl) (ot rfl) rfl) (go_nil ?_))))))))))))
 refine g_cond (b := ((p0.length : Int) != (p1.length : Int))) (ot rfl) (fun hc3 => ?_) (fun hc3 => ?_)
 ·
  replace hF := ifT hc3 hF
  refine go_seq (go_region (gAc rfl rfl (go_nil ?_)))
  obtain rfl := someI hF
  exact g_ret (rst rfl rs0) (fun h1 hf hs => ⟨hs.hext, rfl⟩)
 ·
  replace hF := ifF hc3 hF
  refine go_skip (go_seq (go_seq (go_region (gAc rfl rfl (go_nil ?_)))))
  obtain ⟨s4, hF, hK4⟩ := obind hF
  refine go_joinc (β := (Unit)) (fun s h' => s4 = .go s) (fun s => [(4, true, .bool false)]) (fun s => (List.flatten [] : List Blk)) ?_ (fun J4 => ?_)
  ·
   rintro _ h4 e4 w4 hs4
   subst hs4
   replace hF := lpgo hK4
   refine go_seq (go_region (gAc rfl rfl (go_nil ?_)))
   obtain rfl := someI hF
   exact g_ret (rst rfl rs0) (fun h1 hf hs => ⟨(e4.trans hs.hext), rfl⟩)
  ·
   refine go_block ?_
   refine go_loop (α := (List TKV) × Nat × Heap) (fun a => a.1 = List.drop a.2.1 p0 ∧ HExt h a.2.2 ∧ Wf a.2.2 ∧ F_ref05_KVs_L1 p1 a.1 a.2.1 = some s4) (fun a => a.1.length) (fun a => [(0, true, .slice a0_0 p0.length c0_0), (1, true, .slice a1_0 p1.length c1_0), (4, true, .bool false), (5, true, .int .i64 (a.2.1 : Int))]) (fun a => (List.flatten [] : List Blk)) (fun a => a.2.2) ?_ (p0, 0, h) ⟨rfl, HExt.refl _, hw, hF⟩ (Sub.cons (Sub.cons (Sub.cons (Sub.cons (Sub.nil _) rfl) rfl) rfl) rfl) rfl rfl
   rintro ⟨r5, i5, h5⟩ ⟨hr5, e5, w5, hF⟩ ih5
   rcases r5 with _ | ⟨z5, r5⟩
   ·
    have hi5 := drop_nil hr5
    rw [F_ref05_KVs_L1.eq_1] at hF
    refine go_seq (go_seq (go_region (gM rfl rfl (gM rfl rfl (gr rfl (r_len rfl (os1 (ot rfl) os0) (fun _ _ => ln_29)) (gr rfl (r_bin (ot rfl) (ot rfl) rfl) (go_cast (.bool false) (congrArg Value.bool (decide_eq_false hi5)) (go_nil ?_))))))))
    refine g_cond (b := false) (ot rfl) (fun hc6 => ?_) (fun hc6 => ?_)
    ·
     cases hc6
    refine go_exit rfl ?_
    obtain rfl := someI hF
    exact Goes.weak (J4 () _ e5 w5 rfl) (Sub.cons (Sub.nil _) rfl)
   ·
    obtain ⟨hi5, hx5, hr5⟩ := drop_cons hr5
    have hb5 := (f0_0.ext e5.kn).1
    rw [F_ref05_KVs_L1.eq_2] at hF
    refine go_seq (go_seq (go_region (gM rfl rfl (gM rfl rfl (gr rfl (r_len rfl (os1 (ot rfl) os0) (fun _ _ => ln_29)) (gr rfl (r_bin (ot rfl) (ot rfl) rfl) (go_cast (.bool true) (congrArg Value.bool (decide_eq_true (Int.ofNat_lt.mpr hi5))) (go_nil ?_))))))))
    refine g_cond (b := true) (ot rfl) (fun hc7 => ?_) (fun hc7 => ?_)
    rotate_left
    ·
     cases hc7
    refine go_skip (go_seq (go_block (go_seq (go_regionq (by kernel_rfl) (gM rfl rfl (gM rfl rfl ?_))))))
    obtain ⟨q8, row8, i8, cl8, rc8, sp8⟩ := ix (ik := .i64) (cap := c0_0) (E := EE) (f0_0.ext e5.kn) ((getI_nat _ _).trans hx5) ut_29 sz_56 rfl
    obtain rfl := rc8
    refine gr rfl (r_ia (ot rfl) (ot rfl) i8) (gr rfl (r_load (ot rfl) (v := .agg #[.string z5.Key, .string z5.Val, .int .i64 z5.Rev]) (lo_e (fun hf kn => ld_of (r := [.string z5.Key, .string z5.Val, .int .i64 z5.Rev]) ag_56 sz_56 (kn.cellsAt cl8)))) (gM rfl rfl (gM rfl rfl ?_)))
    obtain ⟨x9, hx9, hF⟩ := obind hF
    obtain ⟨q9, row9, i9, cl9, rc9, sp9⟩ := ix (ik := .i64) (cap := c1_0) (E := EE) (f1_0.ext e5.kn) hx9 ut_29 sz_56 rfl
    obtain rfl := rc9
    refine gr rfl (r_ia (ot rfl) (ot rfl) i9) (gr rfl (r_load (ot rfl) (v := .agg #[.string x9.Key, .string x9.Val, .int .i64 x9.Rev]) (lo_e (fun hf kn => ld_of (r := [.string x9.Key, .string x9.Val, .int .i64 x9.Rev]) ag_56 sz_56 (kn.cellsAt cl9)))) (gr rfl (r_bin (ot rfl) (ot rfl) bn_56) (go_nil ?_)))
    refine g_cond (b := (!(eq_TKV z5 x9))) (ot rfl) (fun hc10 => ?_) (fun hc10 => ?_)
    ·
     replace hF := ifT hc10 hF
     refine go_seq (go_region (gAc rfl rfl (go_nil ?_)))
     obtain rfl := someI hF
     obtain rfl := someI hK4
     exact g_ret (rst rfl rs0) (fun h1 hf hs => ⟨(e5.trans hs.hext), rfl⟩)
    ·
     replace hF := ifF hc10 hF
     refine go_skip (go_endb (go_region (gM rfl rfl (gr rfl (r_bin (ot rfl) (oc rfl) rfl) (gA rfl rfl (go_nil (go_re 5 (v2 := .int .i64 ((i5 + 1 : Nat) : Int)) rfl (wrap_succ hi5 hb5) ?_)))))))
     exact Goes.weak (ih5 (r5, i5 + 1, h5) ⟨hr5, e5, w5, hF⟩ (Nat.lt_succ_self _)) (Sub.cons (Sub.cons (Sub.cons (Sub.cons (Sub.nil _) rfl) rfl) rfl) rfl)
theorem s_index_Work_Step_nil {h : Heap} (hw : Wf h) (p0 : Obst_Tree) (p0o0 : Omem_Mem) (p0o1 : Ochain_Store) {bp0 bp0_1 bp0_2 bp0_3 : Nat} {z0 : List Blk} (y0 : Zindex_Index h bp0 bp0_1 bp0_2 bp0_3 z0 p0 p0o0 p0o1) {r : Bool × Obst_Tree × Omem_Mem × Ochain_Store} (hF : F_index_Work_Step_nil p0 p0o0 p0o1 = some r) :
 EvO EE 21 [.pointer none] [z0] h (fun v S h1 => ∃ zy0, v = .bool r.1 ∧ S = [zy0] ∧ Zindex_Index h1 bp0 bp0_1 bp0_2 bp0_3 zy0 r.2.1 r.2.2.1 r.2.2.2) := by
 unfold F_index_Work_Step_nil at hF
 refine evo_of rfl at_21 rfl rfl ?_
 refine go_seq (go_region (gAc rfl rfl (go_nil (go_seq (go_seq (go_region (gM rfl rfl (gr rfl (r_bin (v := .bool true) (ot rfl) (oc rfl) (by first | rfl | kernel_rfl)) (gM rfl rfl (g_no rfl rfl rfl rfl rfl (g_no rfl rfl rfl rfl rfl (g_no rfl rfl rfl rfl rfl (g_no rfl rfl rfl rfl rfl (g_no rfl rfl rfl rfl rfl (gr rfl (r_pkT (ot rfl) (oc rfl)) (go_nil ?_))))))))))))))))
 refine g_cond (b := true) (ot rfl) (fun hc3 => ?_) (fun hc3 => ?_)
 rotate_left
 ·
  cases hc3
 refine go_seq (go_region (gAc rfl rfl (go_nil ?_)))
 obtain rfl := someI hF
 exact g_retO (rst rfl rs0) (.cons .z .nil) (HExt.refl _) hw (nd1 y0.nd nd0) ⟨_, rfl, rfl, y0⟩
theorem s_law19_IndexMany (n : Nat) {h : Heap} (hw : Wf h) (p0 : (List TEvent)) (p1 : Int) (p2 : (List Bool)) {a0_0 : Option Addr} {c0_0 : Nat} {a2_0 : Option Addr} {c2_0 : Nat} (f0_0 : RL R_TEvent h a0_0 c0_0 p0) (f2_0 : RL (RB_ 4) h a2_0 c2_0 p2) {r : Bool} (hF : F_law19_IndexMany n p0 p1 p2 = some r) :
 Ev EE 5 [.slice a0_0 p0.length c0_0, .int .u8 p1, .slice a2_0 p2.length c2_0] h (fun v _ => v = .bool r) := by
 unfold F_law19_IndexMany at hF
 refine ev_of hw rfl at_5 rfl rfl (go_seg0 ?_)
 refine go_seq (go_region (gAc rfl rfl (go_nil (go_seq (go_region (g_callp EE_fr rfl of os0 hb_9 (fun _ => rfl) (fun hf kn w => by exact known_evp rfl hf w) (gA rfl rfl (go_nil (go_seq (go_seq (go_region (gM rfl rfl ?_))))))))))))
 obtain ⟨x5, hx5, hF⟩ := obind hF
 refine g_callp (v := .bool x5) EE_fr rfl of (os1 (ot rfl) os0) hb_10 (fun _ => rfl) (fun hf kn w => by exact s_law19_few n w p0 (f0_0.ext kn) hx5) (gr rfl (r_un (ot rfl) rfl) (gM rfl rfl (grf rfl rfl rfl rfl (r_move (ot rfl)) (grf rfl rfl rfl rfl (r_len rfl (os1 (og rfl id) os0) (fun _ _ => ln_22)) (grf rfl rfl rfl rfl (r_bin (og rfl id) (oc rfl) rfl) (gr rfl (r_pickb (ot rfl) (oc rfl) (og rfl id)) (go_nil ?_)))))))
 refine g_cond (b := (bif (!x5) then true else ((p0.length : Int) == 0))) (ot rfl) (fun hc6 => ?_) (fun hc6 => ?_)
 ·
  replace hF := ifT hc6 hF
  refine go_seq (go_region (gM rfl rfl (gA rfl rfl (go_nil ?_))))
  obtain rfl := someI hF
  exact g_ret (rst rfl rs0) (fun h1 hf hs => ⟨hs.hext, rfl⟩)
 ·
  replace hF := ifF hc6 hF
  refine go_skip (go_seq (go_region ?_))
  obtain ⟨x7, hx7, hF⟩ := obind hF
  refine kcX EE_fr hw .nil rfl of (ops_c rfl os0) hb_24 (s_mem_New_nil hw   hx7) ?_
  rintro _ _ h7 e7 w7 ⟨b7_w0, z7_w0, rfl, rfl, f7_0⟩
  simp only [ca_, na_]
  obtain ⟨x8, hx8, hF⟩ := obind hF
  refine kcX EE_fr w7 (.cons .z .nil) rfl of (ops_t rfl os0) hb_23 (s_index_New w7 x7 f7_0 hx8) ?_
  rintro _ _ h8 e8 w8 ⟨b8_w0, b8_w0_1, b8_w0_3, z8_w0, rfl, rfl, f8_0⟩
  simp only [ca_, na_]
  refine gA rfl rfl (go_nil (go_seq (go_region (gM rfl rfl (gr rfl (r_conv (ot rfl) rfl) (gM rfl rfl (gM rfl rfl (gr rfl (r_len rfl (os1 (ot rfl) os0) (fun _ _ => ln_22)) (gr rfl (r_bin (ot rfl) (oc rfl) rfl) ?_)))))))))
  obtain ⟨x9, hx9, hF⟩ := obind hF
  obtain ⟨q9, row9, i9, cl9, rc9, sp9⟩ := ix (ik := .i64) (cap := c0_0) (E := EE) ((f0_0.ext e7.kn).ext e8.kn) hx9 ut_22 sz_36 rfl
  obtain rfl := rc9
  refine gr rfl (r_ia (ot rfl) (ot rfl) i9) (gF (fs_36_0 sp9) rfl rfl (gr rfl (r_load (ot rfl) (v := .int .i64 x9.Rev) (lo_e (fun hf kn => ld_field (r := [.int .i64 x9.Rev, .string x9.Key, .string x9.Val, .bool x9.Del]) ag_3 (kn.cellsAt cl9) rfl))) (gr rfl (r_bin (ot rfl) (oc rfl) rfl) ?_)))
  obtain ⟨x10, hx10, hF⟩ := obind hF
  refine gr rfl (r_bin (v := .int .i64 x10) (ot rfl) (ot rfl) (remI_bin hx10)) (gA rfl rfl (go_nil (go_seq (go_seq (go_region (gM rfl rfl (gM rfl rfl (gr rfl (r_len rfl (os1 (ot rfl) os0) (fun _ _ => ln_22)) (gr rfl (r_bin (ot rfl) (oc rfl) rfl) ?_)))))))))
  obtain ⟨x11, hx11, hF⟩ := obind hF
  obtain ⟨q11, row11, i11, cl11, rc11, sp11⟩ := ix (ik := .i64) (cap := c0_0) (E := EE) ((f0_0.ext e7.kn).ext e8.kn) hx11 ut_22 sz_36 rfl
  obtain rfl := rc11
  refine gr rfl (r_ia (ot rfl) (ot rfl) i11) (gF (fs_36_0 sp11) rfl rfl (gr rfl (r_load (ot rfl) (v := .int .i64 x11.Rev) (lo_e (fun hf kn => ld_field (r := [.int .i64 x11.Rev, .string x11.Key, .string x11.Val, .bool x11.Del]) ag_3 (kn.cellsAt cl11) rfl))) (gr rfl (r_bin (ot rfl) (oc rfl) rfl) (gM rfl rfl (grf rfl rfl rfl rfl (r_move (ot rfl)) (grf rfl rfl rfl rfl (r_bin (v := .bool false) (og rfl id) (oc rfl) (by first | rfl | kernel_rfl)) (gr rfl (r_pickb (ot rfl) (oc rfl) (og rfl id)) (go_nil ?_))))))))
  refine g_cond (b := (bif (decide (x11.Rev > 1000)) then true else false)) (ot rfl) (fun hc12 => ?_) (fun hc12 => ?_)
  ·
   replace hF := ifT hc12 hF
   refine go_seq (go_region (gM rfl rfl (gr rfl (r_bin (v := .bool true) (ot rfl) (oc rfl) (by first | rfl | kernel_rfl)) (gM rfl rfl (g_do rfl rfl rfl (gM rfl rfl (gr rfl (r_pkT (ot rfl) (ot rfl)) (gA rfl rfl (go_nil ?_)))))))))
   obtain rfl := someI hF
   exact g_ret (rst rfl rs0) (fun h1 hf hs => ⟨(e7.trans (e8.trans hs.hext)), rfl⟩)
  ·
   replace hF := ifF hc12 hF
   refine go_skip (go_seq (go_region (gAc rfl rfl (go_nil (go_seq (go_region (gM rfl rfl (gM rfl rfl ?_))))))))
   obtain ⟨x13, hx13, hF⟩ := obind hF
   obtain ⟨q13, row13, i13, cl13, rc13, sp13⟩ := ix (ik := .i64) (cap := c0_0) (E := EE) ((f0_0.ext e7.kn).ext e8.kn) hx13 ut_22 sz_36 rfl
   obtain rfl := rc13
   refine gr rfl (r_ia (ot rfl) (oc rfl) i13) (gF (fs_36_1 sp13) rfl rfl (gr rfl (r_load (ot rfl) (v := .string x13.Key) (lo_e (fun hf kn => ld_field (r := [.int .i64 x13.Rev, .string x13.Key, .string x13.Val, .bool x13.Del]) ag_9 (kn.cellsAt cl13) rfl))) ?_))
   obtain ⟨x14, hx14, hF⟩ := obind hF
   refine kcX EE_fr w8 (.cons .z .nil) rfl of (ops_t rfl (ops_t rfl os0)) hb_20 (s_index_Index_Ensure n w8 x8.1 x8.2.1 x8.2.2 x13.Key f8_0 hx14) ?_
   rintro _ _ h14 e14 w14 ⟨z14_y0, b14_w0, z14_w0, rfl, rfl, f14_0, f14_1⟩
   simp only [ca_, na_]
   obtain ⟨x15, hx15, hF⟩ := obind hF
   refine kcX EE_fr w14 (.cons .z (.cons .z .nil)) rfl of (ops_t rfl os0) hb_14 (s_index_Run n w14 x14.2.1 x14.2.2.1 x14.2.2.2 x14.1 f14_0 f14_1 hx15) ?_
   rintro _ _ h15 e15 w15 ⟨z15_y0, z15_y1, rfl, rfl, f15_0, f15_1⟩
   simp only [ca_, na_]
   refine gA rfl rfl (go_nil (go_seq (go_seq (go_region (gAc rfl rfl (go_nil (gs_pack (fun s => OQ (ORindex_Work_2 b8_w0 b7_w0 b8_w0_1 b8_w0_3) h15 s none) .nil OQ.mk0 fun z16o y16o => (go_re 10 (v2 := ptO (hdq z16o)) rfl (by rw [OQ.no y16o rfl] <;> rfl) (gs_pack (fun s => OQ (ORindex_Work_2 b8_w0 b7_w0 b8_w0_1 b8_w0_3) h15 s (some x15.2.2.2) ∧ hdq s = some b14_w0) (.cons (.s (.s (.z))) .nil) (by simp only [List.flatten_cons, List.flatten_nil, List.append_nil]; exact ⟨OQ.mks f15_1.hd f15_1, f15_1.hd⟩) fun z17o y17o => ?_)))))))))
   obtain ⟨y17o, hq17o⟩ := y17o
   refine go_re 11 (v2 := ptO (hdq z17o)) rfl (by rw [hq17o] <;> rfl) ?_
   obtain ⟨s18, hF, hK18⟩ := obind hF
   refine go_joinc (β := List Blk × List Blk × List Blk) (fun s h' => OQ (ORindex_Work_2 b8_w0 b7_w0 b8_w0_1 b8_w0_3) h' s.1 s18.1 ∧ OQ (ORindex_Work_2 b8_w0 b7_w0 b8_w0_1 b8_w0_3) h' s.2.1 s18.2.1 ∧ Zindex_Index h' b8_w0 b8_w0_1 b7_w0 b8_w0_3 s.2.2 s18.2.2.1 s18.2.2.2.1 s18.2.2.2.2) (fun s => [(0, true, .slice a0_0 p0.length c0_0), (6, true, .bool false), (7, true, .bool true), (8, true, pt b8_w0), (9, true, .int .i64 x10), (10, true, ptO (hdq s.2.1)), (11, true, ptO (hdq s.1))]) (fun s => (List.flatten [s.1, s.2.1, s.2.2] : List Blk)) ?_ (fun J18 => ?_)
   ·
    rintro ⟨a18_0, a18_1, a18_2⟩ h18 e18 w18 ⟨f18_0, f18_1, f18_2⟩
    try dsimp only at f18_0 f18_1 f18_2
    replace hF := hK18
    refine go_seq (go_region (gM rfl rfl ?_))
    obtain ⟨x19, hx19, hF⟩ := obind hF
    obtain ⟨bo19, ho19, yo19⟩ := OQ.get f18_0 hx19
    replace yo19 : Zindex_Work_2 h18 b8_w0 b7_w0 b8_w0_1 b8_w0_3 bo19 a18_0 x19 := yo19
    rw [ho19]
    obtain ⟨x20, hx20, hF⟩ := obind hF
    refine kcX EE_fr w18 (.cons (.s (.s (.z))) (.cons .z .nil)) rfl of (ops_t rfl os0) hb_14 (s_index_Run n w18 s18.2.2.1 s18.2.2.2.1 s18.2.2.2.2 x19 f18_2 yo19 hx20) ?_
    rintro _ _ h20 e20 w20 ⟨z20_y0, z20_y1, rfl, rfl, f20_0, f20_1⟩
    simp only [ca_, na_]
    refine go_nil (go_seq (go_seq (go_region (gM rfl rfl (gr rfl (r_bin (v := .bool s18.2.1.isNone) (ot rfl) (oc rfl) (OQ.case (P := fun v b => binV _ .eql 32 v (.pointer none) = some (.bool b)) (f18_1.ext e20.kn) (by first | rfl | kernel_rfl) (fun _ => by first | rfl | kernel_rfl))) (go_nil (gs_pack (fun s => OQ (ORindex_Work_2 b8_w0 b7_w0 b8_w0_1 b8_w0_3) h20 s (some x20.2.2.2) ∧ hdq s = some bo19) (.cons (.s (.z)) .nil) (by simp only [List.flatten_cons, List.flatten_nil, List.append_nil]; exact ⟨OQ.mks f20_1.hd f20_1, f20_1.hd⟩) fun z22o y22o => ?_)))))))
    obtain ⟨y22o, hq22o⟩ := y22o
    refine go_re 11 (v2 := ptO (hdq z22o)) rfl (by rw [hq22o] <;> rfl) ?_
    obtain ⟨s23, hF, hK23⟩ := obind hF
    refine go_joinc (β := List Blk × List Blk) (fun s h' => Zindex_Index h' b8_w0 b8_w0_1 b7_w0 b8_w0_3 s.1 s23.1.1 s23.1.2.1 s23.1.2.2 ∧ OQ (ORindex_Work_2 b8_w0 b7_w0 b8_w0_1 b8_w0_3) h' s.2 s23.2) (fun s => [(0, true, .slice a0_0 p0.length c0_0), (6, true, .bool false), (7, true, .bool true), (8, true, pt b8_w0), (9, true, .int .i64 x10), (10, true, ptO (hdq s.2))]) (fun s => (List.flatten [z22o, s.1, s.2] : List Blk)) ?_ (fun J23 => ?_)
    ·
     rintro ⟨a23_0, a23_1⟩ h23 e23 w23 ⟨f23_0, f23_1⟩
     try dsimp only at f23_0 f23_1
     replace hF := hK23
     refine go_seq (go_region (gM rfl rfl ?_))
     obtain ⟨x24, hx24, hF⟩ := obind hF
     obtain ⟨bo24, ho24, yo24⟩ := OQ.get f23_1 hx24
     replace yo24 : Zindex_Work_2 h23 b8_w0 b7_w0 b8_w0_1 b8_w0_3 bo24 a23_1 x24 := yo24
     rw [ho24]
     obtain ⟨x25, hx25, hF⟩ := obind hF
     refine kcX EE_fr w23 (.cons (.s (.z)) (.cons (.s (.z)) .nil)) rfl of (ops_t rfl os0) hb_14 (s_index_Run n w23 s23.1.1 s23.1.2.1 s23.1.2.2 x24 f23_0 yo24 hx25) ?_
     rintro _ _ h25 e25 w25 ⟨z25_y0, z25_y1, rfl, rfl, f25_0, f25_1⟩
     simp only [ca_, na_]
     obtain ⟨x26, hx26, hF⟩ := obind hF
     refine kcX EE_fr w25 (.cons (.s (.z)) .nil) rfl of (ops_t rfl os0) hb_16 (s_index_Work_Found (bW91 := b8_w0) (bW107 := b7_w0) (bW131 := b8_w0_1) (bW161 := b8_w0_3) w25 x25.2.2.2 f25_1 hx26) ?_
     rintro _ _ h26 e26 w26 ⟨a26_0, c26_0, rfl, rfl, f26_0⟩
     simp only [ca_, na_]
     refine gA rfl rfl (go_nil (go_seq (go_region (gM rfl rfl (gr rfl (r_build op0 rfl) ?_)))))
     obtain ⟨x27, hx27, hF⟩ := obind hF
     refine kcX EE_fr w26 (.cons .z .nil) rfl of (ops_t rfl (ops_t rfl (ops_c rfl os0))) hb_18 (s_index_Index_Walk n w26 x25.1 x25.2.1 x25.2.2.1 (⟨ByteArray.empty, ByteArray.empty⟩ : TRange) 5000 (f25_0.ext e26.kn) hx27) ?_
     rintro _ _ h27 e27 w27 ⟨z27_y0, b27_w0, z27_w0, rfl, rfl, f27_0, f27_1⟩
     simp only [ca_, na_]
     obtain ⟨x28, hx28, hF⟩ := obind hF
     refine kcX EE_fr w27 (.cons .z (.cons .z .nil)) rfl of (ops_t rfl os0) hb_14 (s_index_Run n w27 x27.2.1 x27.2.2.1 x27.2.2.2 x27.1 f27_0 f27_1 hx28) ?_
     rintro _ _ h28 e28 w28 ⟨z28_y0, z28_y1, rfl, rfl, f28_0, f28_1⟩
     simp only [ca_, na_]
     obtain ⟨x29, hx29, hF⟩ := obind hF
     refine kcX EE_fr w28 (.cons (.s (.z)) .nil) rfl of (ops_t rfl os0) hb_16 (s_index_Work_Found (bW91 := b8_w0) (bW107 := b7_w0) (bW131 := b8_w0_1) (bW161 := b8_w0_3) w28 x28.2.2.2 f28_1 hx29) ?_
     rintro _ _ h29 e29 w29 ⟨a29_0, c29_0, rfl, rfl, f29_0⟩
     simp only [ca_, na_]
     refine gA rfl rfl (go_nil (go_seq (go_region (gM rfl rfl (gM rfl rfl (g_do rfl rfl rfl (gM rfl rfl (g_do rfl rfl rfl (gM rfl rfl (g_do rfl rfl rfl (gM rfl rfl (g_do rfl rfl rfl ?_))))))))))))
     obtain ⟨x30, hx30, hF⟩ := obind hF
     refine g_call EE_fr (fun _ h => by cases h; rfl) of (os1 (ot rfl) (os1 (ot rfl) os0)) hb_12 (fun hf kn w => by exact s_ref19_Map n w p0 x10 (((((((((((((f0_0.ext e7.kn).ext e8.kn).ext e14.kn).ext e15.kn).ext e18.kn).ext e20.kn).ext e23.kn).ext e25.kn).ext e26.kn).ext e27.kn).ext e28.kn).ext e29.kn).ext kn) hx30) ?_
     rintro v30 h30 e30 w30 ⟨a30_0, c30_0, rfl, f30_0⟩
     refine g_do rfl rfl rfl ?_
     obtain ⟨x31, hx31, hF⟩ := obind hF
     refine g_callp (v := .bool x31) EE_fr rfl of (os1 (ot rfl) (os1 (ot rfl) os0)) hb_13 (fun _ => rfl) (fun hf kn w => by exact s_ref05_KVs w x26 x30 (((((f26_0.ext e27.kn).ext e28.kn).ext e29.kn).ext e30.kn).ext kn) (f30_0.ext kn) hx31) (gr rfl (r_pkT (ot rfl) (ot rfl)) (gM rfl rfl ?_))
     obtain ⟨s33, hF, hK33⟩ := obind hF
     refine go_joinr 5 (β := Unit) (fun s h' => True) (fun s => [(6, true, .bool false), (152, true, .bool s33)]) (fun s => (List.flatten [z28_y0, z22o] : List Blk)) ?_ (fun J33 => ?_)
     ·
      rintro _ h33 e33 w33 _
      replace hF := hK33
      refine gA rfl rfl (go_nil ?_)
      obtain rfl := someI hF
      exact g_ret (rst rfl rs0) (fun h1 hf hs => ⟨(e7.trans (e8.trans (e14.trans (e15.trans (e18.trans (e20.trans (e23.trans (e25.trans (e26.trans (e27.trans (e28.trans (e29.trans (e30.trans (e33.trans hs.hext)))))))))))))), rfl⟩)
     ·
      rcases Bool.eq_false_or_eq_true x31 with hb32 | hb32
      ·
       replace hF := ifT hb32 hF
       refine go_re 147 (v2 := .bool true) rfl (congrArg Value.bool hb32) (g_do rfl rfl rfl (gM rfl rfl (g_do rfl rfl rfl (gM rfl rfl (g_do rfl rfl rfl ?_)))))
       obtain ⟨x34, hx34, hF⟩ := obind hF
       refine g_call EE_fr (fun _ h => by cases h; rfl) of (os1 (ot rfl) (os1 (oc rfl) os0)) hb_12 (fun hf kn w => by exact s_ref19_Map n w p0 5000 ((((((((((((((f0_0.ext e7.kn).ext e8.kn).ext e14.kn).ext e15.kn).ext e18.kn).ext e20.kn).ext e23.kn).ext e25.kn).ext e26.kn).ext e27.kn).ext e28.kn).ext e29.kn).ext e30.kn).ext kn) hx34) ?_
       rintro v34 h34 e34 w34 ⟨a34_0, c34_0, rfl, f34_0⟩
       refine g_do rfl rfl rfl ?_
       obtain ⟨x35, hx35, hF⟩ := obind hF
       refine g_callp (v := .bool x35) EE_fr rfl of (os1 (ot rfl) (os1 (ot rfl) os0)) hb_13 (fun _ => rfl) (fun hf kn w => by exact s_ref05_KVs w x29 x34 (((f29_0.ext e30.kn).ext e34.kn).ext kn) (f34_0.ext kn) hx35) (gr rfl (r_pkT (ot rfl) (ot rfl)) ?_)
       obtain rfl := someI hF
       exact Goes.weak (J33 () _ e34 w34 trivial) (Sub.cons (Sub.cons (Sub.nil _) rfl) rfl)
      ·
       replace hF := ifF hb32 hF
       refine go_re 147 (v2 := .bool false) rfl (congrArg Value.bool hb32) (g_no rfl rfl rfl rfl rfl (g_no rfl rfl rfl rfl rfl (g_no rfl rfl rfl rfl rfl (g_no rfl rfl rfl rfl rfl (gr rfl (r_pkF (ot rfl) (oc rfl)) ?_)))))
       obtain rfl := someI hF
       exact Goes.weak (J33 () _ (HExt.refl _) w30 trivial) (Sub.cons (Sub.cons (Sub.nil _) rfl) rfl)
    ·
     refine g_cond (b := s18.2.1.isNone) (ot rfl) (fun hc21 => ?_) (fun hc21 => ?_)
     ·
      replace hF := ifT hc21 hF
      refine go_region (gM rfl rfl (gr rfl (r_build op0 rfl) (gM rfl rfl ?_)))
      obtain ⟨x36, hx36, hF⟩ := obind hF
      refine kcX EE_fr w20 (.cons (.s (.z)) .nil) rfl of (ops_t rfl (ops_t rfl (ops_t rfl os0))) hb_18 (s_index_Index_Walk n w20 x20.1 x20.2.1 x20.2.2.1 (⟨ByteArray.empty, ByteArray.empty⟩ : TRange) x10 f20_0 hx36) ?_
      rintro _ _ h36 e36 w36 ⟨z36_y0, b36_w0, z36_w0, rfl, rfl, f36_0, f36_1⟩
      simp only [ca_, na_]
      refine gA rfl rfl (go_nil (gs_sub (.cons_cons _ (.cons_cons _ (.cons_cons _ (.cons _ (.refl _))))) (gs_pack (fun s => OQ (ORindex_Work_2 b8_w0 b7_w0 b8_w0_1 b8_w0_3) h36 s (some x36.1) ∧ hdq s = some b36_w0) (.cons (.s (.z)) .nil) (by simp only [List.flatten_cons, List.flatten_nil, List.append_nil]; exact ⟨OQ.mks f36_1.hd f36_1, f36_1.hd⟩) fun z37o y37o => ?_)))
      obtain ⟨y37o, hq37o⟩ := y37o
      refine go_re 10 (v2 := ptO (hdq z37o)) rfl (by rw [hq37o] <;> rfl) ?_
      obtain rfl := someI hF
      refine gs_perm (perm_of (d := []) _ [2, 1, 0] rfl) ?_
      exact Goes.weak (J23 (z36_y0, z37o) _ e36 w36 ⟨f36_0, y37o⟩) (Sub.cons (Sub.cons (Sub.cons (Sub.cons (Sub.cons (Sub.cons (Sub.nil _) rfl) rfl) rfl) rfl) rfl) rfl)
     ·
      replace hF := ifF hc21 hF
      refine go_skip ?_
      obtain rfl := someI hF
      exact Goes.weak (J23 (z20_y0, a18_1) _ (HExt.refl _) w20 ⟨f20_0, (f18_1.ext e20.kn)⟩) (Sub.cons (Sub.cons (Sub.cons (Sub.cons (Sub.cons (Sub.cons (Sub.nil _) rfl) rfl) rfl) rfl) rfl) rfl)
   ·
    refine go_block ?_
    refine go_loop (α := (List TEvent) × Nat × (Obst_Tree × Omem_Mem × Ochain_Store) × ((Option Oindex_Work_2)) × ((Option Oindex_Work_2)) × List Blk × List Blk × List Blk × Heap) (fun a => a.1 = List.drop a.2.1 p0 ∧ HExt h15 a.2.2.2.2.2.2.2.2 ∧ Wf a.2.2.2.2.2.2.2.2 ∧ F_law19_IndexMany_L1 n p2 x10 a.1 a.2.1 a.2.2.1 a.2.2.2.1 a.2.2.2.2.1 = some s18 ∧ Zindex_Index a.2.2.2.2.2.2.2.2 b8_w0 b8_w0_1 b7_w0 b8_w0_3 a.2.2.2.2.2.1 a.2.2.1.1 a.2.2.1.2.1 a.2.2.1.2.2 ∧ OQ (ORindex_Work_2 b8_w0 b7_w0 b8_w0_1 b8_w0_3) a.2.2.2.2.2.2.2.2 a.2.2.2.2.2.2.1 a.2.2.2.1 ∧ OQ (ORindex_Work_2 b8_w0 b7_w0 b8_w0_1 b8_w0_3) a.2.2.2.2.2.2.2.2 a.2.2.2.2.2.2.2.1 a.2.2.2.2.1) (fun a => a.1.length) (fun a => [(0, true, .slice a0_0 p0.length c0_0), (2, true, .slice a2_0 p2.length c2_0), (6, true, .bool false), (7, true, .bool true), (8, true, pt b8_w0), (9, true, .int .i64 x10), (10, true, ptO (hdq a.2.2.2.2.2.2.1)), (11, true, ptO (hdq a.2.2.2.2.2.2.2.1)), (12, true, .int .i64 (a.2.1 : Int))]) (fun a => (List.flatten [a.2.2.2.2.2.2.2.1, a.2.2.2.2.2.2.1, a.2.2.2.2.2.1] : List Blk)) (fun a => a.2.2.2.2.2.2.2.2) ?_ (p0, 0, (x15.1, x15.2.1, x15.2.2.1), none, (some x15.2.2.2), z15_y0, z16o, z17o, h15) ⟨rfl, HExt.refl _, w15, hF, f15_0, y16o, y17o⟩ (Sub8 (Sub.cons (Sub.nil _) rfl) rfl rfl rfl rfl rfl rfl rfl rfl) rfl rfl
    rintro ⟨r38, i38, y38_0, y38_1, y38_2, a38_0, a38_1, a38_2, h38⟩ ⟨hr38, e38, w38, hF, f38_0, f38_1, f38_2⟩ ih38
    try dsimp only at f38_0 f38_1 f38_2
    rcases r38 with _ | ⟨z38, r38⟩
    ·
     have hi38 := drop_nil hr38
     rw [F_law19_IndexMany_L1.eq_1] at hF
     refine go_seq (go_seq (go_region (gM rfl rfl (gM rfl rfl (gr rfl (r_len rfl (os1 (ot rfl) os0) (fun _ _ => ln_22)) (gr rfl (r_bin (ot rfl) (ot rfl) rfl) (go_cast (.bool false) (congrArg Value.bool (decide_eq_false hi38)) (go_nil ?_))))))))
     refine g_cond (b := false) (ot rfl) (fun hc39 => ?_) (fun hc39 => ?_)
     ·
      cases hc39
     refine go_exit rfl ?_
     obtain rfl := someI hF
     exact Goes.weak (J18 (a38_2, a38_1, a38_0) _ e38 w38 ⟨f38_2, f38_1, f38_0⟩) (Sub.cons (Sub.cons (Sub.cons (Sub.cons (Sub.cons (Sub.cons (Sub.cons (Sub.nil _) rfl) rfl) rfl) rfl) rfl) rfl) rfl)
    ·
     obtain ⟨hi38, hx38, hr38⟩ := drop_cons hr38
     have hb38 := (((((f0_0.ext e7.kn).ext e8.kn).ext e14.kn).ext e15.kn).ext e38.kn).1
     rw [F_law19_IndexMany_L1.eq_2] at hF
     refine go_seq (go_seq (go_region (gM rfl rfl (gM rfl rfl (gr rfl (r_len rfl (os1 (ot rfl) os0) (fun _ _ => ln_22)) (gr rfl (r_bin (ot rfl) (ot rfl) rfl) (go_cast (.bool true) (congrArg Value.bool (decide_eq_true (Int.ofNat_lt.mpr hi38))) (go_nil ?_))))))))
     refine g_cond (b := true) (ot rfl) (fun hc40 => ?_) (fun hc40 => ?_)
     rotate_left
     ·
      cases hc40
     refine go_skip (go_seq (go_block (go_seq (go_seq (go_region (gM rfl rfl (gM rfl rfl ?_)))))))
     obtain ⟨q41, row41, i41, cl41, rc41, sp41⟩ := ix (ik := .i64) (cap := c0_0) (E := EE) (((((f0_0.ext e7.kn).ext e8.kn).ext e14.kn).ext e15.kn).ext e38.kn) ((getI_nat _ _).trans hx38) ut_22 sz_36 rfl
     obtain rfl := rc41
     refine gr rfl (r_ia (ot rfl) (ot rfl) i41) (gF (fs_36_0 sp41) rfl rfl (gr rfl (r_load (ot rfl) (v := .int .i64 z38.Rev) (lo_e (fun hf kn => ld_field (r := [.int .i64 z38.Rev, .string z38.Key, .string z38.Val, .bool z38.Del]) ag_3 (kn.cellsAt cl41) rfl))) (gM rfl rfl (gr rfl (r_bin (ot rfl) (ot rfl) rfl) (gM rfl rfl (grt rfl rfl rfl rfl (r_move (ot rfl)) (grt rfl rfl rfl rfl (r_bin (v := .bool y38_1.isNone) (og rfl id) (oc rfl) (OQ.case (P := fun v b => binV _ .eql 32 v (.pointer none) = some (.bool b)) f38_1 (by first | rfl | kernel_rfl) (fun _ => by first | rfl | kernel_rfl))) (gr rfl (r_pickb (ot rfl) (og rfl id) (oc rfl)) (go_nil ?_)))))))))
     obtain ⟨s43, hF, hK43⟩ := obind hF
     refine go_joinc (β := List Blk × List Blk) (fun s h' => OQ (ORindex_Work_2 b8_w0 b7_w0 b8_w0_1 b8_w0_3) h' s.1 s43.1 ∧ Zindex_Index h' b8_w0 b8_w0_1 b7_w0 b8_w0_3 s.2 s43.2.1 s43.2.2.1 s43.2.2.2) (fun s => [(0, true, .slice a0_0 p0.length c0_0), (2, true, .slice a2_0 p2.length c2_0), (6, true, .bool false), (7, true, .bool true), (8, true, pt b8_w0), (9, true, .int .i64 x10), (10, true, ptO (hdq s.1)), (11, true, ptO (hdq a38_2)), (12, true, .int .i64 (i38 : Int)), (65, true, .int .i64 (i38 : Int)), (66, true, .slice a0_0 p0.length c0_0), (67, true, .int .i64 (p0.length : Int)), (68, true, .bool true), (71, true, .slice a0_0 p0.length c0_0), (72, true, .int .i64 (i38 : Int)), (73, true, .pointer (some q41)), (74, true, .pointer (some ⟨q41.block, q41.off + 0, q41.spot⟩)), (75, true, .int .i64 z38.Rev), (76, true, .int .i64 x10), (77, true, .bool (decide (z38.Rev > x10))), (78, true, .bool (decide (z38.Rev > x10))), (81, true, .bool (bif (decide (z38.Rev > x10)) then y38_1.isNone else false))]) (fun s => (List.flatten [a38_2, s.1, s.2] : List Blk)) ?_ (fun J43 => ?_)
     ·
      rintro ⟨a43_0, a43_1⟩ h43 e43 w43 ⟨f43_0, f43_1⟩
      try dsimp only at f43_0 f43_1
      replace hF := hK43
      refine go_seq (go_region (gM rfl rfl (gM rfl rfl (gM rfl rfl ?_))))
      obtain ⟨q44, row44, i44, cl44, rc44, sp44⟩ := ix (ik := .i64) (cap := c0_0) (E := EE) ((((((f0_0.ext e7.kn).ext e8.kn).ext e14.kn).ext e15.kn).ext e38.kn).ext e43.kn) ((getI_nat _ _).trans hx38) ut_22 sz_36 rfl
      obtain rfl := rc44
      refine gr rfl (r_ia (ot rfl) (ot rfl) i44) (gr rfl (r_load (ot rfl) (v := .agg #[.int .i64 z38.Rev, .string z38.Key, .string z38.Val, .bool z38.Del]) (lo_e (fun hf kn => ld_of (r := [.int .i64 z38.Rev, .string z38.Key, .string z38.Val, .bool z38.Del]) ag_36 sz_36 (kn.cellsAt cl44)))) ?_)
      obtain ⟨x45, hx45, hF⟩ := obind hF
      refine kcX EE_fr w43 (.cons (.s (.s (.z))) .nil) rfl of (ops_t rfl (ops_t rfl os0)) hb_25 (s_index_Index_Put n w43 s43.2.1 s43.2.2.1 s43.2.2.2 z38 f43_1 hx45) ?_
      rintro _ _ h45 e45 w45 ⟨z45_y0, b45_w0, z45_w0, rfl, rfl, f45_0, f45_1⟩
      simp only [ca_, na_]
      refine gA rfl rfl (go_nil (go_seq (go_region (gM rfl rfl (gM rfl rfl (gM rfl rfl ?_))))))
      obtain ⟨q46, row46, i46, cl46, rc46, sp46⟩ := ix (ik := .i64) (cap := c0_0) (E := EE) (((((((f0_0.ext e7.kn).ext e8.kn).ext e14.kn).ext e15.kn).ext e38.kn).ext e43.kn).ext e45.kn) ((getI_nat _ _).trans hx38) ut_22 sz_36 rfl
      obtain rfl := rc46
      refine gr rfl (r_ia (ot rfl) (ot rfl) i46) (gr rfl (r_load (ot rfl) (v := .agg #[.int .i64 z38.Rev, .string z38.Key, .string z38.Val, .bool z38.Del]) (lo_e (fun hf kn => ld_of (r := [.int .i64 z38.Rev, .string z38.Key, .string z38.Val, .bool z38.Del]) ag_36 sz_36 (kn.cellsAt cl46)))) ?_)
      obtain ⟨x47, hx47, hF⟩ := obind hF
      refine kcX EE_fr w45 (.cons .z .nil) rfl of (ops_t rfl (ops_t rfl os0)) hb_25 (s_index_Index_Put n w45 x45.2.1 x45.2.2.1 x45.2.2.2 z38 f45_0 hx47) ?_
      rintro _ _ h47 e47 w47 ⟨z47_y0, b47_w0, z47_w0, rfl, rfl, f47_0, f47_1⟩
      simp only [ca_, na_]
      refine gA rfl rfl (go_nil (go_seq (go_seq (go_region (gAc rfl rfl (go_nil ?_))))))
      obtain ⟨s48, hF, hK48⟩ := obind hF
      refine go_joinc (β := List Blk × List Blk × List Blk × List Blk) (fun s h' => Zindex_Index h' b8_w0 b8_w0_1 b7_w0 b8_w0_3 s.1 s48.2.2.2.2.2.1.1 s48.2.2.2.2.2.1.2.1 s48.2.2.2.2.2.1.2.2 ∧ Zindex_Work_2 h' b8_w0 b7_w0 b8_w0_1 b8_w0_3 b47_w0 s.2.1 s48.2.2.2.2.2.2.1 ∧ Zindex_Work_2 h' b8_w0 b7_w0 b8_w0_1 b8_w0_3 b45_w0 s.2.2.1 s48.2.2.2.2.2.2.2.1 ∧ OQ (ORindex_Work_2 b8_w0 b7_w0 b8_w0_1 b8_w0_3) h' s.2.2.2 s48.2.2.2.2.2.2.2.2) (fun s => [(0, true, .slice a0_0 p0.length c0_0), (2, true, .slice a2_0 p2.length c2_0), (6, true, .bool false), (7, true, .bool true), (8, true, pt b8_w0), (9, true, .int .i64 x10), (10, true, ptO (hdq s.2.2.2)), (11, true, ptO (hdq a38_2)), (12, true, .int .i64 (i38 : Int)), (13, true, pt b45_w0), (14, true, pt b47_w0), (15, true, .int .i64 s48.1), (65, true, .int .i64 (i38 : Int)), (66, true, .slice a0_0 p0.length c0_0), (67, true, .int .i64 (p0.length : Int)), (68, true, .bool true), (71, true, .slice a0_0 p0.length c0_0), (72, true, .int .i64 (i38 : Int)), (73, true, .pointer (some q41)), (74, true, .pointer (some ⟨q41.block, q41.off + 0, q41.spot⟩)), (75, true, .int .i64 z38.Rev), (76, true, .int .i64 x10), (77, true, .bool (decide (z38.Rev > x10))), (78, true, .bool (decide (z38.Rev > x10))), (81, true, .bool (bif (decide (z38.Rev > x10)) then y38_1.isNone else false)), (86, true, pt b8_w0), (87, true, .slice a0_0 p0.length c0_0), (88, true, .int .i64 (i38 : Int)), (89, true, .pointer (some q44)), (90, true, .agg #[.int .i64 z38.Rev, .string z38.Key, .string z38.Val, .bool z38.Del]), (91, true, pt b45_w0), (92, true, pt b8_w0), (93, true, .slice a0_0 p0.length c0_0), (94, true, .int .i64 (i38 : Int)), (95, true, .pointer (some q46)), (96, true, .agg #[.int .i64 z38.Rev, .string z38.Key, .string z38.Val, .bool z38.Del]), (97, true, pt b47_w0), (98, true, .int .i64 s48.2.1), (99, true, .slice a2_0 p2.length c2_0), (100, true, .int .i64 (p2.length : Int)), (101, true, .bool s48.2.2.1), (102, true, .bool s48.2.2.2.1), (105, true, .bool s48.2.2.2.2.1)]) (fun s => (List.flatten [s.1, s.2.1, s.2.2.1, a38_2, s.2.2.2] : List Blk)) ?_ (fun J48 => ?_)
      ·
       rintro ⟨a48_0, a48_1, a48_2, a48_3⟩ h48 e48 w48 ⟨f48_5, f48_6, f48_7, f48_8⟩
       try dsimp only at f48_5 f48_6 f48_7 f48_8
       replace hF := hK48
       refine go_seq (go_region (gM rfl rfl ?_))
       obtain ⟨x49, hx49, hF⟩ := obind hF
       refine kcX EE_fr w48 (.cons .z (.cons (.s (.z)) .nil)) rfl of (ops_t rfl os0) hb_14 (s_index_Run n w48 s48.2.2.2.2.2.1.1 s48.2.2.2.2.2.1.2.1 s48.2.2.2.2.2.1.2.2 s48.2.2.2.2.2.2.2.1 f48_5 f48_7 hx49) ?_
       rintro _ _ h49 e49 w49 ⟨z49_y0, z49_y1, rfl, rfl, f49_0, f49_1⟩
       simp only [ca_, na_]
       refine go_nil (go_seq (go_region (gM rfl rfl ?_)))
       obtain ⟨x50, hx50, hF⟩ := obind hF
       obtain ⟨bo50, ho50, yo50⟩ := OQ.get (((((f38_2.ext e43.kn).ext e45.kn).ext e47.kn).ext e48.kn).ext e49.kn) hx50
       replace yo50 : Zindex_Work_2 h49 b8_w0 b7_w0 b8_w0_1 b8_w0_3 bo50 a38_2 x50 := yo50
       rw [ho50]
       obtain ⟨x51, hx51, hF⟩ := obind hF
       refine kcX EE_fr w49 (.cons .z (.cons (.s (.s (.z))) .nil)) rfl of (ops_t rfl os0) hb_21 (s_index_Work_Step n w49 x49.1 x49.2.1 x49.2.2.1 x50 f49_0 yo50 hx51) ?_
       rintro _ _ h51 e51 w51 ⟨z51_y0, z51_y1, rfl, rfl, f51_0, f51_1⟩
       simp only [ca_, na_]
       refine go_nil (go_region (gM rfl rfl (gA rfl rfl (go_nil (go_endb (go_region (gM rfl rfl (gr rfl (r_bin (ot rfl) (oc rfl) rfl) (gA rfl rfl (go_nil (gs_pack (fun s => OQ (ORindex_Work_2 b8_w0 b7_w0 b8_w0_1 b8_w0_3) h51 s (some s48.2.2.2.2.2.2.1) ∧ hdq s = some b47_w0) (.cons (.s (.s (.s (.z)))) .nil) (by simp only [List.flatten_cons, List.flatten_nil, List.append_nil]; exact ⟨OQ.mks ((f48_6.ext e49.kn).ext e51.kn).hd ((f48_6.ext e49.kn).ext e51.kn), ((f48_6.ext e49.kn).ext e51.kn).hd⟩) fun z52o y52o => ?_)))))))))))
       obtain ⟨y52o, hq52o⟩ := y52o
       refine go_re 11 (v2 := ptO (hdq z52o)) rfl (by rw [hq52o] <;> rfl) (gs_sub (.cons_cons _ (.cons_cons _ (.cons _ (.cons _ (.cons_cons _ (.refl _)))))) (gs_perm (perm_of (d := []) _ [0, 2, 1] rfl) (go_re 12 (v2 := .int .i64 ((i38 + 1 : Nat) : Int)) rfl (wrap_succ hi38 hb38) ?_)))
       exact Goes.weak (ih38 (r38, i38 + 1, (x51.2.1, x51.2.2.1, x51.2.2.2.1), s48.2.2.2.2.2.2.2.2, (some s48.2.2.2.2.2.2.1), z51_y0, a48_3, z52o, h51) ⟨hr38, (e38.trans (e43.trans (e45.trans (e47.trans (e48.trans (e49.trans e51)))))), w51, hF, f51_0, ((f48_8.ext e49.kn).ext e51.kn), y52o⟩ (Nat.lt_succ_self _)) (Sub8 (Sub.cons (Sub.nil _) rfl) rfl rfl rfl rfl rfl rfl rfl rfl)
      ·
       refine go_block ?_
       refine go_loop (α := (List Bool) × Nat × ((Option Oindex_Work_2)) × (Oindex_Work_2) × (Obst_Tree × Omem_Mem × Ochain_Store) × (Oindex_Work_2) × List Blk × List Blk × List Blk × List Blk × Heap) (fun a => a.1 = List.drop a.2.1 p2 ∧ HExt h47 a.2.2.2.2.2.2.2.2.2.2 ∧ Wf a.2.2.2.2.2.2.2.2.2.2 ∧ F_law19_IndexMany_L2 n a.1 a.2.1 a.2.2.1 a.2.2.2.1 a.2.2.2.2.1 a.2.2.2.2.2.1 = some s48 ∧ OQ (ORindex_Work_2 b8_w0 b7_w0 b8_w0_1 b8_w0_3) a.2.2.2.2.2.2.2.2.2.2 a.2.2.2.2.2.2.1 a.2.2.1 ∧ Zindex_Work_2 a.2.2.2.2.2.2.2.2.2.2 b8_w0 b7_w0 b8_w0_1 b8_w0_3 b45_w0 a.2.2.2.2.2.2.2.1 a.2.2.2.1 ∧ Zindex_Index a.2.2.2.2.2.2.2.2.2.2 b8_w0 b8_w0_1 b7_w0 b8_w0_3 a.2.2.2.2.2.2.2.2.1 a.2.2.2.2.1.1 a.2.2.2.2.1.2.1 a.2.2.2.2.1.2.2 ∧ Zindex_Work_2 a.2.2.2.2.2.2.2.2.2.2 b8_w0 b7_w0 b8_w0_1 b8_w0_3 b47_w0 a.2.2.2.2.2.2.2.2.2.1 a.2.2.2.2.2.1) (fun a => a.1.length) (fun a => [(0, true, .slice a0_0 p0.length c0_0), (2, true, .slice a2_0 p2.length c2_0), (6, true, .bool false), (7, true, .bool true), (8, true, pt b8_w0), (9, true, .int .i64 x10), (10, true, ptO (hdq a.2.2.2.2.2.2.1)), (11, true, ptO (hdq a38_2)), (12, true, .int .i64 (i38 : Int)), (13, true, pt b45_w0), (14, true, pt b47_w0), (15, true, .int .i64 (a.2.1 : Int)), (65, true, .int .i64 (i38 : Int)), (66, true, .slice a0_0 p0.length c0_0), (67, true, .int .i64 (p0.length : Int)), (68, true, .bool true), (71, true, .slice a0_0 p0.length c0_0), (72, true, .int .i64 (i38 : Int)), (73, true, .pointer (some q41)), (74, true, .pointer (some ⟨q41.block, q41.off + 0, q41.spot⟩)), (75, true, .int .i64 z38.Rev), (76, true, .int .i64 x10), (77, true, .bool (decide (z38.Rev > x10))), (78, true, .bool (decide (z38.Rev > x10))), (81, true, .bool (bif (decide (z38.Rev > x10)) then y38_1.isNone else false)), (86, true, pt b8_w0), (87, true, .slice a0_0 p0.length c0_0), (88, true, .int .i64 (i38 : Int)), (89, true, .pointer (some q44)), (90, true, .agg #[.int .i64 z38.Rev, .string z38.Key, .string z38.Val, .bool z38.Del]), (91, true, pt b45_w0), (92, true, pt b8_w0), (93, true, .slice a0_0 p0.length c0_0), (94, true, .int .i64 (i38 : Int)), (95, true, .pointer (some q46)), (96, true, .agg #[.int .i64 z38.Rev, .string z38.Key, .string z38.Val, .bool z38.Del]), (97, true, pt b47_w0)]) (fun a => (List.flatten [a.2.2.2.2.2.2.2.2.1, a.2.2.2.2.2.2.2.2.2.1, a.2.2.2.2.2.2.2.1, a38_2, a.2.2.2.2.2.2.1] : List Blk)) (fun a => a.2.2.2.2.2.2.2.2.2.2) ?_ (p2, 0, s43.1, x45.1, (x47.2.1, x47.2.2.1, x47.2.2.2), x47.1, a43_0, z45_w0, z47_y0, z47_w0, h47) ⟨rfl, HExt.refl _, w47, hF, ((f43_0.ext e45.kn).ext e47.kn), (f45_1.ext e47.kn), f47_0, f47_1⟩ (Sub8 (Sub8 (Sub8 (Sub8 (Sub.cons (Sub.cons (Sub.cons (Sub.cons (Sub.cons (Sub.nil _) rfl) rfl) rfl) rfl) rfl) rfl rfl rfl rfl rfl rfl rfl rfl) rfl rfl rfl rfl rfl rfl rfl rfl) rfl rfl rfl rfl rfl rfl rfl rfl) rfl rfl rfl rfl rfl rfl rfl rfl) rfl rfl
       rintro ⟨r53, i53, y53_0, y53_1, y53_2, y53_3, a53_0, a53_1, a53_2, a53_3, h53⟩ ⟨hr53, e53, w53, hF, f53_0, f53_1, f53_2, f53_3⟩ ih53
       try dsimp only at f53_0 f53_1 f53_2 f53_3
       rcases r53 with _ | ⟨z53, r53⟩
       ·
        have hi53 := drop_nil hr53
        rw [F_law19_IndexMany_L2.eq_1] at hF
        refine go_seq (go_seq (go_region (gM rfl rfl (gM rfl rfl (gr rfl (r_len rfl (os1 (ot rfl) os0) (fun _ _ => ln_49)) (gr rfl (r_bin (ot rfl) (ot rfl) rfl) (go_cast (.bool false) (congrArg Value.bool (decide_eq_false hi53)) (gM rfl rfl (g_no rfl rfl rfl rfl rfl (g_no rfl rfl rfl rfl rfl (gr rfl (r_pkF (ot rfl) (oc rfl)) (go_nil ?_))))))))))))
        refine g_cond (b := false) (ot rfl) (fun hc54 => ?_) (fun hc54 => ?_)
        ·
         cases hc54
        refine go_exit rfl ?_
        obtain rfl := someI hF
        exact Goes.weak (J48 (a53_2, a53_3, a53_1, a53_0) _ e53 w53 ⟨f53_2, f53_3, f53_1, f53_0⟩) (Sub8 (Sub8 (Sub8 (Sub8 (Sub8 (Sub.cons (Sub.cons (Sub.cons (Sub.nil _) rfl) rfl) rfl) rfl rfl rfl rfl rfl rfl rfl rfl) rfl rfl rfl rfl rfl rfl rfl rfl) rfl rfl rfl rfl rfl rfl rfl rfl) rfl rfl rfl rfl rfl rfl rfl rfl) rfl rfl rfl rfl rfl rfl rfl rfl)
       ·
        obtain ⟨hi53, hx53, hr53⟩ := drop_cons hr53
        have hb53 := (((((((((f2_0.ext e7.kn).ext e8.kn).ext e14.kn).ext e15.kn).ext e38.kn).ext e43.kn).ext e45.kn).ext e47.kn).ext e53.kn).1
        rw [F_law19_IndexMany_L2.eq_2] at hF
        refine go_seq (go_seq (go_region (gM rfl rfl (gM rfl rfl (gr rfl (r_len rfl (os1 (ot rfl) os0) (fun _ _ => ln_49)) (gr rfl (r_bin (ot rfl) (ot rfl) rfl) (go_cast (.bool true) (congrArg Value.bool (decide_eq_true (Int.ofNat_lt.mpr hi53))) (gM rfl rfl (g_do rfl rfl rfl (gM rfl rfl (g_do rfl rfl rfl (gr rfl (r_bin (ot rfl) (oc rfl) rfl) (gr rfl (r_pkT (ot rfl) (ot rfl)) (go_nil ?_))))))))))))))
        refine g_cond (b := (decide ((i53 : Int) < 40))) (ot rfl) (fun hc55 => ?_) (fun hc55 => ?_)
        ·
         replace hF := ifT hc55 hF
         refine go_skip (go_seq ?_)
         obtain ⟨s56, hF, hK56⟩ := obind hF
         refine go_joinc (β := List Blk × List Blk × List Blk × List Blk) (fun s h' => Zindex_Index h' b8_w0 b8_w0_1 b7_w0 b8_w0_3 s.1 s56.1.1 s56.1.2.1 s56.1.2.2 ∧ Zindex_Work_2 h' b8_w0 b7_w0 b8_w0_1 b8_w0_3 b47_w0 s.2.1 s56.2.1 ∧ Zindex_Work_2 h' b8_w0 b7_w0 b8_w0_1 b8_w0_3 b45_w0 s.2.2.1 s56.2.2.1 ∧ OQ (ORindex_Work_2 b8_w0 b7_w0 b8_w0_1 b8_w0_3) h' s.2.2.2 s56.2.2.2) (fun s => [(0, true, .slice a0_0 p0.length c0_0), (2, true, .slice a2_0 p2.length c2_0), (6, true, .bool false), (7, true, .bool true), (8, true, pt b8_w0), (9, true, .int .i64 x10), (10, true, ptO (hdq s.2.2.2)), (11, true, ptO (hdq a38_2)), (12, true, .int .i64 (i38 : Int)), (13, true, pt b45_w0), (14, true, pt b47_w0), (15, true, .int .i64 (i53 : Int)), (65, true, .int .i64 (i38 : Int)), (66, true, .slice a0_0 p0.length c0_0), (67, true, .int .i64 (p0.length : Int)), (68, true, .bool true), (71, true, .slice a0_0 p0.length c0_0), (72, true, .int .i64 (i38 : Int)), (73, true, .pointer (some q41)), (74, true, .pointer (some ⟨q41.block, q41.off + 0, q41.spot⟩)), (75, true, .int .i64 z38.Rev), (76, true, .int .i64 x10), (77, true, .bool (decide (z38.Rev > x10))), (78, true, .bool (decide (z38.Rev > x10))), (81, true, .bool (bif (decide (z38.Rev > x10)) then y38_1.isNone else false)), (86, true, pt b8_w0), (87, true, .slice a0_0 p0.length c0_0), (88, true, .int .i64 (i38 : Int)), (89, true, .pointer (some q44)), (90, true, .agg #[.int .i64 z38.Rev, .string z38.Key, .string z38.Val, .bool z38.Del]), (91, true, pt b45_w0), (92, true, pt b8_w0), (93, true, .slice a0_0 p0.length c0_0), (94, true, .int .i64 (i38 : Int)), (95, true, .pointer (some q46)), (96, true, .agg #[.int .i64 z38.Rev, .string z38.Key, .string z38.Val, .bool z38.Del]), (97, true, pt b47_w0), (98, true, .int .i64 (i53 : Int)), (99, true, .slice a2_0 p2.length c2_0), (100, true, .int .i64 (p2.length : Int)), (101, true, .bool true), (102, true, .bool true), (103, true, .int .i64 (i53 : Int)), (104, true, .bool (decide ((i53 : Int) < 40))), (105, true, .bool (decide ((i53 : Int) < 40))), (108, true, .slice a2_0 p2.length c2_0), (109, true, .int .i64 (i53 : Int)), (111, true, .bool z53)]) (fun s => (List.flatten [s.1, s.2.1, s.2.2.1, a38_2, s.2.2.2] : List Blk)) ?_ (fun J56 => ?_)
         ·
          rintro ⟨a56_0, a56_1, a56_2, a56_3⟩ h56 e56 w56 ⟨f56_0, f56_1, f56_2, f56_3⟩
          try dsimp only at f56_0 f56_1 f56_2 f56_3
          replace hF := hK56
          refine go_region (gM rfl rfl (gr rfl (r_bin (ot rfl) (oc rfl) rfl) (gA rfl rfl (go_nil (go_re 15 (v2 := .int .i64 ((i53 + 1 : Nat) : Int)) rfl (wrap_succ hi53 hb53) ?_)))))
          exact Goes.weak (ih53 (r53, i53 + 1, s56.2.2.2, s56.2.2.1, (s56.1.1, s56.1.2.1, s56.1.2.2), s56.2.1, a56_3, a56_2, a56_0, a56_1, h56) ⟨hr53, (e53.trans e56), w56, hF, f56_3, f56_2, f56_0, f56_1⟩ (Nat.lt_succ_self _)) (Sub8 (Sub8 (Sub8 (Sub8 (Sub.cons (Sub.cons (Sub.cons (Sub.cons (Sub.cons (Sub.nil _) rfl) rfl) rfl) rfl) rfl) rfl rfl rfl rfl rfl rfl rfl rfl) rfl rfl rfl rfl rfl rfl rfl rfl) rfl rfl rfl rfl rfl rfl rfl rfl) rfl rfl rfl rfl rfl rfl rfl rfl)
         ·
          refine go_block (go_seq (go_seq (go_region (gM rfl rfl (gM rfl rfl ?_)))))
          obtain ⟨q57, row57, i57, cl57, rc57, sp57⟩ := ix (ik := .i64) (cap := c2_0) (E := EE) (((((((((f2_0.ext e7.kn).ext e8.kn).ext e14.kn).ext e15.kn).ext e38.kn).ext e43.kn).ext e45.kn).ext e47.kn).ext e53.kn) ((getI_nat _ _).trans hx53) ut_49 sz_4 rfl
          obtain rfl := rc57
          refine gr rfl (r_ia (ot rfl) (ot rfl) i57) (gr rfl (r_load (ot rfl) (v := .bool z53) (lo_e (fun hf kn => ld_one ag_4 (kn.cellsAt cl57)))) (go_nil ?_))
          obtain ⟨s59, hF, hK59⟩ := obind hF
          refine go_joinc (β := List Blk × List Blk × List Blk) (fun s h' => Zindex_Index h' b8_w0 b8_w0_1 b7_w0 b8_w0_3 s.1 s59.1.1 s59.1.2.1 s59.1.2.2 ∧ Zindex_Work_2 h' b8_w0 b7_w0 b8_w0_1 b8_w0_3 b47_w0 s.2.1 s59.2.1 ∧ Zindex_Work_2 h' b8_w0 b7_w0 b8_w0_1 b8_w0_3 b45_w0 s.2.2 s59.2.2) (fun s => [(0, true, .slice a0_0 p0.length c0_0), (2, true, .slice a2_0 p2.length c2_0), (6, true, .bool false), (7, true, .bool true), (8, true, pt b8_w0), (9, true, .int .i64 x10), (10, true, ptO (hdq a53_0)), (11, true, ptO (hdq a38_2)), (12, true, .int .i64 (i38 : Int)), (13, true, pt b45_w0), (14, true, pt b47_w0), (15, true, .int .i64 (i53 : Int)), (65, true, .int .i64 (i38 : Int)), (66, true, .slice a0_0 p0.length c0_0), (67, true, .int .i64 (p0.length : Int)), (68, true, .bool true), (71, true, .slice a0_0 p0.length c0_0), (72, true, .int .i64 (i38 : Int)), (73, true, .pointer (some q41)), (74, true, .pointer (some ⟨q41.block, q41.off + 0, q41.spot⟩)), (75, true, .int .i64 z38.Rev), (76, true, .int .i64 x10), (77, true, .bool (decide (z38.Rev > x10))), (78, true, .bool (decide (z38.Rev > x10))), (81, true, .bool (bif (decide (z38.Rev > x10)) then y38_1.isNone else false)), (86, true, pt b8_w0), (87, true, .slice a0_0 p0.length c0_0), (88, true, .int .i64 (i38 : Int)), (89, true, .pointer (some q44)), (90, true, .agg #[.int .i64 z38.Rev, .string z38.Key, .string z38.Val, .bool z38.Del]), (91, true, pt b45_w0), (92, true, pt b8_w0), (93, true, .slice a0_0 p0.length c0_0), (94, true, .int .i64 (i38 : Int)), (95, true, .pointer (some q46)), (96, true, .agg #[.int .i64 z38.Rev, .string z38.Key, .string z38.Val, .bool z38.Del]), (97, true, pt b47_w0), (98, true, .int .i64 (i53 : Int)), (99, true, .slice a2_0 p2.length c2_0), (100, true, .int .i64 (p2.length : Int)), (101, true, .bool true), (102, true, .bool true), (103, true, .int .i64 (i53 : Int)), (104, true, .bool (decide ((i53 : Int) < 40))), (105, true, .bool (decide ((i53 : Int) < 40))), (108, true, .slice a2_0 p2.length c2_0), (109, true, .int .i64 (i53 : Int)), (110, true, .pointer (some q57)), (111, true, .bool z53)]) (fun s => (List.flatten [s.1, s.2.1, s.2.2, a38_2, a53_0] : List Blk)) ?_ (fun J59 => ?_)
          ·
           rintro ⟨a59_0, a59_1, a59_2⟩ h59 e59 w59 ⟨f59_0, f59_1, f59_2⟩
           try dsimp only at f59_0 f59_1 f59_2
           replace hF := hK59
           refine go_region (gM rfl rfl ?_)
           cases hx60 : y53_0 with
           | none =>
            rw [hx60] at hF
            dsimp only at hF
            have hF60_ := hF
            obtain rfl := OQ.no (f53_0.ext e59.kn) hx60
            replace hF := hF60_
            refine gs_sub (.cons_cons _ (.cons_cons _ (.cons_cons _ (.cons_cons _ (.cons _ (.refl _)))))) ?_
            obtain ⟨x61, hx61, hF⟩ := obind hF
            refine kcX EE_fr w59 (.cons .z .nil) rfl of (ops_t rfl os0) hb_21 (s_index_Work_Step_nil w59 s59.1.1 s59.1.2.1 s59.1.2.2 f59_0 hx61) ?_
            rintro _ _ h61 e61 w61 ⟨z61_y0, rfl, rfl, f61_0⟩
            simp only [ca_, na_]
            refine go_nil (go_endb (gs_pack (fun s => OQ (ORindex_Work_2 b8_w0 b7_w0 b8_w0_1 b8_w0_3) h61 s none) .nil OQ.mk0 fun z62o y62o => (go_re 10 (v2 := ptO (hdq z62o)) rfl (by rw [OQ.no y62o rfl] <;> rfl) ?_)))
            obtain rfl := someI hF
            refine gs_perm (perm_of (d := []) _ [1, 2, 3, 4, 0] rfl) ?_
            exact Goes.weak (J56 (z61_y0, a59_1, a59_2, z62o) _ (e59.trans e61) w61 ⟨f61_0, (f59_1.ext e61.kn), (f59_2.ext e61.kn), y62o⟩) (Sub8 (Sub8 (Sub8 (Sub8 (Sub8 (Sub8 (Sub.nil _) rfl rfl rfl rfl rfl rfl rfl rfl) rfl rfl rfl rfl rfl rfl rfl rfl) rfl rfl rfl rfl rfl rfl rfl rfl) rfl rfl rfl rfl rfl rfl rfl rfl) rfl rfl rfl rfl rfl rfl rfl rfl) rfl rfl rfl rfl rfl rfl rfl rfl)
           | some x60 =>
            rw [hx60] at hF
            dsimp only at hF
            obtain ⟨bo60, ho60, yo60⟩ := OQ.get (f53_0.ext e59.kn) hx60
            replace yo60 : Zindex_Work_2 h59 b8_w0 b7_w0 b8_w0_1 b8_w0_3 bo60 a53_0 x60 := yo60
            rw [ho60]
            obtain ⟨x63, hx63, hF⟩ := obind hF
            refine kcX EE_fr w59 (.cons .z (.cons (.s (.s (.s (.z)))) .nil)) rfl of (ops_t rfl os0) hb_21 (s_index_Work_Step n w59 s59.1.1 s59.1.2.1 s59.1.2.2 x60 f59_0 yo60 hx63) ?_
            rintro _ _ h63 e63 w63 ⟨z63_y0, z63_y1, rfl, rfl, f63_0, f63_1⟩
            simp only [ca_, na_]
            refine go_nil (go_endb (gs_pack (fun s => OQ (ORindex_Work_2 b8_w0 b7_w0 b8_w0_1 b8_w0_3) h63 s (some x63.2.2.2.2) ∧ hdq s = some bo60) (.cons (.s (.z)) .nil) (by simp only [List.flatten_cons, List.flatten_nil, List.append_nil]; exact ⟨OQ.mks f63_1.hd f63_1, f63_1.hd⟩) fun z64o y64o => ?_))
            obtain ⟨y64o, hq64o⟩ := y64o
            refine go_re 10 (v2 := ptO (hdq z64o)) rfl (by rw [hq64o] <;> rfl) ?_
            obtain rfl := someI hF
            refine gs_perm (perm_of (d := []) _ [1, 2, 3, 4, 0] rfl) ?_
            exact Goes.weak (J56 (z63_y0, a59_1, a59_2, z64o) _ (e59.trans e63) w63 ⟨f63_0, (f59_1.ext e63.kn), (f59_2.ext e63.kn), y64o⟩) (Sub8 (Sub8 (Sub8 (Sub8 (Sub8 (Sub8 (Sub.nil _) rfl rfl rfl rfl rfl rfl rfl rfl) rfl rfl rfl rfl rfl rfl rfl rfl) rfl rfl rfl rfl rfl rfl rfl rfl) rfl rfl rfl rfl rfl rfl rfl rfl) rfl rfl rfl rfl rfl rfl rfl rfl) rfl rfl rfl rfl rfl rfl rfl rfl)
          ·
           refine g_cond (b := z53) (ot rfl) (fun hc58 => ?_) (fun hc58 => ?_)
           ·
            replace hF := ifT hc58 hF
            refine go_region (gM rfl rfl ?_)
            obtain ⟨x65, hx65, hF⟩ := obind hF
            refine kcX EE_fr w53 (.cons .z (.cons (.s (.z)) .nil)) rfl of (ops_t rfl os0) hb_21 (s_index_Work_Step n w53 y53_2.1 y53_2.2.1 y53_2.2.2 y53_1 f53_2 f53_1 hx65) ?_
            rintro _ _ h65 e65 w65 ⟨z65_y0, z65_y1, rfl, rfl, f65_0, f65_1⟩
            simp only [ca_, na_]
            refine go_nil ?_
            obtain rfl := someI hF
            refine gs_perm (perm_of (d := []) _ [0, 2, 1, 3, 4] rfl) ?_
            exact Goes.weak (J59 (z65_y0, a53_3, z65_y1) _ e65 w65 ⟨f65_0, (f53_3.ext e65.kn), f65_1⟩) (Sub8 (Sub8 (Sub8 (Sub8 (Sub8 (Sub8 (Sub.cons (Sub.nil _) rfl) rfl rfl rfl rfl rfl rfl rfl rfl) rfl rfl rfl rfl rfl rfl rfl rfl) rfl rfl rfl rfl rfl rfl rfl rfl) rfl rfl rfl rfl rfl rfl rfl rfl) rfl rfl rfl rfl rfl rfl rfl rfl) rfl rfl rfl rfl rfl rfl rfl rfl)
           ·
            replace hF := ifF hc58 hF
            refine go_region (gM rfl rfl ?_)
            obtain ⟨x66, hx66, hF⟩ := obind hF
            refine kcX EE_fr w53 (.cons .z (.cons .z .nil)) rfl of (ops_t rfl os0) hb_21 (s_index_Work_Step n w53 y53_2.1 y53_2.2.1 y53_2.2.2 y53_3 f53_2 f53_3 hx66) ?_
            rintro _ _ h66 e66 w66 ⟨z66_y0, z66_y1, rfl, rfl, f66_0, f66_1⟩
            simp only [ca_, na_]
            refine go_nil ?_
            obtain rfl := someI hF
            exact Goes.weak (J59 (z66_y0, z66_y1, a53_1) _ e66 w66 ⟨f66_0, f66_1, (f53_1.ext e66.kn)⟩) (Sub8 (Sub8 (Sub8 (Sub8 (Sub8 (Sub8 (Sub.cons (Sub.nil _) rfl) rfl rfl rfl rfl rfl rfl rfl rfl) rfl rfl rfl rfl rfl rfl rfl rfl) rfl rfl rfl rfl rfl rfl rfl rfl) rfl rfl rfl rfl rfl rfl rfl rfl) rfl rfl rfl rfl rfl rfl rfl rfl) rfl rfl rfl rfl rfl rfl rfl rfl)
        ·
         replace hF := ifF hc55 hF
         refine go_exit rfl ?_
         obtain rfl := someI hF
         exact Goes.weak (J48 (a53_2, a53_3, a53_1, a53_0) _ e53 w53 ⟨f53_2, f53_3, f53_1, f53_0⟩) (Sub8 (Sub8 (Sub8 (Sub8 (Sub8 (Sub.cons (Sub.cons (Sub.cons (Sub.nil _) rfl) rfl) rfl) rfl rfl rfl rfl rfl rfl rfl rfl) rfl rfl rfl rfl rfl rfl rfl rfl) rfl rfl rfl rfl rfl rfl rfl rfl) rfl rfl rfl rfl rfl rfl rfl rfl) rfl rfl rfl rfl rfl rfl rfl rfl)
     ·
      refine g_cond (b := (bif (decide (z38.Rev > x10)) then y38_1.isNone else false)) (ot rfl) (fun hc42 => ?_) (fun hc42 => ?_)
      ·
       replace hF := ifT hc42 hF
       refine go_region (gM rfl rfl (gr rfl (r_build op0 rfl) (gM rfl rfl ?_)))
       obtain ⟨x67, hx67, hF⟩ := obind hF
       refine kcX EE_fr w38 (.cons (.s (.s (.z))) .nil) rfl of (ops_t rfl (ops_t rfl (ops_t rfl os0))) hb_18 (s_index_Index_Walk n w38 y38_0.1 y38_0.2.1 y38_0.2.2 (⟨ByteArray.empty, ByteArray.empty⟩ : TRange) x10 f38_0 hx67) ?_
       rintro _ _ h67 e67 w67 ⟨z67_y0, b67_w0, z67_w0, rfl, rfl, f67_0, f67_1⟩
       simp only [ca_, na_]
       refine gA rfl rfl (go_nil (gs_sub (.cons_cons _ (.cons_cons _ (.cons_cons _ (.cons _ (.refl _))))) (gs_pack (fun s => OQ (ORindex_Work_2 b8_w0 b7_w0 b8_w0_1 b8_w0_3) h67 s (some x67.1) ∧ hdq s = some b67_w0) (.cons (.s (.z)) .nil) (by simp only [List.flatten_cons, List.flatten_nil, List.append_nil]; exact ⟨OQ.mks f67_1.hd f67_1, f67_1.hd⟩) fun z68o y68o => ?_)))
       obtain ⟨y68o, hq68o⟩ := y68o
       refine go_re 10 (v2 := ptO (hdq z68o)) rfl (by rw [hq68o] <;> rfl) ?_
       obtain rfl := someI hF
       refine gs_perm (perm_of (d := []) _ [2, 0, 1] rfl) ?_
       exact Goes.weak (J43 (z68o, z67_y0) _ e67 w67 ⟨y68o, f67_0⟩) (Sub8 (Sub8 (Sub.cons (Sub.cons (Sub.cons (Sub.cons (Sub.cons (Sub.cons (Sub.nil _) rfl) rfl) rfl) rfl) rfl) rfl) rfl rfl rfl rfl rfl rfl rfl rfl) rfl rfl rfl rfl rfl rfl rfl rfl)
      ·
       replace hF := ifF hc42 hF
       refine go_skip ?_
       obtain rfl := someI hF
       exact Goes.weak (J43 (a38_1, a38_0) _ (HExt.refl _) w38 ⟨f38_1, f38_0⟩) (Sub8 (Sub8 (Sub.cons (Sub.cons (Sub.cons (Sub.cons (Sub.cons (Sub.cons (Sub.nil _) rfl) rfl) rfl) rfl) rfl) rfl) rfl rfl rfl rfl rfl rfl rfl rfl) rfl rfl rfl rfl rfl rfl rfl rfl)
end Go.Proofs.YtndhbaidibioeaaGreat.V
