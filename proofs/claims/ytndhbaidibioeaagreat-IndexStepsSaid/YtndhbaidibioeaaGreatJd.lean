/- Walks.
   No condition: these are laws of the clean machine and of this program. -/
import Derived.Test.YtndhbaidibioeaaGreatJc
namespace Go.Proofs.YtndhbaidibioeaaGreat.V
open Go
set_option linter.unusedVariables false
set_option linter.unusedSimpArgs false
set_option maxRecDepth 100000
set_option maxHeartbeats 4000000
theorem s_mem_Mem_Count {h : Heap} (hw : Wf h) (p0 : Omem_Mem) {bp0 : Nat} {z0 : List Blk} (y0 : Zmem_Mem h bp0 z0 p0) {r : Int × Omem_Mem} (hF : F_mem_Mem_Count p0 = some r) :
 EvO EE 26 [pt bp0] [z0] h (fun v S h1 => ∃ zy0, v = .int .i64 r.1 ∧ S = [zy0] ∧ Zmem_Mem h1 bp0 zy0 r.2) := by
 unfold F_mem_Mem_Count at hF
 refine evo_of rfl at_26 rfl rfl ?_
 refine go_seq (go_region (gAc rfl rfl (go_nil (go_seq (go_seq (go_region (gM rfl rfl (gr rfl (r_bin (v := .bool false) (ot rfl) (oc rfl) (by first | rfl | kernel_rfl)) (go_nil ?_)))))))))
 refine g_cond (b := false) (ot rfl) (fun hc2 => ?_) (fun hc2 => ?_)
 ·
  cases hc2
 refine go_skip (go_seq (go_region (gM rfl rfl (gN rfl rfl (gF (fa_107_1 _ _) rfl rfl ?_)))))
 obtain ⟨q3z_0, t3z_0, rfl, f3z0⟩ := y0
 refine gs_unz ?_
 simp only [ca_, na_]
 refine gls 0 ag_3 rfl rfl rfl rfl (gA rfl rfl (go_nil (gs_pack (fun s => Zmem_Mem h bp0 s p0) (.cons .z (.cons .z .nil)) ⟨_, _, rfl, f3z0⟩ fun z4p y4p => ?_)))
 obtain rfl := someI hF
 exact g_retO (rst rfl rs0) (.cons .z .nil) (HExt.refl _) hw (nd1 y4p.nd nd0) ⟨_, rfl, rfl, y4p⟩
theorem s_law19_IndexSteps (n : Nat) {h : Heap} (hw : Wf h) (p0 : (List TEvent)) (p1 : TEvent) (p2 : (List Int)) {a0_0 : Option Addr} {c0_0 : Nat} {a2_0 : Option Addr} {c2_0 : Nat} (f0_0 : RL R_TEvent h a0_0 c0_0 p0) (f2_0 : RL (RI_ .u8 5) h a2_0 c2_0 p2) {r : Bool} (hF : F_law19_IndexSteps n p0 p1 p2 = some r) :
 Ev EE 7 [.slice a0_0 p0.length c0_0, .agg #[.int .i64 p1.Rev, .string p1.Key, .string p1.Val, .bool p1.Del], .slice a2_0 p2.length c2_0] h (fun v _ => v = .bool r) := by
 unfold F_law19_IndexSteps at hF
 refine ev_of hw rfl at_7 rfl rfl (go_seg0 ?_)
 refine go_seq (go_region (gs_box rfl (ot rfl) rfl (fun b4_4 => gAc rfl rfl (go_nil (go_seq (go_region (g_callp EE_fr rfl of os0 hb_9 (fun _ => rfl) (fun hf kn w => by exact known_evp rfl hf w) (gA rfl rfl (go_nil (go_seq (go_seq (go_region (gM rfl rfl ?_)))))))))))))
 obtain ⟨x6, hx6, hF⟩ := obind hF
 refine g_callp (v := .bool x6) EE_fr rfl of (os1 (ot rfl) os0) hb_10 (fun _ => rfl) (fun hf kn w => by exact s_law19_few n w p0 (f0_0.ext kn) hx6) (gr rfl (r_un (ot rfl) rfl) (go_nil ?_))
 refine g_cond (b := (!x6)) (ot rfl) (fun hc7 => ?_) (fun hc7 => ?_)
 ·
  replace hF := ifT hc7 hF
  refine go_seq (go_region (gM rfl rfl (gA rfl rfl (go_nil ?_))))
  obtain rfl := someI hF
  exact g_ret (rst rfl rs0) (fun h1 hf hs => ⟨hs.hext, rfl⟩)
 ·
  replace hF := ifF hc7 hF
  refine go_skip (go_seq (go_region ?_))
  obtain ⟨x8, hx8, hF⟩ := obind hF
  refine kcX EE_fr hw .nil rfl of (ops_c rfl os0) hb_24 (s_mem_New_nil hw   hx8) ?_
  rintro _ _ h8 e8 w8 ⟨b8_w0, z8_w0, rfl, rfl, f8_0⟩
  simp only [ca_, na_]
  refine gA rfl rfl (go_nil (go_seq (go_region (gM rfl rfl ?_))))
  obtain ⟨x9, hx9, hF⟩ := obind hF
  refine kcX EE_fr w8 (.cons .z .nil) rfl of (ops_t rfl os0) hb_23 (s_index_New w8 x8 f8_0 hx9) ?_
  rintro _ _ h9 e9 w9 ⟨b9_w0, b9_w0_1, b9_w0_3, z9_w0, rfl, rfl, f9_0⟩
  simp only [ca_, na_]
  refine gA rfl rfl (go_nil (go_seq (go_seq (go_region (gAc rfl rfl (go_nil ?_))))))
  obtain ⟨s10, hF, hK10⟩ := obind hF
  refine go_joinc (β := List Blk) (fun s h' => Zindex_Index h' b9_w0 b9_w0_1 b8_w0 b9_w0_3 s s10.1 s10.2.1 s10.2.2) (fun s => [(2, true, .slice a2_0 p2.length c2_0), (4, true, pt b4_4), (6, true, .bool false), (7, true, .bool true), (8, true, pt b8_w0), (9, true, pt b9_w0)]) (fun s => (List.flatten [s, [⟨b4_4, .cells [.int .i64 p1.Rev, .string p1.Key, .string p1.Val, .bool p1.Del] 36⟩]] : List Blk)) ?_ (fun J10 => ?_)
  ·
   rintro a10_0 h10 e10 w10 f10_0
   try dsimp only at f10_0
   replace hF := hK10
   refine go_seq (go_regA1 (L := [(0, []), (1, [])] ++ sq 3 3 ++ [(7, []), (8, [])] ++ sq 10 3 ++ [(2, [5, 12]), (6, [12]), (9, [12])] ++ sq 13 3) (by kernel_rfl) (by kernel_rfl) (fun _ => rfl) (fun b52_11 => go_sop rfl rfl (gM rfl rfl (go_nil (go_sop rfl rfl (glw 2 ag_36 sz_36 rfl rfl rfl rfl (go_nil (go_sop rfl rfl (gM rfl rfl (go_nil (go_sop rfl rfl (gF (fa_36_1 _ _) rfl rfl (go_nil (go_sop rfl rfl (gls 2 ag_9 rfl rfl rfl rfl (go_nil (go_sop rfl rfl (gM rfl rfl (go_nil (go_sop rfl rfl (gr rfl (r_build op0 rfl) (go_nil (go_sop rfl rfl ?_)))))))))))))))))))))))
   refine gM rfl rfl (go_nil (go_sop rfl rfl (gF (fa_36_1 _ _) rfl rfl (go_nil (go_sop rfl rfl (gls 2 ag_9 rfl rfl rfl rfl (go_nil (go_sopc [(5, .string p1.Key), (12, .string p1.Key)] rfl rfl rfl (rc1 rfl (r_load (ot rfl) (lm_s (mem_seg 2 rfl) ag_9 rfl)) (rc1 rfl (r_load (ot rfl) (lm_s (mem_seg 2 rfl) ag_9 rfl)) rc0)) (vq1 (veq_str _ _) (vq1 (veq_str _ _) vq0)) rfl ?_))))))))
   obtain ⟨x12, hx12, hF⟩ := obind hF
   refine kcX EE_fr w10 (.cons (.s (.z)) .nil) rfl of (ops_t rfl (ops_t rfl os0)) hb_25 (s_index_Index_Put n w10 s10.1 s10.2.1 s10.2.2 p1 f10_0 hx12) ?_
   rintro _ _ h12 e12 w12 ⟨z12_y0, b12_w0, z12_w0, rfl, rfl, f12_0, f12_1⟩
   simp only [ca_, na_]
   refine go_nil (go_rck (rcs 3 ag_9 rfl rfl rfl rfl (rcs 3 ag_9 rfl rfl rfl rfl rc0)) (go_sopc [(12, .string p1.Key)] rfl rfl rfl (rc1 rfl (r_load (ot rfl) (lm_s (mem_seg 3 rfl) ag_9 rfl)) rc0) (vq1 (veq_str _ _) vq0) rfl ?_))
   obtain ⟨x13, hx13, hF⟩ := obind hF
   refine kcX EE_fr w12 (.cons .z .nil) rfl of (ops_t rfl (ops_t rfl (ops_c rfl os0))) hb_15 (s_index_Index_Get n w12 x12.2.1 x12.2.2.1 x12.2.2.2 p1.Key 9 f12_0 hx13) ?_
   rintro _ _ h13 e13 w13 ⟨z13_y0, b13_w0, z13_w0, rfl, rfl, f13_0, f13_1⟩
   simp only [ca_, na_]
   refine go_nil (go_rck (rcs 4 ag_9 rfl rfl rfl rfl rc0) (go_sopc [(12, .string p1.Key)] rfl rfl rfl (rc1 rfl (r_load (ot rfl) (lm_s (mem_seg 4 rfl) ag_9 rfl)) rc0) (vq1 (veq_str _ _) vq0) rfl ?_))
   obtain ⟨x14, hx14, hF⟩ := obind hF
   refine kcX EE_fr w13 (.cons .z .nil) rfl of (ops_t rfl (ops_t rfl (ops_c rfl os0))) hb_18 (s_index_Index_Walk n w13 x13.2.1 x13.2.2.1 x13.2.2.2 (⟨ByteArray.empty, ByteArray.empty⟩ : TRange) 9 f13_0 hx14) ?_
   rintro _ _ h14 e14 w14 ⟨z14_y0, b14_w0, z14_w0, rfl, rfl, f14_0, f14_1⟩
   simp only [ca_, na_]
   refine go_nil (go_rck (rcs 5 ag_9 rfl rfl rfl rfl rc0) (go_sop rfl rfl ?_))
   obtain ⟨x15, hx15, hF⟩ := obind hF
   refine kcX EE_fr w14 (.cons .z .nil) rfl of (ops_t rfl (ops_t rfl os0)) hb_20 (s_index_Index_Ensure n w14 x14.2.1 x14.2.2.1 x14.2.2.2 p1.Key f14_0 hx15) ?_
   rintro _ _ h15 e15 w15 ⟨z15_y0, b15_w0, z15_w0, rfl, rfl, f15_0, f15_1⟩
   simp only [ca_, na_]
   refine go_nil (go_sbslice (cs := [pt b12_w0, pt b13_w0, pt b14_w0, pt b15_w0]) rfl rfl rfl (op1 (ot rfl) (op1 (ot rfl) (op1 (ot rfl) (op1 (ot rfl) op0)))) ut_44 sz_32 zo_32 rfl rfl (.s (.s (.s (.s (.s (.z)))))) (go_sop rfl rfl (gA rfl rfl (go_nil (go_snil (go_seq (go_seq (go_region (gAc rfl rfl (go_nil ?_))))))))))
   obtain ⟨s16, hF, hK16⟩ := obind hF
   refine go_joinc (β := ((Obst_Tree × Omem_Mem × Ochain_Store) × (Oindex_Work_2) × (Oindex_Work_2) × (Oindex_Work_2) × (Oindex_Work_2)) × List Blk × List Blk × List Blk × List Blk × List Blk) (fun s h' => s16 = .go s.1 ∧ Zindex_Index h' b9_w0 b9_w0_1 b8_w0 b9_w0_3 s.2.1 s.1.1.1 s.1.1.2.1 s.1.1.2.2 ∧ Zindex_Work_2 h' b9_w0 b8_w0 b9_w0_1 b9_w0_3 b15_w0 s.2.2.1 s.1.2.1 ∧ Zindex_Work_2 h' b9_w0 b8_w0 b9_w0_1 b9_w0_3 b14_w0 s.2.2.2.1 s.1.2.2.1 ∧ Zindex_Work_2 h' b9_w0 b8_w0 b9_w0_1 b9_w0_3 b13_w0 s.2.2.2.2.1 s.1.2.2.2.1 ∧ Zindex_Work_2 h' b9_w0 b8_w0 b9_w0_1 b9_w0_3 b12_w0 s.2.2.2.2.2 s.1.2.2.2.2) (fun s => [(6, true, .bool false), (7, true, .bool true), (8, true, pt b8_w0), (11, true, .slice (some ⟨b52_11, 0, none⟩) 4 4)]) (fun s => (List.flatten [s.2.1, s.2.2.1, s.2.2.2.1, s.2.2.2.2.1, s.2.2.2.2.2, [⟨b52_11, .cells [pt b12_w0, pt b13_w0, pt b14_w0, pt b15_w0] 32⟩], [⟨b4_4, .cells [.int .i64 p1.Rev, .string p1.Key, .string p1.Val, .bool p1.Del] 36⟩]] : List Blk)) ?_ (fun J16 => ?_)
   ·
    rintro ⟨⟨x16_0, x16_1, x16_2, x16_3, x16_4⟩, a16_0, a16_1, a16_2, a16_3, a16_4⟩ h16 e16 w16 ⟨hs16, f16_0, f16_1, f16_2, f16_3, f16_4⟩
    subst hs16
    try dsimp only at f16_0 f16_1 f16_2 f16_3 f16_4
    replace hF := lpgo hK16
    refine go_seq (go_seq (go_region (gAc rfl rfl (go_nil ?_))))
    obtain ⟨s17, hF, hK17⟩ := obind hF
    refine go_joinc (β := List Blk × List Blk × List Blk × List Blk × List Blk) (fun s h' => Zindex_Index h' b9_w0 b9_w0_1 b8_w0 b9_w0_3 s.1 s17.1.1 s17.1.2.1 s17.1.2.2 ∧ Zindex_Work_2 h' b9_w0 b8_w0 b9_w0_1 b9_w0_3 b15_w0 s.2.1 s17.2.1 ∧ Zindex_Work_2 h' b9_w0 b8_w0 b9_w0_1 b9_w0_3 b14_w0 s.2.2.1 s17.2.2.1 ∧ Zindex_Work_2 h' b9_w0 b8_w0 b9_w0_1 b9_w0_3 b13_w0 s.2.2.2.1 s17.2.2.2.1 ∧ Zindex_Work_2 h' b9_w0 b8_w0 b9_w0_1 b9_w0_3 b12_w0 s.2.2.2.2 s17.2.2.2.2) (fun s => [(6, true, .bool false), (7, true, .bool true), (8, true, pt b8_w0), (11, true, .slice (some ⟨b52_11, 0, none⟩) 4 4)]) (fun s => (List.flatten [s.1, s.2.1, s.2.2.1, s.2.2.2.1, s.2.2.2.2, [⟨b52_11, .cells [pt b12_w0, pt b13_w0, pt b14_w0, pt b15_w0] 32⟩], [⟨b4_4, .cells [.int .i64 p1.Rev, .string p1.Key, .string p1.Val, .bool p1.Del] 36⟩]] : List Blk)) ?_ (fun J17 => ?_)
    ·
     rintro ⟨a17_0, a17_1, a17_2, a17_3, a17_4⟩ h17 e17 w17 ⟨f17_0, f17_1, f17_2, f17_3, f17_4⟩
     try dsimp only at f17_0 f17_1 f17_2 f17_3 f17_4
     replace hF := hK17
     refine go_seq (go_region (gM rfl rfl ?_))
     obtain ⟨z19z_0, z19z_1, rfl, f19z0, f19z1⟩ := f17_0
     refine gs_unz ?_
     simp only [ca_, na_]
     refine gs_front (.s (.z)) ?_
     obtain ⟨q20z_1, t20z_1, q20z_2, t20z_2, z20z_0, rfl, f20z0, f20z1, f20z2⟩ := f19z0
     refine gs_unz ?_
     simp only [ca_, na_]
     refine gs_front (.s (.s (.s (.z)))) ?_
     obtain ⟨q21z_0, t21z_0, rfl, f21z0⟩ := f20z2
     refine gs_unz ?_
     simp only [ca_, na_]
     refine gs_pack (fun s => Zmem_Mem h17 b8_w0 s s17.1.2.1) (.cons .z (.cons .z .nil)) ⟨_, _, rfl, f21z0⟩ fun z22p y22p => ?_
     obtain ⟨x18, hx18, hF⟩ := obind hF
     refine kcX EE_fr w17 (.cons .z .nil) rfl of (ops_t rfl os0) hb_26 (s_mem_Mem_Count w17 s17.1.2.1 y22p hx18) ?_
     rintro _ _ h18 e18 w18 ⟨z18_y0, rfl, rfl, f18_0⟩
     simp only [ca_, na_]
     refine gA rfl rfl (go_nil (go_seq (go_region (gM rfl rfl (gM rfl rfl (g_do rfl rfl rfl (gM rfl rfl (g_do rfl rfl rfl (gr rfl (r_ia (ot rfl) (oc rfl) (ia_of ut_44 sz_32 (by decide) rfl)) (go_cast (pt b52_11) rfl (g_do rfl rfl rfl (gls 10 ag_32 rfl rfl rfl rfl (g_do rfl rfl rfl (gs_pack (fun s => Zbst_Tree h18 b9_w0_1 b8_w0 s s17.1.1 x18.2) (.cons (.s (.z)) (.cons (.s (.z)) (.cons (.s (.z)) (.cons .z .nil)))) ⟨_, _, _, _, _, rfl, (f20z0.ext e18.kn), (f20z1.ext e18.kn), f18_0⟩ fun z24p y24p => (gs_pack (fun s => Zindex_Index h18 b9_w0 b9_w0_1 b8_w0 b9_w0_3 s s17.1.1 x18.2 s17.1.2.2) (.cons (.s (.z)) (.cons .z (.cons .z .nil))) ⟨_, _, rfl, y24p, (f19z1.ext e18.kn)⟩ fun z25p y25p => ?_)))))))))))))))
     obtain ⟨x23, hx23, hF⟩ := obind hF
     refine kcX EE_fr w18 (.cons .z (.cons (.s (.s (.s (.z)))) .nil)) rfl of (ops_t rfl os0) hb_21 (s_index_Work_Step n w18 s17.1.1 x18.2 s17.1.2.2 s17.2.2.2.2 y25p (f17_4.ext e18.kn) hx23) ?_
     rintro _ _ h23 e23 w23 ⟨z23_y0, z23_y1, rfl, rfl, f23_0, f23_1⟩
     simp only [ca_, na_]
     refine gr rfl (r_pkT (ot rfl) (ot rfl)) (gM rfl rfl ?_)
     obtain ⟨s27, hF, hK27⟩ := obind hF
     refine go_joinr 5 (β := List Blk × List Blk) (fun s h' => Zindex_Index h' b9_w0 b9_w0_1 b8_w0 b9_w0_3 s.1 s27.2.1.1 s27.2.1.2.1 s27.2.1.2.2 ∧ Zindex_Work_2 h' b9_w0 b8_w0 b9_w0_1 b9_w0_3 b13_w0 s.2 s27.2.2) (fun s => [(6, true, .bool false), (8, true, pt b8_w0), (11, true, .slice (some ⟨b52_11, 0, none⟩) 4 4), (16, true, .int .i64 x18.1), (104, true, .bool s27.1)]) (fun s => (List.flatten [s.1, z23_y1, a17_1, a17_2, s.2, [⟨b52_11, .cells [pt b12_w0, pt b13_w0, pt b14_w0, pt b15_w0] 32⟩], [⟨b4_4, .cells [.int .i64 p1.Rev, .string p1.Key, .string p1.Val, .bool p1.Del] 36⟩]] : List Blk)) ?_ (fun J27 => ?_)
     ·
      rintro ⟨a27_0, a27_1⟩ h27 e27 w27 ⟨f27_1, f27_2⟩
      try dsimp only at f27_1 f27_2
      replace hF := hK27
      refine gM rfl rfl ?_
      obtain ⟨s29, hF, hK29⟩ := obind hF
      refine go_joinr 5 (β := List Blk × List Blk) (fun s h' => Zindex_Index h' b9_w0 b9_w0_1 b8_w0 b9_w0_3 s.1 s29.2.1.1 s29.2.1.2.1 s29.2.1.2.2 ∧ Zindex_Work_2 h' b9_w0 b8_w0 b9_w0_1 b9_w0_3 b14_w0 s.2 s29.2.2) (fun s => [(6, true, .bool false), (8, true, pt b8_w0), (11, true, .slice (some ⟨b52_11, 0, none⟩) 4 4), (16, true, .int .i64 x18.1), (110, true, .bool s29.1)]) (fun s => (List.flatten [s.1, z23_y1, a17_1, s.2, a27_1, [⟨b52_11, .cells [pt b12_w0, pt b13_w0, pt b14_w0, pt b15_w0] 32⟩], [⟨b4_4, .cells [.int .i64 p1.Rev, .string p1.Key, .string p1.Val, .bool p1.Del] 36⟩]] : List Blk)) ?_ (fun J29 => ?_)
      ·
       rintro ⟨a29_0, a29_1⟩ h29 e29 w29 ⟨f29_1, f29_2⟩
       try dsimp only at f29_1 f29_2
       replace hF := hK29
       refine gM rfl rfl ?_
       obtain ⟨s31, hF, hK31⟩ := obind hF
       refine go_joinr 5 (β := List Blk × List Blk) (fun s h' => Zindex_Index h' b9_w0 b9_w0_1 b8_w0 b9_w0_3 s.1 s31.2.1.1 s31.2.1.2.1 s31.2.1.2.2 ∧ Zindex_Work_2 h' b9_w0 b8_w0 b9_w0_1 b9_w0_3 b15_w0 s.2 s31.2.2) (fun s => [(6, true, .bool false), (8, true, pt b8_w0), (16, true, .int .i64 x18.1), (116, true, .bool s31.1)]) (fun s => (List.flatten [s.1, z23_y1, s.2, a29_1, a27_1, [⟨b52_11, .cells [pt b12_w0, pt b13_w0, pt b14_w0, pt b15_w0] 32⟩], [⟨b4_4, .cells [.int .i64 p1.Rev, .string p1.Key, .string p1.Val, .bool p1.Del] 36⟩]] : List Blk)) ?_ (fun J31 => ?_)
       ·
        rintro ⟨a31_0, a31_1⟩ h31 e31 w31 ⟨f31_1, f31_2⟩
        try dsimp only at f31_1 f31_2
        replace hF := hK31
        refine gM rfl rfl ?_
        obtain ⟨s33, hF, hK33⟩ := obind hF
        refine go_joinr 5 (β := List Blk) (fun s h' => Zindex_Index h' b9_w0 b9_w0_1 b8_w0 b9_w0_3 s s33.2.1 s33.2.2.1 s33.2.2.2) (fun s => [(6, true, .bool false), (122, true, .bool s33.1)]) (fun s => (List.flatten [s, z23_y1, a31_1, a29_1, a27_1, [⟨b52_11, .cells [pt b12_w0, pt b13_w0, pt b14_w0, pt b15_w0] 32⟩], [⟨b4_4, .cells [.int .i64 p1.Rev, .string p1.Key, .string p1.Val, .bool p1.Del] 36⟩]] : List Blk)) ?_ (fun J33 => ?_)
        ·
         rintro a33_0 h33 e33 w33 f33_1
         try dsimp only at f33_1
         replace hF := hK33
         refine gA rfl rfl (go_nil ?_)
         obtain rfl := someI hF
         exact g_ret (rst rfl rs0) (fun h1 hf hs => ⟨(e8.trans (e9.trans (e10.trans (e12.trans (e13.trans (e14.trans (e15.trans (e16.trans (e17.trans (e18.trans (e23.trans (e27.trans (e29.trans (e31.trans (e33.trans hs.hext))))))))))))))), rfl⟩)
        ·
         rcases Bool.eq_false_or_eq_true s31.1 with hb32 | hb32
         ·
          replace hF := ifT hb32 hF
          refine go_re 117 (v2 := .bool true) rfl (congrArg Value.bool hb32) (g_do rfl rfl rfl (gM rfl rfl (g_do rfl rfl rfl ?_)))
          obtain ⟨z35z_0, z35z_1, rfl, f35z0, f35z1⟩ := f31_1
          refine gs_unz ?_
          simp only [ca_, na_]
          refine gs_front (.s (.z)) ?_
          obtain ⟨q36z_1, t36z_1, q36z_2, t36z_2, z36z_0, rfl, f36z0, f36z1, f36z2⟩ := f35z0
          refine gs_unz ?_
          simp only [ca_, na_]
          refine gs_front (.s (.s (.s (.z)))) ?_
          obtain ⟨q37z_0, t37z_0, rfl, f37z0⟩ := f36z2
          refine gs_unz ?_
          simp only [ca_, na_]
          refine gs_pack (fun s => Zmem_Mem h31 b8_w0 s s31.2.1.2.1) (.cons .z (.cons .z .nil)) ⟨_, _, rfl, f37z0⟩ fun z38p y38p => ?_
          obtain ⟨x34, hx34, hF⟩ := obind hF
          refine kcX EE_fr w31 (.cons .z .nil) rfl of (ops_t rfl os0) hb_26 (s_mem_Mem_Count w31 s31.2.1.2.1 y38p hx34) ?_
          rintro _ _ h34 e34 w34 ⟨z34_y0, rfl, rfl, f34_0⟩
          simp only [ca_, na_]
          refine g_do rfl rfl rfl (gM rfl rfl (g_do rfl rfl rfl (gr rfl (r_bin (ot rfl) (ot rfl) rfl) (gr rfl (r_pkT (ot rfl) (ot rfl)) (gs_pack (fun s => Zbst_Tree h34 b9_w0_1 b8_w0 s s31.2.1.1 x34.2) (.cons (.s (.z)) (.cons (.s (.z)) (.cons (.s (.z)) (.cons .z .nil)))) ⟨_, _, _, _, _, rfl, (f36z0.ext e34.kn), (f36z1.ext e34.kn), f34_0⟩ fun z39p y39p => (gs_pack (fun s => Zindex_Index h34 b9_w0 b9_w0_1 b8_w0 b9_w0_3 s s31.2.1.1 x34.2 s31.2.1.2.2) (.cons (.s (.z)) (.cons .z (.cons .z .nil))) ⟨_, _, rfl, y39p, (f35z1.ext e34.kn)⟩ fun z40p y40p => ?_))))))
          obtain rfl := someI hF
          exact Goes.weak (J33 z40p _ e34 w34 y40p) (Sub.cons (Sub.cons (Sub.nil _) rfl) rfl)
         ·
          replace hF := ifF hb32 hF
          refine go_re 117 (v2 := .bool false) rfl (congrArg Value.bool hb32) (g_no rfl rfl rfl rfl rfl (g_no rfl rfl rfl rfl rfl (g_no rfl rfl rfl rfl rfl (g_no rfl rfl rfl rfl rfl (gr rfl (r_pkF (ot rfl) (oc rfl)) ?_)))))
          obtain rfl := someI hF
          exact Goes.weak (J33 a31_0 _ (HExt.refl _) w31 f31_1) (Sub.cons (Sub.cons (Sub.nil _) rfl) rfl)
       ·
        rcases Bool.eq_false_or_eq_true s29.1 with hb30 | hb30
        ·
         replace hF := ifT hb30 hF
         refine go_re 111 (v2 := .bool true) rfl (congrArg Value.bool hb30) (g_do rfl rfl rfl (gM rfl rfl (g_do rfl rfl rfl (gr rfl (r_ia (ot rfl) (oc rfl) (ia_of ut_44 sz_32 (by decide) rfl)) (go_cast (.pointer (some ⟨b52_11, 3, none⟩)) rfl (g_do rfl rfl rfl (gls 5 ag_32 rfl rfl rfl rfl (g_do rfl rfl rfl ?_))))))))
         obtain ⟨x41, hx41, hF⟩ := obind hF
         refine kcX EE_fr w29 (.cons .z (.cons (.s (.z)) .nil)) rfl of (ops_t rfl os0) hb_21 (s_index_Work_Step n w29 s29.2.1.1 s29.2.1.2.1 s29.2.1.2.2 s17.2.1 f29_1 ((((f17_1.ext e18.kn).ext e23.kn).ext e27.kn).ext e29.kn) hx41) ?_
         rintro _ _ h41 e41 w41 ⟨z41_y0, z41_y1, rfl, rfl, f41_0, f41_1⟩
         simp only [ca_, na_]
         refine gr rfl (r_pkT (ot rfl) (ot rfl)) ?_
         obtain rfl := someI hF
         refine gs_perm (perm_of (d := []) _ [0, 2, 1, 3, 4, 5, 6] rfl) ?_
         exact Goes.weak (J31 (z41_y0, z41_y1) _ e41 w41 ⟨f41_0, f41_1⟩) (Sub.cons (Sub.cons (Sub.cons (Sub.cons (Sub.nil _) rfl) rfl) rfl) rfl)
        ·
         replace hF := ifF hb30 hF
         refine go_re 111 (v2 := .bool false) rfl (congrArg Value.bool hb30) (g_no rfl rfl rfl rfl rfl (g_no rfl rfl rfl rfl rfl (g_no rfl rfl rfl rfl rfl (g_no rfl rfl rfl rfl rfl (gr rfl (r_pkF (ot rfl) (oc rfl)) ?_)))))
         obtain rfl := someI hF
         exact Goes.weak (J31 (a29_0, a17_1) _ (HExt.refl _) w29 ⟨f29_1, ((((f17_1.ext e18.kn).ext e23.kn).ext e27.kn).ext e29.kn)⟩) (Sub.cons (Sub.cons (Sub.cons (Sub.cons (Sub.nil _) rfl) rfl) rfl) rfl)
      ·
       rcases Bool.eq_false_or_eq_true s27.1 with hb28 | hb28
       ·
        replace hF := ifT hb28 hF
        refine go_re 105 (v2 := .bool true) rfl (congrArg Value.bool hb28) (g_do rfl rfl rfl (gM rfl rfl (g_do rfl rfl rfl (gr rfl (r_ia (ot rfl) (oc rfl) (ia_of ut_44 sz_32 (by decide) rfl)) (go_cast (.pointer (some ⟨b52_11, 2, none⟩)) rfl (g_do rfl rfl rfl (gls 5 ag_32 rfl rfl rfl rfl (g_do rfl rfl rfl ?_))))))))
        obtain ⟨x42, hx42, hF⟩ := obind hF
        refine kcX EE_fr w27 (.cons .z (.cons (.s (.s (.z))) .nil)) rfl of (ops_t rfl os0) hb_21 (s_index_Work_Step n w27 s27.2.1.1 s27.2.1.2.1 s27.2.1.2.2 s17.2.2.1 f27_1 (((f17_2.ext e18.kn).ext e23.kn).ext e27.kn) hx42) ?_
        rintro _ _ h42 e42 w42 ⟨z42_y0, z42_y1, rfl, rfl, f42_0, f42_1⟩
        simp only [ca_, na_]
        refine gr rfl (r_pkT (ot rfl) (ot rfl)) ?_
        obtain rfl := someI hF
        refine gs_perm (perm_of (d := []) _ [0, 2, 3, 1, 4, 5, 6] rfl) ?_
        exact Goes.weak (J29 (z42_y0, z42_y1) _ e42 w42 ⟨f42_0, f42_1⟩) (Sub.cons (Sub.cons (Sub.cons (Sub.cons (Sub.cons (Sub.nil _) rfl) rfl) rfl) rfl) rfl)
       ·
        replace hF := ifF hb28 hF
        refine go_re 105 (v2 := .bool false) rfl (congrArg Value.bool hb28) (g_no rfl rfl rfl rfl rfl (g_no rfl rfl rfl rfl rfl (g_no rfl rfl rfl rfl rfl (g_no rfl rfl rfl rfl rfl (gr rfl (r_pkF (ot rfl) (oc rfl)) ?_)))))
        obtain rfl := someI hF
        exact Goes.weak (J29 (a27_0, a17_2) _ (HExt.refl _) w27 ⟨f27_1, (((f17_2.ext e18.kn).ext e23.kn).ext e27.kn)⟩) (Sub.cons (Sub.cons (Sub.cons (Sub.cons (Sub.cons (Sub.nil _) rfl) rfl) rfl) rfl) rfl)
     ·
      rcases Bool.eq_false_or_eq_true x23.1 with hb26 | hb26
      ·
       replace hF := ifT hb26 hF
       refine go_re 99 (v2 := .bool true) rfl (congrArg Value.bool hb26) (g_do rfl rfl rfl (gM rfl rfl (g_do rfl rfl rfl (gr rfl (r_ia (ot rfl) (oc rfl) (ia_of ut_44 sz_32 (by decide) rfl)) (go_cast (.pointer (some ⟨b52_11, 1, none⟩)) rfl (g_do rfl rfl rfl (gls 5 ag_32 rfl rfl rfl rfl (g_do rfl rfl rfl ?_))))))))
       obtain ⟨x43, hx43, hF⟩ := obind hF
       refine kcX EE_fr w23 (.cons .z (.cons (.s (.s (.s (.z)))) .nil)) rfl of (ops_t rfl os0) hb_21 (s_index_Work_Step n w23 x23.2.1 x23.2.2.1 x23.2.2.2.1 s17.2.2.2.1 f23_0 ((f17_3.ext e18.kn).ext e23.kn) hx43) ?_
       rintro _ _ h43 e43 w43 ⟨z43_y0, z43_y1, rfl, rfl, f43_0, f43_1⟩
       simp only [ca_, na_]
       refine gr rfl (r_pkT (ot rfl) (ot rfl)) ?_
       obtain rfl := someI hF
       refine gs_perm (perm_of (d := []) _ [0, 2, 3, 4, 1, 5, 6] rfl) ?_
       exact Goes.weak (J27 (z43_y0, z43_y1) _ e43 w43 ⟨f43_0, f43_1⟩) (Sub.cons (Sub.cons (Sub.cons (Sub.cons (Sub.cons (Sub.nil _) rfl) rfl) rfl) rfl) rfl)
      ·
       replace hF := ifF hb26 hF
       refine go_re 99 (v2 := .bool false) rfl (congrArg Value.bool hb26) (g_no rfl rfl rfl rfl rfl (g_no rfl rfl rfl rfl rfl (g_no rfl rfl rfl rfl rfl (g_no rfl rfl rfl rfl rfl (gr rfl (r_pkF (ot rfl) (oc rfl)) ?_)))))
       obtain rfl := someI hF
       exact Goes.weak (J27 (z23_y0, a17_3) _ (HExt.refl _) w23 ⟨f23_0, ((f17_3.ext e18.kn).ext e23.kn)⟩) (Sub.cons (Sub.cons (Sub.cons (Sub.cons (Sub.cons (Sub.nil _) rfl) rfl) rfl) rfl) rfl)
    ·
     refine go_block ?_
     refine go_loop (α := Nat × Int × (Obst_Tree × Omem_Mem × Ochain_Store) × (Oindex_Work_2) × (Oindex_Work_2) × (Oindex_Work_2) × (Oindex_Work_2) × List Blk × List Blk × List Blk × List Blk × List Blk × Heap) (fun a => HExt h16 a.2.2.2.2.2.2.2.2.2.2.2.2 ∧ Wf a.2.2.2.2.2.2.2.2.2.2.2.2 ∧ F_law19_IndexSteps_L1 n a.1 a.2.1 a.2.2.1 a.2.2.2.1 a.2.2.2.2.1 a.2.2.2.2.2.1 a.2.2.2.2.2.2.1 = some s17 ∧ Zindex_Index a.2.2.2.2.2.2.2.2.2.2.2.2 b9_w0 b9_w0_1 b8_w0 b9_w0_3 a.2.2.2.2.2.2.2.1 a.2.2.1.1 a.2.2.1.2.1 a.2.2.1.2.2 ∧ Zindex_Work_2 a.2.2.2.2.2.2.2.2.2.2.2.2 b9_w0 b8_w0 b9_w0_1 b9_w0_3 b15_w0 a.2.2.2.2.2.2.2.2.1 a.2.2.2.1 ∧ Zindex_Work_2 a.2.2.2.2.2.2.2.2.2.2.2.2 b9_w0 b8_w0 b9_w0_1 b9_w0_3 b14_w0 a.2.2.2.2.2.2.2.2.2.1 a.2.2.2.2.1 ∧ Zindex_Work_2 a.2.2.2.2.2.2.2.2.2.2.2.2 b9_w0 b8_w0 b9_w0_1 b9_w0_3 b13_w0 a.2.2.2.2.2.2.2.2.2.2.1 a.2.2.2.2.2.1 ∧ Zindex_Work_2 a.2.2.2.2.2.2.2.2.2.2.2.2 b9_w0 b8_w0 b9_w0_1 b9_w0_3 b12_w0 a.2.2.2.2.2.2.2.2.2.2.2.1 a.2.2.2.2.2.2.1) (fun a => a.1) (fun a => [(6, true, .bool false), (7, true, .bool true), (8, true, pt b8_w0), (11, true, .slice (some ⟨b52_11, 0, none⟩) 4 4), (15, true, .int .i64 a.2.1)]) (fun a => (List.flatten [a.2.2.2.2.2.2.2.1, a.2.2.2.2.2.2.2.2.1, a.2.2.2.2.2.2.2.2.2.1, a.2.2.2.2.2.2.2.2.2.2.1, a.2.2.2.2.2.2.2.2.2.2.2.1, [⟨b52_11, .cells [pt b12_w0, pt b13_w0, pt b14_w0, pt b15_w0] 32⟩], [⟨b4_4, .cells [.int .i64 p1.Rev, .string p1.Key, .string p1.Val, .bool p1.Del] 36⟩]] : List Blk)) (fun a => a.2.2.2.2.2.2.2.2.2.2.2.2) ?_ (n, 0, (x16_0.1, x16_0.2.1, x16_0.2.2), x16_1, x16_2, x16_3, x16_4, a16_0, a16_1, a16_2, a16_3, a16_4, h16) ⟨HExt.refl _, w16, hF, f16_0, f16_1, f16_2, f16_3, f16_4⟩ (Sub.cons (Sub.cons (Sub.cons (Sub.cons (Sub.cons (Sub.nil _) rfl) rfl) rfl) rfl) rfl) rfl rfl
     rintro ⟨m44, y44_0, y44_1, y44_2, y44_3, y44_4, y44_5, a44_0, a44_1, a44_2, a44_3, a44_4, h44⟩ ⟨e44, w44, hF, f44_1, f44_2, f44_3, f44_4, f44_5⟩ ih44
     try dsimp only at f44_1 f44_2 f44_3 f44_4 f44_5
     rcases m44 with _ | m44
     ·
      rw [F_law19_IndexSteps_L1.eq_1] at hF; cases hF
     ·
      rw [F_law19_IndexSteps_L1.eq_2] at hF
      refine go_seq (go_seq (go_region (gM rfl rfl (gr rfl (r_bin (ot rfl) (oc rfl) rfl) (go_nil ?_)))))
      refine g_cond (b := (decide (y44_0 < 4))) (ot rfl) (fun hc45 => ?_) (fun hc45 => ?_)
      ·
       replace hF := ifT hc45 hF
       refine go_skip (go_seq ?_)
       obtain ⟨s46, hF, hK46⟩ := obind hF
       refine go_joinc (β := List Blk × List Blk × List Blk × List Blk × List Blk) (fun s h' => Zindex_Index h' b9_w0 b9_w0_1 b8_w0 b9_w0_3 s.1 s46.1.1 s46.1.2.1 s46.1.2.2 ∧ Zindex_Work_2 h' b9_w0 b8_w0 b9_w0_1 b9_w0_3 b15_w0 s.2.1 s46.2.1 ∧ Zindex_Work_2 h' b9_w0 b8_w0 b9_w0_1 b9_w0_3 b14_w0 s.2.2.1 s46.2.2.1 ∧ Zindex_Work_2 h' b9_w0 b8_w0 b9_w0_1 b9_w0_3 b13_w0 s.2.2.2.1 s46.2.2.2.1 ∧ Zindex_Work_2 h' b9_w0 b8_w0 b9_w0_1 b9_w0_3 b12_w0 s.2.2.2.2 s46.2.2.2.2) (fun s => [(6, true, .bool false), (7, true, .bool true), (8, true, pt b8_w0), (11, true, .slice (some ⟨b52_11, 0, none⟩) 4 4), (15, true, .int .i64 y44_0), (81, true, .int .i64 y44_0), (82, true, .bool (decide (y44_0 < 4))), (85, true, .slice (some ⟨b52_11, 0, none⟩) 4 4), (86, true, .int .i64 y44_0)]) (fun s => (List.flatten [s.1, s.2.1, s.2.2.1, s.2.2.2.1, s.2.2.2.2, [⟨b52_11, .cells [pt b12_w0, pt b13_w0, pt b14_w0, pt b15_w0] 32⟩], [⟨b4_4, .cells [.int .i64 p1.Rev, .string p1.Key, .string p1.Val, .bool p1.Del] 36⟩]] : List Blk)) ?_ (fun J46 => ?_)
       ·
        rintro ⟨a46_0, a46_1, a46_2, a46_3, a46_4⟩ h46 e46 w46 ⟨f46_0, f46_1, f46_2, f46_3, f46_4⟩
        try dsimp only at f46_0 f46_1 f46_2 f46_3 f46_4
        replace hF := hK46
        refine go_region (gM rfl rfl (gr rfl (r_bin (ot rfl) (oc rfl) rfl) (gA rfl rfl (go_nil ?_))))
        exact Goes.weak (ih44 (m44, (IntKind.i64.wrap (y44_0 + 1)), (s46.1.1, s46.1.2.1, s46.1.2.2), s46.2.1, s46.2.2.1, s46.2.2.2.1, s46.2.2.2.2, a46_0, a46_1, a46_2, a46_3, a46_4, h46) ⟨(e44.trans e46), w46, hF, f46_0, f46_1, f46_2, f46_3, f46_4⟩ (Nat.lt_succ_self _)) (Sub.cons (Sub.cons (Sub.cons (Sub.cons (Sub.cons (Sub.nil _) rfl) rfl) rfl) rfl) rfl)
       ·
        refine go_block (go_region (gM rfl rfl (gM rfl rfl ?_)))
        by_cases hk47_0 : y44_0 = ((0 : Nat) : Int)
        ·
         replace hF := ifP hk47_0 hF
         refine gr rfl (r_ia (ot rfl) (ot rfl) (ia_eq hk47_0 (ia_of ut_44 sz_32 (by decide) rfl))) (go_cast (pt b52_11) rfl (gls 5 ag_32 rfl rfl rfl rfl ?_))
         obtain ⟨x48, hx48, hF⟩ := obind hF
         refine kcX EE_fr w44 (.cons .z (.cons (.s (.s (.s (.z)))) .nil)) rfl of (ops_t rfl os0) hb_14 (s_index_Run n w44 y44_1.1 y44_1.2.1 y44_1.2.2 y44_5 f44_1 f44_5 hx48) ?_
         rintro _ _ h48 e48 w48 ⟨z48_y0, z48_y1, rfl, rfl, f48_0, f48_1⟩
         simp only [ca_, na_]
         refine go_nil (go_endb ?_)
         obtain rfl := someI hF
         refine gs_perm (perm_of (d := []) _ [0, 2, 3, 4, 1, 5, 6] rfl) ?_
         exact Goes.weak (J46 (z48_y0, a44_1, a44_2, a44_3, z48_y1) _ e48 w48 ⟨f48_0, (f44_2.ext e48.kn), (f44_3.ext e48.kn), (f44_4.ext e48.kn), f48_1⟩) (Sub.cons (Sub.cons (Sub.cons (Sub.cons (Sub.cons (Sub.cons (Sub.cons (Sub.cons (Sub.cons (Sub.nil _) rfl) rfl) rfl) rfl) rfl) rfl) rfl) rfl) rfl)
        replace hF := ifN hk47_0 hF
        by_cases hk47_1 : y44_0 = ((1 : Nat) : Int)
        ·
         replace hF := ifP hk47_1 hF
         refine gr rfl (r_ia (ot rfl) (ot rfl) (ia_eq hk47_1 (ia_of ut_44 sz_32 (by decide) rfl))) (go_cast (.pointer (some ⟨b52_11, 1, none⟩)) rfl (gls 5 ag_32 rfl rfl rfl rfl ?_))
         obtain ⟨x49, hx49, hF⟩ := obind hF
         refine kcX EE_fr w44 (.cons .z (.cons (.s (.s (.z))) .nil)) rfl of (ops_t rfl os0) hb_14 (s_index_Run n w44 y44_1.1 y44_1.2.1 y44_1.2.2 y44_4 f44_1 f44_4 hx49) ?_
         rintro _ _ h49 e49 w49 ⟨z49_y0, z49_y1, rfl, rfl, f49_0, f49_1⟩
         simp only [ca_, na_]
         refine go_nil (go_endb ?_)
         obtain rfl := someI hF
         refine gs_perm (perm_of (d := []) _ [0, 2, 3, 1, 4, 5, 6] rfl) ?_
         exact Goes.weak (J46 (z49_y0, a44_1, a44_2, z49_y1, a44_4) _ e49 w49 ⟨f49_0, (f44_2.ext e49.kn), (f44_3.ext e49.kn), f49_1, (f44_5.ext e49.kn)⟩) (Sub.cons (Sub.cons (Sub.cons (Sub.cons (Sub.cons (Sub.cons (Sub.cons (Sub.cons (Sub.cons (Sub.nil _) rfl) rfl) rfl) rfl) rfl) rfl) rfl) rfl) rfl)
        replace hF := ifN hk47_1 hF
        by_cases hk47_2 : y44_0 = ((2 : Nat) : Int)
        ·
         replace hF := ifP hk47_2 hF
         refine gr rfl (r_ia (ot rfl) (ot rfl) (ia_eq hk47_2 (ia_of ut_44 sz_32 (by decide) rfl))) (go_cast (.pointer (some ⟨b52_11, 2, none⟩)) rfl (gls 5 ag_32 rfl rfl rfl rfl ?_))
         obtain ⟨x50, hx50, hF⟩ := obind hF
         refine kcX EE_fr w44 (.cons .z (.cons (.s (.z)) .nil)) rfl of (ops_t rfl os0) hb_14 (s_index_Run n w44 y44_1.1 y44_1.2.1 y44_1.2.2 y44_3 f44_1 f44_3 hx50) ?_
         rintro _ _ h50 e50 w50 ⟨z50_y0, z50_y1, rfl, rfl, f50_0, f50_1⟩
         simp only [ca_, na_]
         refine go_nil (go_endb ?_)
         obtain rfl := someI hF
         refine gs_perm (perm_of (d := []) _ [0, 2, 1, 3, 4, 5, 6] rfl) ?_
         exact Goes.weak (J46 (z50_y0, a44_1, z50_y1, a44_3, a44_4) _ e50 w50 ⟨f50_0, (f44_2.ext e50.kn), f50_1, (f44_4.ext e50.kn), (f44_5.ext e50.kn)⟩) (Sub.cons (Sub.cons (Sub.cons (Sub.cons (Sub.cons (Sub.cons (Sub.cons (Sub.cons (Sub.cons (Sub.nil _) rfl) rfl) rfl) rfl) rfl) rfl) rfl) rfl) rfl)
        replace hF := ifN hk47_2 hF
        by_cases hk47_3 : y44_0 = ((3 : Nat) : Int)
        ·
         replace hF := ifP hk47_3 hF
         refine gr rfl (r_ia (ot rfl) (ot rfl) (ia_eq hk47_3 (ia_of ut_44 sz_32 (by decide) rfl))) (go_cast (.pointer (some ⟨b52_11, 3, none⟩)) rfl (gls 5 ag_32 rfl rfl rfl rfl ?_))
         obtain ⟨x51, hx51, hF⟩ := obind hF
         refine kcX EE_fr w44 (.cons .z (.cons .z .nil)) rfl of (ops_t rfl os0) hb_14 (s_index_Run n w44 y44_1.1 y44_1.2.1 y44_1.2.2 y44_2 f44_1 f44_2 hx51) ?_
         rintro _ _ h51 e51 w51 ⟨z51_y0, z51_y1, rfl, rfl, f51_0, f51_1⟩
         simp only [ca_, na_]
         refine go_nil (go_endb ?_)
         obtain rfl := someI hF
         exact Goes.weak (J46 (z51_y0, z51_y1, a44_2, a44_3, a44_4) _ e51 w51 ⟨f51_0, f51_1, (f44_3.ext e51.kn), (f44_4.ext e51.kn), (f44_5.ext e51.kn)⟩) (Sub.cons (Sub.cons (Sub.cons (Sub.cons (Sub.cons (Sub.cons (Sub.cons (Sub.cons (Sub.cons (Sub.nil _) rfl) rfl) rfl) rfl) rfl) rfl) rfl) rfl) rfl)
        replace hF := ifN hk47_3 hF
        cases hF
      ·
       replace hF := ifF hc45 hF
       refine go_exit rfl ?_
       obtain rfl := someI hF
       exact Goes.weak (J17 (a44_0, a44_1, a44_2, a44_3, a44_4) _ e44 w44 ⟨f44_1, f44_2, f44_3, f44_4, f44_5⟩) (Sub.cons (Sub.cons (Sub.cons (Sub.cons (Sub.nil _) rfl) rfl) rfl) rfl)
   ·
    refine go_block ?_
    refine go_loop (α := Nat × Int × (Oindex_Work_2) × (Oindex_Work_2) × (Oindex_Work_2) × (Obst_Tree × Omem_Mem × Ochain_Store) × (Oindex_Work_2) × List Blk × List Blk × List Blk × List Blk × List Blk × Heap) (fun a => HExt h15 a.2.2.2.2.2.2.2.2.2.2.2.2 ∧ Wf a.2.2.2.2.2.2.2.2.2.2.2.2 ∧ F_law19_IndexSteps_L2 n p2 a.1 a.2.1 a.2.2.1 a.2.2.2.1 a.2.2.2.2.1 a.2.2.2.2.2.1 a.2.2.2.2.2.2.1 = some s16 ∧ Zindex_Work_2 a.2.2.2.2.2.2.2.2.2.2.2.2 b9_w0 b8_w0 b9_w0_1 b9_w0_3 b12_w0 a.2.2.2.2.2.2.2.1 a.2.2.1 ∧ Zindex_Work_2 a.2.2.2.2.2.2.2.2.2.2.2.2 b9_w0 b8_w0 b9_w0_1 b9_w0_3 b13_w0 a.2.2.2.2.2.2.2.2.1 a.2.2.2.1 ∧ Zindex_Work_2 a.2.2.2.2.2.2.2.2.2.2.2.2 b9_w0 b8_w0 b9_w0_1 b9_w0_3 b14_w0 a.2.2.2.2.2.2.2.2.2.1 a.2.2.2.2.1 ∧ Zindex_Index a.2.2.2.2.2.2.2.2.2.2.2.2 b9_w0 b9_w0_1 b8_w0 b9_w0_3 a.2.2.2.2.2.2.2.2.2.2.1 a.2.2.2.2.2.1.1 a.2.2.2.2.2.1.2.1 a.2.2.2.2.2.1.2.2 ∧ Zindex_Work_2 a.2.2.2.2.2.2.2.2.2.2.2.2 b9_w0 b8_w0 b9_w0_1 b9_w0_3 b15_w0 a.2.2.2.2.2.2.2.2.2.2.2.1 a.2.2.2.2.2.2.1) (fun a => a.1) (fun a => [(2, true, .slice a2_0 p2.length c2_0), (6, true, .bool false), (7, true, .bool true), (8, true, pt b8_w0), (11, true, .slice (some ⟨b52_11, 0, none⟩) 4 4), (12, true, .int .i64 a.2.1)]) (fun a => (List.flatten [a.2.2.2.2.2.2.2.2.2.2.1, a.2.2.2.2.2.2.2.2.2.2.2.1, a.2.2.2.2.2.2.2.2.2.1, a.2.2.2.2.2.2.2.2.1, a.2.2.2.2.2.2.2.1, [⟨b52_11, .cells [pt b12_w0, pt b13_w0, pt b14_w0, pt b15_w0] 32⟩], [⟨b4_4, .cells [.int .i64 p1.Rev, .string p1.Key, .string p1.Val, .bool p1.Del] 36⟩]] : List Blk)) (fun a => a.2.2.2.2.2.2.2.2.2.2.2.2) ?_ (n, 0, x12.1, x13.1, x14.1, (x15.2.1, x15.2.2.1, x15.2.2.2), x15.1, z12_w0, z13_w0, z14_w0, z15_y0, z15_w0, h15) ⟨HExt.refl _, w15, hF, (((f12_1.ext e13.kn).ext e14.kn).ext e15.kn), ((f13_1.ext e14.kn).ext e15.kn), (f14_1.ext e15.kn), f15_0, f15_1⟩ (Sub.cons (Sub.cons (Sub.cons (Sub.cons (Sub.cons (Sub.cons (Sub.nil _) rfl) rfl) rfl) rfl) rfl) rfl) rfl rfl
    rintro ⟨m52, y52_0, y52_1, y52_2, y52_3, y52_4, y52_5, a52_0, a52_1, a52_2, a52_3, a52_4, h52⟩ ⟨e52, w52, hF, f52_1, f52_2, f52_3, f52_4, f52_5⟩ ih52
    try dsimp only at f52_1 f52_2 f52_3 f52_4 f52_5
    rcases m52 with _ | m52
    ·
     rw [F_law19_IndexSteps_L2.eq_1] at hF; cases hF
    ·
     rw [F_law19_IndexSteps_L2.eq_2] at hF
     refine go_seq (go_seq (go_region (gM rfl rfl (gr rfl (r_bin (ot rfl) (oc rfl) rfl) (go_nil ?_)))))
     refine g_cond (b := (decide (y52_0 < 600))) (ot rfl) (fun hc53 => ?_) (fun hc53 => ?_)
     ·
      replace hF := ifT hc53 hF
      refine go_skip (go_seq ?_)
      obtain ⟨s54, hF, hK54⟩ := obind hF
      refine go_joinc (β := (Int × Int × Int × Int × Int × Int × Int × Bool × (Obst_Tree × Omem_Mem × Ochain_Store) × (Oindex_Work_2) × (Oindex_Work_2) × (Oindex_Work_2) × (Oindex_Work_2)) × List Blk × List Blk × List Blk × List Blk × List Blk) (fun s h' => s54 = .go s.1 ∧ Zindex_Index h' b9_w0 b9_w0_1 b8_w0 b9_w0_3 s.2.1 s.1.2.2.2.2.2.2.2.2.1.1 s.1.2.2.2.2.2.2.2.2.1.2.1 s.1.2.2.2.2.2.2.2.2.1.2.2 ∧ Zindex_Work_2 h' b9_w0 b8_w0 b9_w0_1 b9_w0_3 b15_w0 s.2.2.1 s.1.2.2.2.2.2.2.2.2.2.1 ∧ Zindex_Work_2 h' b9_w0 b8_w0 b9_w0_1 b9_w0_3 b14_w0 s.2.2.2.1 s.1.2.2.2.2.2.2.2.2.2.2.1 ∧ Zindex_Work_2 h' b9_w0 b8_w0 b9_w0_1 b9_w0_3 b13_w0 s.2.2.2.2.1 s.1.2.2.2.2.2.2.2.2.2.2.2.1 ∧ Zindex_Work_2 h' b9_w0 b8_w0 b9_w0_1 b9_w0_3 b12_w0 s.2.2.2.2.2 s.1.2.2.2.2.2.2.2.2.2.2.2.2) (fun s => [(2, true, .slice a2_0 p2.length c2_0), (6, true, .bool false), (7, true, .bool true), (8, true, pt b8_w0), (11, true, .slice (some ⟨b52_11, 0, none⟩) 4 4), (12, true, .int .i64 y52_0), (13, true, .int .i64 s.1.1), (14, true, .int .i64 s.1.2.1), (53, true, .int .i64 y52_0), (54, true, .bool (decide (y52_0 < 600))), (57, true, .int .i64 y52_0), (58, true, .int .i64 (Int.tmod y52_0 4)), (59, true, .int .i64 y52_0), (60, true, .slice a2_0 p2.length c2_0), (61, true, .int .i64 (p2.length : Int)), (62, true, .bool (decide (y52_0 < (p2.length : Int)))), (70, true, .int .i64 s.1.2.2.1), (71, true, .slice (some ⟨b52_11, 0, none⟩) 4 4), (72, true, .int .i64 s.1.2.2.2.1), (77, true, .int .i64 s.1.2.2.2.2.1), (78, true, .int .i64 s.1.2.2.2.2.2.1), (79, true, .int .i64 s.1.2.2.2.2.2.2.1), (80, true, .bool s.1.2.2.2.2.2.2.2.1)]) (fun s => (List.flatten [s.2.1, s.2.2.1, s.2.2.2.1, s.2.2.2.2.1, s.2.2.2.2.2, [⟨b52_11, .cells [pt b12_w0, pt b13_w0, pt b14_w0, pt b15_w0] 32⟩], [⟨b4_4, .cells [.int .i64 p1.Rev, .string p1.Key, .string p1.Val, .bool p1.Del] 36⟩]] : List Blk)) ?_ (fun J54 => ?_)
      ·
       rintro ⟨⟨x54_0, x54_1, x54_2, x54_3, x54_4, x54_5, x54_6, x54_7, x54_8, x54_9, x54_10, x54_11, x54_12⟩, a54_0, a54_1, a54_2, a54_3, a54_4⟩ h54 e54 w54 ⟨hs54, f54_8, f54_9, f54_10, f54_11, f54_12⟩
       subst hs54
       try dsimp only at f54_8 f54_9 f54_10 f54_11 f54_12
       replace hF := lpgo2 hK54
       refine go_region (gM rfl rfl (gr rfl (r_bin (ot rfl) (oc rfl) rfl) (gA rfl rfl (go_nil ?_))))
       exact Goes.weak (ih52 (m52, (IntKind.i64.wrap (y52_0 + 1)), x54_12, x54_11, x54_10, (x54_8.1, x54_8.2.1, x54_8.2.2), x54_9, a54_4, a54_3, a54_2, a54_0, a54_1, h54) ⟨(e52.trans e54), w54, hF, f54_12, f54_11, f54_10, f54_8, f54_9⟩ (Nat.lt_succ_self _)) (Sub.cons (Sub.cons (Sub.cons (Sub.cons (Sub.cons (Sub.cons (Sub.nil _) rfl) rfl) rfl) rfl) rfl) rfl)
      ·
       refine go_block (go_seq (go_region (gM rfl rfl (gr rfl (r_bin (ot rfl) (oc rfl) rfl) (gA rfl rfl (go_nil (go_seq (go_seq (go_region (gM rfl rfl (gM rfl rfl (gr rfl (r_len rfl (os1 (ot rfl) os0) (fun _ _ => ln_42)) (gr rfl (r_bin (ot rfl) (ot rfl) rfl) (go_nil ?_))))))))))))))
       obtain ⟨s56, hF, hK56⟩ := obind hF
       refine go_joinc (β := Unit) (fun s h' => True) (fun s => [(2, true, .slice a2_0 p2.length c2_0), (6, true, .bool false), (7, true, .bool true), (8, true, pt b8_w0), (11, true, .slice (some ⟨b52_11, 0, none⟩) 4 4), (12, true, .int .i64 y52_0), (13, true, .int .i64 s56), (53, true, .int .i64 y52_0), (54, true, .bool (decide (y52_0 < 600))), (57, true, .int .i64 y52_0), (58, true, .int .i64 (Int.tmod y52_0 4)), (59, true, .int .i64 y52_0), (60, true, .slice a2_0 p2.length c2_0), (61, true, .int .i64 (p2.length : Int)), (62, true, .bool (decide (y52_0 < (p2.length : Int))))]) (fun s => (List.flatten [a52_3, a52_4, a52_2, a52_1, a52_0, [⟨b52_11, .cells [pt b12_w0, pt b13_w0, pt b14_w0, pt b15_w0] 32⟩], [⟨b4_4, .cells [.int .i64 p1.Rev, .string p1.Key, .string p1.Val, .bool p1.Del] 36⟩]] : List Blk)) ?_ (fun J56 => ?_)
       ·
        rintro _ h56 e56 w56 _
        replace hF := hK56
        refine go_seq (go_region (gM rfl rfl ?_))
        obtain ⟨z58z_0, z58z_1, rfl, f58z0, f58z1⟩ := (f52_4.ext e56.kn)
        refine gs_unz ?_
        simp only [ca_, na_]
        refine gs_front (.s (.z)) ?_
        obtain ⟨q59z_1, t59z_1, q59z_2, t59z_2, z59z_0, rfl, f59z0, f59z1, f59z2⟩ := f58z0
        refine gs_unz ?_
        simp only [ca_, na_]
        refine gs_front (.s (.s (.s (.z)))) ?_
        obtain ⟨q60z_0, t60z_0, rfl, f60z0⟩ := f59z2
        refine gs_unz ?_
        simp only [ca_, na_]
        refine gs_pack (fun s => Zmem_Mem h56 b8_w0 s y52_4.2.1) (.cons .z (.cons .z .nil)) ⟨_, _, rfl, f60z0⟩ fun z61p y61p => ?_
        obtain ⟨x57, hx57, hF⟩ := obind hF
        refine kcX EE_fr w56 (.cons .z .nil) rfl of (ops_t rfl os0) hb_26 (s_mem_Mem_Count w56 y52_4.2.1 y61p hx57) ?_
        rintro _ _ h57 e57 w57 ⟨z57_y0, rfl, rfl, f57_0⟩
        simp only [ca_, na_]
        refine gA rfl rfl (go_nil (go_seq (go_region (gM rfl rfl (gM rfl rfl ?_)))))
        by_cases hk62_0 : s56 = ((0 : Nat) : Int)
        ·
         replace hF := ifP hk62_0 hF
         refine gr rfl (r_ia (ot rfl) (ot rfl) (ia_eq hk62_0 (ia_of ut_44 sz_32 (by decide) rfl))) (go_cast (pt b52_11) rfl (gls 10 ag_32 rfl rfl rfl rfl (gs_pack (fun s => Zbst_Tree h57 b9_w0_1 b8_w0 s y52_4.1 x57.2) (.cons (.s (.z)) (.cons (.s (.z)) (.cons (.s (.z)) (.cons .z .nil)))) ⟨_, _, _, _, _, rfl, (f59z0.ext e57.kn), (f59z1.ext e57.kn), f57_0⟩ fun z64p y64p => (gs_pack (fun s => Zindex_Index h57 b9_w0 b9_w0_1 b8_w0 b9_w0_3 s y52_4.1 x57.2 y52_4.2.2) (.cons (.s (.z)) (.cons .z (.cons .z .nil))) ⟨_, _, rfl, y64p, (f58z1.ext e57.kn)⟩ fun z65p y65p => ?_))))
         obtain ⟨x63, hx63, hF⟩ := obind hF
         refine kcX EE_fr w57 (.cons .z (.cons (.s (.s (.s (.z)))) .nil)) rfl of (ops_t rfl os0) hb_21 (s_index_Work_Step n w57 y52_4.1 x57.2 y52_4.2.2 y52_1 y65p ((f52_1.ext e56.kn).ext e57.kn) hx63) ?_
         rintro _ _ h63 e63 w63 ⟨z63_y0, z63_y1, rfl, rfl, f63_0, f63_1⟩
         simp only [ca_, na_]
         refine go_nil (go_seq (go_region (gM rfl rfl ?_)))
         obtain ⟨z67z_0, z67z_1, rfl, f67z0, f67z1⟩ := f63_0
         refine gs_unz ?_
         simp only [ca_, na_]
         refine gs_front (.s (.z)) ?_
         obtain ⟨q68z_1, t68z_1, q68z_2, t68z_2, z68z_0, rfl, f68z0, f68z1, f68z2⟩ := f67z0
         refine gs_unz ?_
         simp only [ca_, na_]
         refine gs_front (.s (.s (.s (.z)))) ?_
         obtain ⟨q69z_0, t69z_0, rfl, f69z0⟩ := f68z2
         refine gs_unz ?_
         simp only [ca_, na_]
         refine gs_pack (fun s => Zmem_Mem h63 b8_w0 s x63.2.2.1) (.cons .z (.cons .z .nil)) ⟨_, _, rfl, f69z0⟩ fun z70p y70p => ?_
         obtain ⟨x66, hx66, hF⟩ := obind hF
         refine kcX EE_fr w63 (.cons .z .nil) rfl of (ops_t rfl os0) hb_26 (s_mem_Mem_Count w63 x63.2.2.1 y70p hx66) ?_
         rintro _ _ h66 e66 w66 ⟨z66_y0, rfl, rfl, f66_0⟩
         simp only [ca_, na_]
         refine gM rfl rfl (gr rfl (r_bin (ot rfl) (oc rfl) rfl) (gr rfl (r_bin (ot rfl) (ot rfl) rfl) (go_nil ?_)))
         refine g_cond (b := (decide (x66.1 > (IntKind.i64.wrap (x57.1 + 1))))) (ot rfl) (fun hc71 => ?_) (fun hc71 => ?_)
         ·
          replace hF := ifT hc71 hF
          refine go_seq (go_region (gAc rfl rfl (go_nil ?_)))
          obtain rfl := someI hF
          obtain rfl := someI hK54
          obtain rfl := someI hK16
          exact g_ret (rst rfl rs0) (fun h1 hf hs => ⟨(e8.trans (e9.trans (e10.trans (e12.trans (e13.trans (e14.trans (e15.trans (e52.trans (e56.trans (e57.trans (e63.trans (e66.trans hs.hext)))))))))))), rfl⟩)
         ·
          replace hF := ifF hc71 hF
          refine go_skip (go_endb (gs_pack (fun s => Zbst_Tree h66 b9_w0_1 b8_w0 s x63.2.1 x66.2) (.cons (.s (.z)) (.cons (.s (.z)) (.cons (.s (.z)) (.cons .z .nil)))) ⟨_, _, _, _, _, rfl, (f68z0.ext e66.kn), (f68z1.ext e66.kn), f66_0⟩ fun z72p y72p => (gs_pack (fun s => Zindex_Index h66 b9_w0 b9_w0_1 b8_w0 b9_w0_3 s x63.2.1 x66.2 x63.2.2.2.1) (.cons (.s (.z)) (.cons .z (.cons .z .nil))) ⟨_, _, rfl, y72p, (f67z1.ext e66.kn)⟩ fun z73p y73p => ?_)))
          obtain rfl := someI hF
          refine gs_perm (perm_of (d := []) _ [0, 2, 3, 4, 1, 5, 6] rfl) ?_
          exact Goes.weak (J54 ((s56, x57.1, x57.1, s56, x66.1, x57.1, (IntKind.i64.wrap (x57.1 + 1)), (decide (x66.1 > (IntKind.i64.wrap (x57.1 + 1)))), (x63.2.1, x66.2, x63.2.2.2.1), y52_5, y52_3, y52_2, x63.2.2.2.2), z73p, a52_4, a52_2, a52_1, z63_y1) _ (e56.trans (e57.trans (e63.trans e66))) w66 ⟨rfl, y73p, ((((f52_5.ext e56.kn).ext e57.kn).ext e63.kn).ext e66.kn), ((((f52_3.ext e56.kn).ext e57.kn).ext e63.kn).ext e66.kn), ((((f52_2.ext e56.kn).ext e57.kn).ext e63.kn).ext e66.kn), (f63_1.ext e66.kn)⟩) (Sub.cons (Sub.cons (Sub.cons (Sub.cons (Sub.cons (Sub.cons (Sub.cons (Sub.cons (Sub.cons (Sub.cons (Sub.cons (Sub.cons (Sub.cons (Sub.cons (Sub.cons (Sub.cons (Sub.cons (Sub.cons (Sub.cons (Sub.cons (Sub.cons (Sub.cons (Sub.cons (Sub.nil _) rfl) rfl) rfl) rfl) rfl) rfl) rfl) rfl) rfl) rfl) rfl) rfl) rfl) rfl) rfl) rfl) rfl) rfl) rfl) rfl) rfl) rfl) rfl)
        replace hF := ifN hk62_0 hF
        by_cases hk62_1 : s56 = ((1 : Nat) : Int)
        ·
         replace hF := ifP hk62_1 hF
         refine gr rfl (r_ia (ot rfl) (ot rfl) (ia_eq hk62_1 (ia_of ut_44 sz_32 (by decide) rfl))) (go_cast (.pointer (some ⟨b52_11, 1, none⟩)) rfl (gls 10 ag_32 rfl rfl rfl rfl (gs_pack (fun s => Zbst_Tree h57 b9_w0_1 b8_w0 s y52_4.1 x57.2) (.cons (.s (.z)) (.cons (.s (.z)) (.cons (.s (.z)) (.cons .z .nil)))) ⟨_, _, _, _, _, rfl, (f59z0.ext e57.kn), (f59z1.ext e57.kn), f57_0⟩ fun z75p y75p => (gs_pack (fun s => Zindex_Index h57 b9_w0 b9_w0_1 b8_w0 b9_w0_3 s y52_4.1 x57.2 y52_4.2.2) (.cons (.s (.z)) (.cons .z (.cons .z .nil))) ⟨_, _, rfl, y75p, (f58z1.ext e57.kn)⟩ fun z76p y76p => ?_))))
         obtain ⟨x74, hx74, hF⟩ := obind hF
         refine kcX EE_fr w57 (.cons .z (.cons (.s (.s (.z))) .nil)) rfl of (ops_t rfl os0) hb_21 (s_index_Work_Step n w57 y52_4.1 x57.2 y52_4.2.2 y52_2 y76p ((f52_2.ext e56.kn).ext e57.kn) hx74) ?_
         rintro _ _ h74 e74 w74 ⟨z74_y0, z74_y1, rfl, rfl, f74_0, f74_1⟩
         simp only [ca_, na_]
         refine go_nil (go_seq (go_region (gM rfl rfl ?_)))
         obtain ⟨z78z_0, z78z_1, rfl, f78z0, f78z1⟩ := f74_0
         refine gs_unz ?_
         simp only [ca_, na_]
         refine gs_front (.s (.z)) ?_
         obtain ⟨q79z_1, t79z_1, q79z_2, t79z_2, z79z_0, rfl, f79z0, f79z1, f79z2⟩ := f78z0
         refine gs_unz ?_
         simp only [ca_, na_]
         refine gs_front (.s (.s (.s (.z)))) ?_
         obtain ⟨q80z_0, t80z_0, rfl, f80z0⟩ := f79z2
         refine gs_unz ?_
         simp only [ca_, na_]
         refine gs_pack (fun s => Zmem_Mem h74 b8_w0 s x74.2.2.1) (.cons .z (.cons .z .nil)) ⟨_, _, rfl, f80z0⟩ fun z81p y81p => ?_
         obtain ⟨x77, hx77, hF⟩ := obind hF
         refine kcX EE_fr w74 (.cons .z .nil) rfl of (ops_t rfl os0) hb_26 (s_mem_Mem_Count w74 x74.2.2.1 y81p hx77) ?_
         rintro _ _ h77 e77 w77 ⟨z77_y0, rfl, rfl, f77_0⟩
         simp only [ca_, na_]
         refine gM rfl rfl (gr rfl (r_bin (ot rfl) (oc rfl) rfl) (gr rfl (r_bin (ot rfl) (ot rfl) rfl) (go_nil ?_)))
         refine g_cond (b := (decide (x77.1 > (IntKind.i64.wrap (x57.1 + 1))))) (ot rfl) (fun hc82 => ?_) (fun hc82 => ?_)
         ·
          replace hF := ifT hc82 hF
          refine go_seq (go_region (gAc rfl rfl (go_nil ?_)))
          obtain rfl := someI hF
          obtain rfl := someI hK54
          obtain rfl := someI hK16
          exact g_ret (rst rfl rs0) (fun h1 hf hs => ⟨(e8.trans (e9.trans (e10.trans (e12.trans (e13.trans (e14.trans (e15.trans (e52.trans (e56.trans (e57.trans (e74.trans (e77.trans hs.hext)))))))))))), rfl⟩)
         ·
          replace hF := ifF hc82 hF
          refine go_skip (go_endb (gs_pack (fun s => Zbst_Tree h77 b9_w0_1 b8_w0 s x74.2.1 x77.2) (.cons (.s (.z)) (.cons (.s (.z)) (.cons (.s (.z)) (.cons .z .nil)))) ⟨_, _, _, _, _, rfl, (f79z0.ext e77.kn), (f79z1.ext e77.kn), f77_0⟩ fun z83p y83p => (gs_pack (fun s => Zindex_Index h77 b9_w0 b9_w0_1 b8_w0 b9_w0_3 s x74.2.1 x77.2 x74.2.2.2.1) (.cons (.s (.z)) (.cons .z (.cons .z .nil))) ⟨_, _, rfl, y83p, (f78z1.ext e77.kn)⟩ fun z84p y84p => ?_)))
          obtain rfl := someI hF
          refine gs_perm (perm_of (d := []) _ [0, 2, 3, 1, 4, 5, 6] rfl) ?_
          exact Goes.weak (J54 ((s56, x57.1, x57.1, s56, x77.1, x57.1, (IntKind.i64.wrap (x57.1 + 1)), (decide (x77.1 > (IntKind.i64.wrap (x57.1 + 1)))), (x74.2.1, x77.2, x74.2.2.2.1), y52_5, y52_3, x74.2.2.2.2, y52_1), z84p, a52_4, a52_2, z74_y1, a52_0) _ (e56.trans (e57.trans (e74.trans e77))) w77 ⟨rfl, y84p, ((((f52_5.ext e56.kn).ext e57.kn).ext e74.kn).ext e77.kn), ((((f52_3.ext e56.kn).ext e57.kn).ext e74.kn).ext e77.kn), (f74_1.ext e77.kn), ((((f52_1.ext e56.kn).ext e57.kn).ext e74.kn).ext e77.kn)⟩) (Sub.cons (Sub.cons (Sub.cons (Sub.cons (Sub.cons (Sub.cons (Sub.cons (Sub.cons (Sub.cons (Sub.cons (Sub.cons (Sub.cons (Sub.cons (Sub.cons (Sub.cons (Sub.cons (Sub.cons (Sub.cons (Sub.cons (Sub.cons (Sub.cons (Sub.cons (Sub.cons (Sub.nil _) rfl) rfl) rfl) rfl) rfl) rfl) rfl) rfl) rfl) rfl) rfl) rfl) rfl) rfl) rfl) rfl) rfl) rfl) rfl) rfl) rfl) rfl) rfl)
        replace hF := ifN hk62_1 hF
        by_cases hk62_2 : s56 = ((2 : Nat) : Int)
        ·
         replace hF := ifP hk62_2 hF
         refine gr rfl (r_ia (ot rfl) (ot rfl) (ia_eq hk62_2 (ia_of ut_44 sz_32 (by decide) rfl))) (go_cast (.pointer (some ⟨b52_11, 2, none⟩)) rfl (gls 10 ag_32 rfl rfl rfl rfl (gs_pack (fun s => Zbst_Tree h57 b9_w0_1 b8_w0 s y52_4.1 x57.2) (.cons (.s (.z)) (.cons (.s (.z)) (.cons (.s (.z)) (.cons .z .nil)))) ⟨_, _, _, _, _, rfl, (f59z0.ext e57.kn), (f59z1.ext e57.kn), f57_0⟩ fun z86p y86p => (gs_pack (fun s => Zindex_Index h57 b9_w0 b9_w0_1 b8_w0 b9_w0_3 s y52_4.1 x57.2 y52_4.2.2) (.cons (.s (.z)) (.cons .z (.cons .z .nil))) ⟨_, _, rfl, y86p, (f58z1.ext e57.kn)⟩ fun z87p y87p => ?_))))
         obtain ⟨x85, hx85, hF⟩ := obind hF
         refine kcX EE_fr w57 (.cons .z (.cons (.s (.z)) .nil)) rfl of (ops_t rfl os0) hb_21 (s_index_Work_Step n w57 y52_4.1 x57.2 y52_4.2.2 y52_3 y87p ((f52_3.ext e56.kn).ext e57.kn) hx85) ?_
         rintro _ _ h85 e85 w85 ⟨z85_y0, z85_y1, rfl, rfl, f85_0, f85_1⟩
         simp only [ca_, na_]
         refine go_nil (go_seq (go_region (gM rfl rfl ?_)))
         obtain ⟨z89z_0, z89z_1, rfl, f89z0, f89z1⟩ := f85_0
         refine gs_unz ?_
         simp only [ca_, na_]
         refine gs_front (.s (.z)) ?_
         obtain ⟨q90z_1, t90z_1, q90z_2, t90z_2, z90z_0, rfl, f90z0, f90z1, f90z2⟩ := f89z0
         refine gs_unz ?_
         simp only [ca_, na_]
         refine gs_front (.s (.s (.s (.z)))) ?_
         obtain ⟨q91z_0, t91z_0, rfl, f91z0⟩ := f90z2
         refine gs_unz ?_
         simp only [ca_, na_]
         refine gs_pack (fun s => Zmem_Mem h85 b8_w0 s x85.2.2.1) (.cons .z (.cons .z .nil)) ⟨_, _, rfl, f91z0⟩ fun z92p y92p => ?_
         obtain ⟨x88, hx88, hF⟩ := obind hF
         refine kcX EE_fr w85 (.cons .z .nil) rfl of (ops_t rfl os0) hb_26 (s_mem_Mem_Count w85 x85.2.2.1 y92p hx88) ?_
         rintro _ _ h88 e88 w88 ⟨z88_y0, rfl, rfl, f88_0⟩
         simp only [ca_, na_]
         refine gM rfl rfl (gr rfl (r_bin (ot rfl) (oc rfl) rfl) (gr rfl (r_bin (ot rfl) (ot rfl) rfl) (go_nil ?_)))
         refine g_cond (b := (decide (x88.1 > (IntKind.i64.wrap (x57.1 + 1))))) (ot rfl) (fun hc93 => ?_) (fun hc93 => ?_)
         ·
          replace hF := ifT hc93 hF
          refine go_seq (go_region (gAc rfl rfl (go_nil ?_)))
          obtain rfl := someI hF
          obtain rfl := someI hK54
          obtain rfl := someI hK16
          exact g_ret (rst rfl rs0) (fun h1 hf hs => ⟨(e8.trans (e9.trans (e10.trans (e12.trans (e13.trans (e14.trans (e15.trans (e52.trans (e56.trans (e57.trans (e85.trans (e88.trans hs.hext)))))))))))), rfl⟩)
         ·
          replace hF := ifF hc93 hF
          refine go_skip (go_endb (gs_pack (fun s => Zbst_Tree h88 b9_w0_1 b8_w0 s x85.2.1 x88.2) (.cons (.s (.z)) (.cons (.s (.z)) (.cons (.s (.z)) (.cons .z .nil)))) ⟨_, _, _, _, _, rfl, (f90z0.ext e88.kn), (f90z1.ext e88.kn), f88_0⟩ fun z94p y94p => (gs_pack (fun s => Zindex_Index h88 b9_w0 b9_w0_1 b8_w0 b9_w0_3 s x85.2.1 x88.2 x85.2.2.2.1) (.cons (.s (.z)) (.cons .z (.cons .z .nil))) ⟨_, _, rfl, y94p, (f89z1.ext e88.kn)⟩ fun z95p y95p => ?_)))
          obtain rfl := someI hF
          refine gs_perm (perm_of (d := []) _ [0, 2, 1, 3, 4, 5, 6] rfl) ?_
          exact Goes.weak (J54 ((s56, x57.1, x57.1, s56, x88.1, x57.1, (IntKind.i64.wrap (x57.1 + 1)), (decide (x88.1 > (IntKind.i64.wrap (x57.1 + 1)))), (x85.2.1, x88.2, x85.2.2.2.1), y52_5, x85.2.2.2.2, y52_2, y52_1), z95p, a52_4, z85_y1, a52_1, a52_0) _ (e56.trans (e57.trans (e85.trans e88))) w88 ⟨rfl, y95p, ((((f52_5.ext e56.kn).ext e57.kn).ext e85.kn).ext e88.kn), (f85_1.ext e88.kn), ((((f52_2.ext e56.kn).ext e57.kn).ext e85.kn).ext e88.kn), ((((f52_1.ext e56.kn).ext e57.kn).ext e85.kn).ext e88.kn)⟩) (Sub.cons (Sub.cons (Sub.cons (Sub.cons (Sub.cons (Sub.cons (Sub.cons (Sub.cons (Sub.cons (Sub.cons (Sub.cons (Sub.cons (Sub.cons (Sub.cons (Sub.cons (Sub.cons (Sub.cons (Sub.cons (Sub.cons (Sub.cons (Sub.cons (Sub.cons (Sub.cons (Sub.nil _) rfl) rfl) rfl) rfl) rfl) rfl) rfl) rfl) rfl) rfl) rfl) rfl) rfl) rfl) rfl) rfl) rfl) rfl) rfl) rfl) rfl) rfl) rfl)
        replace hF := ifN hk62_2 hF
        by_cases hk62_3 : s56 = ((3 : Nat) : Int)
        ·
         replace hF := ifP hk62_3 hF
         refine gr rfl (r_ia (ot rfl) (ot rfl) (ia_eq hk62_3 (ia_of ut_44 sz_32 (by decide) rfl))) (go_cast (.pointer (some ⟨b52_11, 3, none⟩)) rfl (gls 10 ag_32 rfl rfl rfl rfl (gs_pack (fun s => Zbst_Tree h57 b9_w0_1 b8_w0 s y52_4.1 x57.2) (.cons (.s (.z)) (.cons (.s (.z)) (.cons (.s (.z)) (.cons .z .nil)))) ⟨_, _, _, _, _, rfl, (f59z0.ext e57.kn), (f59z1.ext e57.kn), f57_0⟩ fun z97p y97p => (gs_pack (fun s => Zindex_Index h57 b9_w0 b9_w0_1 b8_w0 b9_w0_3 s y52_4.1 x57.2 y52_4.2.2) (.cons (.s (.z)) (.cons .z (.cons .z .nil))) ⟨_, _, rfl, y97p, (f58z1.ext e57.kn)⟩ fun z98p y98p => ?_))))
         obtain ⟨x96, hx96, hF⟩ := obind hF
         refine kcX EE_fr w57 (.cons .z (.cons .z .nil)) rfl of (ops_t rfl os0) hb_21 (s_index_Work_Step n w57 y52_4.1 x57.2 y52_4.2.2 y52_5 y98p ((f52_5.ext e56.kn).ext e57.kn) hx96) ?_
         rintro _ _ h96 e96 w96 ⟨z96_y0, z96_y1, rfl, rfl, f96_0, f96_1⟩
         simp only [ca_, na_]
         refine go_nil (go_seq (go_region (gM rfl rfl ?_)))
         obtain ⟨z100z_0, z100z_1, rfl, f100z0, f100z1⟩ := f96_0
         refine gs_unz ?_
         simp only [ca_, na_]
         refine gs_front (.s (.z)) ?_
         obtain ⟨q101z_1, t101z_1, q101z_2, t101z_2, z101z_0, rfl, f101z0, f101z1, f101z2⟩ := f100z0
         refine gs_unz ?_
         simp only [ca_, na_]
         refine gs_front (.s (.s (.s (.z)))) ?_
         obtain ⟨q102z_0, t102z_0, rfl, f102z0⟩ := f101z2
         refine gs_unz ?_
         simp only [ca_, na_]
         refine gs_pack (fun s => Zmem_Mem h96 b8_w0 s x96.2.2.1) (.cons .z (.cons .z .nil)) ⟨_, _, rfl, f102z0⟩ fun z103p y103p => ?_
         obtain ⟨x99, hx99, hF⟩ := obind hF
         refine kcX EE_fr w96 (.cons .z .nil) rfl of (ops_t rfl os0) hb_26 (s_mem_Mem_Count w96 x96.2.2.1 y103p hx99) ?_
         rintro _ _ h99 e99 w99 ⟨z99_y0, rfl, rfl, f99_0⟩
         simp only [ca_, na_]
         refine gM rfl rfl (gr rfl (r_bin (ot rfl) (oc rfl) rfl) (gr rfl (r_bin (ot rfl) (ot rfl) rfl) (go_nil ?_)))
         refine g_cond (b := (decide (x99.1 > (IntKind.i64.wrap (x57.1 + 1))))) (ot rfl) (fun hc104 => ?_) (fun hc104 => ?_)
         ·
          replace hF := ifT hc104 hF
          refine go_seq (go_region (gAc rfl rfl (go_nil ?_)))
          obtain rfl := someI hF
          obtain rfl := someI hK54
          obtain rfl := someI hK16
          exact g_ret (rst rfl rs0) (fun h1 hf hs => ⟨(e8.trans (e9.trans (e10.trans (e12.trans (e13.trans (e14.trans (e15.trans (e52.trans (e56.trans (e57.trans (e96.trans (e99.trans hs.hext)))))))))))), rfl⟩)
         ·
          replace hF := ifF hc104 hF
          refine go_skip (go_endb (gs_pack (fun s => Zbst_Tree h99 b9_w0_1 b8_w0 s x96.2.1 x99.2) (.cons (.s (.z)) (.cons (.s (.z)) (.cons (.s (.z)) (.cons .z .nil)))) ⟨_, _, _, _, _, rfl, (f101z0.ext e99.kn), (f101z1.ext e99.kn), f99_0⟩ fun z105p y105p => (gs_pack (fun s => Zindex_Index h99 b9_w0 b9_w0_1 b8_w0 b9_w0_3 s x96.2.1 x99.2 x96.2.2.2.1) (.cons (.s (.z)) (.cons .z (.cons .z .nil))) ⟨_, _, rfl, y105p, (f100z1.ext e99.kn)⟩ fun z106p y106p => ?_)))
          obtain rfl := someI hF
          exact Goes.weak (J54 ((s56, x57.1, x57.1, s56, x99.1, x57.1, (IntKind.i64.wrap (x57.1 + 1)), (decide (x99.1 > (IntKind.i64.wrap (x57.1 + 1)))), (x96.2.1, x99.2, x96.2.2.2.1), x96.2.2.2.2, y52_3, y52_2, y52_1), z106p, z96_y1, a52_2, a52_1, a52_0) _ (e56.trans (e57.trans (e96.trans e99))) w99 ⟨rfl, y106p, (f96_1.ext e99.kn), ((((f52_3.ext e56.kn).ext e57.kn).ext e96.kn).ext e99.kn), ((((f52_2.ext e56.kn).ext e57.kn).ext e96.kn).ext e99.kn), ((((f52_1.ext e56.kn).ext e57.kn).ext e96.kn).ext e99.kn)⟩) (Sub.cons (Sub.cons (Sub.cons (Sub.cons (Sub.cons (Sub.cons (Sub.cons (Sub.cons (Sub.cons (Sub.cons (Sub.cons (Sub.cons (Sub.cons (Sub.cons (Sub.cons (Sub.cons (Sub.cons (Sub.cons (Sub.cons (Sub.cons (Sub.cons (Sub.cons (Sub.cons (Sub.nil _) rfl) rfl) rfl) rfl) rfl) rfl) rfl) rfl) rfl) rfl) rfl) rfl) rfl) rfl) rfl) rfl) rfl) rfl) rfl) rfl) rfl) rfl) rfl)
        replace hF := ifN hk62_3 hF
        cases hF
       ·
        refine g_cond (b := (decide (y52_0 < (p2.length : Int)))) (ot rfl) (fun hc55 => ?_) (fun hc55 => ?_)
        ·
         replace hF := ifT hc55 hF
         refine go_region (gM rfl rfl (gM rfl rfl ?_))
         obtain ⟨x107, hx107, hF⟩ := obind hF
         obtain ⟨q107, row107, i107, cl107, rc107, sp107⟩ := ix (ik := .i64) (cap := c2_0) (E := EE) ((((((((f2_0.ext e8.kn).ext e9.kn).ext e10.kn).ext e12.kn).ext e13.kn).ext e14.kn).ext e15.kn).ext e52.kn) hx107 ut_42 sz_5 rfl
         obtain rfl := rc107
         refine gr rfl (r_ia (ot rfl) (ot rfl) i107) (gr rfl (r_load (ot rfl) (v := .int .u8 x107) (lo_e (fun hf kn => ld_one ag_5 (kn.cellsAt cl107)))) (gr rfl (r_bin (ot rfl) (oc rfl) rfl) (gr rfl (r_conv (ot rfl) rfl) (gA rfl rfl (go_nil ?_)))))
         obtain rfl := someI hF
         exact Goes.weak (J56 () _ (HExt.refl _) w52 trivial) (Sub.cons (Sub.cons (Sub.cons (Sub.cons (Sub.cons (Sub.cons (Sub.cons (Sub.cons (Sub.cons (Sub.cons (Sub.cons (Sub.cons (Sub.cons (Sub.cons (Sub.cons (Sub.nil _) rfl) rfl) rfl) rfl) rfl) rfl) rfl) rfl) rfl) rfl) rfl) rfl) rfl) rfl) rfl)
        ·
         replace hF := ifF hc55 hF
         refine go_skip ?_
         obtain rfl := someI hF
         exact Goes.weak (J56 () _ (HExt.refl _) w52 trivial) (Sub.cons (Sub.cons (Sub.cons (Sub.cons (Sub.cons (Sub.cons (Sub.cons (Sub.cons (Sub.cons (Sub.cons (Sub.cons (Sub.cons (Sub.cons (Sub.cons (Sub.cons (Sub.nil _) rfl) rfl) rfl) rfl) rfl) rfl) rfl) rfl) rfl) rfl) rfl) rfl) rfl) rfl) rfl)
     ·
      replace hF := ifF hc53 hF
      refine go_exit rfl ?_
      obtain rfl := someI hF
      exact Goes.weak (J16 (((y52_4.1, y52_4.2.1, y52_4.2.2), y52_5, y52_3, y52_2, y52_1), a52_3, a52_4, a52_2, a52_1, a52_0) _ e52 w52 ⟨rfl, f52_4, f52_5, f52_3, f52_2, f52_1⟩) (Sub.cons (Sub.cons (Sub.cons (Sub.cons (Sub.nil _) rfl) rfl) rfl) rfl)
  ·
   refine go_block ?_
   refine go_loop (α := (List TEvent) × Nat × (Obst_Tree × Omem_Mem × Ochain_Store) × List Blk × Heap) (fun a => a.1 = List.drop a.2.1 p0 ∧ HExt h9 a.2.2.2.2 ∧ Wf a.2.2.2.2 ∧ F_law19_IndexSteps_L3 n a.1 a.2.1 a.2.2.1 = some s10 ∧ Zindex_Index a.2.2.2.2 b9_w0 b9_w0_1 b8_w0 b9_w0_3 a.2.2.2.1 a.2.2.1.1 a.2.2.1.2.1 a.2.2.1.2.2) (fun a => a.1.length) (fun a => [(0, true, .slice a0_0 p0.length c0_0), (2, true, .slice a2_0 p2.length c2_0), (4, true, pt b4_4), (6, true, .bool false), (7, true, .bool true), (8, true, pt b8_w0), (9, true, pt b9_w0), (10, true, .int .i64 (a.2.1 : Int))]) (fun a => (List.flatten [a.2.2.2.1, [⟨b4_4, .cells [.int .i64 p1.Rev, .string p1.Key, .string p1.Val, .bool p1.Del] 36⟩]] : List Blk)) (fun a => a.2.2.2.2) ?_ (p0, 0, (x9.1, x9.2.1, x9.2.2), z9_w0, h9) ⟨rfl, HExt.refl _, w9, hF, f9_0⟩ (Sub.cons (Sub.cons (Sub.cons (Sub.cons (Sub.cons (Sub.cons (Sub.cons (Sub.cons (Sub.nil _) rfl) rfl) rfl) rfl) rfl) rfl) rfl) rfl) rfl rfl
   rintro ⟨r108, i108, y108_0, a108_0, h108⟩ ⟨hr108, e108, w108, hF, f108_0⟩ ih108
   try dsimp only at f108_0
   rcases r108 with _ | ⟨z108, r108⟩
   ·
    have hi108 := drop_nil hr108
    rw [F_law19_IndexSteps_L3.eq_1] at hF
    refine go_seq (go_seq (go_region (gM rfl rfl (gM rfl rfl (gr rfl (r_len rfl (os1 (ot rfl) os0) (fun _ _ => ln_22)) (gr rfl (r_bin (ot rfl) (ot rfl) rfl) (go_cast (.bool false) (congrArg Value.bool (decide_eq_false hi108)) (go_nil ?_))))))))
    refine g_cond (b := false) (ot rfl) (fun hc109 => ?_) (fun hc109 => ?_)
    ·
     cases hc109
    refine go_exit rfl ?_
    obtain rfl := someI hF
    exact Goes.weak (J10 a108_0 _ e108 w108 f108_0) (Sub.cons (Sub.cons (Sub.cons (Sub.cons (Sub.cons (Sub.cons (Sub.nil _) rfl) rfl) rfl) rfl) rfl) rfl)
   ·
    obtain ⟨hi108, hx108, hr108⟩ := drop_cons hr108
    have hb108 := (((f0_0.ext e8.kn).ext e9.kn).ext e108.kn).1
    rw [F_law19_IndexSteps_L3.eq_2] at hF
    refine go_seq (go_seq (go_region (gM rfl rfl (gM rfl rfl (gr rfl (r_len rfl (os1 (ot rfl) os0) (fun _ _ => ln_22)) (gr rfl (r_bin (ot rfl) (ot rfl) rfl) (go_cast (.bool true) (congrArg Value.bool (decide_eq_true (Int.ofNat_lt.mpr hi108))) (go_nil ?_))))))))
    refine g_cond (b := true) (ot rfl) (fun hc110 => ?_) (fun hc110 => ?_)
    rotate_left
    ·
     cases hc110
    refine go_skip (go_seq (go_block (go_region (gM rfl rfl (gM rfl rfl (gM rfl rfl ?_))))))
    obtain ⟨q111, row111, i111, cl111, rc111, sp111⟩ := ix (ik := .i64) (cap := c0_0) (E := EE) (((f0_0.ext e8.kn).ext e9.kn).ext e108.kn) ((getI_nat _ _).trans hx108) ut_22 sz_36 rfl
    obtain rfl := rc111
    refine gr rfl (r_ia (ot rfl) (ot rfl) i111) (gr rfl (r_load (ot rfl) (v := .agg #[.int .i64 z108.Rev, .string z108.Key, .string z108.Val, .bool z108.Del]) (lo_e (fun hf kn => ld_of (r := [.int .i64 z108.Rev, .string z108.Key, .string z108.Val, .bool z108.Del]) ag_36 sz_36 (kn.cellsAt cl111)))) ?_)
    obtain ⟨x112, hx112, hF⟩ := obind hF
    refine kcX EE_fr w108 (.cons .z .nil) rfl of (ops_t rfl (ops_t rfl os0)) hb_25 (s_index_Index_Put n w108 y108_0.1 y108_0.2.1 y108_0.2.2 z108 f108_0 hx112) ?_
    rintro _ _ h112 e112 w112 ⟨z112_y0, b112_w0, z112_w0, rfl, rfl, f112_0, f112_1⟩
    simp only [ca_, na_]
    obtain ⟨x113, hx113, hF⟩ := obind hF
    refine kcX EE_fr w112 (.cons .z (.cons .z .nil)) rfl of (ops_t rfl os0) hb_14 (s_index_Run n w112 x112.2.1 x112.2.2.1 x112.2.2.2 x112.1 f112_0 f112_1 hx113) ?_
    rintro _ _ h113 e113 w113 ⟨z113_y0, z113_y1, rfl, rfl, f113_0, f113_1⟩
    simp only [ca_, na_]
    refine go_nil (go_endb (go_region (gM rfl rfl (gr rfl (r_bin (ot rfl) (oc rfl) rfl) (gA rfl rfl (go_nil (gs_sub (.cons_cons _ (.cons _ (.cons_cons _ (.refl _)))) (go_re 10 (v2 := .int .i64 ((i108 + 1 : Nat) : Int)) rfl (wrap_succ hi108 hb108) ?_))))))))
    exact Goes.weak (ih108 (r108, i108 + 1, (x113.1, x113.2.1, x113.2.2.1), z113_y0, h113) ⟨hr108, (e108.trans (e112.trans e113)), w113, hF, f113_0⟩ (Nat.lt_succ_self _)) (Sub.cons (Sub.cons (Sub.cons (Sub.cons (Sub.cons (Sub.cons (Sub.cons (Sub.cons (Sub.nil _) rfl) rfl) rfl) rfl) rfl) rfl) rfl) rfl)
end Go.Proofs.YtndhbaidibioeaaGreat.V
