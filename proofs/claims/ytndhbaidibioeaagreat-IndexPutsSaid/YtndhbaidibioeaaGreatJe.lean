/- Walks.
   No condition: these are laws of the clean machine and of this program. -/
import Derived.Test.YtndhbaidibioeaaGreatJc
namespace Go.Proofs.YtndhbaidibioeaaGreat.V
open Go
set_option linter.unusedVariables false
set_option linter.unusedSimpArgs false
set_option maxRecDepth 100000
set_option maxHeartbeats 4000000
theorem s_law19_IndexPuts (n : Nat) {h : Heap} (hw : Wf h) (p0 : (List TEvent)) (p1 : TRange) (p2 : Int) {a0_0 : Option Addr} {c0_0 : Nat} (f0_0 : RL R_TEvent h a0_0 c0_0 p0) {r : Bool} (hF : F_law19_IndexPuts n p0 p1 p2 = some r) :
    Ev EE 3 [.slice a0_0 p0.length c0_0, .agg #[.string p1.From, .string p1.To], .int .i64 p2] h (fun v _ => v = .bool r) := by
 unfold F_law19_IndexPuts at hF
 refine ev_of hw rfl at_3 rfl rfl (go_seg0 ?_)
 refine go_seq (go_region (gs_box rfl (ot rfl) rfl (fun b4_4 => gAc rfl rfl (go_nil (go_seq (go_region (g_callp EE_fr rfl of os0 hb_9 (fun _ => rfl) (fun hf kn w => by exact known_evp rfl hf w) (gA rfl rfl (go_nil (go_seq (go_seq (go_region (gM rfl rfl ?_)))))))))))))
 obtain ⟨x6, hx6, hF⟩ := obind hF
 refine g_callp (v := .bool x6) EE_fr rfl of (os1 (ot rfl) os0) hb_10 (fun _ => rfl) (fun hf kn w => by exact s_law19_few n w p0 (f0_0.ext kn) hx6) (gr rfl (r_un (ot rfl) rfl) (go_nil ?_))
 refine g_cond (b := (!x6)) (ot rfl) (fun hc7 => ?_) (fun hc7 => ?_)
 ·
  replace hF := ifT hc7 hF
  refine go_seq (go_region (gM rfl rfl (gA rfl rfl (go_nil ?_))))
  obtain rfl := someI hF
  exact g_ret (rst rfl rs0) (fun h1 hf hs => ⟨hs.hext, rfl⟩)
 ·
  replace hF := ifF hc7 hF
  refine go_skip (go_seq (go_region (gM rfl rfl ?_)))
  obtain ⟨x8, hx8, hF⟩ := obind hF
  refine kcX EE_fr hw .nil rfl of (ops_t rfl os0) hb_11 (s_law19_made n hw p0 f0_0 hx8) ?_
  rintro _ _ h8 e8 w8 ⟨b8_w0, b8_w0_1, b8_w0_2, b8_w0_3, z8_w0, rfl, rfl, f8_0⟩
  simp only [ca_, na_]
  refine gA rfl rfl (go_nil (go_seq (go_region (gM rfl rfl (gM rfl rfl ?_)))))
  obtain ⟨x9, hx9, hF⟩ := obind hF
  refine g_call EE_fr (fun _ h => by cases h; rfl) of (os1 (ot rfl) (os1 (ot rfl) os0)) hb_12 (fun hf kn w => by exact s_ref19_Map n w p0 p2 ((f0_0.ext e8.kn).ext kn) hx9) ?_
  rintro v9 h9 e9 w9 ⟨a9_0, c9_0, rfl, f9_0⟩
  refine gA rfl rfl (go_nil (go_seq (go_seq (go_region (gAc rfl rfl (go_nil ?_))))))
  obtain ⟨s10, hF, hK10⟩ := obind hF
  refine go_joinc (β := ((Obst_Tree × Omem_Mem × Ochain_Store)) × List Blk) (fun s h' => s10 = .go s.1 ∧ Zindex_Index h' b8_w0 b8_w0_1 b8_w0_2 b8_w0_3 s.2 s.1.1 s.1.2.1 s.1.2.2) (fun s => [(2, true, .int .i64 p2), (4, true, pt b4_4), (6, true, .bool false), (7, true, .bool true), (8, true, pt b8_w0), (9, true, .slice a9_0 x9.length c9_0)]) (fun s => (List.flatten [s.2, [⟨b4_4, .cells [.string p1.From, .string p1.To] 24⟩]] : List Blk)) ?_ (fun J10 => ?_)
  ·
   rintro ⟨x10_0, a10_0⟩ h10 e10 w10 ⟨hs10, f10_0⟩
   subst hs10
   try dsimp only at f10_0
   replace hF := lpgo hK10
   refine go_seq (go_region (gM rfl rfl (gF (fa_24_0 _ _) rfl rfl (gls 1 ag_9 rfl rfl rfl rfl ?_))))
   obtain ⟨x11, hx11, hF⟩ := obind hF
   obtain ⟨hz11, rfl⟩ := addS_some hx11
   refine gr rfl (r_bin (ot rfl) (oc rfl) (addS_bin hz11)) (gM rfl rfl ?_)
   obtain ⟨x12, hx12, hF⟩ := obind hF
   refine kcX EE_fr w10 (.cons .z .nil) rfl of (ops_t rfl (ops_t rfl (ops_t rfl os0))) hb_15 (s_index_Index_Get n w10 x10_0.1 x10_0.2.1 x10_0.2.2 (p1.From ++ (⟨#[110, 111, 110, 101]⟩ : ByteArray)) p2 f10_0 hx12) ?_
   rintro _ _ h12 e12 w12 ⟨z12_y0, b12_w0, z12_w0, rfl, rfl, f12_0, f12_1⟩
   simp only [ca_, na_]
   obtain ⟨x13, hx13, hF⟩ := obind hF
   refine kcX EE_fr w12 (.cons .z (.cons .z .nil)) rfl of (ops_t rfl os0) hb_14 (s_index_Run n w12 x12.2.1 x12.2.2.1 x12.2.2.2 x12.1 f12_0 f12_1 hx13) ?_
   rintro _ _ h13 e13 w13 ⟨z13_y0, z13_y1, rfl, rfl, f13_0, f13_1⟩
   simp only [ca_, na_]
   obtain ⟨x14, hx14, hF⟩ := obind hF
   refine kcX EE_fr w13 (.cons (.s (.z)) .nil) rfl of (ops_t rfl os0) hb_16 (s_index_Work_Found (bW91 := b8_w0) (bW107 := b8_w0_2) (bW131 := b8_w0_1) (bW161 := b8_w0_3) w13 x13.2.2.2 f13_1 hx14) ?_
   rintro _ _ h14 e14 w14 ⟨a14_0, c14_0, rfl, rfl, f14_0⟩
   simp only [ca_, na_]
   refine gA rfl rfl (go_nil (go_seq (go_regions (L := sq 0 5 ++ [(8, []), (9, []), (5, [9]), (6, [9]), (7, [9])] ++ sq 10 13) (by kernel_rfl) (by kernel_rfl) (fun _ => rfl) (go_sop rfl rfl (gM rfl rfl (go_nil (go_sop rfl rfl (gM rfl rfl (go_nil (go_sop rfl rfl (g_do rfl rfl rfl (gM rfl rfl (go_nil (go_sop rfl rfl (g_do rfl rfl rfl (glw 1 ag_24 sz_24 rfl rfl rfl rfl (go_nil (go_sop rfl rfl (g_do rfl rfl rfl (gM rfl rfl (go_nil (go_sop rfl rfl (g_do rfl rfl rfl ?_)))))))))))))))))))))))
   refine gM rfl rfl (go_nil (go_sop rfl rfl (g_do rfl rfl rfl (glw 1 ag_24 sz_24 rfl rfl rfl rfl (go_nil (go_sopc [(9, .agg #[.string p1.From, .string p1.To])] rfl rfl rfl (rc1 rfl (r_load (ot rfl) (lm_w (mem_seg 1 rfl) ag_24 sz_24 rfl)) rc0) (vq1 (veq_agg _ _ (va1 (veq_str _ _) (va1 (veq_str _ _) (va0 _)))) vq0) rfl (g_do rfl rfl rfl ?_)))))))
   obtain ⟨x15, hx15, hF⟩ := obind hF
   refine kcX EE_fr w14 (.cons .z .nil) rfl of (ops_t rfl (ops_t rfl (ops_t rfl os0))) hb_18 (s_index_Index_Walk n w14 x13.1 x13.2.1 x13.2.2.1 p1 p2 (f13_0.ext e14.kn) hx15) ?_
   rintro _ _ h15 e15 w15 ⟨z15_y0, b15_w0, z15_w0, rfl, rfl, f15_0, f15_1⟩
   simp only [ca_, na_]
   refine go_nil (go_rck (rc1 rfl (r_load (ot rfl) (lm_w (mem_seg 2 rfl) ag_24 sz_24 rfl)) rc0) (go_sopc [(9, .agg #[.string p1.From, .string p1.To])] rfl rfl rfl (rc1 rfl (r_load (ot rfl) (lm_w (mem_seg 2 rfl) ag_24 sz_24 rfl)) rc0) (vq1 (veq_agg _ _ (va1 (veq_str _ _) (va1 (veq_str _ _) (va0 _)))) vq0) rfl (g_do rfl rfl rfl ?_)))
   obtain ⟨x16, hx16, hF⟩ := obind hF
   refine kcX EE_fr w15 (.cons .z (.cons .z .nil)) rfl of (ops_t rfl os0) hb_14 (s_index_Run n w15 x15.2.1 x15.2.2.1 x15.2.2.2 x15.1 f15_0 f15_1 hx16) ?_
   rintro _ _ h16 e16 w16 ⟨z16_y0, z16_y1, rfl, rfl, f16_0, f16_1⟩
   simp only [ca_, na_]
   refine go_nil (go_rck (rc1 rfl (r_load (ot rfl) (lm_w (mem_seg 2 rfl) ag_24 sz_24 rfl)) rc0) (go_sopc [(9, .agg #[.string p1.From, .string p1.To])] rfl rfl rfl (rc1 rfl (r_load (ot rfl) (lm_w (mem_seg 2 rfl) ag_24 sz_24 rfl)) rc0) (vq1 (veq_agg _ _ (va1 (veq_str _ _) (va1 (veq_str _ _) (va0 _)))) vq0) rfl (g_do rfl rfl rfl ?_)))
   obtain ⟨x17, hx17, hF⟩ := obind hF
   refine kcX EE_fr w16 (.cons (.s (.z)) .nil) rfl of (ops_t rfl os0) hb_16 (s_index_Work_Found (bW91 := b8_w0) (bW107 := b8_w0_2) (bW131 := b8_w0_1) (bW161 := b8_w0_3) w16 x16.2.2.2 f16_1 hx17) ?_
   rintro _ _ h17 e17 w17 ⟨a17_0, c17_0, rfl, rfl, f17_0⟩
   simp only [ca_, na_]
   refine go_nil (go_rck (rc1 rfl (r_load (ot rfl) (lm_w (mem_seg 1 rfl) ag_24 sz_24 rfl)) rc0) (go_sop rfl rfl (g_do rfl rfl rfl ?_)))
   obtain ⟨x18, hx18, hF⟩ := obind hF
   refine g_call EE_fr (fun _ h => by cases h; rfl) of (os1 (ot rfl) (os1 (ot rfl) os0)) hb_19 (fun hf kn w => by exact s_ref05_Restrict w x9 p1 ((((((((f9_0.ext e10.kn).ext e12.kn).ext e13.kn).ext e14.kn).ext e15.kn).ext e16.kn).ext e17.kn).ext kn) hx18) ?_
   rintro v18 h18 e18 w18 ⟨a18_0, c18_0, rfl, f18_0⟩
   refine go_nil (go_sop rfl rfl (g_do rfl rfl rfl ?_))
   obtain ⟨x19, hx19, hF⟩ := obind hF
   refine g_callp (v := .bool x19) EE_fr rfl of (os1 (ot rfl) (os1 (ot rfl) os0)) hb_13 (fun _ => rfl) (fun hf kn w => by exact s_ref05_KVs w x17 x18 ((f17_0.ext e18.kn).ext kn) (f18_0.ext kn) hx19) (go_nil (go_sop rfl rfl (gr rfl (r_pkT (ot rfl) (ot rfl)) (go_nil (go_sop rfl rfl (gM rfl rfl (go_nil ?_)))))))
   rcases Bool.eq_false_or_eq_true x19 with hb20 | hb20
   ·
    replace hF := ifT hb20 hF
    refine go_re 68 (v2 := .bool true) rfl (congrArg Value.bool hb20) (go_sop rfl rfl (g_do rfl rfl rfl (gM rfl rfl (go_nil (go_sop rfl rfl (g_do rfl rfl rfl (gM rfl rfl (go_nil (go_sop rfl rfl (g_do rfl rfl rfl (gF (fa_24_0 _ _) rfl rfl (go_nil (go_sop rfl rfl (g_do rfl rfl rfl (gls 1 ag_9 rfl rfl rfl rfl (go_nil (go_sop rfl rfl (g_do rfl rfl rfl ?_))))))))))))))))))
    obtain ⟨x21, hx21, hF⟩ := obind hF
    obtain ⟨hz21, rfl⟩ := addS_some hx21
    refine gr rfl (r_bin (ot rfl) (oc rfl) (addS_bin hz21)) (go_nil (go_sop rfl rfl (g_do rfl rfl rfl ?_)))
    obtain ⟨x22, hx22, hF⟩ := obind hF
    refine g_call EE_fr (fun _ h => by cases h; rfl) of (os1 (ot rfl) (os1 (ot rfl) os0)) hb_17 (fun hf kn w => by exact s_ref19_Key w x9 (p1.From ++ (⟨#[110, 111, 110, 101]⟩ : ByteArray)) (((((((((f9_0.ext e10.kn).ext e12.kn).ext e13.kn).ext e14.kn).ext e15.kn).ext e16.kn).ext e17.kn).ext e18.kn).ext kn) hx22) ?_
    rintro v22 h22 e22 w22 ⟨a22_0, c22_0, rfl, f22_0⟩
    refine go_nil (go_sop rfl rfl (g_do rfl rfl rfl ?_))
    obtain ⟨x23, hx23, hF⟩ := obind hF
    refine g_callp (v := .bool x23) EE_fr rfl of (os1 (ot rfl) (os1 (ot rfl) os0)) hb_13 (fun _ => rfl) (fun hf kn w => by exact s_ref05_KVs w x14 x22 ((((((f14_0.ext e15.kn).ext e16.kn).ext e17.kn).ext e18.kn).ext e22.kn).ext kn) (f22_0.ext kn) hx23) (go_nil (go_sop rfl rfl (gr rfl (r_pkT (ot rfl) (ot rfl)) (go_nil (go_sop rfl rfl (gA rfl rfl (go_nil (go_snil ?_))))))))
    obtain rfl := someI hF
    exact g_ret (rst rfl rs0) (fun h1 hf hs => ⟨(e8.trans (e9.trans (e10.trans (e12.trans (e13.trans (e14.trans (e15.trans (e16.trans (e17.trans (e18.trans (e22.trans hs.hext))))))))))), rfl⟩)
   ·
    replace hF := ifF hb20 hF
    refine go_re 68 (v2 := .bool false) rfl (congrArg Value.bool hb20) (go_sskip rfl (w_no rfl rfl rfl rfl rfl) (g_no rfl rfl rfl rfl rfl (go_nil (go_sskip rfl (w_no rfl rfl rfl rfl rfl) (g_no rfl rfl rfl rfl rfl (go_nil (go_sskip rfl (w_no rfl rfl rfl rfl rfl) (g_no rfl rfl rfl rfl rfl (go_nil (go_sskip rfl (w_no rfl rfl rfl rfl rfl) (g_no rfl rfl rfl rfl rfl (go_nil (go_sskip rfl (w_no rfl rfl rfl rfl rfl) (g_no rfl rfl rfl rfl rfl (go_nil (go_sskip rfl (w_no rfl rfl rfl rfl rfl) (g_no rfl rfl rfl rfl rfl (go_nil (go_sskip rfl (w_no rfl rfl rfl rfl rfl) (g_no rfl rfl rfl rfl rfl (go_nil (go_sop rfl rfl (gr rfl (r_pkF (ot rfl) (oc rfl)) ?_)))))))))))))))))))))))
    refine go_nil (go_sop rfl rfl (gA rfl rfl (go_nil (go_snil ?_))))
    obtain rfl := someI hF
    exact g_ret (rst rfl rs0) (fun h1 hf hs => ⟨(e8.trans (e9.trans (e10.trans (e12.trans (e13.trans (e14.trans (e15.trans (e16.trans (e17.trans (e18.trans hs.hext)))))))))), rfl⟩)
  ·
   refine go_block ?_
   refine go_loop (α := (List TEvent) × Nat × (Obst_Tree × Omem_Mem × Ochain_Store) × List Blk × Heap) (fun a => a.1 = List.drop a.2.1 p0 ∧ HExt h9 a.2.2.2.2 ∧ Wf a.2.2.2.2 ∧ F_law19_IndexPuts_L1 n p2 x9 a.1 a.2.1 a.2.2.1 = some s10 ∧ Zindex_Index a.2.2.2.2 b8_w0 b8_w0_1 b8_w0_2 b8_w0_3 a.2.2.2.1 a.2.2.1.1 a.2.2.1.2.1 a.2.2.1.2.2) (fun a => a.1.length) (fun a => [(0, true, .slice a0_0 p0.length c0_0), (2, true, .int .i64 p2), (4, true, pt b4_4), (6, true, .bool false), (7, true, .bool true), (8, true, pt b8_w0), (9, true, .slice a9_0 x9.length c9_0), (10, true, .int .i64 (a.2.1 : Int))]) (fun a => (List.flatten [a.2.2.2.1, [⟨b4_4, .cells [.string p1.From, .string p1.To] 24⟩]] : List Blk)) (fun a => a.2.2.2.2) ?_ (p0, 0, (x8.1, x8.2.1, x8.2.2), z8_w0, h9) ⟨rfl, HExt.refl _, w9, hF, (f8_0.ext e9.kn)⟩ (Sub.cons (Sub.cons (Sub.cons (Sub.cons (Sub.cons (Sub.cons (Sub.cons (Sub.cons (Sub.nil _) rfl) rfl) rfl) rfl) rfl) rfl) rfl) rfl) rfl rfl
   rintro ⟨r24, i24, y24_0, a24_0, h24⟩ ⟨hr24, e24, w24, hF, f24_0⟩ ih24
   try dsimp only at f24_0
   rcases r24 with _ | ⟨z24, r24⟩
   ·
    have hi24 := drop_nil hr24
    rw [F_law19_IndexPuts_L1.eq_1] at hF
    refine go_seq (go_seq (go_region (gM rfl rfl (gM rfl rfl (gr rfl (r_len rfl (os1 (ot rfl) os0) (fun _ _ => ln_22)) (gr rfl (r_bin (ot rfl) (ot rfl) rfl) (go_cast (.bool false) (congrArg Value.bool (decide_eq_false hi24)) (go_nil ?_))))))))
    refine g_cond (b := false) (ot rfl) (fun hc25 => ?_) (fun hc25 => ?_)
    · cases hc25
    refine go_exit rfl ?_
    obtain rfl := someI hF
    exact Goes.weak (J10 ((y24_0.1, y24_0.2.1, y24_0.2.2), a24_0) _ e24 w24 ⟨rfl, f24_0⟩) (Sub.cons (Sub.cons (Sub.cons (Sub.cons (Sub.cons (Sub.cons (Sub.nil _) rfl) rfl) rfl) rfl) rfl) rfl)
   ·
    obtain ⟨hi24, hx24, hr24⟩ := drop_cons hr24
    have hb24 := (((f0_0.ext e8.kn).ext e9.kn).ext e24.kn).1
    rw [F_law19_IndexPuts_L1.eq_2] at hF
    refine go_seq (go_seq (go_region (gM rfl rfl (gM rfl rfl (gr rfl (r_len rfl (os1 (ot rfl) os0) (fun _ _ => ln_22)) (gr rfl (r_bin (ot rfl) (ot rfl) rfl) (go_cast (.bool true) (congrArg Value.bool (decide_eq_true (Int.ofNat_lt.mpr hi24))) (go_nil ?_))))))))
    refine g_cond (b := true) (ot rfl) (fun hc26 => ?_) (fun hc26 => ?_)
    rotate_left
    · cases hc26
    refine go_skip (go_seq (go_block (go_seq (go_regions (L := sq 0 7 ++ sq 10 6 ++ [(7, [15]), (8, [15]), (9, [15])] ++ sq 16 3) (by kernel_rfl) (by kernel_rfl) (fun _ => rfl) (go_sop rfl rfl (gM rfl rfl (go_nil (go_sop rfl rfl (gM rfl rfl (go_nil (go_sop rfl rfl (gM rfl rfl (go_nil (go_sop rfl rfl ?_))))))))))))))
    obtain ⟨q27, row27, i27, cl27, rc27, sp27⟩ := ix (ik := .i64) (cap := c0_0) (E := EE) (((f0_0.ext e8.kn).ext e9.kn).ext e24.kn) ((getI_nat _ _).trans hx24) ut_22 sz_36 rfl
    obtain rfl := rc27
    refine gr rfl (r_ia (ot rfl) (ot rfl) i27) (go_nil (go_sop rfl rfl (gF (fs_36_1 sp27) rfl rfl (go_nil (go_sop rfl rfl (gr rfl (r_load (ot rfl) (v := .string z24.Key) (lo_e (fun hf kn => ld_field (r := [.int .i64 z24.Rev, .string z24.Key, .string z24.Val, .bool z24.Del]) ag_9 (kn.cellsAt cl27) rfl))) (go_nil (go_sop rfl rfl (gM rfl rfl (go_nil (go_sop rfl rfl (gM rfl rfl (go_nil (go_sop rfl rfl (gM rfl rfl (go_nil (go_sop rfl rfl (gM rfl rfl (go_nil (go_sop rfl rfl ?_))))))))))))))))))))
    obtain ⟨q28, row28, i28, cl28, rc28, sp28⟩ := ix (ik := .i64) (cap := c0_0) (E := EE) (((f0_0.ext e8.kn).ext e9.kn).ext e24.kn) ((getI_nat _ _).trans hx24) ut_22 sz_36 rfl
    obtain rfl := rc28
    refine gr rfl (r_ia (ot rfl) (ot rfl) i28) (go_nil (go_sop rfl rfl (gF (fs_36_1 sp28) rfl rfl (go_nil (go_sop rfl rfl (gr rfl (r_load (ot rfl) (v := .string z24.Key) (lo_e (fun hf kn => ld_field (r := [.int .i64 z24.Rev, .string z24.Key, .string z24.Val, .bool z24.Del]) ag_9 (kn.cellsAt cl28) rfl))) (go_nil (go_sopc [(15, .string z24.Key)] rfl rfl rfl (rc1 rfl (r_load (ot rfl) (v := .string z24.Key) (lo_e (fun hf kn => ld_field (r := [.int .i64 z24.Rev, .string z24.Key, .string z24.Val, .bool z24.Del]) ag_9 (kn.cellsAt cl28) rfl))) rc0) (vq1 (veq_str _ _) vq0) rfl ?_))))))))
    obtain ⟨x29, hx29, hF⟩ := obind hF
    refine kcX EE_fr w24 (.cons .z .nil) rfl of (ops_t rfl (ops_t rfl (ops_t rfl os0))) hb_15 (s_index_Index_Get n w24 y24_0.1 y24_0.2.1 y24_0.2.2 z24.Key p2 f24_0 hx29) ?_
    rintro _ _ h29 e29 w29 ⟨z29_y0, b29_w0, z29_w0, rfl, rfl, f29_0, f29_1⟩
    simp only [ca_, na_]
    refine go_nil (go_rck (rc1 rfl (r_load (ot rfl) (v := .string z24.Key) (lo_e (fun hf kn => ld_field (r := [.int .i64 z24.Rev, .string z24.Key, .string z24.Val, .bool z24.Del]) ag_9 (kn.cellsAt (e29.kn.cellsAt cl28)) rfl))) rc0) (go_sopc [(15, .string z24.Key)] rfl rfl rfl (rc1 rfl (r_load (ot rfl) (v := .string z24.Key) (lo_e (fun hf kn => ld_field (r := [.int .i64 z24.Rev, .string z24.Key, .string z24.Val, .bool z24.Del]) ag_9 (kn.cellsAt (e29.kn.cellsAt cl28)) rfl))) rc0) (vq1 (veq_str _ _) vq0) rfl ?_))
    obtain ⟨x30, hx30, hF⟩ := obind hF
    refine kcX EE_fr w29 (.cons .z (.cons .z .nil)) rfl of (ops_t rfl os0) hb_14 (s_index_Run n w29 x29.2.1 x29.2.2.1 x29.2.2.2 x29.1 f29_0 f29_1 hx30) ?_
    rintro _ _ h30 e30 w30 ⟨z30_y0, z30_y1, rfl, rfl, f30_0, f30_1⟩
    simp only [ca_, na_]
    refine go_nil (go_rck (rc1 rfl (r_load (ot rfl) (v := .string z24.Key) (lo_e (fun hf kn => ld_field (r := [.int .i64 z24.Rev, .string z24.Key, .string z24.Val, .bool z24.Del]) ag_9 (kn.cellsAt (e30.kn.cellsAt (e29.kn.cellsAt cl28))) rfl))) rc0) (go_sopc [(15, .string z24.Key)] rfl rfl rfl (rc1 rfl (r_load (ot rfl) (v := .string z24.Key) (lo_e (fun hf kn => ld_field (r := [.int .i64 z24.Rev, .string z24.Key, .string z24.Val, .bool z24.Del]) ag_9 (kn.cellsAt (e30.kn.cellsAt (e29.kn.cellsAt cl28))) rfl))) rc0) (vq1 (veq_str _ _) vq0) rfl ?_))
    obtain ⟨x31, hx31, hF⟩ := obind hF
    refine kcX EE_fr w30 (.cons (.s (.z)) .nil) rfl of (ops_t rfl os0) hb_16 (s_index_Work_Found (bW91 := b8_w0) (bW107 := b8_w0_2) (bW131 := b8_w0_1) (bW161 := b8_w0_3) w30 x30.2.2.2 f30_1 hx31) ?_
    rintro _ _ h31 e31 w31 ⟨a31_0, c31_0, rfl, rfl, f31_0⟩
    simp only [ca_, na_]
    refine go_nil (go_rck (rc1 rfl (r_load (ot rfl) (v := .string z24.Key) (lo_e (fun hf kn => ld_field (r := [.int .i64 z24.Rev, .string z24.Key, .string z24.Val, .bool z24.Del]) ag_9 (kn.cellsAt (e31.kn.cellsAt (e30.kn.cellsAt (e29.kn.cellsAt cl28)))) rfl))) rc0) (go_sop rfl rfl ?_))
    obtain ⟨x32, hx32, hF⟩ := obind hF
    refine g_call EE_fr (fun _ h => by cases h; rfl) of (os1 (ot rfl) (os1 (ot rfl) os0)) hb_17 (fun hf kn w => by exact s_ref19_Key w x9 z24.Key (((((f9_0.ext e24.kn).ext e29.kn).ext e30.kn).ext e31.kn).ext kn) hx32) ?_
    rintro v32 h32 e32 w32 ⟨a32_0, c32_0, rfl, f32_0⟩
    refine go_nil (go_sop rfl rfl ?_)
    obtain ⟨x33, hx33, hF⟩ := obind hF
    refine g_callp (v := .bool x33) EE_fr rfl of (os1 (ot rfl) (os1 (ot rfl) os0)) hb_13 (fun _ => rfl) (fun hf kn w => by exact s_ref05_KVs w x31 x32 ((f31_0.ext e32.kn).ext kn) (f32_0.ext kn) hx33) (go_nil (go_sop rfl rfl (gr rfl (r_un (ot rfl) rfl) (go_nil (go_snil ?_)))))
    refine g_cond (b := (!x33)) (ot rfl) (fun hc34 => ?_) (fun hc34 => ?_)
    ·
     replace hF := ifT hc34 hF
     refine go_seq (go_region (gAc rfl rfl (go_nil ?_)))
     obtain rfl := someI hF
     obtain rfl := someI hK10
     exact g_ret (rst rfl rs0) (fun h1 hf hs => ⟨(e8.trans (e9.trans (e24.trans (e29.trans (e30.trans (e31.trans (e32.trans hs.hext))))))), rfl⟩)
    ·
     replace hF := ifF hc34 hF
     refine go_skip (go_endb (go_region (gM rfl rfl (gr rfl (r_bin (ot rfl) (oc rfl) rfl) (gA rfl rfl (go_nil (go_re 10 (v2 := .int .i64 ((i24 + 1 : Nat) : Int)) rfl (wrap_succ hi24 hb24) ?_)))))))
     exact Goes.weak (ih24 (r24, i24 + 1, (x30.1, x30.2.1, x30.2.2.1), z30_y0, h32) ⟨hr24, (e24.trans (e29.trans (e30.trans (e31.trans e32)))), w32, hF, ((f30_0.ext e31.kn).ext e32.kn)⟩ (Nat.lt_succ_self _)) (Sub.cons (Sub.cons (Sub.cons (Sub.cons (Sub.cons (Sub.cons (Sub.cons (Sub.cons (Sub.nil _) rfl) rfl) rfl) rfl) rfl) rfl) rfl) rfl)
end Go.Proofs.YtndhbaidibioeaaGreat.V
