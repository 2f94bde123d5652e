/- Walks.
   No condition: these are laws of the clean machine and of this program. -/
import Derived.Test.YtndhbaidibioeaaGreatYd
namespace Go.Proofs.YtndhbaidibioeaaGreat.V
open Go
set_option linter.unusedVariables false
set_option linter.unusedSimpArgs false
set_option maxRecDepth 100000
set_option maxHeartbeats 4000000
theorem s_law16_CrowdAlone (n : Nat) {h : Heap} (hw : Wf h) (p0 : (List Timpostlaw16_Deed)) {a0_0 : Option Addr} {c0_0 : Nat} {bWT : Nat} (f0_0 : RL R_Timpostlaw16_Deed h a0_0 c0_0 p0) {r : Bool} (hF : F_law16_CrowdAlone n p0 = some r) :
 Ev EE 8 [.slice a0_0 p0.length c0_0] h (fun v _ => v = .bool r) := by
 unfold F_law16_CrowdAlone at hF
 refine ev_of hw rfl at_8 rfl rfl (go_seg0 ?_)
 refine go_seq (go_region (gAc rfl rfl (go_nil (go_seq (go_region (g_callp EE_fr rfl of os0 hb_27 (fun _ => rfl) (fun hf kn w => by exact known_evp rfl hf w) (gA rfl rfl (go_nil (go_seq (go_seq (go_region (gM rfl rfl (gr rfl (r_len rfl (os1 (ot rfl) os0) (fun _ _ => ln_60)) (gr rfl (r_bin (ot rfl) (oc rfl) rfl) (go_nil ?_)))))))))))))))
 refine g_cond (b := (decide ((p0.length : Int) > 60))) (ot rfl) (fun hc3 => ?_) (fun hc3 => ?_)
 ·
  replace hF := ifT hc3 hF
  refine go_seq (go_region (gM rfl rfl (gA rfl rfl (go_nil ?_))))
  obtain rfl := someI hF
  exact g_ret (rst rfl rs0) (fun h1 hf hs => ⟨hs.hext, rfl⟩)
 ·
  replace hF := ifF hc3 hF
  refine go_skip (go_seq (go_region ?_))
  obtain ⟨x4, hx4, hF⟩ := obind hF
  refine kcX EE_fr hw .nil rfl of (ops_c rfl os0) hb_28 (s_law16_begun n (bWT := bWT) hw ([] : List ByteArray) (RL.nil _ _ _) hx4) ?_
  rintro _ _ h4 e4 w4 ⟨b4_w0, b4_w0_1, z4_w0, b4_w1, z4_w1, rfl, rfl, f4_0, f4_1⟩
  simp only [ca_, na_]
  refine gM rfl rfl (gE rfl rfl rfl (gE rfl rfl rfl (gA rfl rfl (gA rfl rfl (go_nil (go_seq (go_region (gAc rfl rfl (go_nil (go_seq (go_seq (go_region (gAc rfl rfl (go_nil ?_))))))))))))))
  obtain ⟨s5, hF, hK5⟩ := obind hF
  refine go_joinc (β := ((List ByteArray) × (Obst_Tree × Omem_Mem) × (Ocrowd_Crowd)) × Option Addr × Nat × List Blk × List Blk) (fun s h' => s5 = .go s.1 ∧ RL (RS_ 9) h' s.2.1 s.2.2.1 s.1.1 ∧ Zbst_Tree h' b4_w0 b4_w0_1 s.2.2.2.1 s.1.2.1.1 s.1.2.1.2 ∧ Zcrowd_Crowd h' b4_w0 b4_w1 s.2.2.2.2 s.1.2.2) (fun s => [(2, true, .bool false), (3, true, .bool true), (4, true, pt b4_w0), (6, true, .slice s.2.1 s.1.1.length s.2.2.1)]) (fun s => (List.flatten [s.2.2.2.1, s.2.2.2.2] : List Blk)) ?_ (fun J5 => ?_)
  ·
   rintro ⟨⟨x5_0, x5_1, x5_2⟩, a5_0, a5_1, a5_2, a5_3⟩ h5 e5 w5 ⟨hs5, f5_0, f5_1, f5_2⟩
   subst hs5
   try dsimp only at f5_1 f5_2
   replace hF := lpgo hK5
   refine go_seq (go_region (gM rfl rfl (gM rfl rfl (g_do rfl rfl rfl (gM rfl rfl (g_do rfl rfl rfl ?_))))))
   obtain ⟨x6, hx6, hF⟩ := obind hF
   refine kcX EE_fr w5 (.cons .z .nil) rfl of (ops_t rfl os0) hb_35 (s_bst_Tree_Keys n w5 x5_1.1 x5_1.2 f5_1 hx6) ?_
   rintro _ _ h6 e6 w6 ⟨z6_y0, a6_0, c6_0, rfl, rfl, f6_0, f6_1⟩
   simp only [ca_, na_]
   refine g_do rfl rfl rfl (gM rfl rfl (g_do rfl rfl rfl ?_))
   obtain ⟨x7, hx7, hF⟩ := obind hF
   refine g_call EE_fr (fun _ h => by cases h; rfl) of (os1 (ot rfl) os0) hb_36 (fun hf kn w => by exact s_ref15_Kept w x5_0 ((f5_0.ext e6.kn).ext kn) hx7) ?_
   rintro v7 h7 e7 w7 ⟨a7_0, c7_0, rfl, f7_0⟩
   refine g_do rfl rfl rfl ?_
   obtain ⟨x8, hx8, hF⟩ := obind hF
   refine g_callp (v := .bool x8) EE_fr rfl of (os1 (ot rfl) (os1 (ot rfl) os0)) hb_34 (fun _ => rfl) (fun hf kn w => by exact s_ref15_Same w x6.1 x7 ((f6_1.ext e7.kn).ext kn) (f7_0.ext kn) hx8) (gr rfl (r_pkT (ot rfl) (ot rfl)) (gA rfl rfl (go_nil ?_)))
   obtain rfl := someI hF
   exact g_ret (rst rfl rs0) (fun h1 hf hs => ⟨(e4.trans (e5.trans (e6.trans (e7.trans hs.hext)))), rfl⟩)
  ·
   refine go_block ?_
   refine go_loop (α := (List Timpostlaw16_Deed) × Nat × (List ByteArray) × (Obst_Tree × Omem_Mem) × (Ocrowd_Crowd) × Option Addr × Nat × List Blk × List Blk × Heap) (fun a => a.1 = List.drop a.2.1 p0 ∧ HExt h4 a.2.2.2.2.2.2.2.2.2 ∧ Wf a.2.2.2.2.2.2.2.2.2 ∧ F_law16_CrowdAlone_L1 n a.1 a.2.1 a.2.2.1 a.2.2.2.1 a.2.2.2.2.1 = some s5 ∧ RL (RS_ 9) a.2.2.2.2.2.2.2.2.2 a.2.2.2.2.2.1 a.2.2.2.2.2.2.1 a.2.2.1 ∧ Zbst_Tree a.2.2.2.2.2.2.2.2.2 b4_w0 b4_w0_1 a.2.2.2.2.2.2.2.1 a.2.2.2.1.1 a.2.2.2.1.2 ∧ Zcrowd_Crowd a.2.2.2.2.2.2.2.2.2 b4_w0 b4_w1 a.2.2.2.2.2.2.2.2.1 a.2.2.2.2.1) (fun a => a.1.length) (fun a => [(0, true, .slice a0_0 p0.length c0_0), (2, true, .bool false), (3, true, .bool true), (4, true, pt b4_w0), (5, true, pt b4_w1), (6, true, .slice a.2.2.2.2.2.1 a.2.2.1.length a.2.2.2.2.2.2.1), (7, true, .int .i64 (a.2.1 : Int))]) (fun a => (List.flatten [a.2.2.2.2.2.2.2.1, a.2.2.2.2.2.2.2.2.1] : List Blk)) (fun a => a.2.2.2.2.2.2.2.2.2) ?_ (p0, 0, ([] : List ByteArray), (x4.1, x4.2.1), x4.2.2, none, 0, z4_w0, z4_w1, h4) ⟨rfl, HExt.refl _, w4, hF, (RL.nil _ _ _), f4_0, f4_1⟩ (Sub.cons (Sub.cons (Sub.cons (Sub.cons (Sub.cons (Sub.cons (Sub.cons (Sub.nil _) rfl) rfl) rfl) rfl) rfl) rfl) rfl) rfl rfl
   rintro ⟨r9, i9, y9_0, y9_1, y9_2, a9_0, a9_1, a9_2, a9_3, h9⟩ ⟨hr9, e9, w9, hF, f9_0, f9_1, f9_2⟩ ih9
   try dsimp only at f9_1 f9_2
   rcases r9 with _ | ⟨z9, r9⟩
   ·
    have hi9 := drop_nil hr9
    rw [F_law16_CrowdAlone_L1.eq_1] at hF
    refine go_seq (go_seq (go_region (gM rfl rfl (gM rfl rfl (gr rfl (r_len rfl (os1 (ot rfl) os0) (fun _ _ => ln_60)) (gr rfl (r_bin (ot rfl) (ot rfl) rfl) (go_cast (.bool false) (congrArg Value.bool (decide_eq_false hi9)) (go_nil ?_))))))))
    refine g_cond (b := false) (ot rfl) (fun hc10 => ?_) (fun hc10 => ?_)
    ·
     cases hc10
    refine go_exit rfl ?_
    obtain rfl := someI hF
    exact Goes.weak (J5 ((y9_0, (y9_1.1, y9_1.2), y9_2), a9_0, a9_1, a9_2, a9_3) _ e9 w9 ⟨rfl, f9_0, f9_1, f9_2⟩) (Sub.cons (Sub.cons (Sub.cons (Sub.cons (Sub.nil _) rfl) rfl) rfl) rfl)
   ·
    obtain ⟨hi9, hx9, hr9⟩ := drop_cons hr9
    have hb9 := ((f0_0.ext e4.kn).ext e9.kn).1
    rw [F_law16_CrowdAlone_L1.eq_2] at hF
    refine go_seq (go_seq (go_region (gM rfl rfl (gM rfl rfl (gr rfl (r_len rfl (os1 (ot rfl) os0) (fun _ _ => ln_60)) (gr rfl (r_bin (ot rfl) (ot rfl) rfl) (go_cast (.bool true) (congrArg Value.bool (decide_eq_true (Int.ofNat_lt.mpr hi9))) (go_nil ?_))))))))
    refine g_cond (b := true) (ot rfl) (fun hc11 => ?_) (fun hc11 => ?_)
    rotate_left
    ·
     cases hc11
    refine go_skip (go_seq ?_)
    obtain ⟨s12, hF, hK12⟩ := obind hF
    refine go_joinc (β := ((List ByteArray) × (Obst_Tree × Omem_Mem) × (Ocrowd_Crowd)) × Option Addr × Nat × List Blk × List Blk) (fun s h' => s12 = .go s.1 ∧ RL (RS_ 9) h' s.2.1 s.2.2.1 s.1.1 ∧ Zbst_Tree h' b4_w0 b4_w0_1 s.2.2.2.1 s.1.2.1.1 s.1.2.1.2 ∧ Zcrowd_Crowd h' b4_w0 b4_w1 s.2.2.2.2 s.1.2.2) (fun s => [(0, true, .slice a0_0 p0.length c0_0), (2, true, .bool false), (3, true, .bool true), (4, true, pt b4_w0), (5, true, pt b4_w1), (6, true, .slice s.2.1 s.1.1.length s.2.2.1), (7, true, .int .i64 (i9 : Int)), (22, true, .int .i64 (i9 : Int)), (23, true, .slice a0_0 p0.length c0_0), (24, true, .int .i64 (p0.length : Int)), (25, true, .bool true), (28, true, .slice a0_0 p0.length c0_0), (29, true, .int .i64 (i9 : Int)), (31, true, .agg #[.int .i64 z9.Kind, .int .i64 z9.T, .string z9.Key]), (34, true, .int .i64 z9.Kind), (35, true, .bool (decide (z9.Kind < 1))), (36, true, .bool (decide (z9.Kind < 1))), (40, true, .bool (bif (decide (z9.Kind < 1)) then true else (decide (z9.Kind > 3))))]) (fun s => (List.flatten [s.2.2.2.1, s.2.2.2.2] : List Blk)) ?_ (fun J12 => ?_)
    ·
     rintro ⟨⟨x12_0, x12_1, x12_2⟩, a12_0, a12_1, a12_2, a12_3⟩ h12 e12 w12 ⟨hs12, f12_0, f12_1, f12_2⟩
     subst hs12
     try dsimp only at f12_1 f12_2
     replace hF := lpgo2 hK12
     refine go_region (gM rfl rfl (gr rfl (r_bin (ot rfl) (oc rfl) rfl) (gA rfl rfl (go_nil (go_re 7 (v2 := .int .i64 ((i9 + 1 : Nat) : Int)) rfl (wrap_succ hi9 hb9) ?_)))))
     exact Goes.weak (ih9 (r9, i9 + 1, x12_0, (x12_1.1, x12_1.2), x12_2, a12_0, a12_1, a12_2, a12_3, h12) ⟨hr9, (e9.trans e12), w12, hF, f12_0, f12_1, f12_2⟩ (Nat.lt_succ_self _)) (Sub.cons (Sub.cons (Sub.cons (Sub.cons (Sub.cons (Sub.cons (Sub.cons (Sub.nil _) rfl) rfl) rfl) rfl) rfl) rfl) rfl)
    ·
     refine go_block (go_seq (go_region (gM rfl rfl (gM rfl rfl ?_))))
     obtain ⟨q13, row13, i13, cl13, rc13, sp13⟩ := ix (ik := .i64) (cap := c0_0) (E := EE) ((f0_0.ext e4.kn).ext e9.kn) ((getI_nat _ _).trans hx9) ut_60 sz_67 rfl
     obtain rfl := rc13
     refine gr rfl (r_ia (ot rfl) (ot rfl) i13) (gr rfl (r_load (ot rfl) (v := .agg #[.int .i64 z9.Kind, .int .i64 z9.T, .string z9.Key]) (lo_e (fun hf kn => ld_of (r := [.int .i64 z9.Kind, .int .i64 z9.T, .string z9.Key]) ag_67 sz_67 (kn.cellsAt cl13)))) (gs_alloc rfl zo_67 rfl (fun b8_14 => gs_store (ot rfl) (ot rfl) sz_67 rfl rfl rfl rfl rfl .z (go_nil (go_seq (go_region (gF (fa_67_1 _ _) rfl rfl (gs_store (ot rfl) (oc rfl) sz_3 rfl rfl rfl rfl rfl .z (go_nil (go_seq (go_seq (go_region (gF (fa_67_0 _ _) rfl rfl (gls 0 ag_3 rfl rfl rfl rfl (gr rfl (r_bin (ot rfl) (oc rfl) rfl) (gM rfl rfl (grf rfl rfl rfl rfl (r_fa (ot rfl) (fa_67_0 _ _)) (grf rfl rfl rfl rfl (r_load (og rfl id) (lm_s (mem_seg 0 rfl) ag_3 rfl)) (grf rfl rfl rfl rfl (r_bin (og rfl id) (oc rfl) rfl) (gr rfl (r_pickb (ot rfl) (oc rfl) (og rfl id)) (go_nil ?_)))))))))))))))))))))
     refine g_cond (b := (bif (decide (z9.Kind < 1)) then true else (decide (z9.Kind > 3)))) (ot rfl) (fun hc15 => ?_) (fun hc15 => ?_)
     ·
      replace hF := ifT hc15 hF
      refine go_exit rfl ?_
      obtain rfl := someI hF
      refine gs_sub (.cons _ (.cons_cons _ (.cons_cons _ (.refl _)))) ?_
      exact Goes.weak (J12 ((y9_0, (y9_1.1, y9_1.2), y9_2), a9_0, a9_1, a9_2, a9_3) _ (HExt.refl _) w9 ⟨rfl, f9_0, f9_1, f9_2⟩) (Sub.cons (Sub.cons (Sub.cons (Sub.cons (Sub.cons (Sub.cons (Sub.cons (Sub.cons (Sub.cons (Sub.cons (Sub.cons (Sub.cons (Sub.cons (Sub.cons (Sub.cons (Sub.cons (Sub.cons (Sub.cons (Sub.nil _) rfl) rfl) rfl) rfl) rfl) rfl) rfl) rfl) rfl) rfl) rfl) rfl) rfl) rfl) rfl) rfl) rfl) rfl)
     ·
      replace hF := ifF hc15 hF
      refine go_skip (go_seq (go_region (gM rfl rfl (gM rfl rfl (glw 0 ag_67 sz_67 rfl rfl rfl rfl ?_)))))
      obtain ⟨x16, hx16, hF⟩ := obind hF
      refine kcX EE_fr w9 (.cons (.s (.z)) (.cons (.s (.z)) .nil)) rfl of (ops_t rfl (ops_t rfl (ops_t rfl os0))) hb_29 (s_law16_do n w9 y9_1.1 y9_1.2 y9_2 (⟨z9.Kind, 2, z9.Key⟩ : Timpostlaw16_Deed) f9_1 f9_2 hx16) ?_
      rintro _ _ h16 e16 w16 ⟨z16_y0, z16_y1, rfl, rfl, f16_0, f16_1⟩
      simp only [ca_, na_]
      refine go_nil (go_seq (go_seq (go_region (gAc rfl rfl (go_nil ?_)))))
      obtain ⟨s17, hF, hK17⟩ := obind hF
      refine go_joinc (β := List Blk × List Blk) (fun s h' => Zbst_Tree h' b4_w0 b4_w0_1 s.1 s17.2.2.2.2.2.1.1 s17.2.2.2.2.2.1.2 ∧ Zcrowd_Crowd h' b4_w0 b4_w1 s.2 s17.2.2.2.2.2.2) (fun s => [(0, true, .slice a0_0 p0.length c0_0), (2, true, .bool false), (3, true, .bool true), (4, true, pt b4_w0), (5, true, pt b4_w1), (6, true, .slice a9_0 y9_0.length a9_1), (7, true, .int .i64 (i9 : Int)), (8, true, pt b8_14), (9, true, .int .i64 s17.1), (22, true, .int .i64 (i9 : Int)), (23, true, .slice a0_0 p0.length c0_0), (24, true, .int .i64 (p0.length : Int)), (25, true, .bool true), (28, true, .slice a0_0 p0.length c0_0), (29, true, .int .i64 (i9 : Int)), (30, true, .pointer (some q13)), (31, true, .agg #[.int .i64 z9.Kind, .int .i64 z9.T, .string z9.Key]), (32, true, .pointer (some ⟨b8_14, 1, none⟩)), (33, true, pt b8_14), (34, true, .int .i64 z9.Kind), (35, true, .bool (decide (z9.Kind < 1))), (36, true, .bool (decide (z9.Kind < 1))), (40, true, .bool (bif (decide (z9.Kind < 1)) then true else (decide (z9.Kind > 3)))), (41, true, pt b4_w0), (42, true, pt b4_w1), (43, true, .agg #[.int .i64 z9.Kind, .int .i64 2, .string z9.Key]), (45, true, .int .i64 s17.2.1), (46, true, .bool s17.2.2.1), (47, true, .bool s17.2.2.2.1), (51, true, .bool s17.2.2.2.2.1)]) (fun s => (List.flatten [s.1, s.2, [⟨b8_14, .cells [.int .i64 z9.Kind, .int .i64 2, .string z9.Key] 67⟩]] : List Blk)) ?_ (fun J17 => ?_)
      ·
       rintro ⟨a17_0, a17_1⟩ h17 e17 w17 ⟨f17_5, f17_6⟩
       try dsimp only at f17_5 f17_6
       replace hF := hK17
       refine go_seq (go_region (gM rfl rfl (gF (fa_67_0 _ _) rfl rfl (gls 2 ag_3 rfl rfl rfl rfl (gF (fa_67_2 _ _) rfl rfl (gls 2 ag_9 rfl rfl rfl rfl (gr rfl (r_build (op1 (ot rfl) (op1 (ot rfl) op0)) rfl) ?_)))))))
       obtain ⟨x18, hx18, hF⟩ := obind hF
       refine g_call EE_fr (fun _ h => by cases h; rfl) of (os1 (ot rfl) (os1 (ot rfl) os0)) hb_32 (fun hf kn w => by exact s_ref14_Do w y9_0 (⟨z9.Kind, z9.Key, false, 0, 0⟩ : Timpostref14_Call) (((f9_0.ext e16.kn).ext e17.kn).ext kn) hx18) ?_
       rintro v18 h18 e18 w18 ⟨a18_0, c18_0, rfl, f18_0⟩
       refine gM rfl rfl (gE rfl rfl rfl (gE rfl rfl rfl (gA rfl rfl (gA rfl rfl (go_nil (go_seq (go_region (gM rfl rfl (gA rfl rfl (go_nil (go_seq (go_region (gM rfl rfl ?_)))))))))))))
       obtain ⟨x19, hx19, hF⟩ := obind hF
       refine kcX EE_fr w18 (.cons (.s (.z)) .nil) rfl of (ops_t rfl os0) hb_33 (s_crowd_Crowd_Calls (bWT := b4_w0) w18 s17.2.2.2.2.2.2 (f17_6.ext e18.kn) hx19) ?_
       rintro _ _ h19 e19 w19 ⟨z19_y0, a19_0, c19_0, rfl, rfl, f19_0, f19_1⟩
       simp only [ca_, na_]
       refine gA rfl rfl (go_nil (go_seq (go_region (gM rfl rfl (gr rfl (r_len rfl (os1 (ot rfl) os0) (fun _ _ => ln_74)) (gr rfl (r_bin (ot rfl) (oc rfl) rfl) (gM rfl rfl ?_)))))))
       obtain ⟨s21, hF, hK21⟩ := obind hF
       refine go_joinr 10 (β := Unit) (fun s h' => True) (fun s => [(0, true, .slice a0_0 p0.length c0_0), (2, true, .bool false), (3, true, .bool true), (4, true, pt b4_w0), (5, true, pt b4_w1), (6, true, .slice a18_0 x18.1.length c18_0), (7, true, .int .i64 (i9 : Int)), (8, true, pt b8_14), (9, true, .int .i64 s17.1), (10, true, .slice a18_0 x18.1.length c18_0), (11, true, .bool x18.2), (12, true, .slice a19_0 x19.1.length c19_0), (22, true, .int .i64 (i9 : Int)), (23, true, .slice a0_0 p0.length c0_0), (24, true, .int .i64 (p0.length : Int)), (25, true, .bool true), (28, true, .slice a0_0 p0.length c0_0), (29, true, .int .i64 (i9 : Int)), (30, true, .pointer (some q13)), (31, true, .agg #[.int .i64 z9.Kind, .int .i64 z9.T, .string z9.Key]), (32, true, .pointer (some ⟨b8_14, 1, none⟩)), (33, true, pt b8_14), (34, true, .int .i64 z9.Kind), (35, true, .bool (decide (z9.Kind < 1))), (36, true, .bool (decide (z9.Kind < 1))), (40, true, .bool (bif (decide (z9.Kind < 1)) then true else (decide (z9.Kind > 3)))), (41, true, pt b4_w0), (42, true, pt b4_w1), (43, true, .agg #[.int .i64 z9.Kind, .int .i64 2, .string z9.Key]), (45, true, .int .i64 s17.2.1), (46, true, .bool s17.2.2.1), (47, true, .bool s17.2.2.2.1), (51, true, .bool s17.2.2.2.2.1), (56, true, .tuple #[.slice a18_0 x18.1.length c18_0, .bool x18.2]), (57, true, .slice a9_0 y9_0.length a9_1), (58, true, pt b8_14), (59, true, .int .i64 z9.Kind), (60, true, .pointer (some ⟨b8_14, 2, none⟩)), (61, true, .string z9.Key), (62, true, .agg #[.int .i64 z9.Kind, .string z9.Key, .bool false, .int .i64 0, .int .i64 0]), (63, true, .tuple #[.slice a18_0 x18.1.length c18_0, .bool x18.2]), (64, true, .slice a18_0 x18.1.length c18_0), (65, true, .bool x18.2), (66, true, .slice a18_0 x18.1.length c18_0), (67, true, pt b4_w1), (68, true, .slice a19_0 x19.1.length c19_0), (69, true, .slice a19_0 x19.1.length c19_0), (70, true, .int .i64 (x19.1.length : Int)), (71, true, .bool ((x19.1.length : Int) == 0)), (72, true, .bool s21.1), (82, true, .bool s21.2)]) (fun s => (List.flatten [z19_y0, a17_0, [⟨b8_14, .cells [.int .i64 z9.Kind, .int .i64 2, .string z9.Key] 67⟩]] : List Blk)) ?_ (fun J21 => ?_)
       ·
        rintro _ h21 e21 w21 _
        replace hF := hK21
        refine gM rfl rfl ?_
        obtain ⟨s23, hF, hK23⟩ := obind hF
        refine go_joinr 9 (β := Unit) (fun s h' => True) (fun s => [(0, true, .slice a0_0 p0.length c0_0), (2, true, .bool false), (3, true, .bool true), (4, true, pt b4_w0), (5, true, pt b4_w1), (6, true, .slice a18_0 x18.1.length c18_0), (7, true, .int .i64 (i9 : Int)), (8, true, pt b8_14), (9, true, .int .i64 s17.1), (10, true, .slice a18_0 x18.1.length c18_0), (11, true, .bool x18.2), (12, true, .slice a19_0 x19.1.length c19_0), (22, true, .int .i64 (i9 : Int)), (23, true, .slice a0_0 p0.length c0_0), (24, true, .int .i64 (p0.length : Int)), (25, true, .bool true), (28, true, .slice a0_0 p0.length c0_0), (29, true, .int .i64 (i9 : Int)), (30, true, .pointer (some q13)), (31, true, .agg #[.int .i64 z9.Kind, .int .i64 z9.T, .string z9.Key]), (32, true, .pointer (some ⟨b8_14, 1, none⟩)), (33, true, pt b8_14), (34, true, .int .i64 z9.Kind), (35, true, .bool (decide (z9.Kind < 1))), (36, true, .bool (decide (z9.Kind < 1))), (40, true, .bool (bif (decide (z9.Kind < 1)) then true else (decide (z9.Kind > 3)))), (41, true, pt b4_w0), (42, true, pt b4_w1), (43, true, .agg #[.int .i64 z9.Kind, .int .i64 2, .string z9.Key]), (45, true, .int .i64 s17.2.1), (46, true, .bool s17.2.2.1), (47, true, .bool s17.2.2.2.1), (51, true, .bool s17.2.2.2.2.1), (56, true, .tuple #[.slice a18_0 x18.1.length c18_0, .bool x18.2]), (57, true, .slice a9_0 y9_0.length a9_1), (58, true, pt b8_14), (59, true, .int .i64 z9.Kind), (60, true, .pointer (some ⟨b8_14, 2, none⟩)), (61, true, .string z9.Key), (62, true, .agg #[.int .i64 z9.Kind, .string z9.Key, .bool false, .int .i64 0, .int .i64 0]), (63, true, .tuple #[.slice a18_0 x18.1.length c18_0, .bool x18.2]), (64, true, .slice a18_0 x18.1.length c18_0), (65, true, .bool x18.2), (66, true, .slice a18_0 x18.1.length c18_0), (67, true, pt b4_w1), (68, true, .slice a19_0 x19.1.length c19_0), (69, true, .slice a19_0 x19.1.length c19_0), (70, true, .int .i64 (x19.1.length : Int)), (71, true, .bool ((x19.1.length : Int) == 0)), (72, true, .bool s21.1), (82, true, .bool s21.2), (83, true, .bool s23.1), (92, true, .bool s23.2)]) (fun s => (List.flatten [z19_y0, a17_0, [⟨b8_14, .cells [.int .i64 z9.Kind, .int .i64 2, .string z9.Key] 67⟩]] : List Blk)) ?_ (fun J23 => ?_)
        ·
         rintro _ h23 e23 w23 _
         replace hF := hK23
         refine go_nil ?_
         refine g_cond (b := s23.2) (ot rfl) (fun hc24 => ?_) (fun hc24 => ?_)
         ·
          replace hF := ifT hc24 hF
          refine go_seq (go_region (gAc rfl rfl (go_nil ?_)))
          obtain rfl := someI hF
          obtain rfl := someI hK12
          obtain rfl := someI hK5
          exact g_ret (rst rfl rs0) (fun h1 hf hs => ⟨(e4.trans (e9.trans (e16.trans (e17.trans (e18.trans (e19.trans (e21.trans (e23.trans hs.hext)))))))), rfl⟩)
         ·
          replace hF := ifF hc24 hF
          refine go_skip (go_endb ?_)
          obtain rfl := someI hF
          refine gs_sub (.cons_cons _ (.cons_cons _ (.cons _ (.refl _)))) (gs_perm (perm_of (d := []) _ [1, 0] rfl) ?_)
          exact Goes.weak (J12 ((x18.1, (s17.2.2.2.2.2.1.1, s17.2.2.2.2.2.1.2), x19.2), a18_0, c18_0, a17_0, z19_y0) _ (e16.trans (e17.trans (e18.trans (e19.trans (e21.trans e23))))) w23 ⟨rfl, (((f18_0.ext e19.kn).ext e21.kn).ext e23.kn), ((((f17_5.ext e18.kn).ext e19.kn).ext e21.kn).ext e23.kn), ((f19_0.ext e21.kn).ext e23.kn)⟩) (Sub.cons (Sub.cons (Sub.cons (Sub.cons (Sub.cons (Sub.cons (Sub.cons (Sub.cons (Sub.cons (Sub.cons (Sub.cons (Sub.cons (Sub.cons (Sub.cons (Sub.cons (Sub.cons (Sub.cons (Sub.cons (Sub.nil _) rfl) rfl) rfl) rfl) rfl) rfl) rfl) rfl) rfl) rfl) rfl) rfl) rfl) rfl) rfl) rfl) rfl) rfl)
        ·
         rcases Bool.eq_false_or_eq_true s21.2 with hb22 | hb22
         ·
          replace hF := ifT hb22 hF
          refine go_re 83 (v2 := .bool true) rfl (congrArg Value.bool hb22) (g_no rfl rfl rfl rfl rfl (g_no rfl rfl rfl rfl rfl (g_no rfl rfl rfl rfl rfl (g_no rfl rfl rfl rfl rfl (g_no rfl rfl rfl rfl rfl (g_no rfl rfl rfl rfl rfl (g_no rfl rfl rfl rfl rfl (g_no rfl rfl rfl rfl rfl (gr rfl (r_pkT (ot rfl) (oc rfl)) ?_)))))))))
          obtain rfl := someI hF
          exact Goes.weak (J23 () _ (HExt.refl _) w21 trivial) (Sub.cons (Sub.cons (Sub.cons (Sub.cons (Sub.cons (Sub.cons (Sub.cons (Sub.cons (Sub.cons (Sub.cons (Sub.cons (Sub.cons (Sub.cons (Sub.cons (Sub.cons (Sub.cons (Sub.cons (Sub.cons (Sub.cons (Sub.cons (Sub.cons (Sub.cons (Sub.cons (Sub.cons (Sub.cons (Sub.cons (Sub.cons (Sub.cons (Sub.cons (Sub.cons (Sub.cons (Sub.cons (Sub.cons (Sub.cons (Sub.cons (Sub.cons (Sub.cons (Sub.cons (Sub.cons (Sub.cons (Sub.cons (Sub.cons (Sub.cons (Sub.cons (Sub.cons (Sub.cons (Sub.cons (Sub.cons (Sub.cons (Sub.cons (Sub.cons (Sub.cons (Sub.cons (Sub.nil _) rfl) rfl) rfl) rfl) rfl) rfl) rfl) rfl) rfl) rfl) rfl) rfl) rfl) rfl) rfl) rfl) rfl) rfl) rfl) rfl) rfl) rfl) rfl) rfl) rfl) rfl) rfl) rfl) rfl) rfl) rfl) rfl) rfl) rfl) rfl) rfl) rfl) rfl) rfl) rfl) rfl) rfl) rfl) rfl) rfl) rfl) rfl) rfl) rfl) rfl) rfl) rfl) rfl)
         ·
          replace hF := ifF hb22 hF
          refine go_re 83 (v2 := .bool false) rfl (congrArg Value.bool hb22) (g_do rfl rfl rfl (gM rfl rfl (g_do rfl rfl rfl (gM rfl rfl (g_do rfl rfl rfl (gr rfl (r_len rfl (os1 (ot rfl) os0) (fun _ _ => ln_74)) (g_do rfl rfl rfl (gr rfl (r_bin (ot rfl) (oc rfl) rfl) (g_do rfl rfl rfl ?_)))))))))
          obtain ⟨x25, hx25, hF⟩ := obind hF
          obtain ⟨q25, row25, i25, cl25, rc25, sp25⟩ := ix (ik := .i64) (cap := c19_0) (E := EE) (f19_1.ext e21.kn) hx25 ut_74 sz_76 rfl
          obtain rfl := rc25
          refine gr rfl (r_ia (ot rfl) (ot rfl) i25) (g_do rfl rfl rfl (gF (fs_76_4 sp25) rfl rfl (g_do rfl rfl rfl (gr rfl (r_load (ot rfl) (v := .int .i64 x25.Ret) (lo_e (fun hf kn => ld_field (r := [.int .i64 x25.Kind, .string x25.Key, .bool x25.Ok, .int .i64 x25.Inv, .int .i64 x25.Ret]) ag_3 (kn.cellsAt cl25) rfl))) (g_do rfl rfl rfl (gr rfl (r_bin (ot rfl) (oc rfl) rfl) (gr rfl (r_pkF (ot rfl) (ot rfl)) ?_)))))))
          obtain rfl := someI hF
          exact Goes.weak (J23 () _ (HExt.refl _) w21 trivial) (Sub.cons (Sub.cons (Sub.cons (Sub.cons (Sub.cons (Sub.cons (Sub.cons (Sub.cons (Sub.cons (Sub.cons (Sub.cons (Sub.cons (Sub.cons (Sub.cons (Sub.cons (Sub.cons (Sub.cons (Sub.cons (Sub.cons (Sub.cons (Sub.cons (Sub.cons (Sub.cons (Sub.cons (Sub.cons (Sub.cons (Sub.cons (Sub.cons (Sub.cons (Sub.cons (Sub.cons (Sub.cons (Sub.cons (Sub.cons (Sub.cons (Sub.cons (Sub.cons (Sub.cons (Sub.cons (Sub.cons (Sub.cons (Sub.cons (Sub.cons (Sub.cons (Sub.cons (Sub.cons (Sub.cons (Sub.cons (Sub.cons (Sub.cons (Sub.cons (Sub.cons (Sub.cons (Sub.nil _) rfl) rfl) rfl) rfl) rfl) rfl) rfl) rfl) rfl) rfl) rfl) rfl) rfl) rfl) rfl) rfl) rfl) rfl) rfl) rfl) rfl) rfl) rfl) rfl) rfl) rfl) rfl) rfl) rfl) rfl) rfl) rfl) rfl) rfl) rfl) rfl) rfl) rfl) rfl) rfl) rfl) rfl) rfl) rfl) rfl) rfl) rfl) rfl) rfl) rfl) rfl) rfl) rfl)
       ·
        rcases Bool.eq_false_or_eq_true ((x19.1.length : Int) == 0) with hb20 | hb20
        ·
         replace hF := ifT hb20 hF
         refine go_re 72 (v2 := .bool true) rfl (congrArg Value.bool hb20) (g_no rfl rfl rfl rfl rfl (g_no rfl rfl rfl rfl rfl (g_no rfl rfl rfl rfl rfl (g_no rfl rfl rfl rfl rfl (g_no rfl rfl rfl rfl rfl (g_no rfl rfl rfl rfl rfl (g_no rfl rfl rfl rfl rfl (g_no rfl rfl rfl rfl rfl (g_no rfl rfl rfl rfl rfl (gr rfl (r_pkT (ot rfl) (oc rfl)) ?_))))))))))
         obtain rfl := someI hF
         exact Goes.weak (J21 () _ (HExt.refl _) w19 trivial) (Sub.cons (Sub.cons (Sub.cons (Sub.cons (Sub.cons (Sub.cons (Sub.cons (Sub.cons (Sub.cons (Sub.cons (Sub.cons (Sub.cons (Sub.cons (Sub.cons (Sub.cons (Sub.cons (Sub.cons (Sub.cons (Sub.cons (Sub.cons (Sub.cons (Sub.cons (Sub.cons (Sub.cons (Sub.cons (Sub.cons (Sub.cons (Sub.cons (Sub.cons (Sub.cons (Sub.cons (Sub.cons (Sub.cons (Sub.cons (Sub.cons (Sub.cons (Sub.cons (Sub.cons (Sub.cons (Sub.cons (Sub.cons (Sub.cons (Sub.cons (Sub.cons (Sub.cons (Sub.cons (Sub.cons (Sub.cons (Sub.cons (Sub.cons (Sub.cons (Sub.nil _) rfl) rfl) rfl) rfl) rfl) rfl) rfl) rfl) rfl) rfl) rfl) rfl) rfl) rfl) rfl) rfl) rfl) rfl) rfl) rfl) rfl) rfl) rfl) rfl) rfl) rfl) rfl) rfl) rfl) rfl) rfl) rfl) rfl) rfl) rfl) rfl) rfl) rfl) rfl) rfl) rfl) rfl) rfl) rfl) rfl) rfl) rfl) rfl) rfl) rfl) rfl)
        ·
         replace hF := ifF hb20 hF
         refine go_re 72 (v2 := .bool false) rfl (congrArg Value.bool hb20) (g_do rfl rfl rfl (gM rfl rfl (g_do rfl rfl rfl (gM rfl rfl (g_do rfl rfl rfl (gr rfl (r_len rfl (os1 (ot rfl) os0) (fun _ _ => ln_74)) (g_do rfl rfl rfl (gr rfl (r_bin (ot rfl) (oc rfl) rfl) (g_do rfl rfl rfl ?_)))))))))
         obtain ⟨x26, hx26, hF⟩ := obind hF
         obtain ⟨q26, row26, i26, cl26, rc26, sp26⟩ := ix (ik := .i64) (cap := c19_0) (E := EE) f19_1 hx26 ut_74 sz_76 rfl
         obtain rfl := rc26
         refine gr rfl (r_ia (ot rfl) (ot rfl) i26) (g_do rfl rfl rfl (gF (fs_76_2 sp26) rfl rfl (g_do rfl rfl rfl (gr rfl (r_load (ot rfl) (v := .bool x26.Ok) (lo_e (fun hf kn => ld_field (r := [.int .i64 x26.Kind, .string x26.Key, .bool x26.Ok, .int .i64 x26.Inv, .int .i64 x26.Ret]) ag_4 (kn.cellsAt cl26) rfl))) (g_do rfl rfl rfl (gM rfl rfl (g_do rfl rfl rfl (gr rfl (r_bin (ot rfl) (ot rfl) bu_4) (gr rfl (r_pkF (ot rfl) (ot rfl)) ?_)))))))))
         obtain rfl := someI hF
         exact Goes.weak (J21 () _ (HExt.refl _) w19 trivial) (Sub.cons (Sub.cons (Sub.cons (Sub.cons (Sub.cons (Sub.cons (Sub.cons (Sub.cons (Sub.cons (Sub.cons (Sub.cons (Sub.cons (Sub.cons (Sub.cons (Sub.cons (Sub.cons (Sub.cons (Sub.cons (Sub.cons (Sub.cons (Sub.cons (Sub.cons (Sub.cons (Sub.cons (Sub.cons (Sub.cons (Sub.cons (Sub.cons (Sub.cons (Sub.cons (Sub.cons (Sub.cons (Sub.cons (Sub.cons (Sub.cons (Sub.cons (Sub.cons (Sub.cons (Sub.cons (Sub.cons (Sub.cons (Sub.cons (Sub.cons (Sub.cons (Sub.cons (Sub.cons (Sub.cons (Sub.cons (Sub.cons (Sub.cons (Sub.cons (Sub.nil _) rfl) rfl) rfl) rfl) rfl) rfl) rfl) rfl) rfl) rfl) rfl) rfl) rfl) rfl) rfl) rfl) rfl) rfl) rfl) rfl) rfl) rfl) rfl) rfl) rfl) rfl) rfl) rfl) rfl) rfl) rfl) rfl) rfl) rfl) rfl) rfl) rfl) rfl) rfl) rfl) rfl) rfl) rfl) rfl) rfl) rfl) rfl) rfl) rfl) rfl) rfl)
      ·
       refine go_block ?_
       refine go_loop (α := Nat × Int × (Obst_Tree × Omem_Mem) × (Ocrowd_Crowd) × List Blk × List Blk × Heap) (fun a => HExt h16 a.2.2.2.2.2.2 ∧ Wf a.2.2.2.2.2.2 ∧ F_law16_CrowdAlone_L2 n a.1 a.2.1 a.2.2.1 a.2.2.2.1 = some s17 ∧ Zbst_Tree a.2.2.2.2.2.2 b4_w0 b4_w0_1 a.2.2.2.2.1 a.2.2.1.1 a.2.2.1.2 ∧ Zcrowd_Crowd a.2.2.2.2.2.2 b4_w0 b4_w1 a.2.2.2.2.2.1 a.2.2.2.1) (fun a => a.1) (fun a => [(0, true, .slice a0_0 p0.length c0_0), (2, true, .bool false), (3, true, .bool true), (4, true, pt b4_w0), (5, true, pt b4_w1), (6, true, .slice a9_0 y9_0.length a9_1), (7, true, .int .i64 (i9 : Int)), (8, true, pt b8_14), (9, true, .int .i64 a.2.1), (22, true, .int .i64 (i9 : Int)), (23, true, .slice a0_0 p0.length c0_0), (24, true, .int .i64 (p0.length : Int)), (25, true, .bool true), (28, true, .slice a0_0 p0.length c0_0), (29, true, .int .i64 (i9 : Int)), (30, true, .pointer (some q13)), (31, true, .agg #[.int .i64 z9.Kind, .int .i64 z9.T, .string z9.Key]), (32, true, .pointer (some ⟨b8_14, 1, none⟩)), (33, true, pt b8_14), (34, true, .int .i64 z9.Kind), (35, true, .bool (decide (z9.Kind < 1))), (36, true, .bool (decide (z9.Kind < 1))), (40, true, .bool (bif (decide (z9.Kind < 1)) then true else (decide (z9.Kind > 3)))), (41, true, pt b4_w0), (42, true, pt b4_w1), (43, true, .agg #[.int .i64 z9.Kind, .int .i64 2, .string z9.Key])]) (fun a => (List.flatten [a.2.2.2.2.1, a.2.2.2.2.2.1, [⟨b8_14, .cells [.int .i64 z9.Kind, .int .i64 2, .string z9.Key] 67⟩]] : List Blk)) (fun a => a.2.2.2.2.2.2) ?_ (n, 0, (x16.2.1, x16.2.2.1), x16.2.2.2, z16_y0, z16_y1, h16) ⟨HExt.refl _, w16, hF, f16_0, f16_1⟩ (Sub.cons (Sub.cons (Sub.cons (Sub.cons (Sub.cons (Sub.cons (Sub.cons (Sub.cons (Sub.cons (Sub.cons (Sub.cons (Sub.cons (Sub.cons (Sub.cons (Sub.cons (Sub.cons (Sub.cons (Sub.cons (Sub.cons (Sub.cons (Sub.cons (Sub.cons (Sub.cons (Sub.cons (Sub.cons (Sub.cons (Sub.nil _) rfl) rfl) rfl) rfl) rfl) rfl) rfl) rfl) rfl) rfl) rfl) rfl) rfl) rfl) rfl) rfl) rfl) rfl) rfl) rfl) rfl) rfl) rfl) rfl) rfl) rfl) rfl rfl
       rintro ⟨m27, y27_0, y27_1, y27_2, a27_0, a27_1, h27⟩ ⟨e27, w27, hF, f27_1, f27_2⟩ ih27
       try dsimp only at f27_1 f27_2
       rcases m27 with _ | m27
       ·
        rw [F_law16_CrowdAlone_L2.eq_1] at hF; cases hF
       ·
        rw [F_law16_CrowdAlone_L2.eq_2] at hF
        refine go_seq (go_seq (go_region (gM rfl rfl (gr rfl (r_bin (ot rfl) (oc rfl) rfl) (gM rfl rfl ?_)))))
        obtain ⟨s29, hF, hK29⟩ := obind hF
        refine go_joinr 4 (β := List Blk) (fun s h' => Zcrowd_Crowd h' b4_w0 b4_w1 s s29.2.2) (fun s => [(0, true, .slice a0_0 p0.length c0_0), (2, true, .bool false), (3, true, .bool true), (4, true, pt b4_w0), (5, true, pt b4_w1), (6, true, .slice a9_0 y9_0.length a9_1), (7, true, .int .i64 (i9 : Int)), (8, true, pt b8_14), (9, true, .int .i64 y27_0), (22, true, .int .i64 (i9 : Int)), (23, true, .slice a0_0 p0.length c0_0), (24, true, .int .i64 (p0.length : Int)), (25, true, .bool true), (28, true, .slice a0_0 p0.length c0_0), (29, true, .int .i64 (i9 : Int)), (30, true, .pointer (some q13)), (31, true, .agg #[.int .i64 z9.Kind, .int .i64 z9.T, .string z9.Key]), (32, true, .pointer (some ⟨b8_14, 1, none⟩)), (33, true, pt b8_14), (34, true, .int .i64 z9.Kind), (35, true, .bool (decide (z9.Kind < 1))), (36, true, .bool (decide (z9.Kind < 1))), (40, true, .bool (bif (decide (z9.Kind < 1)) then true else (decide (z9.Kind > 3)))), (41, true, pt b4_w0), (42, true, pt b4_w1), (43, true, .agg #[.int .i64 z9.Kind, .int .i64 2, .string z9.Key]), (45, true, .int .i64 y27_0), (46, true, .bool (decide (y27_0 < 2000))), (47, true, .bool s29.1), (51, true, .bool s29.2.1)]) (fun s => (List.flatten [a27_0, s, [⟨b8_14, .cells [.int .i64 z9.Kind, .int .i64 2, .string z9.Key] 67⟩]] : List Blk)) ?_ (fun J29 => ?_)
        ·
         rintro a29_0 h29 e29 w29 f29_2
         try dsimp only at f29_2
         replace hF := hK29
         refine go_nil ?_
         refine g_cond (b := s29.2.1) (ot rfl) (fun hc30 => ?_) (fun hc30 => ?_)
         ·
          replace hF := ifT hc30 hF
          refine go_skip (go_seq (go_block (go_region (gM rfl rfl ?_))))
          obtain ⟨x31, hx31, hF⟩ := obind hF
          refine kcX EE_fr w29 (.cons .z (.cons .z .nil)) rfl of (ops_t rfl (ops_c rfl os0)) hb_31 (s_crowd_Crowd_Pick n w29 y27_1.1 y27_1.2 s29.2.2 2 (f27_1.ext e29.kn) f29_2 hx31) ?_
          rintro _ _ h31 e31 w31 ⟨z31_y0, z31_y1, rfl, rfl, f31_0, f31_1⟩
          simp only [ca_, na_]
          refine go_nil (go_endb (go_region (gM rfl rfl (gr rfl (r_bin (ot rfl) (oc rfl) rfl) (gA rfl rfl (go_nil ?_))))))
          exact Goes.weak (ih27 (m27, (IntKind.i64.wrap (y27_0 + 1)), (x31.2.1, x31.2.2.1), x31.2.2.2, z31_y0, z31_y1, h31) ⟨(e27.trans (e29.trans e31)), w31, hF, f31_0, f31_1⟩ (Nat.lt_succ_self _)) (Sub.cons (Sub.cons (Sub.cons (Sub.cons (Sub.cons (Sub.cons (Sub.cons (Sub.cons (Sub.cons (Sub.cons (Sub.cons (Sub.cons (Sub.cons (Sub.cons (Sub.cons (Sub.cons (Sub.cons (Sub.cons (Sub.cons (Sub.cons (Sub.cons (Sub.cons (Sub.cons (Sub.cons (Sub.cons (Sub.cons (Sub.nil _) rfl) rfl) rfl) rfl) rfl) rfl) rfl) rfl) rfl) rfl) rfl) rfl) rfl) rfl) rfl) rfl) rfl) rfl) rfl) rfl) rfl) rfl) rfl) rfl) rfl) rfl)
         ·
          replace hF := ifF hc30 hF
          refine go_exit rfl ?_
          obtain rfl := someI hF
          exact Goes.weak (J17 (a27_0, a29_0) _ (e27.trans e29) w29 ⟨(f27_1.ext e29.kn), f29_2⟩) (Sub.cons (Sub.cons (Sub.cons (Sub.cons (Sub.cons (Sub.cons (Sub.cons (Sub.cons (Sub.cons (Sub.cons (Sub.cons (Sub.cons (Sub.cons (Sub.cons (Sub.cons (Sub.cons (Sub.cons (Sub.cons (Sub.cons (Sub.cons (Sub.cons (Sub.cons (Sub.cons (Sub.cons (Sub.cons (Sub.cons (Sub.cons (Sub.cons (Sub.cons (Sub.cons (Sub.nil _) rfl) rfl) rfl) rfl) rfl) rfl) rfl) rfl) rfl) rfl) rfl) rfl) rfl) rfl) rfl) rfl) rfl) rfl) rfl) rfl) rfl) rfl) rfl) rfl) rfl) rfl) rfl) rfl) rfl) rfl)
        ·
         rcases Bool.eq_false_or_eq_true (decide (y27_0 < 2000)) with hb28 | hb28
         ·
          replace hF := ifT hb28 hF
          refine go_re 47 (v2 := .bool true) rfl (congrArg Value.bool hb28) (g_do rfl rfl rfl (gM rfl rfl (g_do rfl rfl rfl ?_)))
          obtain ⟨x32, hx32, hF⟩ := obind hF
          refine kcX EE_fr w27 (.cons (.s (.z)) .nil) rfl of (ops_t rfl (ops_c rfl os0)) hb_30 (s_crowd_Crowd_Idle (bWT := b4_w0) w27 y27_2 2 f27_2 hx32) ?_
          rintro _ _ h32 e32 w32 ⟨z32_y0, rfl, rfl, f32_0⟩
          simp only [ca_, na_]
          refine g_do rfl rfl rfl (gr rfl (r_un (ot rfl) rfl) (gr rfl (r_pkT (ot rfl) (ot rfl)) ?_))
          obtain rfl := someI hF
          refine gs_perm (perm_of (d := []) _ [1, 0, 2] rfl) ?_
          exact Goes.weak (J29 z32_y0 _ e32 w32 f32_0) (Sub.cons (Sub.cons (Sub.cons (Sub.cons (Sub.cons (Sub.cons (Sub.cons (Sub.cons (Sub.cons (Sub.cons (Sub.cons (Sub.cons (Sub.cons (Sub.cons (Sub.cons (Sub.cons (Sub.cons (Sub.cons (Sub.cons (Sub.cons (Sub.cons (Sub.cons (Sub.cons (Sub.cons (Sub.cons (Sub.cons (Sub.cons (Sub.cons (Sub.cons (Sub.cons (Sub.nil _) rfl) rfl) rfl) rfl) rfl) rfl) rfl) rfl) rfl) rfl) rfl) rfl) rfl) rfl) rfl) rfl) rfl) rfl) rfl) rfl) rfl) rfl) rfl) rfl) rfl) rfl) rfl) rfl) rfl) rfl)
         ·
          replace hF := ifF hb28 hF
          refine go_re 47 (v2 := .bool false) rfl (congrArg Value.bool hb28) (g_no rfl rfl rfl rfl rfl (g_no rfl rfl rfl rfl rfl (g_no rfl rfl rfl rfl rfl (gr rfl (r_pkF (ot rfl) (oc rfl)) ?_))))
          obtain rfl := someI hF
          exact Goes.weak (J29 a27_1 _ (HExt.refl _) w27 f27_2) (Sub.cons (Sub.cons (Sub.cons (Sub.cons (Sub.cons (Sub.cons (Sub.cons (Sub.cons (Sub.cons (Sub.cons (Sub.cons (Sub.cons (Sub.cons (Sub.cons (Sub.cons (Sub.cons (Sub.cons (Sub.cons (Sub.cons (Sub.cons (Sub.cons (Sub.cons (Sub.cons (Sub.cons (Sub.cons (Sub.cons (Sub.cons (Sub.cons (Sub.cons (Sub.cons (Sub.nil _) rfl) rfl) rfl) rfl) rfl) rfl) rfl) rfl) rfl) rfl) rfl) rfl) rfl) rfl) rfl) rfl) rfl) rfl) rfl) rfl) rfl) rfl) rfl) rfl) rfl) rfl) rfl) rfl) rfl) rfl)
end Go.Proofs.YtndhbaidibioeaaGreat.V
