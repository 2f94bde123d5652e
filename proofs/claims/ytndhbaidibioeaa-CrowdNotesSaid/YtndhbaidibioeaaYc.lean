/- Walks.
   No condition: these are laws of the clean machine and of this program. -/
import Derived.Test.YtndhbaidibioeaaYb
namespace Go.Proofs.Ytndhbaidibioeaa.V
open Go
set_option linter.unusedVariables false
set_option linter.unusedSimpArgs false
set_option maxRecDepth 100000
set_option maxHeartbeats 4000000
theorem s_law16_CrowdNotes (n : Nat) {h : Heap} (hw : Wf h) (p0 : (List Timpostlaw16_Deed)) {a0_0 : Option Addr} {c0_0 : Nat} {bWT : Nat} (f0_0 : RL R_Timpostlaw16_Deed h a0_0 c0_0 p0) {r : Bool} (hF : F_law16_CrowdNotes n p0 = some r) :
 Ev EE 8 [.slice a0_0 p0.length c0_0] h (fun v _ => v = .bool r) := by
 unfold F_law16_CrowdNotes at hF
 refine ev_of hw rfl at_8 rfl rfl (go_seg0 ?_)
 refine go_seq (go_region (gAc rfl rfl (go_nil (go_seq (go_region (g_callp EE_fr rfl of os0 hb_26 (fun _ => rfl) (fun hf kn w => by exact known_evp rfl hf w) (gA rfl rfl (go_nil (go_seq (go_seq (go_region (gM rfl rfl (gr rfl (r_len rfl (os1 (ot rfl) os0) (fun _ _ => ln_68)) (gr rfl (r_bin (ot rfl) (oc rfl) rfl) (go_nil ?_)))))))))))))))
 refine g_cond (b := (decide ((p0.length : Int) > 400))) (ot rfl) (fun hc3 => ?_) (fun hc3 => ?_)
 ·
  replace hF := ifT hc3 hF
  refine go_seq (go_region (gM rfl rfl (gA rfl rfl (go_nil ?_))))
  obtain rfl := someI hF
  exact g_ret (rst rfl rs0) (fun h1 hf hs => ⟨hs.hext, rfl⟩)
 ·
  replace hF := ifF hc3 hF
  refine go_skip (go_seq (go_region ?_))
  obtain ⟨x4, hx4, hF⟩ := obind hF
  refine kcX EE_fr hw .nil rfl of (ops_c rfl os0) hb_34 (s_law16_begun n (bWT := bWT) hw ([] : List ByteArray) (RL.nil _ _ _) hx4) ?_
  rintro _ _ h4 e4 w4 ⟨b4_w0, b4_w0_1, z4_w0, b4_w1, z4_w1, rfl, rfl, f4_0, f4_1⟩
  simp only [ca_, na_]
  refine gM rfl rfl (gE rfl rfl rfl (gE rfl rfl rfl (gA rfl rfl (gA rfl rfl (go_nil (go_seq (go_region (gAc rfl rfl (go_nil (go_seq (go_region (gAc rfl rfl (go_nil (go_seq (go_seq (go_region (gAc rfl rfl (go_nil ?_))))))))))))))))))
  obtain ⟨s5, hF, hK5⟩ := obind hF
  refine go_joinc (β := ((Obst_Tree × Omem_Mem) × (Ocrowd_Crowd)) × List Blk × List Blk) (fun s h' => s5 = .go s.1 ∧ Zbst_Tree h' b4_w0 b4_w0_1 s.2.1 s.1.1.1 s.1.1.2 ∧ Zcrowd_Crowd h' b4_w0 b4_w1 s.2.2 s.1.2) (fun s => [(2, true, .bool false), (3, true, .bool true), (5, true, pt b4_w1)]) (fun s => (List.flatten [s.2.1, s.2.2] : List Blk)) ?_ (fun J5 => ?_)
  ·
   rintro ⟨⟨x5_0, x5_1⟩, a5_0, a5_1⟩ h5 e5 w5 ⟨hs5, f5_0, f5_1⟩
   subst hs5
   try dsimp only at f5_0 f5_1
   replace hF := lpgo hK5
   refine go_seq (go_region (gM rfl rfl ?_))
   obtain ⟨x6, hx6, hF⟩ := obind hF
   refine kcX EE_fr w5 (.cons (.s (.z)) .nil) rfl of (ops_t rfl os0) hb_31 (s_crowd_Crowd_Calls (bWT := b4_w0) w5 x5_1 f5_1 hx6) ?_
   rintro _ _ h6 e6 w6 ⟨z6_y0, a6_0, c6_0, rfl, rfl, f6_0, f6_1⟩
   simp only [ca_, na_]
   refine gA rfl rfl (go_nil (go_seq (go_region (gAc rfl rfl (go_nil (go_seq (go_seq (go_region (gAc rfl rfl (go_nil ?_))))))))))
   obtain ⟨s7, hF, hK7⟩ := obind hF
   refine go_joinc (β := (Int)) (fun s h' => s7 = .go s) (fun s => [(2, true, .bool false), (3, true, .bool true), (14, true, .int .i64 s)]) (fun s => (List.flatten [z6_y0, a5_0] : List Blk)) ?_ (fun J7 => ?_)
   ·
    rintro x7_0 h7 e7 w7 hs7
    subst hs7
    replace hF := lpgo hK7
    refine go_seq (go_region (gM rfl rfl (gM rfl rfl (g_do rfl rfl rfl (gM rfl rfl (g_do rfl rfl rfl (gr rfl (r_bin (ot rfl) (oc rfl) rfl) (gr rfl (r_pkT (ot rfl) (ot rfl)) (gA rfl rfl (go_nil ?_))))))))))
    obtain rfl := someI hF
    exact g_ret (rst rfl rs0) (fun h1 hf hs => ⟨(e4.trans (e5.trans (e6.trans (e7.trans hs.hext)))), rfl⟩)
   ·
    refine go_block ?_
    refine go_loop (α := (List Torder_Call) × Nat × Int × Heap) (fun a => a.1 = List.drop a.2.1 x6.1 ∧ HExt h6 a.2.2.2 ∧ Wf a.2.2.2 ∧ F_law16_CrowdNotes_L1 x6 a.1 a.2.1 a.2.2.1 = some s7) (fun a => a.1.length) (fun a => [(2, true, .bool false), (3, true, .bool true), (13, true, .slice a6_0 x6.1.length c6_0), (14, true, .int .i64 a.2.2.1), (15, true, .int .i64 (a.2.1 : Int))]) (fun a => (List.flatten [z6_y0, a5_0] : List Blk)) (fun a => a.2.2.2) ?_ (x6.1, 0, 0, h6) ⟨rfl, HExt.refl _, w6, hF⟩ (Sub.cons (Sub.cons (Sub.cons (Sub.cons (Sub.cons (Sub.nil _) rfl) rfl) rfl) rfl) rfl) rfl rfl
    rintro ⟨r8, i8, y8_0, h8⟩ ⟨hr8, e8, w8, hF⟩ ih8
    rcases r8 with _ | ⟨z8, r8⟩
    ·
     have hi8 := drop_nil hr8
     rw [F_law16_CrowdNotes_L1.eq_1] at hF
     refine go_seq (go_seq (go_region (gM rfl rfl (gM rfl rfl (gr rfl (r_len rfl (os1 (ot rfl) os0) (fun _ _ => ln_64)) (gr rfl (r_bin (ot rfl) (ot rfl) rfl) (go_cast (.bool false) (congrArg Value.bool (decide_eq_false hi8)) (go_nil ?_))))))))
     refine g_cond (b := false) (ot rfl) (fun hc9 => ?_) (fun hc9 => ?_)
     ·
      cases hc9
     refine go_exit rfl ?_
     obtain rfl := someI hF
     exact Goes.weak (J7 y8_0 _ e8 w8 rfl) (Sub.cons (Sub.cons (Sub.cons (Sub.nil _) rfl) rfl) rfl)
    ·
     obtain ⟨hi8, hx8, hr8⟩ := drop_cons hr8
     have hb8 := (f6_1.ext e8.kn).1
     rw [F_law16_CrowdNotes_L1.eq_2] at hF
     refine go_seq (go_seq (go_region (gM rfl rfl (gM rfl rfl (gr rfl (r_len rfl (os1 (ot rfl) os0) (fun _ _ => ln_64)) (gr rfl (r_bin (ot rfl) (ot rfl) rfl) (go_cast (.bool true) (congrArg Value.bool (decide_eq_true (Int.ofNat_lt.mpr hi8))) (go_nil ?_))))))))
     refine g_cond (b := true) (ot rfl) (fun hc10 => ?_) (fun hc10 => ?_)
     rotate_left
     ·
      cases hc10
     refine go_skip (go_seq (go_block (go_seq (go_seq (go_region (gM rfl rfl (gM rfl rfl ?_)))))))
     obtain ⟨q11, row11, i11, cl11, rc11, sp11⟩ := ix (ik := .i64) (cap := c6_0) (E := EE) (f6_1.ext e8.kn) ((getI_nat _ _).trans hx8) ut_64 sz_76 rfl
     obtain rfl := rc11
     refine gr rfl (r_ia (ot rfl) (ot rfl) i11) (gF (fs_76_4 sp11) rfl rfl (gr rfl (r_load (ot rfl) (v := .int .i64 z8.Ret) (lo_e (fun hf kn => ld_field (r := [.int .i64 z8.Kind, .string z8.Key, .bool z8.Ok, .int .i64 z8.Inv, .int .i64 z8.Ret]) ag_3 (kn.cellsAt cl11) rfl))) (gr rfl (r_bin (ot rfl) (oc rfl) rfl) (go_nil ?_))))
     obtain ⟨s13, hF, hK13⟩ := obind hF
     refine go_joinc (β := Unit) (fun s h' => True) (fun s => [(2, true, .bool false), (3, true, .bool true), (13, true, .slice a6_0 x6.1.length c6_0), (14, true, .int .i64 s13), (15, true, .int .i64 (i8 : Int)), (141, true, .int .i64 (i8 : Int)), (142, true, .slice a6_0 x6.1.length c6_0), (143, true, .int .i64 (x6.1.length : Int)), (144, true, .bool true), (147, true, .slice a6_0 x6.1.length c6_0), (148, true, .int .i64 (i8 : Int)), (149, true, .pointer (some q11)), (150, true, .pointer (some ⟨q11.block, q11.off + 4, q11.spot⟩)), (151, true, .int .i64 z8.Ret), (152, true, .bool (decide (z8.Ret < 0)))]) (fun s => (List.flatten [z6_y0, a5_0] : List Blk)) ?_ (fun J13 => ?_)
     ·
      rintro _ h13 e13 w13 _
      replace hF := hK13
      refine go_seq (go_regionq (by kernel_rfl) (gM rfl rfl (gr rfl (r_bin (ot rfl) (oc rfl) rfl) (gM rfl rfl ?_))))
      obtain ⟨s15, hF, hK15⟩ := obind hF
      refine go_joinr 13 (β := Unit) (fun s h' => True) (fun s => [(2, true, .bool false), (3, true, .bool true), (13, true, .slice a6_0 x6.1.length c6_0), (14, true, .int .i64 s13), (15, true, .int .i64 (i8 : Int)), (141, true, .int .i64 (i8 : Int)), (142, true, .slice a6_0 x6.1.length c6_0), (143, true, .int .i64 (x6.1.length : Int)), (144, true, .bool true), (147, true, .slice a6_0 x6.1.length c6_0), (148, true, .int .i64 (i8 : Int)), (149, true, .pointer (some q11)), (150, true, .pointer (some ⟨q11.block, q11.off + 4, q11.spot⟩)), (151, true, .int .i64 z8.Ret), (152, true, .bool (decide (z8.Ret < 0))), (155, true, .int .i64 (i8 : Int)), (156, true, .bool (decide ((i8 : Int) > 0))), (157, true, .bool s15.1), (170, true, .bool s15.2)]) (fun s => (List.flatten [z6_y0, a5_0] : List Blk)) ?_ (fun J15 => ?_)
      ·
       rintro _ h15 e15 w15 _
       replace hF := hK15
       refine gM rfl rfl ?_
       obtain ⟨s17, hF, hK17⟩ := obind hF
       refine go_joinr 20 (β := Unit) (fun s h' => True) (fun s => [(2, true, .bool false), (3, true, .bool true), (13, true, .slice a6_0 x6.1.length c6_0), (14, true, .int .i64 s13), (15, true, .int .i64 (i8 : Int)), (141, true, .int .i64 (i8 : Int)), (142, true, .slice a6_0 x6.1.length c6_0), (143, true, .int .i64 (x6.1.length : Int)), (144, true, .bool true), (147, true, .slice a6_0 x6.1.length c6_0), (148, true, .int .i64 (i8 : Int)), (149, true, .pointer (some q11)), (150, true, .pointer (some ⟨q11.block, q11.off + 4, q11.spot⟩)), (151, true, .int .i64 z8.Ret), (152, true, .bool (decide (z8.Ret < 0))), (155, true, .int .i64 (i8 : Int)), (156, true, .bool (decide ((i8 : Int) > 0))), (157, true, .bool s15.1), (170, true, .bool s15.2), (171, true, .bool s17.1), (191, true, .bool s17.2)]) (fun s => (List.flatten [z6_y0, a5_0] : List Blk)) ?_ (fun J17 => ?_)
       ·
        rintro _ h17 e17 w17 _
        replace hF := hK17
        refine go_nil ?_
        refine g_cond (b := s17.2) (ot rfl) (fun hc18 => ?_) (fun hc18 => ?_)
        ·
         replace hF := ifT hc18 hF
         refine go_seq (go_region (gAc rfl rfl (go_nil ?_)))
         obtain rfl := someI hF
         obtain rfl := someI hK7
         exact g_ret (rst rfl rs0) (fun h1 hf hs => ⟨(e4.trans (e5.trans (e6.trans (e8.trans (e13.trans (e15.trans (e17.trans hs.hext))))))), rfl⟩)
        ·
         replace hF := ifF hc18 hF
         refine go_skip (go_endb (go_region (gM rfl rfl (gr rfl (r_bin (ot rfl) (oc rfl) rfl) (gA rfl rfl (go_nil (go_re 15 (v2 := .int .i64 ((i8 + 1 : Nat) : Int)) rfl (wrap_succ hi8 hb8) ?_)))))))
         exact Goes.weak (ih8 (r8, i8 + 1, s13, h17) ⟨hr8, (e8.trans (e13.trans (e15.trans e17))), w17, hF⟩ (Nat.lt_succ_self _)) (Sub.cons (Sub.cons (Sub.cons (Sub.cons (Sub.cons (Sub.nil _) rfl) rfl) rfl) rfl) rfl)
       ·
        rcases Bool.eq_false_or_eq_true s15.2 with hb16 | hb16
        ·
         replace hF := ifT hb16 hF
         refine go_re 171 (v2 := .bool true) rfl (congrArg Value.bool hb16) (g_no rfl rfl rfl rfl rfl (g_no rfl rfl rfl rfl rfl (g_no rfl rfl rfl rfl rfl (g_no rfl rfl rfl rfl rfl (g_no rfl rfl rfl rfl rfl (g_no rfl rfl rfl rfl rfl (g_no rfl rfl rfl rfl rfl (g_nu rfl rfl rfl rfl (g_nu rfl rfl rfl rfl (g_nu rfl rfl rfl rfl (g_nu rfl rfl rfl rfl (g_nu rfl rfl rfl rfl (g_nu rfl rfl rfl rfl (g_nu rfl rfl rfl rfl (g_nu rfl rfl rfl rfl (g_nu rfl rfl rfl rfl (g_nu rfl rfl rfl rfl (g_nu rfl rfl rfl rfl (g_no rfl rfl rfl rfl rfl (gr rfl (r_pkT (ot rfl) (oc rfl)) ?_))))))))))))))))))))
         obtain rfl := someI hF
         exact Goes.weak (J17 () _ (HExt.refl _) w15 trivial) (Sub.cons (Sub.cons (Sub.cons (Sub.cons (Sub.cons (Sub.cons (Sub.cons (Sub.cons (Sub.cons (Sub.cons (Sub.cons (Sub.cons (Sub.cons (Sub.cons (Sub.cons (Sub.cons (Sub.cons (Sub.cons (Sub.cons (Sub.cons (Sub.cons (Sub.nil _) rfl) rfl) rfl) rfl) rfl) rfl) rfl) rfl) rfl) rfl) rfl) rfl) rfl) rfl) rfl) rfl) rfl) rfl) rfl) rfl) rfl)
        ·
         replace hF := ifF hb16 hF
         refine go_re 171 (v2 := .bool false) rfl (congrArg Value.bool hb16) (g_do rfl rfl rfl (gM rfl rfl (g_do rfl rfl rfl (gM rfl rfl (g_do rfl rfl rfl ?_)))))
         obtain ⟨q19, row19, i19, cl19, rc19, sp19⟩ := ix (ik := .i64) (cap := c6_0) (E := EE) (((f6_1.ext e8.kn).ext e13.kn).ext e15.kn) ((getI_nat _ _).trans hx8) ut_64 sz_76 rfl
         obtain rfl := rc19
         refine gr rfl (r_ia (ot rfl) (ot rfl) i19) (g_do rfl rfl rfl (gF (fs_76_4 sp19) rfl rfl (g_do rfl rfl rfl (gr rfl (r_load (ot rfl) (v := .int .i64 z8.Ret) (lo_e (fun hf kn => ld_field (r := [.int .i64 z8.Kind, .string z8.Key, .bool z8.Ok, .int .i64 z8.Inv, .int .i64 z8.Ret]) ag_3 (kn.cellsAt cl19) rfl))) (g_do rfl rfl rfl (gr rfl (r_bin (ot rfl) (oc rfl) rfl) (g_do rfl rfl rfl (gM rfl rfl ?_))))))))
         obtain ⟨s21, hF, hK21⟩ := obind hF
         refine go_joinr 12 (β := Unit) (fun s h' => True) (fun s => [(2, true, .bool false), (3, true, .bool true), (13, true, .slice a6_0 x6.1.length c6_0), (14, true, .int .i64 s13), (15, true, .int .i64 (i8 : Int)), (141, true, .int .i64 (i8 : Int)), (142, true, .slice a6_0 x6.1.length c6_0), (143, true, .int .i64 (x6.1.length : Int)), (144, true, .bool true), (147, true, .slice a6_0 x6.1.length c6_0), (148, true, .int .i64 (i8 : Int)), (149, true, .pointer (some q11)), (150, true, .pointer (some ⟨q11.block, q11.off + 4, q11.spot⟩)), (151, true, .int .i64 z8.Ret), (152, true, .bool (decide (z8.Ret < 0))), (155, true, .int .i64 (i8 : Int)), (156, true, .bool (decide ((i8 : Int) > 0))), (157, true, .bool s15.1), (170, true, .bool s15.2), (171, true, .bool false), (172, true, .slice a6_0 x6.1.length c6_0), (173, true, .int .i64 (i8 : Int)), (174, true, .pointer (some q19)), (175, true, .pointer (some ⟨q19.block, q19.off + 4, q19.spot⟩)), (176, true, .int .i64 z8.Ret), (177, true, .bool (decide (z8.Ret ≥ 0))), (178, true, .bool s21.1), (190, true, .bool s21.2)]) (fun s => (List.flatten [z6_y0, a5_0] : List Blk)) ?_ (fun J21 => ?_)
         ·
          rintro _ h21 e21 w21 _
          replace hF := hK21
          refine gr rfl (r_pkF (ot rfl) (ot rfl)) ?_
          obtain rfl := someI hF
          exact Goes.weak (J17 () _ e21 w21 trivial) (Sub.cons (Sub.cons (Sub.cons (Sub.cons (Sub.cons (Sub.cons (Sub.cons (Sub.cons (Sub.cons (Sub.cons (Sub.cons (Sub.cons (Sub.cons (Sub.cons (Sub.cons (Sub.cons (Sub.cons (Sub.cons (Sub.cons (Sub.cons (Sub.cons (Sub.nil _) rfl) rfl) rfl) rfl) rfl) rfl) rfl) rfl) rfl) rfl) rfl) rfl) rfl) rfl) rfl) rfl) rfl) rfl) rfl) rfl) rfl)
         ·
          rcases Bool.eq_false_or_eq_true (decide (z8.Ret ≥ 0)) with hb20 | hb20
          ·
           replace hF := ifT hb20 hF
           refine go_re 178 (v2 := .bool true) rfl (congrArg Value.bool hb20) (g_do rfl rfl rfl (gM rfl rfl (g_do rfl rfl rfl (gM rfl rfl (g_do rfl rfl rfl ?_)))))
           obtain ⟨q22, row22, i22, cl22, rc22, sp22⟩ := ix (ik := .i64) (cap := c6_0) (E := EE) (((f6_1.ext e8.kn).ext e13.kn).ext e15.kn) ((getI_nat _ _).trans hx8) ut_64 sz_76 rfl
           obtain rfl := rc22
           refine gr rfl (r_ia (ot rfl) (ot rfl) i22) (g_do rfl rfl rfl (gF (fs_76_4 sp22) rfl rfl (g_do rfl rfl rfl (gr rfl (r_load (ot rfl) (v := .int .i64 z8.Ret) (lo_e (fun hf kn => ld_field (r := [.int .i64 z8.Kind, .string z8.Key, .bool z8.Ok, .int .i64 z8.Inv, .int .i64 z8.Ret]) ag_3 (kn.cellsAt cl22) rfl))) (g_do rfl rfl rfl (gM rfl rfl (g_do rfl rfl rfl (gM rfl rfl (g_do rfl rfl rfl ?_)))))))))
           obtain ⟨q23, row23, i23, cl23, rc23, sp23⟩ := ix (ik := .i64) (cap := c6_0) (E := EE) (((f6_1.ext e8.kn).ext e13.kn).ext e15.kn) ((getI_nat _ _).trans hx8) ut_64 sz_76 rfl
           obtain rfl := rc23
           refine gr rfl (r_ia (ot rfl) (ot rfl) i23) (g_do rfl rfl rfl (gF (fs_76_3 sp23) rfl rfl (g_do rfl rfl rfl (gr rfl (r_load (ot rfl) (v := .int .i64 z8.Inv) (lo_e (fun hf kn => ld_field (r := [.int .i64 z8.Kind, .string z8.Key, .bool z8.Ok, .int .i64 z8.Inv, .int .i64 z8.Ret]) ag_3 (kn.cellsAt cl23) rfl))) (g_do rfl rfl rfl (gr rfl (r_bin (ot rfl) (ot rfl) rfl) (g_do rfl rfl rfl (gr rfl (r_pkT (ot rfl) (ot rfl)) ?_))))))))
           obtain rfl := someI hF
           exact Goes.weak (J21 () _ (HExt.refl _) w15 trivial) (Sub.cons (Sub.cons (Sub.cons (Sub.cons (Sub.cons (Sub.cons (Sub.cons (Sub.cons (Sub.cons (Sub.cons (Sub.cons (Sub.cons (Sub.cons (Sub.cons (Sub.cons (Sub.cons (Sub.cons (Sub.cons (Sub.cons (Sub.cons (Sub.cons (Sub.cons (Sub.cons (Sub.cons (Sub.cons (Sub.cons (Sub.cons (Sub.cons (Sub.nil _) rfl) rfl) rfl) rfl) rfl) rfl) rfl) rfl) rfl) rfl) rfl) rfl) rfl) rfl) rfl) rfl) rfl) rfl) rfl) rfl) rfl) rfl) rfl) rfl) rfl) rfl) rfl) rfl)
          ·
           replace hF := ifF hb20 hF
           refine go_re 178 (v2 := .bool false) rfl (congrArg Value.bool hb20) (g_no rfl rfl rfl rfl rfl (g_no rfl rfl rfl rfl rfl (g_no rfl rfl rfl rfl rfl (g_no rfl rfl rfl rfl rfl (g_no rfl rfl rfl rfl rfl (g_no rfl rfl rfl rfl rfl (g_no rfl rfl rfl rfl rfl (g_no rfl rfl rfl rfl rfl (g_no rfl rfl rfl rfl rfl (g_no rfl rfl rfl rfl rfl (g_no rfl rfl rfl rfl rfl (g_do rfl rfl rfl (gr rfl (r_pkF (ot rfl) (oc rfl)) ?_)))))))))))))
           obtain rfl := someI hF
           exact Goes.weak (J21 () _ (HExt.refl _) w15 trivial) (Sub.cons (Sub.cons (Sub.cons (Sub.cons (Sub.cons (Sub.cons (Sub.cons (Sub.cons (Sub.cons (Sub.cons (Sub.cons (Sub.cons (Sub.cons (Sub.cons (Sub.cons (Sub.cons (Sub.cons (Sub.cons (Sub.cons (Sub.cons (Sub.cons (Sub.cons (Sub.cons (Sub.cons (Sub.cons (Sub.cons (Sub.cons (Sub.cons (Sub.nil _) rfl) rfl) rfl) rfl) rfl) rfl) rfl) rfl) rfl) rfl) rfl) rfl) rfl) rfl) rfl) rfl) rfl) rfl) rfl) rfl) rfl) rfl) rfl) rfl) rfl) rfl) rfl) rfl)
      ·
       rcases Bool.eq_false_or_eq_true (decide ((i8 : Int) > 0)) with hb14 | hb14
       ·
        replace hF := ifT hb14 hF
        refine go_re 157 (v2 := .bool true) rfl (congrArg Value.bool hb14) (g_do rfl rfl rfl (gM rfl rfl (g_do rfl rfl rfl (gM rfl rfl (g_do rfl rfl rfl ?_)))))
        obtain ⟨q24, row24, i24, cl24, rc24, sp24⟩ := ix (ik := .i64) (cap := c6_0) (E := EE) ((f6_1.ext e8.kn).ext e13.kn) ((getI_nat _ _).trans hx8) ut_64 sz_76 rfl
        obtain rfl := rc24
        refine gr rfl (r_ia (ot rfl) (ot rfl) i24) (g_do rfl rfl rfl (gF (fs_76_3 sp24) rfl rfl (g_do rfl rfl rfl (gr rfl (r_load (ot rfl) (v := .int .i64 z8.Inv) (lo_e (fun hf kn => ld_field (r := [.int .i64 z8.Kind, .string z8.Key, .bool z8.Ok, .int .i64 z8.Inv, .int .i64 z8.Ret]) ag_3 (kn.cellsAt cl24) rfl))) (g_do rfl rfl rfl (gM rfl rfl (g_do rfl rfl rfl (gM rfl rfl (g_do rfl rfl rfl (gr rfl (r_bin (ot rfl) (oc rfl) rfl) (g_do rfl rfl rfl ?_)))))))))))
        obtain ⟨x25, hx25, hF⟩ := obind hF
        obtain ⟨q25, row25, i25, cl25, rc25, sp25⟩ := ix (ik := .i64) (cap := c6_0) (E := EE) ((f6_1.ext e8.kn).ext e13.kn) hx25 ut_64 sz_76 rfl
        obtain rfl := rc25
        refine gr rfl (r_ia (ot rfl) (ot rfl) i25) (g_do rfl rfl rfl (gF (fs_76_3 sp25) rfl rfl (g_do rfl rfl rfl (gr rfl (r_load (ot rfl) (v := .int .i64 x25.Inv) (lo_e (fun hf kn => ld_field (r := [.int .i64 x25.Kind, .string x25.Key, .bool x25.Ok, .int .i64 x25.Inv, .int .i64 x25.Ret]) ag_3 (kn.cellsAt cl25) rfl))) (g_do rfl rfl rfl (gr rfl (r_bin (ot rfl) (ot rfl) rfl) (gr rfl (r_pkT (ot rfl) (ot rfl)) ?_)))))))
        obtain rfl := someI hF
        exact Goes.weak (J15 () _ (HExt.refl _) w13 trivial) (Sub.cons (Sub.cons (Sub.cons (Sub.cons (Sub.cons (Sub.cons (Sub.cons (Sub.cons (Sub.cons (Sub.cons (Sub.cons (Sub.cons (Sub.cons (Sub.cons (Sub.cons (Sub.cons (Sub.cons (Sub.cons (Sub.cons (Sub.nil _) rfl) rfl) rfl) rfl) rfl) rfl) rfl) rfl) rfl) rfl) rfl) rfl) rfl) rfl) rfl) rfl) rfl) rfl) rfl)
       ·
        replace hF := ifF hb14 hF
        refine go_re 157 (v2 := .bool false) rfl (congrArg Value.bool hb14) (g_no rfl rfl rfl rfl rfl (g_no rfl rfl rfl rfl rfl (g_no rfl rfl rfl rfl rfl (g_no rfl rfl rfl rfl rfl (g_no rfl rfl rfl rfl rfl (g_no rfl rfl rfl rfl rfl (g_no rfl rfl rfl rfl rfl (g_no rfl rfl rfl rfl rfl (g_no rfl rfl rfl rfl rfl (g_no rfl rfl rfl rfl rfl (g_no rfl rfl rfl rfl rfl (g_no rfl rfl rfl rfl rfl (gr rfl (r_pkF (ot rfl) (oc rfl)) ?_)))))))))))))
        obtain rfl := someI hF
        exact Goes.weak (J15 () _ (HExt.refl _) w13 trivial) (Sub.cons (Sub.cons (Sub.cons (Sub.cons (Sub.cons (Sub.cons (Sub.cons (Sub.cons (Sub.cons (Sub.cons (Sub.cons (Sub.cons (Sub.cons (Sub.cons (Sub.cons (Sub.cons (Sub.cons (Sub.cons (Sub.cons (Sub.nil _) rfl) rfl) rfl) rfl) rfl) rfl) rfl) rfl) rfl) rfl) rfl) rfl) rfl) rfl) rfl) rfl) rfl) rfl) rfl)
     ·
      refine g_cond (b := (decide (z8.Ret < 0))) (ot rfl) (fun hc12 => ?_) (fun hc12 => ?_)
      ·
       replace hF := ifT hc12 hF
       refine go_region (gM rfl rfl (gr rfl (r_bin (ot rfl) (oc rfl) rfl) (gA rfl rfl (go_nil ?_))))
       obtain rfl := someI hF
       exact Goes.weak (J13 () _ (HExt.refl _) w8 trivial) (Sub.cons (Sub.cons (Sub.cons (Sub.cons (Sub.cons (Sub.cons (Sub.cons (Sub.cons (Sub.cons (Sub.cons (Sub.cons (Sub.cons (Sub.cons (Sub.cons (Sub.cons (Sub.nil _) rfl) rfl) rfl) rfl) rfl) rfl) rfl) rfl) rfl) rfl) rfl) rfl) rfl) rfl) rfl)
      ·
       replace hF := ifF hc12 hF
       refine go_skip ?_
       obtain rfl := someI hF
       exact Goes.weak (J13 () _ (HExt.refl _) w8 trivial) (Sub.cons (Sub.cons (Sub.cons (Sub.cons (Sub.cons (Sub.cons (Sub.cons (Sub.cons (Sub.cons (Sub.cons (Sub.cons (Sub.cons (Sub.cons (Sub.cons (Sub.cons (Sub.nil _) rfl) rfl) rfl) rfl) rfl) rfl) rfl) rfl) rfl) rfl) rfl) rfl) rfl) rfl) rfl)
  ·
   refine go_block ?_
   refine go_loop (α := (List Timpostlaw16_Deed) × Nat × Int × Int × (Obst_Tree × Omem_Mem) × (Ocrowd_Crowd) × List Blk × List Blk × Heap) (fun a => a.1 = List.drop a.2.1 p0 ∧ HExt h4 a.2.2.2.2.2.2.2.2 ∧ Wf a.2.2.2.2.2.2.2.2 ∧ F_law16_CrowdNotes_L2 n a.1 a.2.1 a.2.2.1 a.2.2.2.1 a.2.2.2.2.1 a.2.2.2.2.2.1 = some s5 ∧ Zbst_Tree a.2.2.2.2.2.2.2.2 b4_w0 b4_w0_1 a.2.2.2.2.2.2.1 a.2.2.2.2.1.1 a.2.2.2.2.1.2 ∧ Zcrowd_Crowd a.2.2.2.2.2.2.2.2 b4_w0 b4_w1 a.2.2.2.2.2.2.2.1 a.2.2.2.2.2.1) (fun a => a.1.length) (fun a => [(0, true, .slice a0_0 p0.length c0_0), (2, true, .bool false), (3, true, .bool true), (4, true, pt b4_w0), (5, true, pt b4_w1), (6, true, .int .i64 a.2.2.1), (7, true, .int .i64 a.2.2.2.1), (8, true, .int .i64 (a.2.1 : Int))]) (fun a => (List.flatten [a.2.2.2.2.2.2.1, a.2.2.2.2.2.2.2.1] : List Blk)) (fun a => a.2.2.2.2.2.2.2.2) ?_ (p0, 0, 0, 0, (x4.1, x4.2.1), x4.2.2, z4_w0, z4_w1, h4) ⟨rfl, HExt.refl _, w4, hF, f4_0, f4_1⟩ (Sub.cons (Sub.cons (Sub.cons (Sub.cons (Sub.cons (Sub.cons (Sub.cons (Sub.cons (Sub.nil _) rfl) rfl) rfl) rfl) rfl) rfl) rfl) rfl) rfl rfl
   rintro ⟨r26, i26, y26_0, y26_1, y26_2, y26_3, a26_0, a26_1, h26⟩ ⟨hr26, e26, w26, hF, f26_2, f26_3⟩ ih26
   try dsimp only at f26_2 f26_3
   rcases r26 with _ | ⟨z26, r26⟩
   ·
    have hi26 := drop_nil hr26
    rw [F_law16_CrowdNotes_L2.eq_1] at hF
    refine go_seq (go_seq (go_region (gM rfl rfl (gM rfl rfl (gr rfl (r_len rfl (os1 (ot rfl) os0) (fun _ _ => ln_68)) (gr rfl (r_bin (ot rfl) (ot rfl) rfl) (go_cast (.bool false) (congrArg Value.bool (decide_eq_false hi26)) (go_nil ?_))))))))
    refine g_cond (b := false) (ot rfl) (fun hc27 => ?_) (fun hc27 => ?_)
    ·
     cases hc27
    refine go_exit rfl ?_
    obtain rfl := someI hF
    exact Goes.weak (J5 (((y26_2.1, y26_2.2), y26_3), a26_0, a26_1) _ e26 w26 ⟨rfl, f26_2, f26_3⟩) (Sub.cons (Sub.cons (Sub.cons (Sub.nil _) rfl) rfl) rfl)
   ·
    obtain ⟨hi26, hx26, hr26⟩ := drop_cons hr26
    have hb26 := ((f0_0.ext e4.kn).ext e26.kn).1
    rw [F_law16_CrowdNotes_L2.eq_2] at hF
    refine go_seq (go_seq (go_region (gM rfl rfl (gM rfl rfl (gr rfl (r_len rfl (os1 (ot rfl) os0) (fun _ _ => ln_68)) (gr rfl (r_bin (ot rfl) (ot rfl) rfl) (go_cast (.bool true) (congrArg Value.bool (decide_eq_true (Int.ofNat_lt.mpr hi26))) (go_nil ?_))))))))
    refine g_cond (b := true) (ot rfl) (fun hc28 => ?_) (fun hc28 => ?_)
    rotate_left
    ·
     cases hc28
    refine go_skip (go_seq (go_block (go_seq (go_region (gM rfl rfl (gM rfl rfl (gM rfl rfl ?_)))))))
    obtain ⟨q29, row29, i29, cl29, rc29, sp29⟩ := ix (ik := .i64) (cap := c0_0) (E := EE) ((f0_0.ext e4.kn).ext e26.kn) ((getI_nat _ _).trans hx26) ut_68 sz_73 rfl
    obtain rfl := rc29
    refine gr rfl (r_ia (ot rfl) (ot rfl) i29) (gF (fs_73_1 sp29) rfl rfl (gr rfl (r_load (ot rfl) (v := .int .i64 z26.T) (lo_e (fun hf kn => ld_field (r := [.int .i64 z26.Kind, .int .i64 z26.T, .string z26.Key]) ag_3 (kn.cellsAt cl29) rfl))) ?_))
    obtain ⟨x30, hx30, hF⟩ := obind hF
    refine kcX EE_fr w26 (.cons (.s (.z)) .nil) rfl of (ops_t rfl (ops_t rfl os0)) hb_30 (s_crowd_Crowd_Idle (bWT := b4_w0) w26 y26_3 z26.T f26_3 hx30) ?_
    rintro _ _ h30 e30 w30 ⟨z30_y0, rfl, rfl, f30_0⟩
    simp only [ca_, na_]
    refine gA rfl rfl (go_nil (go_seq (go_region (gM rfl rfl (gM rfl rfl ?_)))))
    obtain ⟨q31, row31, i31, cl31, rc31, sp31⟩ := ix (ik := .i64) (cap := c0_0) (E := EE) (((f0_0.ext e4.kn).ext e26.kn).ext e30.kn) ((getI_nat _ _).trans hx26) ut_68 sz_73 rfl
    obtain rfl := rc31
    refine gr rfl (r_ia (ot rfl) (ot rfl) i31) (gF (fs_73_1 sp31) rfl rfl (gr rfl (r_load (ot rfl) (v := .int .i64 z26.T) (lo_e (fun hf kn => ld_field (r := [.int .i64 z26.Kind, .int .i64 z26.T, .string z26.Key]) ag_3 (kn.cellsAt cl31) rfl))) (gr rfl (r_bin (ot rfl) (oc rfl) rfl) (gM rfl rfl ?_))))
    obtain ⟨s33, hF, hK33⟩ := obind hF
    refine go_joinr 7 (β := Unit) (fun s h' => True) (fun s => [(0, true, .slice a0_0 p0.length c0_0), (2, true, .bool false), (3, true, .bool true), (4, true, pt b4_w0), (5, true, pt b4_w1), (6, true, .int .i64 y26_0), (7, true, .int .i64 y26_1), (8, true, .int .i64 (i26 : Int)), (9, true, .bool x30.1), (25, true, .int .i64 (i26 : Int)), (26, true, .slice a0_0 p0.length c0_0), (27, true, .int .i64 (p0.length : Int)), (28, true, .bool true), (31, true, pt b4_w1), (32, true, .slice a0_0 p0.length c0_0), (33, true, .int .i64 (i26 : Int)), (34, true, .pointer (some q29)), (35, true, .pointer (some ⟨q29.block, q29.off + 1, q29.spot⟩)), (36, true, .int .i64 z26.T), (37, true, .bool x30.1), (38, true, .slice a0_0 p0.length c0_0), (39, true, .int .i64 (i26 : Int)), (40, true, .pointer (some q31)), (41, true, .pointer (some ⟨q31.block, q31.off + 1, q31.spot⟩)), (42, true, .int .i64 z26.T), (43, true, .bool (decide (z26.T ≥ 0))), (44, true, .bool s33.1), (51, true, .bool s33.2)]) (fun s => (List.flatten [z30_y0, a26_0] : List Blk)) ?_ (fun J33 => ?_)
    ·
     rintro _ h33 e33 w33 _
     replace hF := hK33
     refine gA rfl rfl (go_nil (go_seq (go_region (gM rfl rfl (gM rfl rfl (gM rfl rfl (gM rfl rfl ?_)))))))
     obtain ⟨q34, row34, i34, cl34, rc34, sp34⟩ := ix (ik := .i64) (cap := c0_0) (E := EE) ((((f0_0.ext e4.kn).ext e26.kn).ext e30.kn).ext e33.kn) ((getI_nat _ _).trans hx26) ut_68 sz_73 rfl
     obtain rfl := rc34
     refine gr rfl (r_ia (ot rfl) (ot rfl) i34) (gr rfl (r_load (ot rfl) (v := .agg #[.int .i64 z26.Kind, .int .i64 z26.T, .string z26.Key]) (lo_e (fun hf kn => ld_of (r := [.int .i64 z26.Kind, .int .i64 z26.T, .string z26.Key]) ag_73 sz_73 (kn.cellsAt cl34)))) ?_)
     obtain ⟨x35, hx35, hF⟩ := obind hF
     refine kcX EE_fr w33 (.cons (.s (.z)) (.cons .z .nil)) rfl of (ops_t rfl (ops_t rfl (ops_t rfl os0))) hb_35 (s_law16_do n w33 y26_2.1 y26_2.2 x30.2 z26 ((f26_2.ext e30.kn).ext e33.kn) (f30_0.ext e33.kn) hx35) ?_
     rintro _ _ h35 e35 w35 ⟨z35_y0, z35_y1, rfl, rfl, f35_0, f35_1⟩
     simp only [ca_, na_]
     refine gA rfl rfl (go_nil (go_seq (go_region (gM rfl rfl (gM rfl rfl ?_)))))
     obtain ⟨q36, row36, i36, cl36, rc36, sp36⟩ := ix (ik := .i64) (cap := c0_0) (E := EE) (((((f0_0.ext e4.kn).ext e26.kn).ext e30.kn).ext e33.kn).ext e35.kn) ((getI_nat _ _).trans hx26) ut_68 sz_73 rfl
     obtain rfl := rc36
     refine gr rfl (r_ia (ot rfl) (ot rfl) i36) (gF (fs_73_0 sp36) rfl rfl (gr rfl (r_load (ot rfl) (v := .int .i64 z26.Kind) (lo_e (fun hf kn => ld_field (r := [.int .i64 z26.Kind, .int .i64 z26.T, .string z26.Key]) ag_3 (kn.cellsAt cl36) rfl))) (gr rfl (r_bin (ot rfl) (oc rfl) rfl) (gM rfl rfl ?_))))
     obtain ⟨s38, hF, hK38⟩ := obind hF
     refine go_joinr 7 (β := Unit) (fun s h' => True) (fun s => [(0, true, .slice a0_0 p0.length c0_0), (2, true, .bool false), (3, true, .bool true), (4, true, pt b4_w0), (5, true, pt b4_w1), (6, true, .int .i64 y26_0), (7, true, .int .i64 y26_1), (8, true, .int .i64 (i26 : Int)), (9, true, .bool x30.1), (10, true, .bool s33.2), (11, true, .int .i64 x35.1), (25, true, .int .i64 (i26 : Int)), (26, true, .slice a0_0 p0.length c0_0), (27, true, .int .i64 (p0.length : Int)), (28, true, .bool true), (31, true, pt b4_w1), (32, true, .slice a0_0 p0.length c0_0), (33, true, .int .i64 (i26 : Int)), (34, true, .pointer (some q29)), (35, true, .pointer (some ⟨q29.block, q29.off + 1, q29.spot⟩)), (36, true, .int .i64 z26.T), (37, true, .bool x30.1), (38, true, .slice a0_0 p0.length c0_0), (39, true, .int .i64 (i26 : Int)), (40, true, .pointer (some q31)), (41, true, .pointer (some ⟨q31.block, q31.off + 1, q31.spot⟩)), (42, true, .int .i64 z26.T), (43, true, .bool (decide (z26.T ≥ 0))), (44, true, .bool s33.1), (51, true, .bool s33.2), (52, true, pt b4_w0), (53, true, pt b4_w1), (54, true, .slice a0_0 p0.length c0_0), (55, true, .int .i64 (i26 : Int)), (56, true, .pointer (some q34)), (57, true, .agg #[.int .i64 z26.Kind, .int .i64 z26.T, .string z26.Key]), (58, true, .int .i64 x35.1), (59, true, .slice a0_0 p0.length c0_0), (60, true, .int .i64 (i26 : Int)), (61, true, .pointer (some q36)), (62, true, .pointer (some ⟨q36.block, q36.off + 0, q36.spot⟩)), (63, true, .int .i64 z26.Kind), (64, true, .bool (decide (z26.Kind ≥ 1))), (65, true, .bool s38.1), (72, true, .bool s38.2)]) (fun s => (List.flatten [z35_y0, z35_y1] : List Blk)) ?_ (fun J38 => ?_)
     ·
      rintro _ h38 e38 w38 _
      replace hF := hK38
      refine gA rfl rfl (go_nil (go_seq (go_seq (go_region (gM rfl rfl (gM rfl rfl (grt rfl rfl rfl rfl (r_move (ot rfl)) (grt rfl rfl rfl rfl (r_bin (og rfl id) (oc rfl) rfl) (grt rfl rfl rfl rfl (r_move (ot rfl)) (grt rfl rfl rfl rfl (r_move (og rfl id)) (grt' rfl rfl rfl rfl (r_move (ot rfl)) (grt rfl rfl rfl rfl (r_pickb (og rfl id) (og rfl id) (oc rfl)) (grt rfl rfl rfl rfl (r_bin (og rfl id) (og rfl id) bu_4) (gr rfl (r_pickb (ot rfl) (og rfl id) (oc rfl)) (gM rfl rfl (grf rfl rfl rfl rfl (r_move (ot rfl)) (grf rfl rfl rfl rfl (r_move (og rfl id)) (grt' rfl rfl rfl rfl (r_move (ot rfl)) (grt' rfl rfl rfl rfl (r_un (og rfl id) rfl) (grf rfl rfl rfl rfl (r_pickb (og rfl id) (og rfl id) (oc rfl)) (grf rfl rfl rfl rfl (r_move (og rfl id)) (grt' rfl rfl rfl rfl (r_move (ot rfl)) (grt' rfl rfl rfl rfl (r_bin (og rfl id) (oc rfl) rfl) ?_)))))))))))))))))))))))
      refine grf rfl rfl rfl rfl (r_pickb (og rfl id) (og rfl id) (oc rfl)) (gr rfl (r_pickb (ot rfl) (oc rfl) (og rfl id)) (gM rfl rfl (grf rfl rfl rfl rfl (r_move (ot rfl)) (grf rfl rfl rfl rfl (r_move (og rfl id)) (grt' rfl rfl rfl rfl (r_move (ot rfl)) (grf rfl rfl rfl rfl (r_pickb (og rfl id) (og rfl id) (oc rfl)) (grf rfl rfl rfl rfl (r_move (og rfl id)) (grt' rfl rfl rfl rfl (r_move (ot rfl)) (grt' rfl rfl rfl rfl (r_un (og rfl id) rfl) (grf rfl rfl rfl rfl (r_pickb (og rfl id) (og rfl id) (oc rfl)) (grf rfl rfl rfl rfl (r_move (og rfl id)) (grt' rfl rfl rfl rfl (r_move (ot rfl)) (grt' rfl rfl rfl rfl (r_bin (og rfl id) (oc rfl) rfl) (grf rfl rfl rfl rfl (r_pickb (og rfl id) (og rfl id) (oc rfl)) (gr rfl (r_pickb (ot rfl) (oc rfl) (og rfl id)) (go_nil ?_))))))))))))))))
      refine g_cond (b := (bif (bif (bif s38.2 then (!((x35.1 == 0) == (bif s33.2 then x30.1 else false))) else false) then true else (bif (bif s38.2 then (!s33.2) else false) then (x35.1 != 1) else false)) then true else (bif (bif (bif s38.2 then s33.2 else false) then (!x30.1) else false) then (x35.1 != 8) else false))) (ot rfl) (fun hc39 => ?_) (fun hc39 => ?_)
      ·
       replace hF := ifT hc39 hF
       refine go_seq (go_region (gAc rfl rfl (go_nil ?_)))
       obtain rfl := someI hF
       obtain rfl := someI hK5
       exact g_ret (rst rfl rs0) (fun h1 hf hs => ⟨(e4.trans (e26.trans (e30.trans (e33.trans (e35.trans (e38.trans hs.hext)))))), rfl⟩)
      ·
       replace hF := ifF hc39 hF
       refine go_skip (go_seq (go_seq (go_region (gM rfl rfl (gM rfl rfl (grt rfl rfl rfl rfl (r_move (ot rfl)) (grt rfl rfl rfl rfl (r_bin (og rfl id) (oc rfl) rfl) (gr rfl (r_pickb (ot rfl) (og rfl id) (oc rfl)) (go_nil ?_)))))))))
       obtain ⟨s41, hF, hK41⟩ := obind hF
       refine go_joinc (β := Unit) (fun s h' => True) (fun s => [(0, true, .slice a0_0 p0.length c0_0), (2, true, .bool false), (3, true, .bool true), (4, true, pt b4_w0), (5, true, pt b4_w1), (6, true, .int .i64 s41.1), (7, true, .int .i64 s41.2), (8, true, .int .i64 (i26 : Int)), (9, true, .bool x30.1), (10, true, .bool s33.2), (11, true, .int .i64 x35.1), (12, true, .bool s38.2), (25, true, .int .i64 (i26 : Int)), (26, true, .slice a0_0 p0.length c0_0), (27, true, .int .i64 (p0.length : Int)), (28, true, .bool true), (31, true, pt b4_w1), (32, true, .slice a0_0 p0.length c0_0), (33, true, .int .i64 (i26 : Int)), (34, true, .pointer (some q29)), (35, true, .pointer (some ⟨q29.block, q29.off + 1, q29.spot⟩)), (36, true, .int .i64 z26.T), (37, true, .bool x30.1), (38, true, .slice a0_0 p0.length c0_0), (39, true, .int .i64 (i26 : Int)), (40, true, .pointer (some q31)), (41, true, .pointer (some ⟨q31.block, q31.off + 1, q31.spot⟩)), (42, true, .int .i64 z26.T), (43, true, .bool (decide (z26.T ≥ 0))), (44, true, .bool s33.1), (51, true, .bool s33.2), (52, true, pt b4_w0), (53, true, pt b4_w1), (54, true, .slice a0_0 p0.length c0_0), (55, true, .int .i64 (i26 : Int)), (56, true, .pointer (some q34)), (57, true, .agg #[.int .i64 z26.Kind, .int .i64 z26.T, .string z26.Key]), (58, true, .int .i64 x35.1), (59, true, .slice a0_0 p0.length c0_0), (60, true, .int .i64 (i26 : Int)), (61, true, .pointer (some q36)), (62, true, .pointer (some ⟨q36.block, q36.off + 0, q36.spot⟩)), (63, true, .int .i64 z26.Kind), (64, true, .bool (decide (z26.Kind ≥ 1))), (65, true, .bool s38.1), (72, true, .bool s38.2), (73, true, .bool s38.2), (74, true, .bool s38.2), (82, true, .bool (bif s38.2 then (!((x35.1 == 0) == (bif s33.2 then x30.1 else false))) else false)), (83, true, .bool (bif s38.2 then (!((x35.1 == 0) == (bif s33.2 then x30.1 else false))) else false)), (93, true, .bool (bif (bif s38.2 then (!((x35.1 == 0) == (bif s33.2 then x30.1 else false))) else false) then true else (bif (bif s38.2 then (!s33.2) else false) then (x35.1 != 1) else false))), (94, true, .bool (bif (bif s38.2 then (!((x35.1 == 0) == (bif s33.2 then x30.1 else false))) else false) then true else (bif (bif s38.2 then (!s33.2) else false) then (x35.1 != 1) else false))), (107, true, .bool (bif (bif (bif s38.2 then (!((x35.1 == 0) == (bif s33.2 then x30.1 else false))) else false) then true else (bif (bif s38.2 then (!s33.2) else false) then (x35.1 != 1) else false)) then true else (bif (bif (bif s38.2 then s33.2 else false) then (!x30.1) else false) then (x35.1 != 8) else false))), (108, true, .bool s38.2), (109, true, .bool s38.2), (112, true, .bool (bif s38.2 then (x35.1 == 0) else false))]) (fun s => (List.flatten [z35_y0, z35_y1] : List Blk)) ?_ (fun J41 => ?_)
       ·
        rintro _ h41 e41 w41 _
        replace hF := hK41
        refine go_seq (go_seq (go_region (gM rfl rfl (gr rfl (r_un (ot rfl) rfl) (gM rfl rfl (grt rfl rfl rfl rfl (r_move (ot rfl)) (gr rfl (r_pickb (ot rfl) (og rfl id) (oc rfl)) (gM rfl rfl (grt rfl rfl rfl rfl (r_move (ot rfl)) (grt rfl rfl rfl rfl (r_un (og rfl id) rfl) (gr rfl (r_pickb (ot rfl) (og rfl id) (oc rfl)) (go_nil ?_))))))))))))
        obtain ⟨s43, hF, hK43⟩ := obind hF
        refine go_joinc (β := Unit) (fun s h' => True) (fun s => [(0, true, .slice a0_0 p0.length c0_0), (2, true, .bool false), (3, true, .bool true), (4, true, pt b4_w0), (5, true, pt b4_w1), (6, true, .int .i64 s43), (7, true, .int .i64 s41.2), (8, true, .int .i64 (i26 : Int)), (9, true, .bool x30.1), (10, true, .bool s33.2), (11, true, .int .i64 x35.1), (12, true, .bool s38.2), (25, true, .int .i64 (i26 : Int)), (26, true, .slice a0_0 p0.length c0_0), (27, true, .int .i64 (p0.length : Int)), (28, true, .bool true), (31, true, pt b4_w1), (32, true, .slice a0_0 p0.length c0_0), (33, true, .int .i64 (i26 : Int)), (34, true, .pointer (some q29)), (35, true, .pointer (some ⟨q29.block, q29.off + 1, q29.spot⟩)), (36, true, .int .i64 z26.T), (37, true, .bool x30.1), (38, true, .slice a0_0 p0.length c0_0), (39, true, .int .i64 (i26 : Int)), (40, true, .pointer (some q31)), (41, true, .pointer (some ⟨q31.block, q31.off + 1, q31.spot⟩)), (42, true, .int .i64 z26.T), (43, true, .bool (decide (z26.T ≥ 0))), (44, true, .bool s33.1), (51, true, .bool s33.2), (52, true, pt b4_w0), (53, true, pt b4_w1), (54, true, .slice a0_0 p0.length c0_0), (55, true, .int .i64 (i26 : Int)), (56, true, .pointer (some q34)), (57, true, .agg #[.int .i64 z26.Kind, .int .i64 z26.T, .string z26.Key]), (58, true, .int .i64 x35.1), (59, true, .slice a0_0 p0.length c0_0), (60, true, .int .i64 (i26 : Int)), (61, true, .pointer (some q36)), (62, true, .pointer (some ⟨q36.block, q36.off + 0, q36.spot⟩)), (63, true, .int .i64 z26.Kind), (64, true, .bool (decide (z26.Kind ≥ 1))), (65, true, .bool s38.1), (72, true, .bool s38.2), (73, true, .bool s38.2), (74, true, .bool s38.2), (82, true, .bool (bif s38.2 then (!((x35.1 == 0) == (bif s33.2 then x30.1 else false))) else false)), (83, true, .bool (bif s38.2 then (!((x35.1 == 0) == (bif s33.2 then x30.1 else false))) else false)), (93, true, .bool (bif (bif s38.2 then (!((x35.1 == 0) == (bif s33.2 then x30.1 else false))) else false) then true else (bif (bif s38.2 then (!s33.2) else false) then (x35.1 != 1) else false))), (94, true, .bool (bif (bif s38.2 then (!((x35.1 == 0) == (bif s33.2 then x30.1 else false))) else false) then true else (bif (bif s38.2 then (!s33.2) else false) then (x35.1 != 1) else false))), (107, true, .bool (bif (bif (bif s38.2 then (!((x35.1 == 0) == (bif s33.2 then x30.1 else false))) else false) then true else (bif (bif s38.2 then (!s33.2) else false) then (x35.1 != 1) else false)) then true else (bif (bif (bif s38.2 then s33.2 else false) then (!x30.1) else false) then (x35.1 != 8) else false))), (108, true, .bool s38.2), (109, true, .bool s38.2), (112, true, .bool (bif s38.2 then (x35.1 == 0) else false)), (117, true, .bool s38.2), (118, true, .bool (!s38.2)), (119, true, .bool (!s38.2)), (121, true, .bool (bif (!s38.2) then s33.2 else false)), (122, true, .bool (bif (!s38.2) then s33.2 else false)), (125, true, .bool (bif (bif (!s38.2) then s33.2 else false) then (!x30.1) else false))]) (fun s => (List.flatten [z35_y0, z35_y1] : List Blk)) ?_ (fun J43 => ?_)
        ·
         rintro _ h43 e43 w43 _
         replace hF := hK43
         refine go_seq (go_region (gM rfl rfl ?_))
         obtain ⟨x44, hx44, hF⟩ := obind hF
         refine kcX EE_fr w43 (.cons (.s (.z)) .nil) rfl of (ops_t rfl os0) hb_32 (s_crowd_Crowd_Clock (bWT := b4_w0) w43 x35.2.2.2 (((f35_1.ext e38.kn).ext e41.kn).ext e43.kn) hx44) ?_
         rintro _ _ h44 e44 w44 ⟨z44_y0, rfl, rfl, f44_0⟩
         simp only [ca_, na_]
         refine gM rfl rfl (gr rfl (r_bin (ot rfl) (ot rfl) rfl) (gM rfl rfl ?_))
         obtain ⟨s46, hF, hK46⟩ := obind hF
         refine go_joinr 6 (β := List Blk) (fun s h' => Zcrowd_Crowd h' b4_w0 b4_w1 s s46.2.2) (fun s => [(0, true, .slice a0_0 p0.length c0_0), (2, true, .bool false), (3, true, .bool true), (4, true, pt b4_w0), (5, true, pt b4_w1), (6, true, .int .i64 s43), (7, true, .int .i64 s41.2), (8, true, .int .i64 (i26 : Int)), (9, true, .bool x30.1), (10, true, .bool s33.2), (11, true, .int .i64 x35.1), (12, true, .bool s38.2), (25, true, .int .i64 (i26 : Int)), (26, true, .slice a0_0 p0.length c0_0), (27, true, .int .i64 (p0.length : Int)), (28, true, .bool true), (31, true, pt b4_w1), (32, true, .slice a0_0 p0.length c0_0), (33, true, .int .i64 (i26 : Int)), (34, true, .pointer (some q29)), (35, true, .pointer (some ⟨q29.block, q29.off + 1, q29.spot⟩)), (36, true, .int .i64 z26.T), (37, true, .bool x30.1), (38, true, .slice a0_0 p0.length c0_0), (39, true, .int .i64 (i26 : Int)), (40, true, .pointer (some q31)), (41, true, .pointer (some ⟨q31.block, q31.off + 1, q31.spot⟩)), (42, true, .int .i64 z26.T), (43, true, .bool (decide (z26.T ≥ 0))), (44, true, .bool s33.1), (51, true, .bool s33.2), (52, true, pt b4_w0), (53, true, pt b4_w1), (54, true, .slice a0_0 p0.length c0_0), (55, true, .int .i64 (i26 : Int)), (56, true, .pointer (some q34)), (57, true, .agg #[.int .i64 z26.Kind, .int .i64 z26.T, .string z26.Key]), (58, true, .int .i64 x35.1), (59, true, .slice a0_0 p0.length c0_0), (60, true, .int .i64 (i26 : Int)), (61, true, .pointer (some q36)), (62, true, .pointer (some ⟨q36.block, q36.off + 0, q36.spot⟩)), (63, true, .int .i64 z26.Kind), (64, true, .bool (decide (z26.Kind ≥ 1))), (65, true, .bool s38.1), (72, true, .bool s38.2), (73, true, .bool s38.2), (74, true, .bool s38.2), (82, true, .bool (bif s38.2 then (!((x35.1 == 0) == (bif s33.2 then x30.1 else false))) else false)), (83, true, .bool (bif s38.2 then (!((x35.1 == 0) == (bif s33.2 then x30.1 else false))) else false)), (93, true, .bool (bif (bif s38.2 then (!((x35.1 == 0) == (bif s33.2 then x30.1 else false))) else false) then true else (bif (bif s38.2 then (!s33.2) else false) then (x35.1 != 1) else false))), (94, true, .bool (bif (bif s38.2 then (!((x35.1 == 0) == (bif s33.2 then x30.1 else false))) else false) then true else (bif (bif s38.2 then (!s33.2) else false) then (x35.1 != 1) else false))), (107, true, .bool (bif (bif (bif s38.2 then (!((x35.1 == 0) == (bif s33.2 then x30.1 else false))) else false) then true else (bif (bif s38.2 then (!s33.2) else false) then (x35.1 != 1) else false)) then true else (bif (bif (bif s38.2 then s33.2 else false) then (!x30.1) else false) then (x35.1 != 8) else false))), (108, true, .bool s38.2), (109, true, .bool s38.2), (112, true, .bool (bif s38.2 then (x35.1 == 0) else false)), (117, true, .bool s38.2), (118, true, .bool (!s38.2)), (119, true, .bool (!s38.2)), (121, true, .bool (bif (!s38.2) then s33.2 else false)), (122, true, .bool (bif (!s38.2) then s33.2 else false)), (125, true, .bool (bif (bif (!s38.2) then s33.2 else false) then (!x30.1) else false)), (128, true, pt b4_w1), (129, true, .int .i64 x44.1), (130, true, .int .i64 s43), (131, true, .bool (x44.1 != s43)), (132, true, .bool s46.1), (138, true, .bool s46.2.1)]) (fun s => (List.flatten [s, z35_y0] : List Blk)) ?_ (fun J46 => ?_)
         ·
          rintro a46_0 h46 e46 w46 f46_2
          try dsimp only at f46_2
          replace hF := hK46
          refine go_nil ?_
          refine g_cond (b := s46.2.1) (ot rfl) (fun hc47 => ?_) (fun hc47 => ?_)
          ·
           replace hF := ifT hc47 hF
           refine go_seq (go_region (gAc rfl rfl (go_nil ?_)))
           obtain rfl := someI hF
           obtain rfl := someI hK5
           exact g_ret (rst rfl rs0) (fun h1 hf hs => ⟨(e4.trans (e26.trans (e30.trans (e33.trans (e35.trans (e38.trans (e41.trans (e43.trans (e44.trans (e46.trans hs.hext)))))))))), rfl⟩)
          ·
           replace hF := ifF hc47 hF
           refine go_skip (go_endb (go_region (gM rfl rfl (gr rfl (r_bin (ot rfl) (oc rfl) rfl) (gA rfl rfl (go_nil (gs_perm (perm_of (d := []) _ [1, 0] rfl) (go_re 8 (v2 := .int .i64 ((i26 + 1 : Nat) : Int)) rfl (wrap_succ hi26 hb26) ?_))))))))
           exact Goes.weak (ih26 (r26, i26 + 1, s43, s41.2, (x35.2.1, x35.2.2.1), s46.2.2, z35_y0, a46_0, h46) ⟨hr26, (e26.trans (e30.trans (e33.trans (e35.trans (e38.trans (e41.trans (e43.trans (e44.trans e46)))))))), w46, hF, (((((f35_0.ext e38.kn).ext e41.kn).ext e43.kn).ext e44.kn).ext e46.kn), f46_2⟩ (Nat.lt_succ_self _)) (Sub.cons (Sub.cons (Sub.cons (Sub.cons (Sub.cons (Sub.cons (Sub.cons (Sub.cons (Sub.nil _) rfl) rfl) rfl) rfl) rfl) rfl) rfl) rfl)
         ·
          rcases Bool.eq_false_or_eq_true (x44.1 != s43) with hb45 | hb45
          ·
           replace hF := ifT hb45 hF
           refine go_re 132 (v2 := .bool true) rfl (congrArg Value.bool hb45) (g_no rfl rfl rfl rfl rfl (g_no rfl rfl rfl rfl rfl (g_no rfl rfl rfl rfl rfl (g_no rfl rfl rfl rfl rfl (g_no rfl rfl rfl rfl rfl (gr rfl (r_pkT (ot rfl) (oc rfl)) ?_))))))
           obtain rfl := someI hF
           exact Goes.weak (J46 z44_y0 _ (HExt.refl _) w44 f44_0) (Sub.cons (Sub.cons (Sub.cons (Sub.cons (Sub.cons (Sub.cons (Sub.cons (Sub.cons (Sub.cons (Sub.cons (Sub.cons (Sub.cons (Sub.cons (Sub.cons (Sub.cons (Sub.cons (Sub.cons (Sub.cons (Sub.cons (Sub.cons (Sub.cons (Sub.cons (Sub.cons (Sub.cons (Sub.cons (Sub.cons (Sub.cons (Sub.cons (Sub.cons (Sub.cons (Sub.cons (Sub.cons (Sub.cons (Sub.cons (Sub.cons (Sub.cons (Sub.cons (Sub.cons (Sub.cons (Sub.cons (Sub.cons (Sub.cons (Sub.cons (Sub.cons (Sub.cons (Sub.cons (Sub.cons (Sub.cons (Sub.cons (Sub.cons (Sub.cons (Sub.cons (Sub.cons (Sub.cons (Sub.cons (Sub.cons (Sub.cons (Sub.cons (Sub.cons (Sub.cons (Sub.cons (Sub.cons (Sub.cons (Sub.cons (Sub.cons (Sub.cons (Sub.cons (Sub.cons (Sub.nil _) rfl) rfl) rfl) rfl) rfl) rfl) rfl) rfl) rfl) rfl) rfl) rfl) rfl) rfl) rfl) rfl) rfl) rfl) rfl) rfl) rfl) rfl) rfl) rfl) rfl) rfl) rfl) rfl) rfl) rfl) rfl) rfl) rfl) rfl) rfl) rfl) rfl) rfl) rfl) rfl) rfl) rfl) rfl) rfl) rfl) rfl) rfl) rfl) rfl) rfl) rfl) rfl) rfl) rfl) rfl) rfl) rfl) rfl) rfl) rfl) rfl) rfl) rfl) rfl) rfl) rfl) rfl) rfl)
          ·
           replace hF := ifF hb45 hF
           refine go_re 132 (v2 := .bool false) rfl (congrArg Value.bool hb45) (g_do rfl rfl rfl (gM rfl rfl (g_do rfl rfl rfl ?_)))
           obtain ⟨x48, hx48, hF⟩ := obind hF
           refine kcX EE_fr w44 (.cons .z .nil) rfl of (ops_t rfl os0) hb_31 (s_crowd_Crowd_Calls (bWT := b4_w0) w44 x44.2 f44_0 hx48) ?_
           rintro _ _ h48 e48 w48 ⟨z48_y0, a48_0, c48_0, rfl, rfl, f48_0, f48_1⟩
           simp only [ca_, na_]
           refine g_do rfl rfl rfl (gr rfl (r_len rfl (os1 (ot rfl) os0) (fun _ _ => ln_64)) (g_do rfl rfl rfl (gM rfl rfl (g_do rfl rfl rfl (gr rfl (r_bin (ot rfl) (ot rfl) rfl) (gr rfl (r_pkF (ot rfl) (ot rfl)) ?_))))))
           obtain rfl := someI hF
           exact Goes.weak (J46 z48_y0 _ e48 w48 f48_0) (Sub.cons (Sub.cons (Sub.cons (Sub.cons (Sub.cons (Sub.cons (Sub.cons (Sub.cons (Sub.cons (Sub.cons (Sub.cons (Sub.cons (Sub.cons (Sub.cons (Sub.cons (Sub.cons (Sub.cons (Sub.cons (Sub.cons (Sub.cons (Sub.cons (Sub.cons (Sub.cons (Sub.cons (Sub.cons (Sub.cons (Sub.cons (Sub.cons (Sub.cons (Sub.cons (Sub.cons (Sub.cons (Sub.cons (Sub.cons (Sub.cons (Sub.cons (Sub.cons (Sub.cons (Sub.cons (Sub.cons (Sub.cons (Sub.cons (Sub.cons (Sub.cons (Sub.cons (Sub.cons (Sub.cons (Sub.cons (Sub.cons (Sub.cons (Sub.cons (Sub.cons (Sub.cons (Sub.cons (Sub.cons (Sub.cons (Sub.cons (Sub.cons (Sub.cons (Sub.cons (Sub.cons (Sub.cons (Sub.cons (Sub.cons (Sub.cons (Sub.cons (Sub.cons (Sub.cons (Sub.nil _) rfl) rfl) rfl) rfl) rfl) rfl) rfl) rfl) rfl) rfl) rfl) rfl) rfl) rfl) rfl) rfl) rfl) rfl) rfl) rfl) rfl) rfl) rfl) rfl) rfl) rfl) rfl) rfl) rfl) rfl) rfl) rfl) rfl) rfl) rfl) rfl) rfl) rfl) rfl) rfl) rfl) rfl) rfl) rfl) rfl) rfl) rfl) rfl) rfl) rfl) rfl) rfl) rfl) rfl) rfl) rfl) rfl) rfl) rfl) rfl) rfl) rfl) rfl) rfl) rfl) rfl) rfl) rfl)
        ·
         refine g_cond (b := (bif (bif (!s38.2) then s33.2 else false) then (!x30.1) else false)) (ot rfl) (fun hc42 => ?_) (fun hc42 => ?_)
         ·
          replace hF := ifT hc42 hF
          refine go_region (gM rfl rfl (gr rfl (r_bin (ot rfl) (oc rfl) rfl) (gA rfl rfl (go_nil ?_))))
          obtain rfl := someI hF
          exact Goes.weak (J43 () _ (HExt.refl _) w41 trivial) (Sub.cons (Sub.cons (Sub.cons (Sub.cons (Sub.cons (Sub.cons (Sub.cons (Sub.cons (Sub.cons (Sub.cons (Sub.cons (Sub.cons (Sub.cons (Sub.cons (Sub.cons (Sub.cons (Sub.cons (Sub.cons (Sub.cons (Sub.cons (Sub.cons (Sub.cons (Sub.cons (Sub.cons (Sub.cons (Sub.cons (Sub.cons (Sub.cons (Sub.cons (Sub.cons (Sub.cons (Sub.cons (Sub.cons (Sub.cons (Sub.cons (Sub.cons (Sub.cons (Sub.cons (Sub.cons (Sub.cons (Sub.cons (Sub.cons (Sub.cons (Sub.cons (Sub.cons (Sub.cons (Sub.cons (Sub.cons (Sub.cons (Sub.cons (Sub.cons (Sub.cons (Sub.cons (Sub.cons (Sub.cons (Sub.cons (Sub.cons (Sub.cons (Sub.cons (Sub.cons (Sub.cons (Sub.cons (Sub.nil _) rfl) rfl) rfl) rfl) rfl) rfl) rfl) rfl) rfl) rfl) rfl) rfl) rfl) rfl) rfl) rfl) rfl) rfl) rfl) rfl) rfl) rfl) rfl) rfl) rfl) rfl) rfl) rfl) rfl) rfl) rfl) rfl) rfl) rfl) rfl) rfl) rfl) rfl) rfl) rfl) rfl) rfl) rfl) rfl) rfl) rfl) rfl) rfl) rfl) rfl) rfl) rfl) rfl) rfl) rfl) rfl) rfl) rfl) rfl) rfl) rfl) rfl)
         ·
          replace hF := ifF hc42 hF
          refine go_skip ?_
          obtain rfl := someI hF
          exact Goes.weak (J43 () _ (HExt.refl _) w41 trivial) (Sub.cons (Sub.cons (Sub.cons (Sub.cons (Sub.cons (Sub.cons (Sub.cons (Sub.cons (Sub.cons (Sub.cons (Sub.cons (Sub.cons (Sub.cons (Sub.cons (Sub.cons (Sub.cons (Sub.cons (Sub.cons (Sub.cons (Sub.cons (Sub.cons (Sub.cons (Sub.cons (Sub.cons (Sub.cons (Sub.cons (Sub.cons (Sub.cons (Sub.cons (Sub.cons (Sub.cons (Sub.cons (Sub.cons (Sub.cons (Sub.cons (Sub.cons (Sub.cons (Sub.cons (Sub.cons (Sub.cons (Sub.cons (Sub.cons (Sub.cons (Sub.cons (Sub.cons (Sub.cons (Sub.cons (Sub.cons (Sub.cons (Sub.cons (Sub.cons (Sub.cons (Sub.cons (Sub.cons (Sub.cons (Sub.cons (Sub.cons (Sub.cons (Sub.cons (Sub.cons (Sub.cons (Sub.cons (Sub.nil _) rfl) rfl) rfl) rfl) rfl) rfl) rfl) rfl) rfl) rfl) rfl) rfl) rfl) rfl) rfl) rfl) rfl) rfl) rfl) rfl) rfl) rfl) rfl) rfl) rfl) rfl) rfl) rfl) rfl) rfl) rfl) rfl) rfl) rfl) rfl) rfl) rfl) rfl) rfl) rfl) rfl) rfl) rfl) rfl) rfl) rfl) rfl) rfl) rfl) rfl) rfl) rfl) rfl) rfl) rfl) rfl) rfl) rfl) rfl) rfl) rfl) rfl)
       ·
        refine g_cond (b := (bif s38.2 then (x35.1 == 0) else false)) (ot rfl) (fun hc40 => ?_) (fun hc40 => ?_)
        ·
         replace hF := ifT hc40 hF
         refine go_seq (go_region (gM rfl rfl (gr rfl (r_bin (ot rfl) (oc rfl) rfl) (gA rfl rfl (go_nil (go_region (gM rfl rfl (gr rfl (r_bin (ot rfl) (oc rfl) rfl) (gA rfl rfl (go_nil ?_))))))))))
         obtain rfl := someI hF
         exact Goes.weak (J41 () _ (HExt.refl _) w38 trivial) (Sub.cons (Sub.cons (Sub.cons (Sub.cons (Sub.cons (Sub.cons (Sub.cons (Sub.cons (Sub.cons (Sub.cons (Sub.cons (Sub.cons (Sub.cons (Sub.cons (Sub.cons (Sub.cons (Sub.cons (Sub.cons (Sub.cons (Sub.cons (Sub.cons (Sub.cons (Sub.cons (Sub.cons (Sub.cons (Sub.cons (Sub.cons (Sub.cons (Sub.cons (Sub.cons (Sub.cons (Sub.cons (Sub.cons (Sub.cons (Sub.cons (Sub.cons (Sub.cons (Sub.cons (Sub.cons (Sub.cons (Sub.cons (Sub.cons (Sub.cons (Sub.cons (Sub.cons (Sub.cons (Sub.cons (Sub.cons (Sub.cons (Sub.cons (Sub.cons (Sub.cons (Sub.cons (Sub.cons (Sub.cons (Sub.cons (Sub.nil _) rfl) rfl) rfl) rfl) rfl) rfl) rfl) rfl) rfl) rfl) rfl) rfl) rfl) rfl) rfl) rfl) rfl) rfl) rfl) rfl) rfl) rfl) rfl) rfl) rfl) rfl) rfl) rfl) rfl) rfl) rfl) rfl) rfl) rfl) rfl) rfl) rfl) rfl) rfl) rfl) rfl) rfl) rfl) rfl) rfl) rfl) rfl) rfl) rfl) rfl) rfl) rfl) rfl) rfl) rfl) rfl)
        ·
         replace hF := ifF hc40 hF
         refine go_skip ?_
         obtain rfl := someI hF
         exact Goes.weak (J41 () _ (HExt.refl _) w38 trivial) (Sub.cons (Sub.cons (Sub.cons (Sub.cons (Sub.cons (Sub.cons (Sub.cons (Sub.cons (Sub.cons (Sub.cons (Sub.cons (Sub.cons (Sub.cons (Sub.cons (Sub.cons (Sub.cons (Sub.cons (Sub.cons (Sub.cons (Sub.cons (Sub.cons (Sub.cons (Sub.cons (Sub.cons (Sub.cons (Sub.cons (Sub.cons (Sub.cons (Sub.cons (Sub.cons (Sub.cons (Sub.cons (Sub.cons (Sub.cons (Sub.cons (Sub.cons (Sub.cons (Sub.cons (Sub.cons (Sub.cons (Sub.cons (Sub.cons (Sub.cons (Sub.cons (Sub.cons (Sub.cons (Sub.cons (Sub.cons (Sub.cons (Sub.cons (Sub.cons (Sub.cons (Sub.cons (Sub.cons (Sub.cons (Sub.cons (Sub.nil _) rfl) rfl) rfl) rfl) rfl) rfl) rfl) rfl) rfl) rfl) rfl) rfl) rfl) rfl) rfl) rfl) rfl) rfl) rfl) rfl) rfl) rfl) rfl) rfl) rfl) rfl) rfl) rfl) rfl) rfl) rfl) rfl) rfl) rfl) rfl) rfl) rfl) rfl) rfl) rfl) rfl) rfl) rfl) rfl) rfl) rfl) rfl) rfl) rfl) rfl) rfl) rfl) rfl) rfl) rfl) rfl)
     ·
      rcases Bool.eq_false_or_eq_true (decide (z26.Kind ≥ 1)) with hb37 | hb37
      ·
       replace hF := ifT hb37 hF
       refine go_re 65 (v2 := .bool true) rfl (congrArg Value.bool hb37) (g_do rfl rfl rfl (gM rfl rfl (g_do rfl rfl rfl (gM rfl rfl (g_do rfl rfl rfl ?_)))))
       obtain ⟨q49, row49, i49, cl49, rc49, sp49⟩ := ix (ik := .i64) (cap := c0_0) (E := EE) (((((f0_0.ext e4.kn).ext e26.kn).ext e30.kn).ext e33.kn).ext e35.kn) ((getI_nat _ _).trans hx26) ut_68 sz_73 rfl
       obtain rfl := rc49
       refine gr rfl (r_ia (ot rfl) (ot rfl) i49) (g_do rfl rfl rfl (gF (fs_73_0 sp49) rfl rfl (g_do rfl rfl rfl (gr rfl (r_load (ot rfl) (v := .int .i64 z26.Kind) (lo_e (fun hf kn => ld_field (r := [.int .i64 z26.Kind, .int .i64 z26.T, .string z26.Key]) ag_3 (kn.cellsAt cl49) rfl))) (g_do rfl rfl rfl (gr rfl (r_bin (ot rfl) (oc rfl) rfl) (gr rfl (r_pkT (ot rfl) (ot rfl)) ?_)))))))
       obtain rfl := someI hF
       exact Goes.weak (J38 () _ (HExt.refl _) w35 trivial) (Sub.cons (Sub.cons (Sub.cons (Sub.cons (Sub.cons (Sub.cons (Sub.cons (Sub.cons (Sub.cons (Sub.cons (Sub.cons (Sub.cons (Sub.cons (Sub.cons (Sub.cons (Sub.cons (Sub.cons (Sub.cons (Sub.cons (Sub.cons (Sub.cons (Sub.cons (Sub.cons (Sub.cons (Sub.cons (Sub.cons (Sub.cons (Sub.cons (Sub.cons (Sub.cons (Sub.cons (Sub.cons (Sub.cons (Sub.cons (Sub.cons (Sub.cons (Sub.cons (Sub.cons (Sub.cons (Sub.cons (Sub.cons (Sub.cons (Sub.cons (Sub.cons (Sub.cons (Sub.nil _) rfl) rfl) rfl) rfl) rfl) rfl) rfl) rfl) rfl) rfl) rfl) rfl) rfl) rfl) rfl) rfl) rfl) rfl) rfl) rfl) rfl) rfl) rfl) rfl) rfl) rfl) rfl) rfl) rfl) rfl) rfl) rfl) rfl) rfl) rfl) rfl) rfl) rfl) rfl) rfl) rfl) rfl) rfl) rfl) rfl)
      ·
       replace hF := ifF hb37 hF
       refine go_re 65 (v2 := .bool false) rfl (congrArg Value.bool hb37) (g_no rfl rfl rfl rfl rfl (g_no rfl rfl rfl rfl rfl (g_no rfl rfl rfl rfl rfl (g_no rfl rfl rfl rfl rfl (g_no rfl rfl rfl rfl rfl (g_no rfl rfl rfl rfl rfl (gr rfl (r_pkF (ot rfl) (oc rfl)) ?_)))))))
       obtain rfl := someI hF
       exact Goes.weak (J38 () _ (HExt.refl _) w35 trivial) (Sub.cons (Sub.cons (Sub.cons (Sub.cons (Sub.cons (Sub.cons (Sub.cons (Sub.cons (Sub.cons (Sub.cons (Sub.cons (Sub.cons (Sub.cons (Sub.cons (Sub.cons (Sub.cons (Sub.cons (Sub.cons (Sub.cons (Sub.cons (Sub.cons (Sub.cons (Sub.cons (Sub.cons (Sub.cons (Sub.cons (Sub.cons (Sub.cons (Sub.cons (Sub.cons (Sub.cons (Sub.cons (Sub.cons (Sub.cons (Sub.cons (Sub.cons (Sub.cons (Sub.cons (Sub.cons (Sub.cons (Sub.cons (Sub.cons (Sub.cons (Sub.cons (Sub.cons (Sub.nil _) rfl) rfl) rfl) rfl) rfl) rfl) rfl) rfl) rfl) rfl) rfl) rfl) rfl) rfl) rfl) rfl) rfl) rfl) rfl) rfl) rfl) rfl) rfl) rfl) rfl) rfl) rfl) rfl) rfl) rfl) rfl) rfl) rfl) rfl) rfl) rfl) rfl) rfl) rfl) rfl) rfl) rfl) rfl) rfl) rfl)
    ·
     rcases Bool.eq_false_or_eq_true (decide (z26.T ≥ 0)) with hb32 | hb32
     ·
      replace hF := ifT hb32 hF
      refine go_re 44 (v2 := .bool true) rfl (congrArg Value.bool hb32) (g_do rfl rfl rfl (gM rfl rfl (g_do rfl rfl rfl (gM rfl rfl (g_do rfl rfl rfl ?_)))))
      obtain ⟨q50, row50, i50, cl50, rc50, sp50⟩ := ix (ik := .i64) (cap := c0_0) (E := EE) (((f0_0.ext e4.kn).ext e26.kn).ext e30.kn) ((getI_nat _ _).trans hx26) ut_68 sz_73 rfl
      obtain rfl := rc50
      refine gr rfl (r_ia (ot rfl) (ot rfl) i50) (g_do rfl rfl rfl (gF (fs_73_1 sp50) rfl rfl (g_do rfl rfl rfl (gr rfl (r_load (ot rfl) (v := .int .i64 z26.T) (lo_e (fun hf kn => ld_field (r := [.int .i64 z26.Kind, .int .i64 z26.T, .string z26.Key]) ag_3 (kn.cellsAt cl50) rfl))) (g_do rfl rfl rfl (gr rfl (r_bin (ot rfl) (oc rfl) rfl) (gr rfl (r_pkT (ot rfl) (ot rfl)) ?_)))))))
      obtain rfl := someI hF
      exact Goes.weak (J33 () _ (HExt.refl _) w30 trivial) (Sub.cons (Sub.cons (Sub.cons (Sub.cons (Sub.cons (Sub.cons (Sub.cons (Sub.cons (Sub.cons (Sub.cons (Sub.cons (Sub.cons (Sub.cons (Sub.cons (Sub.cons (Sub.cons (Sub.cons (Sub.cons (Sub.cons (Sub.cons (Sub.cons (Sub.cons (Sub.cons (Sub.cons (Sub.cons (Sub.cons (Sub.cons (Sub.cons (Sub.nil _) rfl) rfl) rfl) rfl) rfl) rfl) rfl) rfl) rfl) rfl) rfl) rfl) rfl) rfl) rfl) rfl) rfl) rfl) rfl) rfl) rfl) rfl) rfl) rfl) rfl) rfl) rfl) rfl)
     ·
      replace hF := ifF hb32 hF
      refine go_re 44 (v2 := .bool false) rfl (congrArg Value.bool hb32) (g_no rfl rfl rfl rfl rfl (g_no rfl rfl rfl rfl rfl (g_no rfl rfl rfl rfl rfl (g_no rfl rfl rfl rfl rfl (g_no rfl rfl rfl rfl rfl (g_no rfl rfl rfl rfl rfl (gr rfl (r_pkF (ot rfl) (oc rfl)) ?_)))))))
      obtain rfl := someI hF
      exact Goes.weak (J33 () _ (HExt.refl _) w30 trivial) (Sub.cons (Sub.cons (Sub.cons (Sub.cons (Sub.cons (Sub.cons (Sub.cons (Sub.cons (Sub.cons (Sub.cons (Sub.cons (Sub.cons (Sub.cons (Sub.cons (Sub.cons (Sub.cons (Sub.cons (Sub.cons (Sub.cons (Sub.cons (Sub.cons (Sub.cons (Sub.cons (Sub.cons (Sub.cons (Sub.cons (Sub.cons (Sub.cons (Sub.nil _) rfl) rfl) rfl) rfl) rfl) rfl) rfl) rfl) rfl) rfl) rfl) rfl) rfl) rfl) rfl) rfl) rfl) rfl) rfl) rfl) rfl) rfl) rfl) rfl) rfl) rfl) rfl) rfl)
end Go.Proofs.Ytndhbaidibioeaa.V
