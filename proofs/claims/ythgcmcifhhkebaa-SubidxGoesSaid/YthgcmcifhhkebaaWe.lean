/- Walks.
   No condition: these are laws of the clean machine and of this program. -/
import Derived.Test.YthgcmcifhhkebaaWd
namespace Go.Proofs.Ythgcmcifhhkebaa.V
open Go
set_option linter.unusedVariables false
set_option linter.unusedSimpArgs false
set_option maxRecDepth 100000
theorem s_law11_SubidxGoes (n : Nat) {h : Heap} (hw : Wf h) (p0 : (List Timpostlaw11_Deed)) (p1 : Timpostref11_Sub) (p2 : ByteArray) {a0_0 : Option Addr} {c0_0 : Nat} (f0_0 : RL R_Timpostlaw11_Deed h a0_0 c0_0 p0) {r : Bool} (hF : F_law11_SubidxGoes n p0 p1 p2 = some r) :
    Ev EE 6 [.slice a0_0 p0.length c0_0, .agg #[.int .i64 p1.Id, .int .i64 p1.Rev, .string p1.R.From, .string p1.R.To], .string p2] h (fun v _ => v = .bool r) := by
  unfold F_law11_SubidxGoes at hF
  refine ev_of hw rfl at_6 rfl rfl (go_seg0 ?_)
  refine go_seq ?_
  refine go_region ?_
  refine gs_box rfl (ot rfl) rfl ?_; intro b4_1
  refine gAc rfl rfl ?_
  refine go_nil ?_
  refine go_seq ?_
  refine go_region ?_
  refine g_callp EE_fr rfl of os0 hb_9 (fun _ => rfl) (fun hf kn w => by exact known_evp rfl hf w) ?_
  refine gA rfl rfl ?_
  refine go_nil ?_
  refine go_seq ?_
  refine go_region ?_
  refine gM rfl rfl ?_
  replace hF := obind hF
  obtain ⟨x3, hx3, hF⟩ := hF
  refine gs_call EE_fr hw .nil (fun _ h => by cases h; rfl) of (os1 (ot rfl) os0) hb_19 (by exact s_law11_ran n hw p0 f0_0 hx3) ?_
  rintro v3 S3 h3 e3 w3 ⟨b3_w0, q3_w0_0, t3_w0_0, rfl, rfl, f3_0⟩
  simp only [List.cons_append, List.nil_append]
  refine gA rfl rfl ?_
  refine go_nil ?_
  refine go_seq ?_
  refine go_region ?_
  refine gM rfl rfl ?_
  refine gM rfl rfl ?_
  replace hF := obind hF
  obtain ⟨x4, hx4, hF⟩ := hF
  refine gs_call EE_fr w3 (.cons .z (.cons .z .nil)) (fun _ h => by cases h; rfl) of (os1 (ot rfl) (os1 (ot rfl) (os1 (oc rfl) os0))) hb_16 (by exact s_subidx_Index_Stab n w3 x3 p2 9 f3_0 hx4) ?_
  rintro v4 S4 h4 e4 w4 ⟨q4_y0_0, t4_y0_0, a4_0, c4_0, rfl, rfl, f4_0, f4_1⟩
  simp only [List.cons_append, List.nil_append]
  refine gA rfl rfl ?_
  refine go_nil ?_
  refine go_seq ?_
  refine go_region ?_
  refine gM rfl rfl ?_
  replace hF := obind hF
  obtain ⟨x5, hx5, hF⟩ := hF
  refine gs_call EE_fr w4 (.cons .z (.cons .z .nil)) (fun _ h => by cases h; rfl) of (os1 (ot rfl) os0) hb_14 (by exact s_subidx_Index_All w4 (⟨x4.2.l⟩ : Osubidx_Index) f4_0 hx5) ?_
  rintro v5 S5 h5 e5 w5 ⟨q5_y0_0, t5_y0_0, a5_0, c5_0, rfl, rfl, f5_0, f5_1⟩
  simp only [List.cons_append, List.nil_append]
  refine gr rfl (r_len rfl (os1 (ot rfl) os0) (fun _ _ => ln_35)) ?_
  refine gA rfl rfl ?_
  refine go_nil ?_
  refine go_seq ?_
  refine go_region ?_
  refine gM rfl rfl ?_
  refine gr rfl (r_load (ot rfl) (lm_w (mem_seg 2 rfl) ag_27 sz_27 rfl)) ?_
  replace hF := obind hF
  obtain ⟨x6, hx6, hF⟩ := hF
  refine g_callp (v := .agg #[.int .i64 x6.Id, .int .i64 x6.Rev, .string x6.R.From, .string x6.R.To]) EE_fr rfl of (os1 (ot rfl) os0) hb_12 (fun _ => rfl) (fun hf kn w => by exact s_law11_made w p1  hx6) ?_
  replace hF := obind hF
  obtain ⟨x7, hx7, hF⟩ := hF
  refine gs_call EE_fr w5 (.cons .z (.cons .z .nil)) (fun _ h => by cases h; rfl) of (os1 (ot rfl) (os1 (ot rfl) os0)) hb_11 (by exact s_subidx_Index_Add n w5 (⟨x5.2.l⟩ : Osubidx_Index) x6 f5_0 hx7) ?_
  rintro v7 S7 h7 e7 w7 ⟨q7_y0_0, t7_y0_0, rfl, rfl, f7_0⟩
  simp only [List.cons_append, List.nil_append]
  refine gA rfl rfl ?_
  refine go_nil ?_
  refine go_seq ?_
  refine go_seq ?_
  refine go_region ?_
  refine gM rfl rfl ?_
  refine gr rfl (r_bin (ot rfl) (oc rfl) rfl) ?_
  refine go_nil ?_
  refine g_cond (b := (x7.1 != 0)) (ot rfl) (fun hc8 => ?_) (fun hc8 => ?_)
  ·
    replace hF := ifT hc8 hF
    refine go_seq ?_
    refine go_region ?_
    refine gM rfl rfl ?_
    refine gM rfl rfl ?_
    refine g_do rfl rfl rfl ?_
    refine gM rfl rfl ?_
    refine g_do rfl rfl rfl ?_
    refine gr rfl (r_bin (ot rfl) (oc rfl) rfl) ?_
    refine g_do rfl rfl rfl ?_
    refine gr rfl (r_fa (ot rfl) (fa_27_2 _ _)) ?_
    refine g_do rfl rfl rfl ?_
    refine gr rfl (r_load (ot rfl) (lm_a (vs := [_, _]) (mem_seg 2 rfl) ag_25 sz_25 rfl rfl)) ?_
    refine g_do rfl rfl rfl ?_
    replace hF := obind hF
    obtain ⟨x9, hx9, hF⟩ := hF
    refine g_callp (v := .bool x9) EE_fr rfl of (os1 (ot rfl) os0) hb_13 (fun _ => rfl) (fun hf kn w => by exact s_ref04_Empty w p1.R  hx9) ?_
    refine g_do rfl rfl rfl ?_
    refine gr rfl (r_bin (ot rfl) (ot rfl) be_4) ?_
    refine gr rfl (r_pkT (ot rfl) (ot rfl)) ?_
    refine gM rfl rfl ?_
    replace hF := obind hF
    obtain ⟨s11, hF, hK11⟩ := hF
    refine go_joinr 6 (β := Option Addr × List Blk) (fun s h' => AccR R_Tsubidx_node 58 h' s.2 (.slice s.1 s11.2.length s11.2.length) s11.2) (fun s => [(2, true, .string p2), (4, true, .pointer (some ⟨b4_1, 0, none⟩)), (6, true, .bool false), (7, true, .bool true), (8, true, .pointer (some ⟨b3_w0, 0, none⟩)), (9, true, .slice a4_0 x4.1.length c4_0), (10, true, .int .i64 (x5.1.length : Int)), (45, true, .bool s11.1)]) (fun s => (List.flatten [[⟨b3_w0, .cells [.slice s.1 s11.2.length s11.2.length] 55⟩], s.2, [⟨b4_1, .cells [.int .i64 p1.Id, .int .i64 p1.Rev, .string p1.R.From, .string p1.R.To] 27⟩]] : List Blk)) ?_ (fun J11 => ?_)
    ·
      rintro ⟨a11_0, a11_1⟩ h11 e11 w11 f11_1
      replace hF := hK11
      refine gA rfl rfl ?_
      refine go_nil ?_
      obtain rfl := someI hF
      exact g_ret (rst rfl rs0) (fun h1 hf hs => ⟨(e3.trans (e4.trans (e5.trans (e7.trans (e11.trans hs.hext))))), rfl⟩)
    ·
      rcases Bool.eq_false_or_eq_true ((x7.1 == 1) == x9) with hb10 | hb10
      ·
        replace hF := ifT hb10 hF
        refine go_re 39 (v2 := .bool true) rfl (congrArg Value.bool hb10) ?_
        refine g_do rfl rfl rfl ?_
        refine gM rfl rfl ?_
        refine g_do rfl rfl rfl ?_
        replace hF := obind hF
        obtain ⟨x12, hx12, hF⟩ := hF
        refine gs_call EE_fr w7 (.cons .z (.cons .z .nil)) (fun _ h => by cases h; rfl) of (os1 (ot rfl) os0) hb_14 (by exact s_subidx_Index_All w7 (⟨x7.2.l⟩ : Osubidx_Index) f7_0 hx12) ?_
        rintro v12 S12 h12 e12 w12 ⟨q12_y0_0, t12_y0_0, a12_0, c12_0, rfl, rfl, f12_0, f12_1⟩
        simp only [List.cons_append, List.nil_append]
        refine g_do rfl rfl rfl ?_
        refine gr rfl (r_len rfl (os1 (ot rfl) os0) (fun _ _ => ln_35)) ?_
        refine g_do rfl rfl rfl ?_
        refine gM rfl rfl ?_
        refine g_do rfl rfl rfl ?_
        refine gr rfl (r_bin (ot rfl) (ot rfl) rfl) ?_
        refine gr rfl (r_pkT (ot rfl) (ot rfl)) ?_
        obtain rfl := someI hF
        exact Goes.weak (J11 (q12_y0_0, t12_y0_0) _ e12 w12 f12_0) (Sub.cons (Sub.cons (Sub.cons (Sub.cons (Sub.cons (Sub.cons (Sub.cons (Sub.cons (Sub.nil _) rfl) rfl) rfl) rfl) rfl) rfl) rfl) rfl)
      ·
        replace hF := ifF hb10 hF
        refine go_re 39 (v2 := .bool false) rfl (congrArg Value.bool hb10) ?_
        refine g_no rfl rfl rfl rfl rfl ?_
        refine g_no rfl rfl rfl rfl rfl ?_
        refine g_no rfl rfl rfl rfl rfl ?_
        refine g_no rfl rfl rfl rfl rfl ?_
        refine g_no rfl rfl rfl rfl rfl ?_
        refine gr rfl (r_pkF (ot rfl) (oc rfl)) ?_
        obtain rfl := someI hF
        exact Goes.weak (J11 (q7_y0_0, t7_y0_0) _ (HExt.refl _) w7 f7_0) (Sub.cons (Sub.cons (Sub.cons (Sub.cons (Sub.cons (Sub.cons (Sub.cons (Sub.cons (Sub.nil _) rfl) rfl) rfl) rfl) rfl) rfl) rfl) rfl)
  ·
    replace hF := ifF hc8 hF
    refine go_skip ?_
    refine go_seq ?_
    refine go_region ?_
    refine gM rfl rfl ?_
    refine gr rfl (r_load (ot rfl) (lm_w (mem_seg 2 rfl) ag_27 sz_27 rfl)) ?_
    replace hF := obind hF
    obtain ⟨x13, hx13, hF⟩ := hF
    refine g_callp (v := .agg #[.int .i64 x13.Id, .int .i64 x13.Rev, .string x13.R.From, .string x13.R.To]) EE_fr rfl of (os1 (ot rfl) os0) hb_12 (fun _ => rfl) (fun hf kn w => by exact s_law11_made w p1  hx13) ?_
    replace hF := obind hF
    obtain ⟨x14, hx14, hF⟩ := hF
    refine gs_call EE_fr w7 (.cons .z (.cons .z .nil)) (fun _ h => by cases h; rfl) of (os1 (ot rfl) (os1 (ot rfl) os0)) hb_11 (by exact s_subidx_Index_Add n w7 (⟨x7.2.l⟩ : Osubidx_Index) x13 f7_0 hx14) ?_
    rintro v14 S14 h14 e14 w14 ⟨q14_y0_0, t14_y0_0, rfl, rfl, f14_0⟩
    simp only [List.cons_append, List.nil_append]
    refine gA rfl rfl ?_
    refine go_nil ?_
    refine go_seq ?_
    refine go_region ?_
    refine gM rfl rfl ?_
    refine gr rfl (r_fa (ot rfl) (fa_27_0 _ _)) ?_
    refine gr rfl (r_load (ot rfl) (lm_s (mem_seg 2 rfl) ag_3 rfl)) ?_
    replace hF := obind hF
    obtain ⟨x15, hx15, hF⟩ := hF
    refine gs_call EE_fr w14 (.cons .z (.cons .z .nil)) (fun _ h => by cases h; rfl) of (os1 (ot rfl) (os1 (ot rfl) os0)) hb_21 (by exact s_subidx_Index_Del n w14 (⟨x14.2.l⟩ : Osubidx_Index) p1.Id f14_0 hx15) ?_
    rintro v15 S15 h15 e15 w15 ⟨q15_y0_0, t15_y0_0, rfl, rfl, f15_0⟩
    simp only [List.cons_append, List.nil_append]
    refine gA rfl rfl ?_
    refine go_nil ?_
    refine go_seq ?_
    refine go_region ?_
    refine gM rfl rfl ?_
    refine gr rfl (r_fa (ot rfl) (fa_27_0 _ _)) ?_
    refine gr rfl (r_load (ot rfl) (lm_s (mem_seg 2 rfl) ag_3 rfl)) ?_
    replace hF := obind hF
    obtain ⟨x16, hx16, hF⟩ := hF
    refine gs_call EE_fr w15 (.cons .z (.cons .z .nil)) (fun _ h => by cases h; rfl) of (os1 (ot rfl) (os1 (ot rfl) os0)) hb_21 (by exact s_subidx_Index_Del n w15 (⟨x15.2.l⟩ : Osubidx_Index) p1.Id f15_0 hx16) ?_
    rintro v16 S16 h16 e16 w16 ⟨q16_y0_0, t16_y0_0, rfl, rfl, f16_0⟩
    simp only [List.cons_append, List.nil_append]
    refine gA rfl rfl ?_
    refine go_nil ?_
    refine go_seq ?_
    refine go_region ?_
    refine gM rfl rfl ?_
    refine gM rfl rfl ?_
    refine g_do rfl rfl rfl ?_
    refine gM rfl rfl ?_
    refine g_do rfl rfl rfl ?_
    refine gr rfl (r_bin (ot rfl) (oc rfl) rfl) ?_
    refine gr rfl (r_pkT (ot rfl) (ot rfl)) ?_
    refine gM rfl rfl ?_
    refine grt rfl rfl rfl rfl (r_move (ot rfl)) ?_
    refine grt rfl rfl rfl rfl (r_bin (og rfl id) (oc rfl) rfl) ?_
    refine gr rfl (r_pickb (ot rfl) (og rfl id) (oc rfl)) ?_
    refine gM rfl rfl ?_
    refine grt rfl rfl rfl rfl (r_move (ot rfl)) ?_
    refine grt rfl rfl rfl rfl (r_bin (og rfl id) (oc rfl) rfl) ?_
    refine gr rfl (r_pickb (ot rfl) (og rfl id) (oc rfl)) ?_
    refine gM rfl rfl ?_
    replace hF := obind hF
    obtain ⟨s18, hF, hK18⟩ := hF
    refine go_joinr 6 (β := Option Addr × List Blk) (fun s h' => AccR R_Tsubidx_node 58 h' s.2 (.slice s.1 s18.2.length s18.2.length) s18.2) (fun s => [(6, true, .bool false), (8, true, .pointer (some ⟨b3_w0, 0, none⟩)), (10, true, .int .i64 (x5.1.length : Int)), (77, true, .bool s18.1)]) (fun s => (List.flatten [[⟨b3_w0, .cells [.slice s.1 s18.2.length s18.2.length] 55⟩], s.2, [⟨b4_1, .cells [.int .i64 p1.Id, .int .i64 p1.Rev, .string p1.R.From, .string p1.R.To] 27⟩]] : List Blk)) ?_ (fun J18 => ?_)
    ·
      rintro ⟨a18_0, a18_1⟩ h18 e18 w18 f18_1
      replace hF := hK18
      refine gM rfl rfl ?_
      replace hF := obind hF
      obtain ⟨s20, hF, hK20⟩ := hF
      refine go_joinr 6 (β := Option Addr × List Blk) (fun s h' => AccR R_Tsubidx_node 58 h' s.2 (.slice s.1 s20.2.length s20.2.length) s20.2) (fun s => [(6, true, .bool false), (84, true, .bool s20.1)]) (fun s => (List.flatten [[⟨b3_w0, .cells [.slice s.1 s20.2.length s20.2.length] 55⟩], s.2, [⟨b4_1, .cells [.int .i64 p1.Id, .int .i64 p1.Rev, .string p1.R.From, .string p1.R.To] 27⟩]] : List Blk)) ?_ (fun J20 => ?_)
      ·
        rintro ⟨a20_0, a20_1⟩ h20 e20 w20 f20_1
        replace hF := hK20
        refine gA rfl rfl ?_
        refine go_nil ?_
        obtain rfl := someI hF
        exact g_ret (rst rfl rs0) (fun h1 hf hs => ⟨(e3.trans (e4.trans (e5.trans (e7.trans (e14.trans (e15.trans (e16.trans (e18.trans (e20.trans hs.hext))))))))), rfl⟩)
      ·
        rcases Bool.eq_false_or_eq_true s18.1 with hb19 | hb19
        ·
          replace hF := ifT hb19 hF
          refine go_re 78 (v2 := .bool true) rfl (congrArg Value.bool hb19) ?_
          refine g_do rfl rfl rfl ?_
          refine gM rfl rfl ?_
          refine g_do rfl rfl rfl ?_
          replace hF := obind hF
          obtain ⟨x21, hx21, hF⟩ := hF
          refine gs_call EE_fr w18 (.cons .z (.cons .z .nil)) (fun _ h => by cases h; rfl) of (os1 (ot rfl) os0) hb_14 (by exact s_subidx_Index_All w18 (⟨s18.2⟩ : Osubidx_Index) f18_1 hx21) ?_
          rintro v21 S21 h21 e21 w21 ⟨q21_y0_0, t21_y0_0, a21_0, c21_0, rfl, rfl, f21_0, f21_1⟩
          simp only [List.cons_append, List.nil_append]
          refine g_do rfl rfl rfl ?_
          refine gr rfl (r_len rfl (os1 (ot rfl) os0) (fun _ _ => ln_35)) ?_
          refine g_do rfl rfl rfl ?_
          refine gM rfl rfl ?_
          refine g_do rfl rfl rfl ?_
          refine gr rfl (r_bin (ot rfl) (ot rfl) rfl) ?_
          refine gr rfl (r_pkT (ot rfl) (ot rfl)) ?_
          obtain rfl := someI hF
          exact Goes.weak (J20 (q21_y0_0, t21_y0_0) _ e21 w21 f21_0) (Sub.cons (Sub.cons (Sub.nil _) rfl) rfl)
        ·
          replace hF := ifF hb19 hF
          refine go_re 78 (v2 := .bool false) rfl (congrArg Value.bool hb19) ?_
          refine g_no rfl rfl rfl rfl rfl ?_
          refine g_no rfl rfl rfl rfl rfl ?_
          refine g_no rfl rfl rfl rfl rfl ?_
          refine g_no rfl rfl rfl rfl rfl ?_
          refine g_no rfl rfl rfl rfl rfl ?_
          refine gr rfl (r_pkF (ot rfl) (oc rfl)) ?_
          obtain rfl := someI hF
          exact Goes.weak (J20 (a18_0, a18_1) _ (HExt.refl _) w18 f18_1) (Sub.cons (Sub.cons (Sub.nil _) rfl) rfl)
    ·
      rcases Bool.eq_false_or_eq_true (bif (bif (x14.1 == 8) then (x15.1 == 0) else false) then (x16.1 == 4) else false) with hb17 | hb17
      ·
        replace hF := ifT hb17 hF
        refine go_re 71 (v2 := .bool true) rfl (congrArg Value.bool hb17) ?_
        refine g_do rfl rfl rfl ?_
        refine gM rfl rfl ?_
        refine g_do rfl rfl rfl ?_
        refine gM rfl rfl ?_
        refine g_do rfl rfl rfl ?_
        replace hF := obind hF
        obtain ⟨x22, hx22, hF⟩ := hF
        refine gs_call EE_fr w16 (.cons .z (.cons .z .nil)) (fun _ h => by cases h; rfl) of (os1 (ot rfl) (os1 (ot rfl) (os1 (oc rfl) os0))) hb_16 (by exact s_subidx_Index_Stab n w16 (⟨x16.2.l⟩ : Osubidx_Index) p2 9 f16_0 hx22) ?_
        rintro v22 S22 h22 e22 w22 ⟨q22_y0_0, t22_y0_0, a22_0, c22_0, rfl, rfl, f22_0, f22_1⟩
        simp only [List.cons_append, List.nil_append]
        refine g_do rfl rfl rfl ?_
        refine gM rfl rfl ?_
        refine g_do rfl rfl rfl ?_
        replace hF := obind hF
        obtain ⟨x23, hx23, hF⟩ := hF
        refine g_callp (v := .bool x23) EE_fr rfl of (os1 (ot rfl) (os1 (ot rfl) os0)) hb_15 (fun _ => rfl) (fun hf kn w => by exact s_ref11_Ints w x22.1 x4.1 (f22_1.ext kn) (((((((f4_1.ext e5.kn).ext e7.kn).ext e14.kn).ext e15.kn).ext e16.kn).ext e22.kn).ext kn) hx23) ?_
        refine gr rfl (r_pkT (ot rfl) (ot rfl)) ?_
        obtain rfl := someI hF
        exact Goes.weak (J18 (q22_y0_0, t22_y0_0) _ e22 w22 f22_0) (Sub.cons (Sub.cons (Sub.cons (Sub.cons (Sub.nil _) rfl) rfl) rfl) rfl)
      ·
        replace hF := ifF hb17 hF
        refine go_re 71 (v2 := .bool false) rfl (congrArg Value.bool hb17) ?_
        refine g_no rfl rfl rfl rfl rfl ?_
        refine g_no rfl rfl rfl rfl rfl ?_
        refine g_no rfl rfl rfl rfl rfl ?_
        refine g_no rfl rfl rfl rfl rfl ?_
        refine g_no rfl rfl rfl rfl rfl ?_
        refine gr rfl (r_pkF (ot rfl) (oc rfl)) ?_
        obtain rfl := someI hF
        exact Goes.weak (J18 (q16_y0_0, t16_y0_0) _ (HExt.refl _) w16 f16_0) (Sub.cons (Sub.cons (Sub.cons (Sub.cons (Sub.nil _) rfl) rfl) rfl) rfl)
end Go.Proofs.Ythgcmcifhhkebaa.V
