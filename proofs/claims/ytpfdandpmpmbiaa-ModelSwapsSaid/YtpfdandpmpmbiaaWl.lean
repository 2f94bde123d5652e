/- Walks.
   No condition: these are laws of the clean machine and of this program. -/
import Derived.Test.YtpfdandpmpmbiaaPT
import Derived.Test.YtpfdandpmpmbiaaFl
import Derived.Test.YtpfdandpmpmbiaaWt
import Derived.Test.YtpfdandpmpmbiaaWm
import Derived.Test.YtpfdandpmpmbiaaWy
namespace Go.Proofs.Ytpfdandpmpmbiaa.V
open Go
set_option linter.unusedVariables false
set_option linter.unusedSimpArgs false
set_option maxRecDepth 100000
set_option maxHeartbeats 4000000
theorem s_law08_ModelSwaps (n : Nat) {h : Heap} (hw : Wf h) (p0 : (List TReq)) (p1 : A3_Int) {a0_0 : Option Addr} {c0_0 : Nat} (f0_0 : RL R_TReq h a0_0 c0_0 p0) {r : Bool} (hF : F_law08_ModelSwaps n p0 p1 = some r) :
    Ev EE 12 [.slice a0_0 p0.length c0_0, .agg #[.int .u8 p1.x0, .int .u8 p1.x1, .int .u8 p1.x2]] h (fun v _ => v = .bool r) := by
  unfold F_law08_ModelSwaps at hF
  refine ev_of hw rfl at_12 rfl rfl (go_seg0 ?_)
  refine go_seq ?_
  refine go_region ?_
  refine gs_box rfl (ot rfl) rfl ?_; intro b3_1
  refine gAc rfl rfl ?_
  refine go_nil ?_
  refine go_seq ?_
  refine go_region ?_
  refine g_callp EE_fr rfl of os0 hb_31 (fun _ => rfl) (fun hf kn w => by exact known_evp rfl hf w) ?_
  refine gA rfl rfl ?_
  refine go_nil ?_
  refine go_seq ?_
  refine go_seq ?_
  refine go_region ?_
  refine gM rfl rfl ?_
  replace hF := obind hF
  obtain ⟨x3, hx3, hF⟩ := hF
  refine g_callp (v := .bool x3) EE_fr rfl of (os1 (ot rfl) os0) hb_33 (fun _ => rfl) (fun hf kn w => by exact s_law08_few w p0 (f0_0.ext kn) hx3) ?_
  refine gr rfl (r_un (ot rfl) rfl) ?_
  refine go_nil ?_
  refine g_cond (b := (!x3)) (ot rfl) (fun hc4 => ?_) (fun hc4 => ?_)
  ·
    replace hF := ifT hc4 hF
    refine go_seq ?_
    refine go_region ?_
    refine gM rfl rfl ?_
    refine gA rfl rfl ?_
    refine go_nil ?_
    obtain rfl := someI hF
    exact g_ret (rst rfl rs0) (fun h1 hf hs => ⟨hs.hext, rfl⟩)
  ·
    replace hF := ifF hc4 hF
    refine go_skip ?_
    refine go_seq ?_
    refine go_region ?_
    refine gM rfl rfl ?_
    replace hF := obind hF
    obtain ⟨x5, hx5, hF⟩ := hF
    refine gs_call EE_fr hw .nil (fun _ h => by cases h; rfl) of (os1 (ot rfl) os0) hb_36 (by exact s_law08_ran n hw p0 f0_0 hx5) ?_
    rintro v5 S5 h5 e5 w5 ⟨b5_w0, b5_w0o0, b5_w0o0m2, rw5_w0o0_2, q5_w0o0_3, t5_w0o0_3, rfl, rfl, f5_0, f5_1⟩
    simp only [List.cons_append, List.nil_append]
    refine gA rfl rfl ?_
    refine go_nil ?_
    refine go_seq ?_
    refine go_region ?_
    refine gM rfl rfl ?_
    refine gM rfl rfl ?_
    replace hF := obind hF
    obtain ⟨x6, hx6, hF⟩ := hF
    refine gs_call EE_fr w5 (.cons .z (.cons .z (.cons .z (.cons .z .nil)))) (fun _ h => by cases h; rfl) of (os1 (ot rfl) os0) hb_35 (by exact s_model_Model_Head w5 (⟨x5.1.seq⟩ : Omodel_Model) (⟨x5.2.bounds_rev, x5.2.bounds_hor, x5.2.keys, x5.2.rows⟩ : Ohist_Hist) f5_0 f5_1 hx6) ?_
    rintro v6 S6 h6 e6 w6 ⟨rw6_y0o0_2, q6_y0o0_3, t6_y0o0_3, rfl, rfl, f6_0, f6_1⟩
    simp only [List.cons_append, List.nil_append]
    refine gr rfl (r_field (v := .int .i64 x6.1.Rev) (ot rfl) (by first | rfl | kernel_rfl)) ?_
    refine gr rfl (r_build (op1 (oc rfl) (op1 (ot rfl) op0)) rfl) ?_
    replace hF := obind hF
    obtain ⟨x7, hx7, hF⟩ := hF
    refine gs_call EE_fr w6 (.cons .z (.cons .z (.cons .z (.cons .z .nil)))) (fun _ h => by cases h; rfl) of (os1 (ot rfl) (os1 (ot rfl) os0)) hb_34 (by exact s_model_Model_Serve n w6 (⟨x6.2.1.seq⟩ : Omodel_Model) (⟨x6.2.2.bounds_rev, x6.2.2.bounds_hor, x6.2.2.keys, x6.2.2.rows⟩ : Ohist_Hist) (⟨3, (⟨ByteArray.empty, ByteArray.empty⟩ : TRange), x6.1.Rev, ([] : List TCmp), ([] : List TOp), ([] : List TOp)⟩ : TReq) f6_0 f6_1 (RL.nil _ _ _) (RL.nil _ _ _) (RL.nil _ _ _) hx7) ?_
    rintro v7 S7 h7 e7 w7 ⟨rw7_y0o0_2, q7_y0o0_3, t7_y0o0_3, a7_0, c7_0, rfl, rfl, f7_0, f7_1, f7_2⟩
    simp only [List.cons_append, List.nil_append]
    refine go_nil ?_
    refine go_seq ?_
    refine go_region ?_
    refine gr rfl (r_ia (ot rfl) (oc rfl) (ja_79_0 _ _)) ?_
    refine gr rfl (r_load (ot rfl) (lm_s (mem_seg 4 rfl) ag_5 rfl)) ?_
    refine gr rfl (r_bin (ot rfl) (oc rfl) rfl) ?_
    refine gr rfl (r_bin (ot rfl) (oc rfl) rfl) ?_
    refine gs_bslice (cs := [.int .u8 (IntKind.u8.wrap ((Int.tmod p1.x0 26) + 97))]) rfl (op1 (ot rfl) op0) ut_80 sz_5 zo_5 rfl rfl ?_; intro b32_8
    refine gr rfl (r_convH (ot rfl) convV_sl (cv_s (e := 5) (mem_seg 0 rfl) (by kernel_rfl) (by kernel_rfl) (by kernel_rfl) rfl rfl)) ?_
    replace hF := obind hF
    obtain ⟨x9, hx9, hF⟩ := hF
    obtain ⟨hz9, rfl⟩ := addS_some hx9
    refine gr rfl (r_bin (oc rfl) (ot rfl) (addS_bin hz9)) ?_
    refine gA rfl rfl ?_
    refine go_nil ?_
    refine go_seq ?_
    refine go_region ?_
    refine gr rfl (r_ia (ot rfl) (oc rfl) (ja_79_1 _ _)) ?_
    refine gr rfl (r_load (ot rfl) (lm_s (mem_seg 5 rfl) ag_5 rfl)) ?_
    refine gr rfl (r_bin (ot rfl) (oc rfl) rfl) ?_
    refine gr rfl (r_bin (ot rfl) (oc rfl) rfl) ?_
    refine gs_bslice (cs := [.int .u8 (IntKind.u8.wrap ((Int.tmod p1.x1 26) + 97))]) rfl (op1 (ot rfl) op0) ut_80 sz_5 zo_5 rfl rfl ?_; intro b39_10
    refine gr rfl (r_convH (ot rfl) convV_sl (cv_s (e := 5) (mem_seg 0 rfl) (by kernel_rfl) (by kernel_rfl) (by kernel_rfl) rfl rfl)) ?_
    replace hF := obind hF
    obtain ⟨x11, hx11, hF⟩ := hF
    obtain ⟨hz11, rfl⟩ := addS_some hx11
    refine gr rfl (r_bin (oc rfl) (ot rfl) (addS_bin hz11)) ?_
    refine gA rfl rfl ?_
    refine go_nil ?_
    refine go_seq ?_
    refine go_region ?_
    refine gr rfl (r_ia (ot rfl) (oc rfl) (ja_79_2 _ _)) ?_
    refine gr rfl (r_load (ot rfl) (lm_s (mem_seg 6 rfl) ag_5 rfl)) ?_
    refine gr rfl (r_bin (ot rfl) (oc rfl) rfl) ?_
    refine gr rfl (r_bin (ot rfl) (oc rfl) rfl) ?_
    refine gs_bslice (cs := [.int .u8 (IntKind.u8.wrap ((Int.tmod p1.x2 26) + 97))]) rfl (op1 (ot rfl) op0) ut_80 sz_5 zo_5 rfl rfl ?_; intro b46_12
    refine gr rfl (r_convH (ot rfl) convV_sl (cv_s (e := 5) (mem_seg 0 rfl) (by kernel_rfl) (by kernel_rfl) (by kernel_rfl) rfl rfl)) ?_
    replace hF := obind hF
    obtain ⟨x13, hx13, hF⟩ := hF
    obtain ⟨hz13, rfl⟩ := addS_some hx13
    refine gr rfl (r_bin (oc rfl) (ot rfl) (addS_bin hz13)) ?_
    refine gA rfl rfl ?_
    refine go_nil ?_
    refine go_seq ?_
    refine go_region ?_
    refine gM rfl rfl ?_
    refine gM rfl rfl ?_
    replace hF := obind hF
    obtain ⟨x14, hx14, hF⟩ := hF
    refine g_call EE_fr (fun _ h => by cases h; rfl) of (os1 (oc rfl) (os1 (ot rfl) os0)) hb_38 (fun hf kn w => by exact s_txn_Put w (⟨#[107]⟩ : ByteArray) ((⟨#[118]⟩ : ByteArray) ++ (txtU [(IntKind.u8.wrap ((Int.tmod p1.x0 26) + 97))]))  hx14) ?_
    rintro v14 h14 e14 w14 ⟨a14_0, c14_0, a14_1, c14_1, a14_2, c14_2, rfl, f14_0, f14_1, f14_2⟩
    replace hF := obind hF
    obtain ⟨x15, hx15, hF⟩ := hF
    refine gs_call EE_fr w14 (.cons (.s (.s (.s (.z)))) (.cons (.s (.s (.s (.z)))) (.cons (.s (.s (.s (.z)))) (.cons (.s (.s (.s (.z)))) .nil)))) (fun _ h => by cases h; rfl) of (os1 (ot rfl) (os1 (ot rfl) os0)) hb_34 (by exact s_model_Model_Serve n w14 (⟨x7.2.1.seq⟩ : Omodel_Model) (⟨x7.2.2.bounds_rev, x7.2.2.bounds_hor, x7.2.2.keys, x7.2.2.rows⟩ : Ohist_Hist) x14 (f7_0.ext e14.kn) (f7_1.ext e14.kn) f14_0 f14_1 f14_2 hx15) ?_
    rintro v15 S15 h15 e15 w15 ⟨rw15_y0o0_2, q15_y0o0_3, t15_y0o0_3, a15_0, c15_0, rfl, rfl, f15_0, f15_1, f15_2⟩
    simp only [List.cons_append, List.nil_append]
    refine gs_alloc rfl zo_73 rfl ?_; intro b10_16
    refine gs_store (ot rfl) (ot rfl) sz_73 rfl rfl rfl rfl rfl .z ?_
    refine go_nil ?_
    refine go_seq ?_
    refine go_region ?_
    refine gM rfl rfl ?_
    refine gM rfl rfl ?_
    refine gM rfl rfl ?_
    replace hF := obind hF
    obtain ⟨x17, hx17, hF⟩ := hF
    refine g_call EE_fr (fun _ h => by cases h; rfl) of (os1 (oc rfl) (os1 (ot rfl) (os1 (ot rfl) os0))) hb_39 (fun hf kn w => by exact s_txn_Swap w (⟨#[107]⟩ : ByteArray) ((⟨#[118]⟩ : ByteArray) ++ (txtU [(IntKind.u8.wrap ((Int.tmod p1.x0 26) + 97))])) ((⟨#[119]⟩ : ByteArray) ++ (txtU [(IntKind.u8.wrap ((Int.tmod p1.x1 26) + 97))]))  hx17) ?_
    rintro v17 h17 e17 w17 ⟨a17_0, c17_0, a17_1, c17_1, a17_2, c17_2, rfl, f17_0, f17_1, f17_2⟩
    replace hF := obind hF
    obtain ⟨x18, hx18, hF⟩ := hF
    refine gs_call EE_fr w17 (.cons (.s (.z)) (.cons (.s (.z)) (.cons (.s (.z)) (.cons (.s (.z)) .nil)))) (fun _ h => by cases h; rfl) of (os1 (ot rfl) (os1 (ot rfl) os0)) hb_34 (by exact s_model_Model_Serve n w17 (⟨x15.2.1.seq⟩ : Omodel_Model) (⟨x15.2.2.bounds_rev, x15.2.2.bounds_hor, x15.2.2.keys, x15.2.2.rows⟩ : Ohist_Hist) x17 (f15_0.ext e17.kn) (f15_1.ext e17.kn) f17_0 f17_1 f17_2 hx18) ?_
    rintro v18 S18 h18 e18 w18 ⟨rw18_y0o0_2, q18_y0o0_3, t18_y0o0_3, a18_0, c18_0, rfl, rfl, f18_0, f18_1, f18_2⟩
    simp only [List.cons_append, List.nil_append]
    refine gs_alloc rfl zo_73 rfl ?_; intro b11_19
    refine gs_store (ot rfl) (ot rfl) sz_73 rfl rfl rfl rfl rfl .z ?_
    refine go_nil ?_
    refine go_seq ?_
    refine go_region ?_
    refine gM rfl rfl ?_
    refine gM rfl rfl ?_
    refine gM rfl rfl ?_
    replace hF := obind hF
    obtain ⟨x20, hx20, hF⟩ := hF
    refine g_call EE_fr (fun _ h => by cases h; rfl) of (os1 (oc rfl) (os1 (ot rfl) (os1 (ot rfl) os0))) hb_39 (fun hf kn w => by exact s_txn_Swap w (⟨#[107]⟩ : ByteArray) ((⟨#[118]⟩ : ByteArray) ++ (txtU [(IntKind.u8.wrap ((Int.tmod p1.x0 26) + 97))])) ((⟨#[119]⟩ : ByteArray) ++ (txtU [(IntKind.u8.wrap ((Int.tmod p1.x2 26) + 97))]))  hx20) ?_
    rintro v20 h20 e20 w20 ⟨a20_0, c20_0, a20_1, c20_1, a20_2, c20_2, rfl, f20_0, f20_1, f20_2⟩
    replace hF := obind hF
    obtain ⟨x21, hx21, hF⟩ := hF
    refine gs_call EE_fr w20 (.cons (.s (.z)) (.cons (.s (.z)) (.cons (.s (.z)) (.cons (.s (.z)) .nil)))) (fun _ h => by cases h; rfl) of (os1 (ot rfl) (os1 (ot rfl) os0)) hb_34 (by exact s_model_Model_Serve n w20 (⟨x18.2.1.seq⟩ : Omodel_Model) (⟨x18.2.2.bounds_rev, x18.2.2.bounds_hor, x18.2.2.keys, x18.2.2.rows⟩ : Ohist_Hist) x20 (f18_0.ext e20.kn) (f18_1.ext e20.kn) f20_0 f20_1 f20_2 hx21) ?_
    rintro v21 S21 h21 e21 w21 ⟨rw21_y0o0_2, q21_y0o0_3, t21_y0o0_3, a21_0, c21_0, rfl, rfl, f21_0, f21_1, f21_2⟩
    simp only [List.cons_append, List.nil_append]
    refine gs_alloc rfl zo_73 rfl ?_; intro b12_22
    refine gs_store (ot rfl) (ot rfl) sz_73 rfl rfl rfl rfl rfl .z ?_
    refine go_nil ?_
    refine go_seq ?_
    refine go_region ?_
    refine gM rfl rfl ?_
    refine gr rfl (r_build (op1 (oc rfl) (op1 (oc rfl) op0)) rfl) ?_
    refine gr rfl (r_build (op1 (oc rfl) (op1 (ot rfl) op0)) rfl) ?_
    replace hF := obind hF
    obtain ⟨x23, hx23, hF⟩ := hF
    refine gs_call EE_fr w21 (.cons (.s (.z)) (.cons (.s (.z)) (.cons (.s (.z)) (.cons (.s (.z)) .nil)))) (fun _ h => by cases h; rfl) of (os1 (ot rfl) (os1 (ot rfl) os0)) hb_34 (by exact s_model_Model_Serve n w21 (⟨x21.2.1.seq⟩ : Omodel_Model) (⟨x21.2.2.bounds_rev, x21.2.2.bounds_hor, x21.2.2.keys, x21.2.2.rows⟩ : Ohist_Hist) (⟨2, (⟨(⟨#[107]⟩ : ByteArray), (⟨#[107, 0]⟩ : ByteArray)⟩ : TRange), 0, ([] : List TCmp), ([] : List TOp), ([] : List TOp)⟩ : TReq) f21_0 f21_1 (RL.nil _ _ _) (RL.nil _ _ _) (RL.nil _ _ _) hx23) ?_
    rintro v23 S23 h23 e23 w23 ⟨rw23_y0o0_2, q23_y0o0_3, t23_y0o0_3, a23_0, c23_0, rfl, rfl, f23_0, f23_1, f23_2⟩
    simp only [List.cons_append, List.nil_append]
    refine gs_alloc rfl zo_73 rfl ?_; intro b13_24
    refine gs_store (ot rfl) (ot rfl) sz_73 rfl rfl rfl rfl rfl .z ?_
    refine go_nil ?_
    refine go_seq ?_
    refine go_region ?_
    refine gr rfl (r_fa (ot rfl) (fa_73_1 _ _)) ?_
    refine gr rfl (r_load (ot rfl) (lm_s (mem_seg 7 rfl) ag_29 rfl)) ?_
    refine gr rfl (r_bin (ot rfl) (oc rfl) rfl) ?_
    refine gA rfl rfl ?_
    refine go_nil ?_
    refine go_seq ?_
    refine go_regionq (by kernel_rfl) ?_
    refine gM rfl rfl ?_
    refine gM rfl rfl ?_
    refine g_do rfl rfl rfl ?_
    refine gM rfl rfl ?_
    refine g_do rfl rfl rfl ?_
    refine gM rfl rfl ?_
    replace hF := obind hF
    obtain ⟨s26, hF, hK26⟩ := hF
    refine go_joinr 47 (β := Unit) (fun s h' => True) (fun s => [(4, true, .bool false), (71, true, .bool true), (120, true, .bool s26)]) (fun s => (List.flatten [[⟨b13_24, .cells [.int .i64 x23.1.H.Seq, .int .i64 x23.1.H.Rev, .int .i64 x23.1.H.Hor, .int .i64 x23.1.Err, .bool x23.1.Ok, .slice a23_0 x23.1.L.length c23_0] 73⟩], [⟨b5_w0, .cells [.pointer (some ⟨b5_w0o0, 0, none⟩), .int .i64 x23.2.1.seq] 130⟩], [⟨b5_w0o0, .cells [.int .i64 x23.2.2.bounds_rev, .int .i64 x23.2.2.bounds_hor, .map (some b5_w0o0m2), .slice q23_y0o0_3 x23.2.2.rows.length x23.2.2.rows.length] 100⟩], [⟨b5_w0o0m2, .map (encM kS id rw23_y0o0_2)⟩], t23_y0o0_3, [⟨b12_22, .cells [.int .i64 x21.1.H.Seq, .int .i64 x21.1.H.Rev, .int .i64 x21.1.H.Hor, .int .i64 x21.1.Err, .bool x21.1.Ok, .slice a21_0 x21.1.L.length c21_0] 73⟩], [⟨b11_19, .cells [.int .i64 x18.1.H.Seq, .int .i64 x18.1.H.Rev, .int .i64 x18.1.H.Hor, .int .i64 x18.1.Err, .bool x18.1.Ok, .slice a18_0 x18.1.L.length c18_0] 73⟩], [⟨b10_16, .cells [.int .i64 x15.1.H.Seq, .int .i64 x15.1.H.Rev, .int .i64 x15.1.H.Hor, .int .i64 x15.1.Err, .bool x15.1.Ok, .slice a15_0 x15.1.L.length c15_0] 73⟩], [⟨b46_12, .cells [.int .u8 (IntKind.u8.wrap ((Int.tmod p1.x2 26) + 97))] 5⟩], [⟨b39_10, .cells [.int .u8 (IntKind.u8.wrap ((Int.tmod p1.x1 26) + 97))] 5⟩], [⟨b32_8, .cells [.int .u8 (IntKind.u8.wrap ((Int.tmod p1.x0 26) + 97))] 5⟩], [⟨b3_1, .cells [.int .u8 p1.x0, .int .u8 p1.x1, .int .u8 p1.x2] 79⟩]] : List Blk)) ?_ (fun J26 => ?_)
    ·
      rintro _ h26 e26 w26 _
      replace hF := hK26
      refine gr rfl (r_pkT (ot rfl) (ot rfl)) ?_
      refine gA rfl rfl ?_
      refine go_nil ?_
      obtain rfl := someI hF
      exact g_ret (rst rfl rs0) (fun h1 hf hs => ⟨(e5.trans (e6.trans (e7.trans (e14.trans (e15.trans (e17.trans (e18.trans (e20.trans (e21.trans (e23.trans (e26.trans hs.hext))))))))))), rfl⟩)
    ·
      rcases Bool.eq_false_or_eq_true (x15.1.Err == 9) with hb25 | hb25
      ·
        replace hF := ifT hb25 hF
        refine go_re 73 (v2 := .bool true) rfl (congrArg Value.bool hb25) ?_
        refine g_no rfl rfl rfl rfl rfl ?_
        refine g_no rfl rfl rfl rfl rfl ?_
        refine g_no rfl rfl rfl rfl rfl ?_
        refine g_nu rfl rfl rfl rfl ?_
        refine g_nu rfl rfl rfl rfl ?_
        refine g_no rfl rfl rfl rfl rfl ?_
        refine g_no rfl rfl rfl rfl rfl ?_
        refine g_nu rfl rfl rfl rfl ?_
        refine g_nu rfl rfl rfl rfl ?_
        refine g_nu rfl rfl rfl rfl ?_
        refine g_no rfl rfl rfl rfl rfl ?_
        refine g_no rfl rfl rfl rfl rfl ?_
        refine g_nu rfl rfl rfl rfl ?_
        refine g_nu rfl rfl rfl rfl ?_
        refine g_nu rfl rfl rfl rfl ?_
        refine g_nu rfl rfl rfl rfl ?_
        refine g_no rfl rfl rfl rfl rfl ?_
        refine g_no rfl rfl rfl rfl rfl ?_
        refine g_nu rfl rfl rfl rfl ?_
        refine g_nu rfl rfl rfl rfl ?_
        refine g_nu rfl rfl rfl rfl ?_
        refine g_nu rfl rfl rfl rfl ?_
        refine g_nu rfl rfl rfl rfl ?_
        refine g_nu rfl rfl rfl rfl ?_
        refine g_nu rfl rfl rfl rfl ?_
        refine g_no rfl rfl rfl rfl rfl ?_
        refine g_no rfl rfl rfl rfl rfl ?_
        refine g_nu rfl rfl rfl rfl ?_
        refine g_nu rfl rfl rfl rfl ?_
        refine g_nu rfl rfl rfl rfl ?_
        refine g_nu rfl rfl rfl rfl ?_
        refine g_nu rfl rfl rfl rfl ?_
        refine g_nu rfl rfl rfl rfl ?_
        refine g_nu rfl rfl rfl rfl ?_
        refine g_nu rfl rfl rfl rfl ?_
        refine g_nu rfl rfl rfl rfl ?_
        refine g_no rfl rfl rfl rfl rfl ?_
        refine g_no rfl rfl rfl rfl rfl ?_
        refine g_nu rfl rfl rfl rfl ?_
        refine g_nu rfl rfl rfl rfl ?_
        refine g_nu rfl rfl rfl rfl ?_
        refine g_nu rfl rfl rfl rfl ?_
        refine g_nu rfl rfl rfl rfl ?_
        refine g_nu rfl rfl rfl rfl ?_
        refine g_nu rfl rfl rfl rfl ?_
        refine g_no rfl rfl rfl rfl rfl ?_
        refine g_do rfl rfl rfl ?_
        refine gr rfl (r_pkT (ot rfl) (oc rfl)) ?_
        obtain rfl := someI hF
        exact Goes.weak (J26 () _ (HExt.refl _) w23 trivial) (Sub.cons (Sub.cons (Sub.cons (Sub.nil _) rfl) rfl) rfl)
      ·
        replace hF := ifF hb25 hF
        refine go_re 73 (v2 := .bool false) rfl (congrArg Value.bool hb25) ?_
        refine g_do rfl rfl rfl ?_
        refine gr rfl (r_fa (ot rfl) (fa_73_2 _ _)) ?_
        refine g_do rfl rfl rfl ?_
        refine gr rfl (r_load (ot rfl) (lm_s (mem_seg 7 rfl) ag_4 rfl)) ?_
        refine g_do rfl rfl rfl ?_
        refine gM rfl rfl ?_
        refine grt rfl rfl rfl rfl (r_fa (ot rfl) (fa_73_2 _ _)) ?_
        refine grt rfl rfl rfl rfl (r_load (og rfl id) (lm_s (mem_seg 6 rfl) ag_4 rfl)) ?_
        refine g_do rfl rfl rfl ?_
        refine gr rfl (r_pickb (ot rfl) (og rfl id) (oc rfl)) ?_
        refine g_do rfl rfl rfl ?_
        refine gM rfl rfl ?_
        refine grt rfl rfl rfl rfl (r_fa (ot rfl) (fa_73_2 _ _)) ?_
        refine grt rfl rfl rfl rfl (r_load (og rfl id) (lm_s (mem_seg 5 rfl) ag_4 rfl)) ?_
        refine grt rfl rfl rfl rfl (r_un (og rfl id) rfl) ?_
        refine g_do rfl rfl rfl ?_
        refine gr rfl (r_pickb (ot rfl) (og rfl id) (oc rfl)) ?_
        refine g_do rfl rfl rfl ?_
        refine gM rfl rfl ?_
        refine grt rfl rfl rfl rfl (r_fa (ot rfl) (fa_73_3 _ _)) ?_
        refine grt rfl rfl rfl rfl (r_load (og rfl id) (lm_s (mem_seg 0 rfl) ag_28 rfl)) ?_
        refine grt rfl rfl rfl rfl (r_len rfl (os1 (og rfl id) os0) (fun _ _ => ln_28)) ?_
        refine grt rfl rfl rfl rfl (r_bin (og rfl id) (oc rfl) rfl) ?_
        refine g_do rfl rfl rfl ?_
        refine gr rfl (r_pickb (ot rfl) (og rfl id) (oc rfl)) ?_
        refine g_do rfl rfl rfl ?_
        refine gM rfl rfl ?_
        replace hF := obind hF
        obtain ⟨s28, hF, hK28⟩ := hF
        refine go_joinr 8 (β := Unit) (fun s h' => True) (fun s => [(4, true, .bool false), (11, true, .pointer (some ⟨b11_19, 0, none⟩)), (12, true, .pointer (some ⟨b12_22, 0, none⟩)), (13, true, .pointer (some ⟨b13_24, 0, none⟩)), (71, true, .bool true), (73, true, .bool false), (99, true, .bool s28)]) (fun s => (List.flatten [[⟨b13_24, .cells [.int .i64 x23.1.H.Seq, .int .i64 x23.1.H.Rev, .int .i64 x23.1.H.Hor, .int .i64 x23.1.Err, .bool x23.1.Ok, .slice a23_0 x23.1.L.length c23_0] 73⟩], [⟨b5_w0, .cells [.pointer (some ⟨b5_w0o0, 0, none⟩), .int .i64 x23.2.1.seq] 130⟩], [⟨b5_w0o0, .cells [.int .i64 x23.2.2.bounds_rev, .int .i64 x23.2.2.bounds_hor, .map (some b5_w0o0m2), .slice q23_y0o0_3 x23.2.2.rows.length x23.2.2.rows.length] 100⟩], [⟨b5_w0o0m2, .map (encM kS id rw23_y0o0_2)⟩], t23_y0o0_3, [⟨b12_22, .cells [.int .i64 x21.1.H.Seq, .int .i64 x21.1.H.Rev, .int .i64 x21.1.H.Hor, .int .i64 x21.1.Err, .bool x21.1.Ok, .slice a21_0 x21.1.L.length c21_0] 73⟩], [⟨b11_19, .cells [.int .i64 x18.1.H.Seq, .int .i64 x18.1.H.Rev, .int .i64 x18.1.H.Hor, .int .i64 x18.1.Err, .bool x18.1.Ok, .slice a18_0 x18.1.L.length c18_0] 73⟩], [⟨b10_16, .cells [.int .i64 x15.1.H.Seq, .int .i64 x15.1.H.Rev, .int .i64 x15.1.H.Hor, .int .i64 x15.1.Err, .bool x15.1.Ok, .slice a15_0 x15.1.L.length c15_0] 73⟩], [⟨b46_12, .cells [.int .u8 (IntKind.u8.wrap ((Int.tmod p1.x2 26) + 97))] 5⟩], [⟨b39_10, .cells [.int .u8 (IntKind.u8.wrap ((Int.tmod p1.x1 26) + 97))] 5⟩], [⟨b32_8, .cells [.int .u8 (IntKind.u8.wrap ((Int.tmod p1.x0 26) + 97))] 5⟩], [⟨b3_1, .cells [.int .u8 p1.x0, .int .u8 p1.x1, .int .u8 p1.x2] 79⟩]] : List Blk)) ?_ (fun J28 => ?_)
        ·
          rintro _ h28 e28 w28 _
          replace hF := hK28
          refine g_do rfl rfl rfl ?_
          refine gM rfl rfl ?_
          replace hF := obind hF
          obtain ⟨s30, hF, hK30⟩ := hF
          refine go_joinr 10 (β := Unit) (fun s h' => True) (fun s => [(4, true, .bool false), (11, true, .pointer (some ⟨b11_19, 0, none⟩)), (12, true, .pointer (some ⟨b12_22, 0, none⟩)), (71, true, .bool true), (73, true, .bool false), (110, true, .bool s30)]) (fun s => (List.flatten [[⟨b13_24, .cells [.int .i64 x23.1.H.Seq, .int .i64 x23.1.H.Rev, .int .i64 x23.1.H.Hor, .int .i64 x23.1.Err, .bool x23.1.Ok, .slice a23_0 x23.1.L.length c23_0] 73⟩], [⟨b5_w0, .cells [.pointer (some ⟨b5_w0o0, 0, none⟩), .int .i64 x23.2.1.seq] 130⟩], [⟨b5_w0o0, .cells [.int .i64 x23.2.2.bounds_rev, .int .i64 x23.2.2.bounds_hor, .map (some b5_w0o0m2), .slice q23_y0o0_3 x23.2.2.rows.length x23.2.2.rows.length] 100⟩], [⟨b5_w0o0m2, .map (encM kS id rw23_y0o0_2)⟩], t23_y0o0_3, [⟨b12_22, .cells [.int .i64 x21.1.H.Seq, .int .i64 x21.1.H.Rev, .int .i64 x21.1.H.Hor, .int .i64 x21.1.Err, .bool x21.1.Ok, .slice a21_0 x21.1.L.length c21_0] 73⟩], [⟨b11_19, .cells [.int .i64 x18.1.H.Seq, .int .i64 x18.1.H.Rev, .int .i64 x18.1.H.Hor, .int .i64 x18.1.Err, .bool x18.1.Ok, .slice a18_0 x18.1.L.length c18_0] 73⟩], [⟨b10_16, .cells [.int .i64 x15.1.H.Seq, .int .i64 x15.1.H.Rev, .int .i64 x15.1.H.Hor, .int .i64 x15.1.Err, .bool x15.1.Ok, .slice a15_0 x15.1.L.length c15_0] 73⟩], [⟨b46_12, .cells [.int .u8 (IntKind.u8.wrap ((Int.tmod p1.x2 26) + 97))] 5⟩], [⟨b39_10, .cells [.int .u8 (IntKind.u8.wrap ((Int.tmod p1.x1 26) + 97))] 5⟩], [⟨b32_8, .cells [.int .u8 (IntKind.u8.wrap ((Int.tmod p1.x0 26) + 97))] 5⟩], [⟨b3_1, .cells [.int .u8 p1.x0, .int .u8 p1.x1, .int .u8 p1.x2] 79⟩]] : List Blk)) ?_ (fun J30 => ?_)
          ·
            rintro _ h30 e30 w30 _
            replace hF := hK30
            refine g_do rfl rfl rfl ?_
            refine gM rfl rfl ?_
            refine grt rfl rfl rfl rfl (r_fa (ot rfl) (fa_73_0 _ _)) ?_
            refine grt rfl rfl rfl rfl (r_fa (og rfl id) (fa_71_1 _ _)) ?_
            refine grt rfl rfl rfl rfl (r_load (og rfl id) (lm_s (mem_seg 5 rfl) ag_3 rfl)) ?_
            refine grt rfl rfl rfl rfl (r_fa (ot rfl) (fa_73_0 _ _)) ?_
            refine grt rfl rfl rfl rfl (r_fa (og rfl id) (fa_71_1 _ _)) ?_
            refine grt rfl rfl rfl rfl (r_load (og rfl id) (lm_s (mem_seg 6 rfl) ag_3 rfl)) ?_
            refine grt rfl rfl rfl rfl (r_bin (og rfl id) (og rfl id) rfl) ?_
            refine g_do rfl rfl rfl ?_
            refine gr rfl (r_pickb (ot rfl) (og rfl id) (oc rfl)) ?_
            refine g_do rfl rfl rfl ?_
            refine gr rfl (r_pkF (ot rfl) (ot rfl)) ?_
            obtain rfl := someI hF
            exact Goes.weak (J26 () _ (e28.trans e30) w30 trivial) (Sub.cons (Sub.cons (Sub.cons (Sub.nil _) rfl) rfl) rfl)
          ·
            rcases Bool.eq_false_or_eq_true s28 with hb29 | hb29
            ·
              replace hF := ifT hb29 hF
              refine go_re 100 (v2 := .bool true) rfl (congrArg Value.bool hb29) ?_
              refine g_do rfl rfl rfl ?_
              refine gr rfl (r_fa (ot rfl) (fa_73_3 _ _)) ?_
              refine g_do rfl rfl rfl ?_
              refine gr rfl (r_load (ot rfl) (lm_s (mem_seg 0 rfl) ag_28 rfl)) ?_
              refine g_do rfl rfl rfl ?_
              replace hF := obind hF
              obtain ⟨x31, hx31, hF⟩ := hF
              obtain ⟨q31, row31, i31, cl31, rc31, sp31⟩ := ix (ik := .i64) (cap := c23_0) (E := EE) (f23_2.ext e28.kn) hx31 ut_28 sz_47 rfl
              obtain rfl := rc31
              refine gr rfl (r_ia (ot rfl) (oc rfl) i31) ?_
              refine g_do rfl rfl rfl ?_
              refine gr rfl (r_fa (ot rfl) (fs_47_2 sp31)) ?_
              refine g_do rfl rfl rfl ?_
              refine gr rfl (r_load (ot rfl) (v := .int .i64 x31.Rev) (lo_e (fun hf kn => ld_field (r := [.string x31.Key, .string x31.Val, .int .i64 x31.Rev]) ag_3 (kn.cellsAt cl31) rfl))) ?_
              refine g_do rfl rfl rfl ?_
              refine gr rfl (r_fa (ot rfl) (fa_73_0 _ _)) ?_
              refine g_do rfl rfl rfl ?_
              refine gr rfl (r_fa (ot rfl) (fa_71_1 _ _)) ?_
              refine g_do rfl rfl rfl ?_
              refine gr rfl (r_load (ot rfl) (lm_s (mem_seg 6 rfl) ag_3 rfl)) ?_
              refine g_do rfl rfl rfl ?_
              refine gr rfl (r_bin (ot rfl) (ot rfl) rfl) ?_
              refine g_do rfl rfl rfl ?_
              refine gr rfl (r_pkT (ot rfl) (ot rfl)) ?_
              obtain rfl := someI hF
              exact Goes.weak (J30 () _ (HExt.refl _) w28 trivial) (Sub.cons (Sub.cons (Sub.cons (Sub.cons (Sub.cons (Sub.cons (Sub.nil _) rfl) rfl) rfl) rfl) rfl) rfl)
            ·
              replace hF := ifF hb29 hF
              refine go_re 100 (v2 := .bool false) rfl (congrArg Value.bool hb29) ?_
              refine g_no rfl rfl rfl rfl rfl ?_
              refine g_no rfl rfl rfl rfl rfl ?_
              refine g_no rfl rfl rfl rfl rfl ?_
              refine g_no rfl rfl rfl rfl rfl ?_
              refine g_no rfl rfl rfl rfl rfl ?_
              refine g_no rfl rfl rfl rfl rfl ?_
              refine g_no rfl rfl rfl rfl rfl ?_
              refine g_no rfl rfl rfl rfl rfl ?_
              refine g_no rfl rfl rfl rfl rfl ?_
              refine g_do rfl rfl rfl ?_
              refine gr rfl (r_pkF (ot rfl) (oc rfl)) ?_
              obtain rfl := someI hF
              exact Goes.weak (J30 () _ (HExt.refl _) w28 trivial) (Sub.cons (Sub.cons (Sub.cons (Sub.cons (Sub.cons (Sub.cons (Sub.nil _) rfl) rfl) rfl) rfl) rfl) rfl)
        ·
          rcases Bool.eq_false_or_eq_true (bif (bif (bif x15.1.Ok then x18.1.Ok else false) then (!x21.1.Ok) else false) then ((x23.1.L.length : Int) == 1) else false) with hb27 | hb27
          ·
            replace hF := ifT hb27 hF
            refine go_re 91 (v2 := .bool true) rfl (congrArg Value.bool hb27) ?_
            refine g_do rfl rfl rfl ?_
            refine gr rfl (r_fa (ot rfl) (fa_73_3 _ _)) ?_
            refine g_do rfl rfl rfl ?_
            refine gr rfl (r_load (ot rfl) (lm_s (mem_seg 0 rfl) ag_28 rfl)) ?_
            refine g_do rfl rfl rfl ?_
            replace hF := obind hF
            obtain ⟨x32, hx32, hF⟩ := hF
            obtain ⟨q32, row32, i32, cl32, rc32, sp32⟩ := ix (ik := .i64) (cap := c23_0) (E := EE) f23_2 hx32 ut_28 sz_47 rfl
            obtain rfl := rc32
            refine gr rfl (r_ia (ot rfl) (oc rfl) i32) ?_
            refine g_do rfl rfl rfl ?_
            refine gr rfl (r_fa (ot rfl) (fs_47_1 sp32)) ?_
            refine g_do rfl rfl rfl ?_
            refine gr rfl (r_load (ot rfl) (v := .string x32.Val) (lo_e (fun hf kn => ld_field (r := [.string x32.Key, .string x32.Val, .int .i64 x32.Rev]) ag_9 (kn.cellsAt cl32) rfl))) ?_
            refine g_do rfl rfl rfl ?_
            refine gM rfl rfl ?_
            refine g_do rfl rfl rfl ?_
            refine gr rfl (r_bin (ot rfl) (ot rfl) rfl) ?_
            refine g_do rfl rfl rfl ?_
            refine gr rfl (r_pkT (ot rfl) (ot rfl)) ?_
            obtain rfl := someI hF
            exact Goes.weak (J28 () _ (HExt.refl _) w23 trivial) (Sub.cons (Sub.cons (Sub.cons (Sub.cons (Sub.cons (Sub.cons (Sub.cons (Sub.nil _) rfl) rfl) rfl) rfl) rfl) rfl) rfl)
          ·
            replace hF := ifF hb27 hF
            refine go_re 91 (v2 := .bool false) rfl (congrArg Value.bool hb27) ?_
            refine g_no rfl rfl rfl rfl rfl ?_
            refine g_no rfl rfl rfl rfl rfl ?_
            refine g_no rfl rfl rfl rfl rfl ?_
            refine g_no rfl rfl rfl rfl rfl ?_
            refine g_no rfl rfl rfl rfl rfl ?_
            refine g_no rfl rfl rfl rfl rfl ?_
            refine g_no rfl rfl rfl rfl rfl ?_
            refine g_do rfl rfl rfl ?_
            refine gr rfl (r_pkF (ot rfl) (oc rfl)) ?_
            obtain rfl := someI hF
            exact Goes.weak (J28 () _ (HExt.refl _) w23 trivial) (Sub.cons (Sub.cons (Sub.cons (Sub.cons (Sub.cons (Sub.cons (Sub.cons (Sub.nil _) rfl) rfl) rfl) rfl) rfl) rfl) rfl)
end Go.Proofs.Ytpfdandpmpmbiaa.V
