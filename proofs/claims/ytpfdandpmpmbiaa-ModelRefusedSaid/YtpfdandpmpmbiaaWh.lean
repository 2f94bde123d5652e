/- Walks.
   No condition: these are laws of the clean machine and of this program. -/
import Derived.Test.YtpfdandpmpmbiaaPT
import Derived.Test.YtpfdandpmpmbiaaWs
import Derived.Test.YtpfdandpmpmbiaaWo
import Derived.Test.YtpfdandpmpmbiaaWm
import Derived.Test.YtpfdandpmpmbiaaWy
namespace Go.Proofs.Ytpfdandpmpmbiaa.V
open Go
set_option linter.unusedVariables false
set_option linter.unusedSimpArgs false
set_option maxRecDepth 100000
set_option maxHeartbeats 4000000
theorem s_law08_ModelRefused (n : Nat) {h : Heap} (hw : Wf h) (p0 : (List TReq)) (p1 : TReq) {a0_0 : Option Addr} {c0_0 : Nat} {a1_4 : Option Addr} {c1_4 : Nat} {a1_5 : Option Addr} {c1_5 : Nat} {a1_6 : Option Addr} {c1_6 : Nat} (f0_0 : RL R_TReq h a0_0 c0_0 p0) (f1_4 : RL R_TCmp h a1_4 c1_4 p1.Cmps) (f1_5 : RL R_TOp h a1_5 c1_5 p1.Then) (f1_6 : RL R_TOp h a1_6 c1_6 p1.Else) {r : Bool} (hF : F_law08_ModelRefused n p0 p1 = some r) :
    Ev EE 9 [.slice a0_0 p0.length c0_0, .agg #[.int .i64 p1.Kind, .string p1.R.From, .string p1.R.To, .int .i64 p1.Rev, .slice a1_4 p1.Cmps.length c1_4, .slice a1_5 p1.Then.length c1_5, .slice a1_6 p1.Else.length c1_6]] h (fun v _ => v = .bool r) := by
  unfold F_law08_ModelRefused at hF
  refine ev_of hw rfl at_9 rfl rfl (go_seg0 ?_)
  refine go_seq ?_
  refine go_region ?_
  refine gs_box rfl (ot rfl) rfl ?_; intro b3_1
  refine gAc rfl rfl ?_
  refine go_nil ?_
  refine go_seq ?_
  refine go_region ?_
  refine g_callp EE_fr rfl of os0 hb_31 (fun _ => rfl) (fun hf kn w => by exact known_evp rfl hf w) ?_
  refine gA rfl rfl ?_
  refine go_nil ?_
  refine go_seq ?_
  refine go_seq ?_
  refine go_region ?_
  refine gM rfl rfl ?_
  replace hF := obind hF
  obtain ⟨x3, hx3, hF⟩ := hF
  refine g_callp (v := .bool x3) EE_fr rfl of (os1 (ot rfl) os0) hb_33 (fun _ => rfl) (fun hf kn w => by exact s_law08_few w p0 (f0_0.ext kn) hx3) ?_
  refine gr rfl (r_un (ot rfl) rfl) ?_
  refine gM rfl rfl ?_
  refine grf rfl rfl rfl rfl (r_fa (ot rfl) (fa_61_3 _ _)) ?_
  refine grf rfl rfl rfl rfl (r_load (og rfl id) (lm_s (mem_seg 0 rfl) ag_59 rfl)) ?_
  refine grf rfl rfl rfl rfl (r_len rfl (os1 (og rfl id) os0) (fun _ _ => ln_59)) ?_
  refine grf rfl rfl rfl rfl (r_bin (og rfl id) (oc rfl) rfl) ?_
  refine gr rfl (r_pickb (ot rfl) (oc rfl) (og rfl id)) ?_
  refine gM rfl rfl ?_
  refine grf rfl rfl rfl rfl (r_fa (ot rfl) (fa_61_4 _ _)) ?_
  refine grf rfl rfl rfl rfl (r_load (og rfl id) (lm_s (mem_seg 0 rfl) ag_39 rfl)) ?_
  refine grf rfl rfl rfl rfl (r_len rfl (os1 (og rfl id) os0) (fun _ _ => ln_39)) ?_
  refine grf rfl rfl rfl rfl (r_bin (og rfl id) (oc rfl) rfl) ?_
  refine gr rfl (r_pickb (ot rfl) (oc rfl) (og rfl id)) ?_
  refine gM rfl rfl ?_
  refine grf rfl rfl rfl rfl (r_fa (ot rfl) (fa_61_5 _ _)) ?_
  refine grf rfl rfl rfl rfl (r_load (og rfl id) (lm_s (mem_seg 0 rfl) ag_39 rfl)) ?_
  refine grf rfl rfl rfl rfl (r_len rfl (os1 (og rfl id) os0) (fun _ _ => ln_39)) ?_
  refine grf rfl rfl rfl rfl (r_bin (og rfl id) (oc rfl) rfl) ?_
  refine gr rfl (r_pickb (ot rfl) (oc rfl) (og rfl id)) ?_
  refine go_nil ?_
  refine g_cond (b := (bif (bif (bif (!x3) then true else (decide ((p1.Cmps.length : Int) > 8))) then true else (decide ((p1.Then.length : Int) > 8))) then true else (decide ((p1.Else.length : Int) > 8)))) (ot rfl) (fun hc4 => ?_) (fun hc4 => ?_)
  ·
    replace hF := ifT hc4 hF
    refine go_seq ?_
    refine go_region ?_
    refine gM rfl rfl ?_
    refine gA rfl rfl ?_
    refine go_nil ?_
    obtain rfl := someI hF
    exact g_ret (rst rfl rs0) (fun h1 hf hs => ⟨hs.hext, rfl⟩)
  ·
    replace hF := ifF hc4 hF
    refine go_skip ?_
    refine go_seq ?_
    refine go_region ?_
    refine gM rfl rfl ?_
    replace hF := obind hF
    obtain ⟨x5, hx5, hF⟩ := hF
    refine gs_call EE_fr hw .nil (fun _ h => by cases h; rfl) of (os1 (ot rfl) os0) hb_36 (by exact s_law08_ran n hw p0 f0_0 hx5) ?_
    rintro v5 S5 h5 e5 w5 ⟨b5_w0, b5_w0o0, b5_w0o0m2, rw5_w0o0_2, q5_w0o0_3, t5_w0o0_3, rfl, rfl, f5_0, f5_1⟩
    simp only [List.cons_append, List.nil_append]
    refine gA rfl rfl ?_
    refine go_nil ?_
    refine go_seq ?_
    refine go_region ?_
    refine gM rfl rfl ?_
    replace hF := obind hF
    obtain ⟨x6, hx6, hF⟩ := hF
    refine gs_call EE_fr w5 (.cons .z (.cons .z (.cons .z (.cons .z .nil)))) (fun _ h => by cases h; rfl) of (os1 (ot rfl) os0) hb_35 (by exact s_model_Model_Head w5 (⟨x5.1.seq⟩ : Omodel_Model) (⟨x5.2.bounds_rev, x5.2.bounds_hor, x5.2.keys, x5.2.rows⟩ : Ohist_Hist) f5_0 f5_1 hx6) ?_
    rintro v6 S6 h6 e6 w6 ⟨rw6_y0o0_2, q6_y0o0_3, t6_y0o0_3, rfl, rfl, f6_0, f6_1⟩
    simp only [List.cons_append, List.nil_append]
    refine gs_alloc rfl zo_71 rfl ?_; intro b7_7
    refine gs_store (ot rfl) (ot rfl) sz_71 rfl rfl rfl rfl rfl .z ?_
    refine go_nil ?_
    refine go_seq ?_
    refine go_region ?_
    refine gM rfl rfl ?_
    replace hF := obind hF
    obtain ⟨x8, hx8, hF⟩ := hF
    refine gs_call EE_fr w6 (.cons (.s (.z)) (.cons (.s (.z)) (.cons (.s (.z)) (.cons (.s (.z)) .nil)))) (fun _ h => by cases h; rfl) of (os1 (ot rfl) os0) hb_37 (by exact s_model_Model_Hist w6 (⟨x6.2.1.seq⟩ : Omodel_Model) (⟨x6.2.2.bounds_rev, x6.2.2.bounds_hor, x6.2.2.keys, x6.2.2.rows⟩ : Ohist_Hist) f6_0 f6_1 hx8) ?_
    rintro v8 S8 h8 e8 w8 ⟨rw8_y0o0_2, q8_y0o0_3, t8_y0o0_3, b8_w0, b8_w0m2, rw8_w0_2, q8_w0_3, t8_w0_3, rfl, rfl, f8_0, f8_1, f8_2, f8_3⟩
    simp only [List.cons_append, List.nil_append]
    refine gA rfl rfl ?_
    refine go_nil ?_
    refine go_seq ?_
    refine go_region ?_
    refine gM rfl rfl ?_
    refine gr rfl (r_load (ot rfl) (lm_w (mem_seg 8 rfl) ag_61 sz_61 rfl)) ?_
    replace hF := obind hF
    obtain ⟨x9, hx9, hF⟩ := hF
    refine gs_call EE_fr w8 (.cons .z (.cons .z (.cons .z (.cons .z .nil)))) (fun _ h => by cases h; rfl) of (os1 (ot rfl) (os1 (ot rfl) os0)) hb_34 (by exact s_model_Model_Serve n w8 (⟨x8.2.1.seq⟩ : Omodel_Model) (⟨x8.2.2.bounds_rev, x8.2.2.bounds_hor, x8.2.2.keys, x8.2.2.rows⟩ : Ohist_Hist) p1 f8_0 f8_1 (((f1_4.ext e5.kn).ext e6.kn).ext e8.kn) (((f1_5.ext e5.kn).ext e6.kn).ext e8.kn) (((f1_6.ext e5.kn).ext e6.kn).ext e8.kn) hx9) ?_
    rintro v9 S9 h9 e9 w9 ⟨rw9_y0o0_2, q9_y0o0_3, t9_y0o0_3, a9_0, c9_0, rfl, rfl, f9_0, f9_1, f9_2⟩
    simp only [List.cons_append, List.nil_append]
    refine gs_alloc rfl zo_73 rfl ?_; intro b9_10
    refine gs_store (ot rfl) (ot rfl) sz_73 rfl rfl rfl rfl rfl .z ?_
    refine go_nil ?_
    refine go_seq ?_
    refine go_region ?_
    refine gM rfl rfl ?_
    replace hF := obind hF
    obtain ⟨x11, hx11, hF⟩ := hF
    refine gs_call EE_fr w9 (.cons (.s (.z)) (.cons (.s (.z)) (.cons (.s (.z)) (.cons (.s (.z)) .nil)))) (fun _ h => by cases h; rfl) of (os1 (ot rfl) os0) hb_37 (by exact s_model_Model_Hist w9 (⟨x9.2.1.seq⟩ : Omodel_Model) (⟨x9.2.2.bounds_rev, x9.2.2.bounds_hor, x9.2.2.keys, x9.2.2.rows⟩ : Ohist_Hist) f9_0 f9_1 hx11) ?_
    rintro v11 S11 h11 e11 w11 ⟨rw11_y0o0_2, q11_y0o0_3, t11_y0o0_3, b11_w0, b11_w0m2, rw11_w0_2, q11_w0_3, t11_w0_3, rfl, rfl, f11_0, f11_1, f11_2, f11_3⟩
    simp only [List.cons_append, List.nil_append]
    refine gA rfl rfl ?_
    refine go_nil ?_
    refine go_seq ?_
    refine go_region ?_
    refine gM rfl rfl ?_
    refine gM rfl rfl ?_
    replace hF := obind hF
    obtain ⟨x12, hx12, hF⟩ := hF
    refine gs_call EE_fr w11 (.cons (.s (.s (.s (.s (.s (.s (.s (.s (.z))))))))) (.cons (.s (.s (.s (.s (.s (.s (.s (.s (.z))))))))) (.cons (.s (.s (.s (.s (.s (.s (.s (.s (.z))))))))) .nil))) (fun _ h => by cases h; rfl) of (os1 (ot rfl) os0) hb_17 (by exact s_hist_Hist_Rev w11 (⟨x8.1.bounds_rev, x8.1.bounds_hor, x8.1.keys, x8.1.rows⟩ : Ohist_Hist) ((f8_2.ext e9.kn).ext e11.kn) ((f8_3.ext e9.kn).ext e11.kn) hx12) ?_
    rintro v12 S12 h12 e12 w12 ⟨rw12_y0_2, q12_y0_3, t12_y0_3, rfl, rfl, f12_0, f12_1⟩
    simp only [List.cons_append, List.nil_append]
    refine gr rfl (r_build op0 rfl) ?_
    replace hF := obind hF
    obtain ⟨x13, hx13, hF⟩ := hF
    refine gs_call EE_fr w12 (.cons .z (.cons .z (.cons .z .nil))) (fun _ h => by cases h; rfl) of (os1 (ot rfl) (os1 (ot rfl) (os1 (ot rfl) os0))) hb_18 (by exact s_hist_Hist_At n w12 (⟨x12.2.bounds_rev, x12.2.bounds_hor, x12.2.keys, x12.2.rows⟩ : Ohist_Hist) x12.1 (⟨ByteArray.empty, ByteArray.empty⟩ : TRange) f12_0 f12_1 hx13) ?_
    rintro v13 S13 h13 e13 w13 ⟨rw13_y0_2, q13_y0_3, t13_y0_3, a13_0, c13_0, rfl, rfl, f13_0, f13_1, f13_2⟩
    simp only [List.cons_append, List.nil_append]
    refine gM rfl rfl ?_
    refine gE rfl rfl rfl ?_
    refine gE rfl rfl rfl ?_
    refine gA rfl rfl ?_
    refine gA rfl rfl ?_
    refine go_nil ?_
    refine go_seq ?_
    refine go_region ?_
    refine gM rfl rfl ?_
    refine gM rfl rfl ?_
    replace hF := obind hF
    obtain ⟨x14, hx14, hF⟩ := hF
    refine gs_call EE_fr w13 (.cons .z (.cons .z (.cons .z .nil))) (fun _ h => by cases h; rfl) of (os1 (ot rfl) os0) hb_17 (by exact s_hist_Hist_Rev w13 (⟨x13.2.2.bounds_rev, x13.2.2.bounds_hor, x13.2.2.keys, x13.2.2.rows⟩ : Ohist_Hist) f13_0 f13_1 hx14) ?_
    rintro v14 S14 h14 e14 w14 ⟨rw14_y0_2, q14_y0_3, t14_y0_3, rfl, rfl, f14_0, f14_1⟩
    simp only [List.cons_append, List.nil_append]
    refine gr rfl (r_build op0 rfl) ?_
    replace hF := obind hF
    obtain ⟨x15, hx15, hF⟩ := hF
    refine gs_call EE_fr w14 (.cons (.s (.s (.s (.s (.s (.s (.s (.z)))))))) (.cons (.s (.s (.s (.s (.s (.s (.s (.z)))))))) (.cons (.s (.s (.s (.s (.s (.s (.s (.z)))))))) .nil))) (fun _ h => by cases h; rfl) of (os1 (ot rfl) (os1 (ot rfl) (os1 (ot rfl) os0))) hb_18 (by exact s_hist_Hist_At n w14 (⟨x11.1.bounds_rev, x11.1.bounds_hor, x11.1.keys, x11.1.rows⟩ : Ohist_Hist) x14.1 (⟨ByteArray.empty, ByteArray.empty⟩ : TRange) (((f11_2.ext e12.kn).ext e13.kn).ext e14.kn) (((f11_3.ext e12.kn).ext e13.kn).ext e14.kn) hx15) ?_
    rintro v15 S15 h15 e15 w15 ⟨rw15_y0_2, q15_y0_3, t15_y0_3, a15_0, c15_0, rfl, rfl, f15_0, f15_1, f15_2⟩
    simp only [List.cons_append, List.nil_append]
    refine gM rfl rfl ?_
    refine gE rfl rfl rfl ?_
    refine gE rfl rfl rfl ?_
    refine gA rfl rfl ?_
    refine gA rfl rfl ?_
    refine go_nil ?_
    refine go_seq ?_
    refine go_seq ?_
    refine go_region ?_
    refine gr rfl (r_fa (ot rfl) (fa_73_1 _ _)) ?_
    refine gr rfl (r_load (ot rfl) (lm_s (mem_seg 10 rfl) ag_29 rfl)) ?_
    refine gr rfl (r_bin (ot rfl) (oc rfl) rfl) ?_
    refine gM rfl rfl ?_
    refine grt rfl rfl rfl rfl (r_fa (ot rfl) (fa_73_2 _ _)) ?_
    refine grt rfl rfl rfl rfl (r_load (og rfl id) (lm_s (mem_seg 10 rfl) ag_4 rfl)) ?_
    refine grt rfl rfl rfl rfl (r_move (og rfl id)) ?_
    refine grf' rfl rfl rfl rfl (r_fa (ot rfl) (fa_73_3 _ _)) ?_
    refine grf' rfl rfl rfl rfl (r_load (og rfl id) (lm_s (mem_seg 10 rfl) ag_28 rfl)) ?_
    refine grf' rfl rfl rfl rfl (r_len rfl (os1 (og rfl id) os0) (fun _ _ => ln_28)) ?_
    refine grf' rfl rfl rfl rfl (r_bin (og rfl id) (oc rfl) rfl) ?_
    refine grt rfl rfl rfl rfl (r_pickb (og rfl id) (oc rfl) (og rfl id)) ?_
    refine gr rfl (r_pickb (ot rfl) (og rfl id) (oc rfl)) ?_
    refine go_nil ?_
    refine g_cond (b := (bif (x9.1.Err != 0) then (bif x9.1.Ok then true else (decide ((x9.1.L.length : Int) > 0))) else false)) (ot rfl) (fun hc16 => ?_) (fun hc16 => ?_)
    ·
      replace hF := ifT hc16 hF
      refine go_seq ?_
      refine go_region ?_
      refine gAc rfl rfl ?_
      refine go_nil ?_
      obtain rfl := someI hF
      exact g_ret (rst rfl rs0) (fun h1 hf hs => ⟨(e5.trans (e6.trans (e8.trans (e9.trans (e11.trans (e12.trans (e13.trans (e14.trans (e15.trans hs.hext))))))))), rfl⟩)
    ·
      replace hF := ifF hc16 hF
      refine go_skip ?_
      refine go_seq ?_
      refine go_seq ?_
      refine go_region ?_
      refine gr rfl (r_fa (ot rfl) (fa_73_1 _ _)) ?_
      refine gr rfl (r_load (ot rfl) (lm_s (mem_seg 10 rfl) ag_29 rfl)) ?_
      refine gr rfl (r_bin (ot rfl) (oc rfl) rfl) ?_
      refine gM rfl rfl ?_
      refine grt rfl rfl rfl rfl (r_fa (ot rfl) (fa_61_0 _ _)) ?_
      refine grt rfl rfl rfl rfl (r_load (og rfl id) (lm_s (mem_seg 12 rfl) ag_3 rfl)) ?_
      refine grt rfl rfl rfl rfl (r_bin (og rfl id) (oc rfl) rfl) ?_
      refine gr rfl (r_pickb (ot rfl) (og rfl id) (oc rfl)) ?_
      refine go_nil ?_
      refine g_cond (b := (bif (x9.1.Err == 0) then (p1.Kind != 2) else false)) (ot rfl) (fun hc17 => ?_) (fun hc17 => ?_)
      ·
        replace hF := ifT hc17 hF
        refine go_seq ?_
        refine go_region ?_
        refine gM rfl rfl ?_
        refine gA rfl rfl ?_
        refine go_nil ?_
        obtain rfl := someI hF
        exact g_ret (rst rfl rs0) (fun h1 hf hs => ⟨(e5.trans (e6.trans (e8.trans (e9.trans (e11.trans (e12.trans (e13.trans (e14.trans (e15.trans hs.hext))))))))), rfl⟩)
      ·
        replace hF := ifF hc17 hF
        refine go_skip ?_
        refine go_seq ?_
        refine go_region ?_
        refine gM rfl rfl ?_
        refine gM rfl rfl ?_
        refine g_do rfl rfl rfl ?_
        refine gM rfl rfl ?_
        refine g_do rfl rfl rfl ?_
        refine gM rfl rfl ?_
        refine g_do rfl rfl rfl ?_
        replace hF := obind hF
        obtain ⟨x18, hx18, hF⟩ := hF
        refine g_callp (v := .bool x18) EE_fr rfl of (os1 (ot rfl) (os1 (ot rfl) os0)) hb_21 (fun _ => rfl) (fun hf kn w => by exact s_ref05_KVs w x13.1 x15.1 (((f13_2.ext e14.kn).ext e15.kn).ext kn) (f15_2.ext kn) hx18) ?_
        refine gr rfl (r_pkT (ot rfl) (ot rfl)) ?_
        refine gM rfl rfl ?_
        replace hF := obind hF
        obtain ⟨s20, hF, hK20⟩ := hF
        refine go_joinr 6 (β := Option Addr × List Blk × List (ByteArray × Value) × Option Addr × List Blk × List (ByteArray × Value)) (fun s h' => AccR (Rep.sl R_TEvent 50) 50 h' s.2.1 (.slice s.1 s20.2.2.2.1.length s20.2.2.2.1.length) s20.2.2.2.1 ∧ MR R_TEvent h' s.2.2.1 s20.2.2.2.2.1 ∧ AccR (Rep.sl R_TEvent 50) 50 h' s.2.2.2.2.1 (.slice s.2.2.2.1 s20.2.2.2.2.2.2.2.1.length s20.2.2.2.2.2.2.2.1.length) s20.2.2.2.2.2.2.2.1 ∧ MR R_TEvent h' s.2.2.2.2.2 s20.2.2.2.2.2.2.2.2) (fun s => [(4, true, .bool false), (7, true, .pointer (some ⟨b7_7, 0, none⟩)), (8, true, .pointer (some ⟨b8_w0, 0, none⟩)), (9, true, .pointer (some ⟨b9_10, 0, none⟩)), (10, true, .pointer (some ⟨b11_w0, 0, none⟩)), (99, true, .bool s20.1)]) (fun s => (List.flatten [[⟨b11_w0, .cells [.int .i64 s20.2.1, .int .i64 s20.2.2.1, .map (some b11_w0m2), .slice s.1 s20.2.2.2.1.length s20.2.2.2.1.length] 100⟩], [⟨b11_w0m2, .map (encM kS id s.2.2.1)⟩], s.2.1, [⟨b8_w0, .cells [.int .i64 s20.2.2.2.2.2.1, .int .i64 s20.2.2.2.2.2.2.1, .map (some b8_w0m2), .slice s.2.2.2.1 s20.2.2.2.2.2.2.2.1.length s20.2.2.2.2.2.2.2.1.length] 100⟩], [⟨b8_w0m2, .map (encM kS id s.2.2.2.2.2)⟩], s.2.2.2.2.1, [⟨b5_w0, .cells [.pointer (some ⟨b5_w0o0, 0, none⟩), .int .i64 x11.2.1.seq] 130⟩], [⟨b5_w0o0, .cells [.int .i64 x11.2.2.bounds_rev, .int .i64 x11.2.2.bounds_hor, .map (some b5_w0o0m2), .slice q11_y0o0_3 x11.2.2.rows.length x11.2.2.rows.length] 100⟩], [⟨b5_w0o0m2, .map (encM kS id rw11_y0o0_2)⟩], t11_y0o0_3, [⟨b9_10, .cells [.int .i64 x9.1.H.Seq, .int .i64 x9.1.H.Rev, .int .i64 x9.1.H.Hor, .int .i64 x9.1.Err, .bool x9.1.Ok, .slice a9_0 x9.1.L.length c9_0] 73⟩], [⟨b7_7, .cells [.int .i64 x6.1.Seq, .int .i64 x6.1.Rev, .int .i64 x6.1.Hor] 71⟩], [⟨b3_1, .cells [.int .i64 p1.Kind, .string p1.R.From, .string p1.R.To, .int .i64 p1.Rev, .slice a1_4 p1.Cmps.length c1_4, .slice a1_5 p1.Then.length c1_5, .slice a1_6 p1.Else.length c1_6] 61⟩]] : List Blk)) ?_ (fun J20 => ?_)
        ·
          rintro ⟨a20_0, a20_1, a20_2, a20_3, a20_4, a20_5⟩ h20 e20 w20 ⟨f20_3, f20_4, f20_7, f20_8⟩
          replace hF := hK20
          refine gM rfl rfl ?_
          replace hF := obind hF
          obtain ⟨s22, hF, hK22⟩ := hF
          refine go_joinr 6 (β := Option Addr × List Blk × List (ByteArray × Value) × Option Addr × List Blk × List (ByteArray × Value)) (fun s h' => AccR (Rep.sl R_TEvent 50) 50 h' s.2.1 (.slice s.1 s22.2.2.2.1.length s22.2.2.2.1.length) s22.2.2.2.1 ∧ MR R_TEvent h' s.2.2.1 s22.2.2.2.2.1 ∧ AccR (Rep.sl R_TEvent 50) 50 h' s.2.2.2.2.1 (.slice s.2.2.2.1 s22.2.2.2.2.2.2.2.1.length s22.2.2.2.2.2.2.2.1.length) s22.2.2.2.2.2.2.2.1 ∧ MR R_TEvent h' s.2.2.2.2.2 s22.2.2.2.2.2.2.2.2) (fun s => [(4, true, .bool false), (7, true, .pointer (some ⟨b7_7, 0, none⟩)), (9, true, .pointer (some ⟨b9_10, 0, none⟩)), (106, true, .bool s22.1)]) (fun s => (List.flatten [[⟨b11_w0, .cells [.int .i64 s22.2.1, .int .i64 s22.2.2.1, .map (some b11_w0m2), .slice s.1 s22.2.2.2.1.length s22.2.2.2.1.length] 100⟩], [⟨b11_w0m2, .map (encM kS id s.2.2.1)⟩], s.2.1, [⟨b8_w0, .cells [.int .i64 s22.2.2.2.2.2.1, .int .i64 s22.2.2.2.2.2.2.1, .map (some b8_w0m2), .slice s.2.2.2.1 s22.2.2.2.2.2.2.2.1.length s22.2.2.2.2.2.2.2.1.length] 100⟩], [⟨b8_w0m2, .map (encM kS id s.2.2.2.2.2)⟩], s.2.2.2.2.1, [⟨b5_w0, .cells [.pointer (some ⟨b5_w0o0, 0, none⟩), .int .i64 x11.2.1.seq] 130⟩], [⟨b5_w0o0, .cells [.int .i64 x11.2.2.bounds_rev, .int .i64 x11.2.2.bounds_hor, .map (some b5_w0o0m2), .slice q11_y0o0_3 x11.2.2.rows.length x11.2.2.rows.length] 100⟩], [⟨b5_w0o0m2, .map (encM kS id rw11_y0o0_2)⟩], t11_y0o0_3, [⟨b9_10, .cells [.int .i64 x9.1.H.Seq, .int .i64 x9.1.H.Rev, .int .i64 x9.1.H.Hor, .int .i64 x9.1.Err, .bool x9.1.Ok, .slice a9_0 x9.1.L.length c9_0] 73⟩], [⟨b7_7, .cells [.int .i64 x6.1.Seq, .int .i64 x6.1.Rev, .int .i64 x6.1.Hor] 71⟩], [⟨b3_1, .cells [.int .i64 p1.Kind, .string p1.R.From, .string p1.R.To, .int .i64 p1.Rev, .slice a1_4 p1.Cmps.length c1_4, .slice a1_5 p1.Then.length c1_5, .slice a1_6 p1.Else.length c1_6] 61⟩]] : List Blk)) ?_ (fun J22 => ?_)
          ·
            rintro ⟨a22_0, a22_1, a22_2, a22_3, a22_4, a22_5⟩ h22 e22 w22 ⟨f22_3, f22_4, f22_7, f22_8⟩
            replace hF := hK22
            refine gM rfl rfl ?_
            refine grt rfl rfl rfl rfl (r_fa (ot rfl) (fa_73_0 _ _)) ?_
            refine grt rfl rfl rfl rfl (r_fa (og rfl id) (fa_71_1 _ _)) ?_
            refine grt rfl rfl rfl rfl (r_load (og rfl id) (lm_s (mem_seg 10 rfl) ag_3 rfl)) ?_
            refine grt rfl rfl rfl rfl (r_fa (ot rfl) (fa_71_1 _ _)) ?_
            refine grt rfl rfl rfl rfl (r_load (og rfl id) (lm_s (mem_seg 11 rfl) ag_3 rfl)) ?_
            refine grt rfl rfl rfl rfl (r_bin (og rfl id) (og rfl id) rfl) ?_
            refine gr rfl (r_pickb (ot rfl) (og rfl id) (oc rfl)) ?_
            refine gM rfl rfl ?_
            refine grt rfl rfl rfl rfl (r_fa (ot rfl) (fa_73_0 _ _)) ?_
            refine grt rfl rfl rfl rfl (r_fa (og rfl id) (fa_71_2 _ _)) ?_
            refine grt rfl rfl rfl rfl (r_load (og rfl id) (lm_s (mem_seg 10 rfl) ag_3 rfl)) ?_
            refine grt rfl rfl rfl rfl (r_fa (ot rfl) (fa_71_2 _ _)) ?_
            refine grt rfl rfl rfl rfl (r_load (og rfl id) (lm_s (mem_seg 11 rfl) ag_3 rfl)) ?_
            refine grt rfl rfl rfl rfl (r_bin (og rfl id) (og rfl id) rfl) ?_
            refine gr rfl (r_pickb (ot rfl) (og rfl id) (oc rfl)) ?_
            refine gA rfl rfl ?_
            refine go_nil ?_
            obtain rfl := someI hF
            exact g_ret (rst rfl rs0) (fun h1 hf hs => ⟨(e5.trans (e6.trans (e8.trans (e9.trans (e11.trans (e12.trans (e13.trans (e14.trans (e15.trans (e20.trans (e22.trans hs.hext))))))))))), rfl⟩)
          ·
            rcases Bool.eq_false_or_eq_true s20.1 with hb21 | hb21
            ·
              replace hF := ifT hb21 hF
              refine go_re 100 (v2 := .bool true) rfl (congrArg Value.bool hb21) ?_
              refine g_do rfl rfl rfl ?_
              refine gM rfl rfl ?_
              refine g_do rfl rfl rfl ?_
              replace hF := obind hF
              obtain ⟨x23, hx23, hF⟩ := hF
              refine gs_call EE_fr w20 (.cons (.s (.s (.s (.z)))) (.cons (.s (.s (.s (.z)))) (.cons (.s (.s (.s (.z)))) .nil))) (fun _ h => by cases h; rfl) of (os1 (ot rfl) os0) hb_20 (by exact s_hist_Hist_Hor w20 (⟨s20.2.2.2.2.2.1, s20.2.2.2.2.2.2.1, s20.2.2.2.2.2.2.2.2, s20.2.2.2.2.2.2.2.1⟩ : Ohist_Hist) f20_8 f20_7 hx23) ?_
              rintro v23 S23 h23 e23 w23 ⟨rw23_y0_2, q23_y0_3, t23_y0_3, rfl, rfl, f23_0, f23_1⟩
              simp only [List.cons_append, List.nil_append]
              refine g_do rfl rfl rfl ?_
              refine gM rfl rfl ?_
              refine g_do rfl rfl rfl ?_
              replace hF := obind hF
              obtain ⟨x24, hx24, hF⟩ := hF
              refine gs_call EE_fr w23 (.cons (.s (.s (.s (.z)))) (.cons (.s (.s (.s (.z)))) (.cons (.s (.s (.s (.z)))) .nil))) (fun _ h => by cases h; rfl) of (os1 (ot rfl) os0) hb_20 (by exact s_hist_Hist_Hor w23 (⟨s20.2.1, s20.2.2.1, s20.2.2.2.2.1, s20.2.2.2.1⟩ : Ohist_Hist) (f20_4.ext e23.kn) (f20_3.ext e23.kn) hx24) ?_
              rintro v24 S24 h24 e24 w24 ⟨rw24_y0_2, q24_y0_3, t24_y0_3, rfl, rfl, f24_0, f24_1⟩
              simp only [List.cons_append, List.nil_append]
              refine g_do rfl rfl rfl ?_
              refine gr rfl (r_bin (ot rfl) (ot rfl) rfl) ?_
              refine gr rfl (r_pkT (ot rfl) (ot rfl)) ?_
              obtain rfl := someI hF
              exact Goes.weak (J22 (q24_y0_3, t24_y0_3, rw24_y0_2, q23_y0_3, t23_y0_3, rw23_y0_2) _ (e23.trans e24) w24 ⟨f24_1, f24_0, (f23_1.ext e24.kn), (f23_0.ext e24.kn)⟩) (Sub.cons (Sub.cons (Sub.cons (Sub.cons (Sub.nil _) rfl) rfl) rfl) rfl)
            ·
              replace hF := ifF hb21 hF
              refine go_re 100 (v2 := .bool false) rfl (congrArg Value.bool hb21) ?_
              refine g_no rfl rfl rfl rfl rfl ?_
              refine g_no rfl rfl rfl rfl rfl ?_
              refine g_no rfl rfl rfl rfl rfl ?_
              refine g_no rfl rfl rfl rfl rfl ?_
              refine g_no rfl rfl rfl rfl rfl ?_
              refine gr rfl (r_pkF (ot rfl) (oc rfl)) ?_
              obtain rfl := someI hF
              exact Goes.weak (J22 (a20_0, a20_1, a20_2, a20_3, a20_4, a20_5) _ (HExt.refl _) w20 ⟨f20_3, f20_4, f20_7, f20_8⟩) (Sub.cons (Sub.cons (Sub.cons (Sub.cons (Sub.nil _) rfl) rfl) rfl) rfl)
        ·
          rcases Bool.eq_false_or_eq_true x18 with hb19 | hb19
          ·
            replace hF := ifT hb19 hF
            refine go_re 93 (v2 := .bool true) rfl (congrArg Value.bool hb19) ?_
            refine g_do rfl rfl rfl ?_
            refine gM rfl rfl ?_
            refine g_do rfl rfl rfl ?_
            replace hF := obind hF
            obtain ⟨x25, hx25, hF⟩ := hF
            refine gs_call EE_fr w15 (.cons (.s (.s (.s (.z)))) (.cons (.s (.s (.s (.z)))) (.cons (.s (.s (.s (.z)))) .nil))) (fun _ h => by cases h; rfl) of (os1 (ot rfl) os0) hb_17 (by exact s_hist_Hist_Rev w15 (⟨x14.2.bounds_rev, x14.2.bounds_hor, x14.2.keys, x14.2.rows⟩ : Ohist_Hist) (f14_0.ext e15.kn) (f14_1.ext e15.kn) hx25) ?_
            rintro v25 S25 h25 e25 w25 ⟨rw25_y0_2, q25_y0_3, t25_y0_3, rfl, rfl, f25_0, f25_1⟩
            simp only [List.cons_append, List.nil_append]
            refine g_do rfl rfl rfl ?_
            refine gM rfl rfl ?_
            refine g_do rfl rfl rfl ?_
            replace hF := obind hF
            obtain ⟨x26, hx26, hF⟩ := hF
            refine gs_call EE_fr w25 (.cons (.s (.s (.s (.z)))) (.cons (.s (.s (.s (.z)))) (.cons (.s (.s (.s (.z)))) .nil))) (fun _ h => by cases h; rfl) of (os1 (ot rfl) os0) hb_17 (by exact s_hist_Hist_Rev w25 (⟨x15.2.2.bounds_rev, x15.2.2.bounds_hor, x15.2.2.keys, x15.2.2.rows⟩ : Ohist_Hist) (f15_0.ext e25.kn) (f15_1.ext e25.kn) hx26) ?_
            rintro v26 S26 h26 e26 w26 ⟨rw26_y0_2, q26_y0_3, t26_y0_3, rfl, rfl, f26_0, f26_1⟩
            simp only [List.cons_append, List.nil_append]
            refine g_do rfl rfl rfl ?_
            refine gr rfl (r_bin (ot rfl) (ot rfl) rfl) ?_
            refine gr rfl (r_pkT (ot rfl) (ot rfl)) ?_
            obtain rfl := someI hF
            exact Goes.weak (J20 (q26_y0_3, t26_y0_3, rw26_y0_2, q25_y0_3, t25_y0_3, rw25_y0_2) _ (e25.trans e26) w26 ⟨f26_1, f26_0, (f25_1.ext e26.kn), (f25_0.ext e26.kn)⟩) (Sub.cons (Sub.cons (Sub.cons (Sub.cons (Sub.cons (Sub.cons (Sub.nil _) rfl) rfl) rfl) rfl) rfl) rfl)
          ·
            replace hF := ifF hb19 hF
            refine go_re 93 (v2 := .bool false) rfl (congrArg Value.bool hb19) ?_
            refine g_no rfl rfl rfl rfl rfl ?_
            refine g_no rfl rfl rfl rfl rfl ?_
            refine g_no rfl rfl rfl rfl rfl ?_
            refine g_no rfl rfl rfl rfl rfl ?_
            refine g_no rfl rfl rfl rfl rfl ?_
            refine gr rfl (r_pkF (ot rfl) (oc rfl)) ?_
            obtain rfl := someI hF
            exact Goes.weak (J20 (q15_y0_3, t15_y0_3, rw15_y0_2, q14_y0_3, t14_y0_3, rw14_y0_2) _ (HExt.refl _) w15 ⟨f15_1, f15_0, (f14_1.ext e15.kn), (f14_0.ext e15.kn)⟩) (Sub.cons (Sub.cons (Sub.cons (Sub.cons (Sub.cons (Sub.cons (Sub.nil _) rfl) rfl) rfl) rfl) rfl) rfl)
end Go.Proofs.Ytpfdandpmpmbiaa.V
