/- Walks.
   No condition: these are laws of the clean machine and of this program. -/
import Derived.Test.YtpfdandpmpmbiaaPT
import Derived.Test.YtpfdandpmpmbiaaWs
import Derived.Test.YtpfdandpmpmbiaaWx
import Derived.Test.YtpfdandpmpmbiaaWo
namespace Go.Proofs.Ytpfdandpmpmbiaa.V
open Go
set_option linter.unusedVariables false
set_option linter.unusedSimpArgs false
set_option maxRecDepth 100000
set_option maxHeartbeats 4000000
theorem s_law06_HistCopies (n : Nat) {h : Heap} (hw : Wf h) (p0 : (List Timpostlaw06_Deed)) (p1 : Timpostlaw06_Deed) {a0_0 : Option Addr} {c0_0 : Nat} {a1_1 : Option Addr} {c1_1 : Nat} (f0_0 : RL R_Timpostlaw06_Deed h a0_0 c0_0 p0) (f1_1 : RL R_TOp h a1_1 c1_1 p1.Ops) {r : Bool} (hF : F_law06_HistCopies n p0 p1 = some r) :
    Ev EE 6 [.slice a0_0 p0.length c0_0, .agg #[.int .i64 p1.Kind, .slice a1_1 p1.Ops.length c1_1, .int .i64 p1.Rev]] h (fun v _ => v = .bool r) := by
  unfold F_law06_HistCopies at hF
  refine ev_of hw rfl at_6 rfl rfl (go_seg0 ?_)
  refine go_seq ?_
  refine go_region ?_
  refine gs_box rfl (ot rfl) rfl ?_; intro b3_1
  refine gAc rfl rfl ?_
  refine go_nil ?_
  refine go_seq ?_
  refine go_region ?_
  refine g_callp EE_fr rfl of os0 hb_14 (fun _ => rfl) (fun hf kn w => by exact known_evp rfl hf w) ?_
  refine gA rfl rfl ?_
  refine go_nil ?_
  refine go_seq ?_
  refine go_seq ?_
  refine go_region ?_
  refine gM rfl rfl ?_
  replace hF := obind hF
  obtain ⟨x3, hx3, hF⟩ := hF
  refine g_callp (v := .bool x3) EE_fr rfl of (os1 (ot rfl) os0) hb_15 (fun _ => rfl) (fun hf kn w => by exact s_law06_few w p0 (f0_0.ext kn) hx3) ?_
  refine gr rfl (r_un (ot rfl) rfl) ?_
  refine gM rfl rfl ?_
  refine grf rfl rfl rfl rfl (r_fa (ot rfl) (fa_41_1 _ _)) ?_
  refine grf rfl rfl rfl rfl (r_load (og rfl id) (lm_s (mem_seg 0 rfl) ag_39 rfl)) ?_
  refine grf rfl rfl rfl rfl (r_len rfl (os1 (og rfl id) os0) (fun _ _ => ln_39)) ?_
  refine grf rfl rfl rfl rfl (r_bin (og rfl id) (oc rfl) rfl) ?_
  refine gr rfl (r_pickb (ot rfl) (oc rfl) (og rfl id)) ?_
  refine go_nil ?_
  refine g_cond (b := (bif (!x3) then true else (decide ((p1.Ops.length : Int) > 8)))) (ot rfl) (fun hc4 => ?_) (fun hc4 => ?_)
  ·
    replace hF := ifT hc4 hF
    refine go_seq ?_
    refine go_region ?_
    refine gM rfl rfl ?_
    refine gA rfl rfl ?_
    refine go_nil ?_
    obtain rfl := someI hF
    exact g_ret (rst rfl rs0) (fun h1 hf hs => ⟨hs.hext, rfl⟩)
  ·
    replace hF := ifF hc4 hF
    refine go_skip ?_
    refine go_seq ?_
    refine go_region ?_
    refine gM rfl rfl ?_
    replace hF := obind hF
    obtain ⟨x5, hx5, hF⟩ := hF
    refine gs_call EE_fr hw .nil (fun _ h => by cases h; rfl) of (os1 (ot rfl) os0) hb_16 (by exact s_law06_ran n hw p0 f0_0 hx5) ?_
    rintro v5 S5 h5 e5 w5 ⟨b5_w0, b5_w0m2, rw5_w0_2, q5_w0_3, t5_w0_3, rfl, rfl, f5_0, f5_1⟩
    simp only [List.cons_append, List.nil_append]
    refine gA rfl rfl ?_
    refine go_nil ?_
    refine go_seq ?_
    refine go_region ?_
    refine gM rfl rfl ?_
    replace hF := obind hF
    obtain ⟨x6, hx6, hF⟩ := hF
    refine gs_call EE_fr w5 (.cons .z (.cons .z (.cons .z .nil))) (fun _ h => by cases h; rfl) of (os1 (ot rfl) os0) hb_25 (by exact s_hist_Hist_Copy w5 x5 f5_0 f5_1 hx6) ?_
    rintro v6 S6 h6 e6 w6 ⟨rw6_y0_2, q6_y0_3, t6_y0_3, b6_w0, b6_w0m2, rw6_w0_2, q6_w0_3, t6_w0_3, rfl, rfl, f6_0, f6_1, f6_2, f6_3⟩
    simp only [List.cons_append, List.nil_append]
    refine gA rfl rfl ?_
    refine go_nil ?_
    refine go_seq ?_
    refine go_seq ?_
    refine go_region ?_
    refine gM rfl rfl ?_
    refine gr rfl (r_bin (v := .bool false) (ot rfl) (oc rfl) (by first | rfl | kernel_rfl)) ?_
    refine gM rfl rfl ?_
    refine g_do rfl rfl rfl ?_
    refine gM rfl rfl ?_
    refine g_do rfl rfl rfl ?_
    refine gr rfl (r_bin (v := .bool false) (ot rfl) (oc rfl) (by first | rfl | kernel_rfl)) ?_
    refine gr rfl (r_pkF (ot rfl) (ot rfl)) ?_
    refine go_nil ?_
    refine g_cond (b := false) (ot rfl) (fun hc7 => ?_) (fun hc7 => ?_)
    · cases hc7
    refine go_skip ?_
    refine go_seq ?_
    refine go_region ?_
    refine gM rfl rfl ?_
    replace hF := obind hF
    obtain ⟨x8, hx8, hF⟩ := hF
    refine gs_call EE_fr w6 (.cons .z (.cons .z (.cons .z .nil))) (fun _ h => by cases h; rfl) of (os1 (ot rfl) os0) hb_17 (by exact s_hist_Hist_Rev w6 (⟨x6.2.bounds_rev, x6.2.bounds_hor, x6.2.keys, x6.2.rows⟩ : Ohist_Hist) f6_0 f6_1 hx8) ?_
    rintro v8 S8 h8 e8 w8 ⟨rw8_y0_2, q8_y0_3, t8_y0_3, rfl, rfl, f8_0, f8_1⟩
    simp only [List.cons_append, List.nil_append]
    refine gA rfl rfl ?_
    refine go_nil ?_
    refine go_seq ?_
    refine go_region ?_
    refine gM rfl rfl ?_
    refine gM rfl rfl ?_
    refine gr rfl (r_build op0 rfl) ?_
    replace hF := obind hF
    obtain ⟨x9, hx9, hF⟩ := hF
    refine gs_call EE_fr w8 (.cons .z (.cons .z (.cons .z .nil))) (fun _ h => by cases h; rfl) of (os1 (ot rfl) (os1 (ot rfl) (os1 (ot rfl) os0))) hb_18 (by exact s_hist_Hist_At n w8 (⟨x8.2.bounds_rev, x8.2.bounds_hor, x8.2.keys, x8.2.rows⟩ : Ohist_Hist) x8.1 (⟨ByteArray.empty, ByteArray.empty⟩ : TRange) f8_0 f8_1 hx9) ?_
    rintro v9 S9 h9 e9 w9 ⟨rw9_y0_2, q9_y0_3, t9_y0_3, a9_0, c9_0, rfl, rfl, f9_0, f9_1, f9_2⟩
    simp only [List.cons_append, List.nil_append]
    refine gM rfl rfl ?_
    refine gE rfl rfl rfl ?_
    refine gE rfl rfl rfl ?_
    refine gA rfl rfl ?_
    refine gA rfl rfl ?_
    refine go_nil ?_
    refine go_seq ?_
    refine go_region ?_
    refine gM rfl rfl ?_
    refine gM rfl rfl ?_
    refine gr rfl (r_build op0 rfl) ?_
    replace hF := obind hF
    obtain ⟨x10, hx10, hF⟩ := hF
    refine gs_call EE_fr w9 (.cons (.s (.s (.s (.z)))) (.cons (.s (.s (.s (.z)))) (.cons (.s (.s (.s (.z)))) .nil))) (fun _ h => by cases h; rfl) of (os1 (ot rfl) (os1 (ot rfl) (os1 (ot rfl) os0))) hb_18 (by exact s_hist_Hist_At n w9 (⟨x6.1.bounds_rev, x6.1.bounds_hor, x6.1.keys, x6.1.rows⟩ : Ohist_Hist) x8.1 (⟨ByteArray.empty, ByteArray.empty⟩ : TRange) ((f6_2.ext e8.kn).ext e9.kn) ((f6_3.ext e8.kn).ext e9.kn) hx10) ?_
    rintro v10 S10 h10 e10 w10 ⟨rw10_y0_2, q10_y0_3, t10_y0_3, a10_0, c10_0, rfl, rfl, f10_0, f10_1, f10_2⟩
    simp only [List.cons_append, List.nil_append]
    refine gM rfl rfl ?_
    refine gE rfl rfl rfl ?_
    refine gE rfl rfl rfl ?_
    refine gA rfl rfl ?_
    refine gA rfl rfl ?_
    refine go_nil ?_
    refine go_seq ?_
    refine go_region ?_
    refine gM rfl rfl ?_
    refine gr rfl (r_build op0 rfl) ?_
    refine gr rfl (r_load (ot rfl) (lm_w (mem_seg 6 rfl) ag_41 sz_41 rfl)) ?_
    replace hF := obind hF
    obtain ⟨x11, hx11, hF⟩ := hF
    refine gs_call EE_fr w10 (.cons .z (.cons .z (.cons .z .nil))) (fun _ h => by cases h; rfl) of (os1 (ot rfl) (os1 (ot rfl) (os1 (ot rfl) os0))) hb_19 (by exact s_law06_do n w10 (⟨x10.2.2.bounds_rev, x10.2.2.bounds_hor, x10.2.2.keys, x10.2.2.rows⟩ : Ohist_Hist) (⟨([] : List (List TEvent)), 0⟩ : Timpostref06_Hist) p1 f10_0 f10_1 (RL.nil _ _ _) (((((f1_1.ext e5.kn).ext e6.kn).ext e8.kn).ext e9.kn).ext e10.kn) hx11) ?_
    rintro v11 S11 h11 e11 w11 ⟨rw11_y0_2, q11_y0_3, t11_y0_3, a11_0, c11_0, rfl, rfl, f11_0, f11_1, f11_2⟩
    simp only [List.cons_append, List.nil_append]
    refine go_nil ?_
    refine go_seq ?_
    refine go_region ?_
    refine gM rfl rfl ?_
    refine gM rfl rfl ?_
    refine gr rfl (r_build op0 rfl) ?_
    replace hF := obind hF
    obtain ⟨x12, hx12, hF⟩ := hF
    refine gs_call EE_fr w11 (.cons (.s (.s (.s (.z)))) (.cons (.s (.s (.s (.z)))) (.cons (.s (.s (.s (.z)))) .nil))) (fun _ h => by cases h; rfl) of (os1 (ot rfl) (os1 (ot rfl) (os1 (ot rfl) os0))) hb_18 (by exact s_hist_Hist_At n w11 (⟨x9.2.2.bounds_rev, x9.2.2.bounds_hor, x9.2.2.keys, x9.2.2.rows⟩ : Ohist_Hist) x8.1 (⟨ByteArray.empty, ByteArray.empty⟩ : TRange) ((f9_0.ext e10.kn).ext e11.kn) ((f9_1.ext e10.kn).ext e11.kn) hx12) ?_
    rintro v12 S12 h12 e12 w12 ⟨rw12_y0_2, q12_y0_3, t12_y0_3, a12_0, c12_0, rfl, rfl, f12_0, f12_1, f12_2⟩
    simp only [List.cons_append, List.nil_append]
    refine gM rfl rfl ?_
    refine gE rfl rfl rfl ?_
    refine gE rfl rfl rfl ?_
    refine gA rfl rfl ?_
    refine gA rfl rfl ?_
    refine go_nil ?_
    refine go_seq ?_
    refine go_region ?_
    refine gAc rfl rfl ?_
    refine go_nil ?_
    refine go_seq ?_
    refine go_region ?_
    refine gM rfl rfl ?_
    refine gr rfl (r_build op0 rfl) ?_
    replace hF := obind hF
    obtain ⟨x13, hx13, hF⟩ := hF
    refine g_call EE_fr (fun _ h => by cases h; rfl) of (os1 (ot rfl) (os1 (oc rfl) (os1 (ot rfl) os0))) hb_18 (fun hf kn w => by exact s_hist_Hist_At_nil w 0 (⟨ByteArray.empty, ByteArray.empty⟩ : TRange)  hx13) ?_
    rintro v13 h13 e13 w13 ⟨a13_0, c13_0, rfl, f13_0⟩
    refine gM rfl rfl ?_
    refine gE rfl rfl rfl ?_
    refine gE rfl rfl rfl ?_
    refine gA rfl rfl ?_
    refine gA rfl rfl ?_
    refine go_nil ?_
    refine go_seq ?_
    refine go_region ?_
    refine gM rfl rfl ?_
    replace hF := obind hF
    obtain ⟨x14, hx14, hF⟩ := hF
    refine g_call EE_fr (fun _ h => by cases h; rfl) of (os1 (ot rfl) (os1 (oc rfl) os0)) hb_26 (fun hf kn w => by exact s_hist_Hist_Events_nil w 1  hx14) ?_
    rintro v14 h14 e14 w14 ⟨a14_0, c14_0, rfl, f14_0⟩
    refine gM rfl rfl ?_
    refine gE rfl rfl rfl ?_
    refine gE rfl rfl rfl ?_
    refine gA rfl rfl ?_
    refine gA rfl rfl ?_
    refine go_nil ?_
    refine go_seq ?_
    refine go_region ?_
    refine gM rfl rfl ?_
    refine gM rfl rfl ?_
    refine g_do rfl rfl rfl ?_
    refine gM rfl rfl ?_
    refine g_do rfl rfl rfl ?_
    refine gr rfl (r_bin (ot rfl) (oc rfl) rfl) ?_
    refine gr rfl (r_pkT (ot rfl) (ot rfl)) ?_
    refine gM rfl rfl ?_
    refine grt rfl rfl rfl rfl (r_move (ot rfl)) ?_
    refine grt rfl rfl rfl rfl (r_bin (og rfl id) (oc rfl) rfl) ?_
    refine gr rfl (r_pickb (ot rfl) (og rfl id) (oc rfl)) ?_
    refine gM rfl rfl ?_
    replace hF := obind hF
    obtain ⟨s16, hF, hK16⟩ := hF
    refine go_joinr 4 (β := Unit) (fun s h' => True) (fun s => [(3, true, .pointer (some ⟨b3_1, 0, none⟩)), (4, true, .bool false), (6, true, .pointer (some ⟨b5_w0, 0, none⟩)), (8, true, .int .i64 x8.1), (9, true, .slice a9_0 x9.1.length c9_0), (13, true, .slice a12_0 x12.1.length c12_0), (15, true, .pointer none), (17, true, .int .i64 x13.2), (19, true, .int .i64 x14.2), (92, true, .bool s16)]) (fun s => (List.flatten [[⟨b5_w0, .cells [.int .i64 x12.2.2.bounds_rev, .int .i64 x12.2.2.bounds_hor, .map (some b5_w0m2), .slice q12_y0_3 x12.2.2.rows.length x12.2.2.rows.length] 100⟩], [⟨b5_w0m2, .map (encM kS id rw12_y0_2)⟩], t12_y0_3, [⟨b6_w0, .cells [.int .i64 x11.2.2.bounds_rev, .int .i64 x11.2.2.bounds_hor, .map (some b6_w0m2), .slice q11_y0_3 x11.2.2.rows.length x11.2.2.rows.length] 100⟩], [⟨b6_w0m2, .map (encM kS id rw11_y0_2)⟩], t11_y0_3, [⟨b3_1, .cells [.int .i64 p1.Kind, .slice a1_1 p1.Ops.length c1_1, .int .i64 p1.Rev] 41⟩]] : List Blk)) ?_ (fun J16 => ?_)
    ·
      rintro _ h16 e16 w16 _
      replace hF := hK16
      refine gM rfl rfl ?_
      replace hF := obind hF
      obtain ⟨s18, hF, hK18⟩ := hF
      refine go_joinr 4 (β := Unit) (fun s h' => True) (fun s => [(3, true, .pointer (some ⟨b3_1, 0, none⟩)), (4, true, .bool false), (6, true, .pointer (some ⟨b5_w0, 0, none⟩)), (8, true, .int .i64 x8.1), (15, true, .pointer none), (17, true, .int .i64 x13.2), (19, true, .int .i64 x14.2), (97, true, .bool s18)]) (fun s => (List.flatten [[⟨b5_w0, .cells [.int .i64 x12.2.2.bounds_rev, .int .i64 x12.2.2.bounds_hor, .map (some b5_w0m2), .slice q12_y0_3 x12.2.2.rows.length x12.2.2.rows.length] 100⟩], [⟨b5_w0m2, .map (encM kS id rw12_y0_2)⟩], t12_y0_3, [⟨b6_w0, .cells [.int .i64 x11.2.2.bounds_rev, .int .i64 x11.2.2.bounds_hor, .map (some b6_w0m2), .slice q11_y0_3 x11.2.2.rows.length x11.2.2.rows.length] 100⟩], [⟨b6_w0m2, .map (encM kS id rw11_y0_2)⟩], t11_y0_3, [⟨b3_1, .cells [.int .i64 p1.Kind, .slice a1_1 p1.Ops.length c1_1, .int .i64 p1.Rev] 41⟩]] : List Blk)) ?_ (fun J18 => ?_)
      ·
        rintro _ h18 e18 w18 _
        replace hF := hK18
        refine gM rfl rfl ?_
        replace hF := obind hF
        obtain ⟨s20, hF, hK20⟩ := hF
        refine go_joinr 5 (β := Option Addr × List Blk × List (ByteArray × Value)) (fun s h' => AccR (Rep.sl R_TEvent 50) 50 h' s.2.1 (.slice s.1 s20.2.2.2.1.length s20.2.2.2.1.length) s20.2.2.2.1 ∧ MR R_TEvent h' s.2.2 s20.2.2.2.2) (fun s => [(3, true, .pointer (some ⟨b3_1, 0, none⟩)), (4, true, .bool false), (15, true, .pointer none), (17, true, .int .i64 x13.2), (19, true, .int .i64 x14.2), (103, true, .bool s20.1)]) (fun s => (List.flatten [[⟨b5_w0, .cells [.int .i64 s20.2.1, .int .i64 s20.2.2.1, .map (some b5_w0m2), .slice s.1 s20.2.2.2.1.length s20.2.2.2.1.length] 100⟩], [⟨b5_w0m2, .map (encM kS id s.2.2)⟩], s.2.1, [⟨b6_w0, .cells [.int .i64 x11.2.2.bounds_rev, .int .i64 x11.2.2.bounds_hor, .map (some b6_w0m2), .slice q11_y0_3 x11.2.2.rows.length x11.2.2.rows.length] 100⟩], [⟨b6_w0m2, .map (encM kS id rw11_y0_2)⟩], t11_y0_3, [⟨b3_1, .cells [.int .i64 p1.Kind, .slice a1_1 p1.Ops.length c1_1, .int .i64 p1.Rev] 41⟩]] : List Blk)) ?_ (fun J20 => ?_)
        ·
          rintro ⟨a20_0, a20_1, a20_2⟩ h20 e20 w20 ⟨f20_3, f20_4⟩
          replace hF := hK20
          refine gM rfl rfl ?_
          refine grt rfl rfl rfl rfl (r_move (ot rfl)) ?_
          refine grt rfl rfl rfl rfl (r_bin (og rfl id) (oc rfl) rfl) ?_
          refine gr rfl (r_pickb (ot rfl) (og rfl id) (oc rfl)) ?_
          refine gM rfl rfl ?_
          refine grt rfl rfl rfl rfl (r_move (ot rfl)) ?_
          refine grt rfl rfl rfl rfl (r_bin (og rfl id) (oc rfl) rfl) ?_
          refine gr rfl (r_pickb (ot rfl) (og rfl id) (oc rfl)) ?_
          refine gM rfl rfl ?_
          replace hF := obind hF
          obtain ⟨s22, hF, hK22⟩ := hF
          refine go_joinr 4 (β := Unit) (fun s h' => True) (fun s => [(3, true, .pointer (some ⟨b3_1, 0, none⟩)), (4, true, .bool false), (15, true, .pointer none), (116, true, .bool s22)]) (fun s => (List.flatten [[⟨b5_w0, .cells [.int .i64 s20.2.1, .int .i64 s20.2.2.1, .map (some b5_w0m2), .slice a20_0 s20.2.2.2.1.length s20.2.2.2.1.length] 100⟩], [⟨b5_w0m2, .map (encM kS id a20_2)⟩], a20_1, [⟨b6_w0, .cells [.int .i64 x11.2.2.bounds_rev, .int .i64 x11.2.2.bounds_hor, .map (some b6_w0m2), .slice q11_y0_3 x11.2.2.rows.length x11.2.2.rows.length] 100⟩], [⟨b6_w0m2, .map (encM kS id rw11_y0_2)⟩], t11_y0_3, [⟨b3_1, .cells [.int .i64 p1.Kind, .slice a1_1 p1.Ops.length c1_1, .int .i64 p1.Rev] 41⟩]] : List Blk)) ?_ (fun J22 => ?_)
          ·
            rintro _ h22 e22 w22 _
            replace hF := hK22
            refine gM rfl rfl ?_
            replace hF := obind hF
            obtain ⟨s24, hF, hK24⟩ := hF
            refine go_joinr 7 (β := Unit) (fun s h' => True) (fun s => [(4, true, .bool false), (15, true, .pointer none), (124, true, .bool s24)]) (fun s => (List.flatten [[⟨b5_w0, .cells [.int .i64 s20.2.1, .int .i64 s20.2.2.1, .map (some b5_w0m2), .slice a20_0 s20.2.2.2.1.length s20.2.2.2.1.length] 100⟩], [⟨b5_w0m2, .map (encM kS id a20_2)⟩], a20_1, [⟨b6_w0, .cells [.int .i64 x11.2.2.bounds_rev, .int .i64 x11.2.2.bounds_hor, .map (some b6_w0m2), .slice q11_y0_3 x11.2.2.rows.length x11.2.2.rows.length] 100⟩], [⟨b6_w0m2, .map (encM kS id rw11_y0_2)⟩], t11_y0_3, [⟨b3_1, .cells [.int .i64 p1.Kind, .slice a1_1 p1.Ops.length c1_1, .int .i64 p1.Rev] 41⟩]] : List Blk)) ?_ (fun J24 => ?_)
            ·
              rintro _ h24 e24 w24 _
              replace hF := hK24
              refine gM rfl rfl ?_
              replace hF := obind hF
              obtain ⟨s26, hF, hK26⟩ := hF
              refine go_joinr 4 (β := Unit) (fun s h' => True) (fun s => [(4, true, .bool false), (15, true, .pointer none), (129, true, .bool s26)]) (fun s => (List.flatten [[⟨b5_w0, .cells [.int .i64 s20.2.1, .int .i64 s20.2.2.1, .map (some b5_w0m2), .slice a20_0 s20.2.2.2.1.length s20.2.2.2.1.length] 100⟩], [⟨b5_w0m2, .map (encM kS id a20_2)⟩], a20_1, [⟨b6_w0, .cells [.int .i64 x11.2.2.bounds_rev, .int .i64 x11.2.2.bounds_hor, .map (some b6_w0m2), .slice q11_y0_3 x11.2.2.rows.length x11.2.2.rows.length] 100⟩], [⟨b6_w0m2, .map (encM kS id rw11_y0_2)⟩], t11_y0_3, [⟨b3_1, .cells [.int .i64 p1.Kind, .slice a1_1 p1.Ops.length c1_1, .int .i64 p1.Rev] 41⟩]] : List Blk)) ?_ (fun J26 => ?_)
              ·
                rintro _ h26 e26 w26 _
                replace hF := hK26
                refine gM rfl rfl ?_
                replace hF := obind hF
                obtain ⟨s28, hF, hK28⟩ := hF
                refine go_joinr 4 (β := Unit) (fun s h' => True) (fun s => [(4, true, .bool false), (15, true, .pointer none), (134, true, .bool s28)]) (fun s => (List.flatten [[⟨b5_w0, .cells [.int .i64 s20.2.1, .int .i64 s20.2.2.1, .map (some b5_w0m2), .slice a20_0 s20.2.2.2.1.length s20.2.2.2.1.length] 100⟩], [⟨b5_w0m2, .map (encM kS id a20_2)⟩], a20_1, [⟨b6_w0, .cells [.int .i64 x11.2.2.bounds_rev, .int .i64 x11.2.2.bounds_hor, .map (some b6_w0m2), .slice q11_y0_3 x11.2.2.rows.length x11.2.2.rows.length] 100⟩], [⟨b6_w0m2, .map (encM kS id rw11_y0_2)⟩], t11_y0_3, [⟨b3_1, .cells [.int .i64 p1.Kind, .slice a1_1 p1.Ops.length c1_1, .int .i64 p1.Rev] 41⟩]] : List Blk)) ?_ (fun J28 => ?_)
                ·
                  rintro _ h28 e28 w28 _
                  replace hF := hK28
                  refine gM rfl rfl ?_
                  replace hF := obind hF
                  obtain ⟨s30, hF, hK30⟩ := hF
                  refine go_joinr 4 (β := Unit) (fun s h' => True) (fun s => [(4, true, .bool false), (139, true, .bool s30)]) (fun s => (List.flatten [[⟨b5_w0, .cells [.int .i64 s20.2.1, .int .i64 s20.2.2.1, .map (some b5_w0m2), .slice a20_0 s20.2.2.2.1.length s20.2.2.2.1.length] 100⟩], [⟨b5_w0m2, .map (encM kS id a20_2)⟩], a20_1, [⟨b6_w0, .cells [.int .i64 x11.2.2.bounds_rev, .int .i64 x11.2.2.bounds_hor, .map (some b6_w0m2), .slice q11_y0_3 x11.2.2.rows.length x11.2.2.rows.length] 100⟩], [⟨b6_w0m2, .map (encM kS id rw11_y0_2)⟩], t11_y0_3, [⟨b3_1, .cells [.int .i64 p1.Kind, .slice a1_1 p1.Ops.length c1_1, .int .i64 p1.Rev] 41⟩]] : List Blk)) ?_ (fun J30 => ?_)
                  ·
                    rintro _ h30 e30 w30 _
                    replace hF := hK30
                    refine gA rfl rfl ?_
                    refine go_nil ?_
                    obtain rfl := someI hF
                    exact g_ret (rst rfl rs0) (fun h1 hf hs => ⟨(e5.trans (e6.trans (e8.trans (e9.trans (e10.trans (e11.trans (e12.trans (e13.trans (e14.trans (e16.trans (e18.trans (e20.trans (e22.trans (e24.trans (e26.trans (e28.trans (e30.trans hs.hext))))))))))))))))), rfl⟩)
                  ·
                    rcases Bool.eq_false_or_eq_true s28 with hb29 | hb29
                    ·
                      replace hF := ifT hb29 hF
                      refine go_re 135 (v2 := .bool true) rfl (congrArg Value.bool hb29) ?_
                      refine g_do rfl rfl rfl ?_
                      refine gM rfl rfl ?_
                      refine g_do rfl rfl rfl ?_
                      replace hF := obind hF
                      obtain ⟨x31, hx31, hF⟩ := hF
                      refine g_callp (v := .int .i64 x31) EE_fr rfl of (os1 (ot rfl) os0) hb_20 (fun _ => rfl) (fun hf kn w => by exact s_hist_Hist_Hor_nil w   hx31) ?_
                      refine g_do rfl rfl rfl ?_
                      refine gr rfl (r_bin (ot rfl) (oc rfl) rfl) ?_
                      refine gr rfl (r_pkT (ot rfl) (ot rfl)) ?_
                      obtain rfl := someI hF
                      exact Goes.weak (J30 () _ (HExt.refl _) w28 trivial) (Sub.cons (Sub.cons (Sub.nil _) rfl) rfl)
                    ·
                      replace hF := ifF hb29 hF
                      refine go_re 135 (v2 := .bool false) rfl (congrArg Value.bool hb29) ?_
                      refine g_no rfl rfl rfl rfl rfl ?_
                      refine g_no rfl rfl rfl rfl rfl ?_
                      refine g_no rfl rfl rfl rfl rfl ?_
                      refine gr rfl (r_pkF (ot rfl) (oc rfl)) ?_
                      obtain rfl := someI hF
                      exact Goes.weak (J30 () _ (HExt.refl _) w28 trivial) (Sub.cons (Sub.cons (Sub.nil _) rfl) rfl)
                ·
                  rcases Bool.eq_false_or_eq_true s26 with hb27 | hb27
                  ·
                    replace hF := ifT hb27 hF
                    refine go_re 130 (v2 := .bool true) rfl (congrArg Value.bool hb27) ?_
                    refine g_do rfl rfl rfl ?_
                    refine gM rfl rfl ?_
                    refine g_do rfl rfl rfl ?_
                    replace hF := obind hF
                    obtain ⟨x32, hx32, hF⟩ := hF
                    refine g_callp (v := .int .i64 x32) EE_fr rfl of (os1 (ot rfl) os0) hb_17 (fun _ => rfl) (fun hf kn w => by exact s_hist_Hist_Rev_nil w   hx32) ?_
                    refine g_do rfl rfl rfl ?_
                    refine gr rfl (r_bin (ot rfl) (oc rfl) rfl) ?_
                    refine gr rfl (r_pkT (ot rfl) (ot rfl)) ?_
                    obtain rfl := someI hF
                    exact Goes.weak (J28 () _ (HExt.refl _) w26 trivial) (Sub.cons (Sub.cons (Sub.cons (Sub.nil _) rfl) rfl) rfl)
                  ·
                    replace hF := ifF hb27 hF
                    refine go_re 130 (v2 := .bool false) rfl (congrArg Value.bool hb27) ?_
                    refine g_no rfl rfl rfl rfl rfl ?_
                    refine g_no rfl rfl rfl rfl rfl ?_
                    refine g_no rfl rfl rfl rfl rfl ?_
                    refine gr rfl (r_pkF (ot rfl) (oc rfl)) ?_
                    obtain rfl := someI hF
                    exact Goes.weak (J28 () _ (HExt.refl _) w26 trivial) (Sub.cons (Sub.cons (Sub.cons (Sub.nil _) rfl) rfl) rfl)
              ·
                rcases Bool.eq_false_or_eq_true s24 with hb25 | hb25
                ·
                  replace hF := ifT hb25 hF
                  refine go_re 125 (v2 := .bool true) rfl (congrArg Value.bool hb25) ?_
                  refine g_do rfl rfl rfl ?_
                  refine gM rfl rfl ?_
                  refine g_do rfl rfl rfl ?_
                  replace hF := obind hF
                  obtain ⟨x33, hx33, hF⟩ := hF
                  refine g_callp (v := .pointer none) EE_fr rfl of (os1 (ot rfl) os0) hb_25 (fun _ => rfl) (fun hf kn w => by exact s_hist_Hist_Copy_nil w   hx33) ?_
                  refine g_do rfl rfl rfl ?_
                  refine gr rfl (r_bin (v := .bool true) (ot rfl) (oc rfl) (by first | rfl | kernel_rfl)) ?_
                  refine gr rfl (r_pkT (ot rfl) (ot rfl)) ?_
                  obtain rfl := someI hF
                  exact Goes.weak (J26 () _ (HExt.refl _) w24 trivial) (Sub.cons (Sub.cons (Sub.cons (Sub.nil _) rfl) rfl) rfl)
                ·
                  replace hF := ifF hb25 hF
                  refine go_re 125 (v2 := .bool false) rfl (congrArg Value.bool hb25) ?_
                  refine g_no rfl rfl rfl rfl rfl ?_
                  refine g_no rfl rfl rfl rfl rfl ?_
                  refine g_no rfl rfl rfl rfl rfl ?_
                  refine gr rfl (r_pkF (ot rfl) (oc rfl)) ?_
                  obtain rfl := someI hF
                  exact Goes.weak (J26 () _ (HExt.refl _) w24 trivial) (Sub.cons (Sub.cons (Sub.cons (Sub.nil _) rfl) rfl) rfl)
            ·
              rcases Bool.eq_false_or_eq_true s22 with hb23 | hb23
              ·
                replace hF := ifT hb23 hF
                refine go_re 117 (v2 := .bool true) rfl (congrArg Value.bool hb23) ?_
                refine g_do rfl rfl rfl ?_
                refine gM rfl rfl ?_
                refine g_do rfl rfl rfl ?_
                refine gr rfl (r_fa (ot rfl) (fa_41_1 _ _)) ?_
                refine g_do rfl rfl rfl ?_
                refine gr rfl (r_load (ot rfl) (lm_s (mem_seg 6 rfl) ag_39 rfl)) ?_
                refine g_do rfl rfl rfl ?_
                replace hF := obind hF
                obtain ⟨x34, hx34, hF⟩ := hF
                refine g_call EE_fr (fun _ h => by cases h; rfl) of (os1 (ot rfl) (os1 (ot rfl) os0)) hb_23 (fun hf kn w => by exact s_hist_Hist_Apply_nil w p1.Ops ((((((((((((((f1_1.ext e5.kn).ext e6.kn).ext e8.kn).ext e9.kn).ext e10.kn).ext e11.kn).ext e12.kn).ext e13.kn).ext e14.kn).ext e16.kn).ext e18.kn).ext e20.kn).ext e22.kn).ext kn) hx34) ?_
                rintro v34 h34 e34 w34 ⟨a34_0, c34_0, rfl, f34_0⟩
                refine g_do rfl rfl rfl ?_
                refine gr rfl (r_len rfl (os1 (ot rfl) os0) (fun _ _ => ln_50)) ?_
                refine g_do rfl rfl rfl ?_
                refine gr rfl (r_bin (ot rfl) (oc rfl) rfl) ?_
                refine gr rfl (r_pkT (ot rfl) (ot rfl)) ?_
                obtain rfl := someI hF
                exact Goes.weak (J24 () _ e34 w34 trivial) (Sub.cons (Sub.cons (Sub.cons (Sub.nil _) rfl) rfl) rfl)
              ·
                replace hF := ifF hb23 hF
                refine go_re 117 (v2 := .bool false) rfl (congrArg Value.bool hb23) ?_
                refine g_no rfl rfl rfl rfl rfl ?_
                refine g_no rfl rfl rfl rfl rfl ?_
                refine g_no rfl rfl rfl rfl rfl ?_
                refine g_no rfl rfl rfl rfl rfl ?_
                refine g_no rfl rfl rfl rfl rfl ?_
                refine g_no rfl rfl rfl rfl rfl ?_
                refine gr rfl (r_pkF (ot rfl) (oc rfl)) ?_
                obtain rfl := someI hF
                exact Goes.weak (J24 () _ (HExt.refl _) w22 trivial) (Sub.cons (Sub.cons (Sub.cons (Sub.nil _) rfl) rfl) rfl)
          ·
            rcases Bool.eq_false_or_eq_true (bif (bif s20.1 then (x13.2 == 1) else false) then (x14.2 == 1) else false) with hb21 | hb21
            ·
              replace hF := ifT hb21 hF
              refine go_re 112 (v2 := .bool true) rfl (congrArg Value.bool hb21) ?_
              refine g_do rfl rfl rfl ?_
              refine gM rfl rfl ?_
              refine g_do rfl rfl rfl ?_
              replace hF := obind hF
              obtain ⟨x35, hx35, hF⟩ := hF
              refine g_callp (v := .int .i64 x35) EE_fr rfl of (os1 (ot rfl) (os1 (oc rfl) os0)) hb_24 (fun _ => rfl) (fun hf kn w => by exact s_hist_Hist_Compact_nil w 0  hx35) ?_
              refine g_do rfl rfl rfl ?_
              refine gr rfl (r_bin (ot rfl) (oc rfl) rfl) ?_
              refine gr rfl (r_pkT (ot rfl) (ot rfl)) ?_
              obtain rfl := someI hF
              exact Goes.weak (J22 () _ (HExt.refl _) w20 trivial) (Sub.cons (Sub.cons (Sub.cons (Sub.cons (Sub.nil _) rfl) rfl) rfl) rfl)
            ·
              replace hF := ifF hb21 hF
              refine go_re 112 (v2 := .bool false) rfl (congrArg Value.bool hb21) ?_
              refine g_no rfl rfl rfl rfl rfl ?_
              refine g_no rfl rfl rfl rfl rfl ?_
              refine g_no rfl rfl rfl rfl rfl ?_
              refine gr rfl (r_pkF (ot rfl) (oc rfl)) ?_
              obtain rfl := someI hF
              exact Goes.weak (J22 () _ (HExt.refl _) w20 trivial) (Sub.cons (Sub.cons (Sub.cons (Sub.cons (Sub.nil _) rfl) rfl) rfl) rfl)
        ·
          rcases Bool.eq_false_or_eq_true s18 with hb19 | hb19
          ·
            replace hF := ifT hb19 hF
            refine go_re 98 (v2 := .bool true) rfl (congrArg Value.bool hb19) ?_
            refine g_do rfl rfl rfl ?_
            refine gM rfl rfl ?_
            refine g_do rfl rfl rfl ?_
            replace hF := obind hF
            obtain ⟨x36, hx36, hF⟩ := hF
            refine gs_call EE_fr w18 (.cons .z (.cons .z (.cons .z .nil))) (fun _ h => by cases h; rfl) of (os1 (ot rfl) os0) hb_17 (by exact s_hist_Hist_Rev w18 (⟨x12.2.2.bounds_rev, x12.2.2.bounds_hor, x12.2.2.keys, x12.2.2.rows⟩ : Ohist_Hist) ((((f12_0.ext e13.kn).ext e14.kn).ext e16.kn).ext e18.kn) ((((f12_1.ext e13.kn).ext e14.kn).ext e16.kn).ext e18.kn) hx36) ?_
            rintro v36 S36 h36 e36 w36 ⟨rw36_y0_2, q36_y0_3, t36_y0_3, rfl, rfl, f36_0, f36_1⟩
            simp only [List.cons_append, List.nil_append]
            refine g_do rfl rfl rfl ?_
            refine gM rfl rfl ?_
            refine g_do rfl rfl rfl ?_
            refine gr rfl (r_bin (ot rfl) (ot rfl) rfl) ?_
            refine gr rfl (r_pkT (ot rfl) (ot rfl)) ?_
            obtain rfl := someI hF
            exact Goes.weak (J20 (q36_y0_3, t36_y0_3, rw36_y0_2) _ e36 w36 ⟨f36_1, f36_0⟩) (Sub.cons (Sub.cons (Sub.cons (Sub.cons (Sub.cons (Sub.cons (Sub.nil _) rfl) rfl) rfl) rfl) rfl) rfl)
          ·
            replace hF := ifF hb19 hF
            refine go_re 98 (v2 := .bool false) rfl (congrArg Value.bool hb19) ?_
            refine g_no rfl rfl rfl rfl rfl ?_
            refine g_no rfl rfl rfl rfl rfl ?_
            refine g_no rfl rfl rfl rfl rfl ?_
            refine g_no rfl rfl rfl rfl rfl ?_
            refine gr rfl (r_pkF (ot rfl) (oc rfl)) ?_
            obtain rfl := someI hF
            exact Goes.weak (J20 (q12_y0_3, t12_y0_3, rw12_y0_2) _ (HExt.refl _) w18 ⟨((((f12_1.ext e13.kn).ext e14.kn).ext e16.kn).ext e18.kn), ((((f12_0.ext e13.kn).ext e14.kn).ext e16.kn).ext e18.kn)⟩) (Sub.cons (Sub.cons (Sub.cons (Sub.cons (Sub.cons (Sub.cons (Sub.nil _) rfl) rfl) rfl) rfl) rfl) rfl)
      ·
        rcases Bool.eq_false_or_eq_true s16 with hb17 | hb17
        ·
          replace hF := ifT hb17 hF
          refine go_re 93 (v2 := .bool true) rfl (congrArg Value.bool hb17) ?_
          refine g_do rfl rfl rfl ?_
          refine gM rfl rfl ?_
          refine g_do rfl rfl rfl ?_
          refine gM rfl rfl ?_
          refine g_do rfl rfl rfl ?_
          replace hF := obind hF
          obtain ⟨x37, hx37, hF⟩ := hF
          refine g_callp (v := .bool x37) EE_fr rfl of (os1 (ot rfl) (os1 (ot rfl) os0)) hb_21 (fun _ => rfl) (fun hf kn w => by exact s_ref05_KVs w x9.1 x12.1 (((((((f9_2.ext e10.kn).ext e11.kn).ext e12.kn).ext e13.kn).ext e14.kn).ext e16.kn).ext kn) ((((f12_2.ext e13.kn).ext e14.kn).ext e16.kn).ext kn) hx37) ?_
          refine gr rfl (r_pkT (ot rfl) (ot rfl)) ?_
          obtain rfl := someI hF
          exact Goes.weak (J18 () _ (HExt.refl _) w16 trivial) (Sub.cons (Sub.cons (Sub.cons (Sub.cons (Sub.cons (Sub.cons (Sub.cons (Sub.cons (Sub.nil _) rfl) rfl) rfl) rfl) rfl) rfl) rfl) rfl)
        ·
          replace hF := ifF hb17 hF
          refine go_re 93 (v2 := .bool false) rfl (congrArg Value.bool hb17) ?_
          refine g_no rfl rfl rfl rfl rfl ?_
          refine g_no rfl rfl rfl rfl rfl ?_
          refine g_no rfl rfl rfl rfl rfl ?_
          refine gr rfl (r_pkF (ot rfl) (oc rfl)) ?_
          obtain rfl := someI hF
          exact Goes.weak (J18 () _ (HExt.refl _) w16 trivial) (Sub.cons (Sub.cons (Sub.cons (Sub.cons (Sub.cons (Sub.cons (Sub.cons (Sub.cons (Sub.nil _) rfl) rfl) rfl) rfl) rfl) rfl) rfl) rfl)
    ·
      rcases Bool.eq_false_or_eq_true (bif (x10.2.1 == 0) then (x12.2.1 == 0) else false) with hb15 | hb15
      ·
        replace hF := ifT hb15 hF
        refine go_re 88 (v2 := .bool true) rfl (congrArg Value.bool hb15) ?_
        refine g_do rfl rfl rfl ?_
        refine gM rfl rfl ?_
        refine g_do rfl rfl rfl ?_
        refine gM rfl rfl ?_
        refine g_do rfl rfl rfl ?_
        replace hF := obind hF
        obtain ⟨x38, hx38, hF⟩ := hF
        refine g_callp (v := .bool x38) EE_fr rfl of (os1 (ot rfl) (os1 (ot rfl) os0)) hb_21 (fun _ => rfl) (fun hf kn w => by exact s_ref05_KVs w x9.1 x10.1 ((((((f9_2.ext e10.kn).ext e11.kn).ext e12.kn).ext e13.kn).ext e14.kn).ext kn) (((((f10_2.ext e11.kn).ext e12.kn).ext e13.kn).ext e14.kn).ext kn) hx38) ?_
        refine gr rfl (r_pkT (ot rfl) (ot rfl)) ?_
        obtain rfl := someI hF
        exact Goes.weak (J16 () _ (HExt.refl _) w14 trivial) (Sub.cons (Sub.cons (Sub.cons (Sub.cons (Sub.cons (Sub.cons (Sub.cons (Sub.cons (Sub.cons (Sub.cons (Sub.nil _) rfl) rfl) rfl) rfl) rfl) rfl) rfl) rfl) rfl) rfl)
      ·
        replace hF := ifF hb15 hF
        refine go_re 88 (v2 := .bool false) rfl (congrArg Value.bool hb15) ?_
        refine g_no rfl rfl rfl rfl rfl ?_
        refine g_no rfl rfl rfl rfl rfl ?_
        refine g_no rfl rfl rfl rfl rfl ?_
        refine gr rfl (r_pkF (ot rfl) (oc rfl)) ?_
        obtain rfl := someI hF
        exact Goes.weak (J16 () _ (HExt.refl _) w14 trivial) (Sub.cons (Sub.cons (Sub.cons (Sub.cons (Sub.cons (Sub.cons (Sub.cons (Sub.cons (Sub.cons (Sub.cons (Sub.nil _) rfl) rfl) rfl) rfl) rfl) rfl) rfl) rfl) rfl) rfl)
end Go.Proofs.Ytpfdandpmpmbiaa.V
