/- Walks.
   No condition: these are laws of the clean machine and of this program. -/
import Derived.Test.YtfgoccdjbgecfaaPT
import Derived.Test.YtfgoccdjbgecfaaFf
import Derived.Test.YtfgoccdjbgecfaaWx
import Derived.Test.YtfgoccdjbgecfaaWm
import Derived.Test.YtfgoccdjbgecfaaWs
import Derived.Test.YtfgoccdjbgecfaaWo
namespace Go.Proofs.Ytfgoccdjbgecfaa.V
open Go
set_option linter.unusedVariables false
set_option linter.unusedSimpArgs false
set_option maxRecDepth 100000
set_option maxHeartbeats 4000000
theorem s_law10_CursorTokens (n : Nat) {h : Heap} (hw : Wf h) (p0 : (List Timpostlaw10_Deed)) (p1 : Timpostref10_Cursor) (p2 : Int) {a0_0 : Option Addr} {c0_0 : Nat} (f0_0 : RL R_Timpostlaw10_Deed h a0_0 c0_0 p0) {r : Bool} (hF : F_law10_CursorTokens n p0 p1 p2 = some r) :
    Ev EE 7 [.slice a0_0 p0.length c0_0, .agg #[.string p1.R.From, .string p1.R.To, .int .i64 p1.Next, .bool p1.Once, .bool p1.Dead], .int .u8 p2] h (fun v _ => v = .bool r) := by
  unfold F_law10_CursorTokens at hF
  refine ev_of hw rfl at_7 rfl rfl (go_seg0 ?_)
  refine go_seq ?_
  refine go_region ?_
  refine gs_box rfl (ot rfl) rfl ?_; intro b4_1
  refine gAc rfl rfl ?_
  refine go_nil ?_
  refine go_seq ?_
  refine go_region ?_
  refine g_callp EE_fr rfl of os0 hb_8 (fun _ => rfl) (fun hf kn w => by exact known_evp rfl hf w) ?_
  refine gA rfl rfl ?_
  refine go_nil ?_
  refine go_seq ?_
  refine go_seq ?_
  refine go_region ?_
  refine gM rfl rfl ?_
  replace hF := obind hF
  obtain ⟨x3, hx3, hF⟩ := hF
  refine g_callp (v := .bool x3) EE_fr rfl of (os1 (ot rfl) os0) hb_17 (fun _ => rfl) (fun hf kn w => by exact s_law10_few w p0 (f0_0.ext kn) hx3) ?_
  refine gr rfl (r_un (ot rfl) rfl) ?_
  refine gM rfl rfl ?_
  refine grf rfl rfl rfl rfl (r_fa (ot rfl) (fa_25_1 _ _)) ?_
  refine grf rfl rfl rfl rfl (r_load (og rfl id) (lm_s (mem_seg 0 rfl) ag_3 rfl)) ?_
  refine grf rfl rfl rfl rfl (r_bin (og rfl id) (oc rfl) rfl) ?_
  refine gr rfl (r_pickb (ot rfl) (oc rfl) (og rfl id)) ?_
  refine gM rfl rfl ?_
  refine grf rfl rfl rfl rfl (r_fa (ot rfl) (fa_25_1 _ _)) ?_
  refine grf rfl rfl rfl rfl (r_load (og rfl id) (lm_s (mem_seg 0 rfl) ag_3 rfl)) ?_
  refine grf rfl rfl rfl rfl (r_bin (og rfl id) (oc rfl) rfl) ?_
  refine gr rfl (r_pickb (ot rfl) (oc rfl) (og rfl id)) ?_
  refine gM rfl rfl ?_
  refine grf rfl rfl rfl rfl (r_fa (ot rfl) (fa_25_3 _ _)) ?_
  refine grf rfl rfl rfl rfl (r_load (og rfl id) (lm_s (mem_seg 0 rfl) ag_4 rfl)) ?_
  refine gr rfl (r_pickb (ot rfl) (oc rfl) (og rfl id)) ?_
  refine go_nil ?_
  refine g_cond (b := (bif (bif (bif (!x3) then true else (decide (p1.Next > 1099511627776))) then true else (decide (p1.Next < (-1099511627776)))) then true else p1.Dead)) (ot rfl) (fun hc4 => ?_) (fun hc4 => ?_)
  ·
    replace hF := ifT hc4 hF
    refine go_seq ?_
    refine go_region ?_
    refine gM rfl rfl ?_
    refine gA rfl rfl ?_
    refine go_nil ?_
    obtain rfl := someI hF
    exact g_ret (rst rfl rs0) (fun h1 hf hs => ⟨hs.hext, rfl⟩)
  ·
    replace hF := ifF hc4 hF
    refine go_skip ?_
    refine go_seq ?_
    refine go_region ?_
    replace hF := obind hF
    obtain ⟨x5, hx5, hF⟩ := hF
    refine gs_call EE_fr hw .nil (fun _ h => by cases h; rfl) of os0 hb_18 (by exact s_hist_New hw   hx5) ?_
    rintro v5 S5 h5 e5 w5 ⟨b5_w0, b5_w0m2, rw5_w0_2, q5_w0_3, t5_w0_3, rfl, rfl, f5_0, f5_1⟩
    simp only [List.cons_append, List.nil_append]
    refine gA rfl rfl ?_
    refine go_nil ?_
    refine go_seq ?_
    refine go_seq ?_
    refine go_region ?_
    refine gAc rfl rfl ?_
    refine go_nil ?_
    replace hF := obind hF
    obtain ⟨s6, hF, hK6⟩ := hF
    refine go_joinc (β := Option Addr × List Blk × List (ByteArray × Value)) (fun s h' => AccR (Rep.sl R_TEvent 30) 30 h' s.2.1 (.slice s.1 s6.2.2.1.length s6.2.2.1.length) s6.2.2.1 ∧ MR R_TEvent h' s.2.2 s6.2.2.2) (fun s => [(2, true, .int .u8 p2), (4, true, .pointer (some ⟨b4_1, 0, none⟩)), (6, true, .bool false), (7, true, .bool true), (8, true, .pointer (some ⟨b5_w0, 0, none⟩))]) (fun s => (List.flatten [[⟨b5_w0, .cells [.int .i64 s6.1, .int .i64 s6.2.1, .map (some b5_w0m2), .slice s.1 s6.2.2.1.length s6.2.2.1.length] 90⟩], [⟨b5_w0m2, .map (encM kS id s.2.2)⟩], s.2.1, [⟨b4_1, .cells [.string p1.R.From, .string p1.R.To, .int .i64 p1.Next, .bool p1.Once, .bool p1.Dead] 25⟩]] : List Blk)) ?_ (fun J6 => ?_)
    ·
      rintro ⟨a6_0, a6_1, a6_2⟩ h6 e6 w6 ⟨f6_2, f6_3⟩
      replace hF := hK6
      refine go_seq ?_
      refine go_region ?_
      refine gr rfl (r_load (ot rfl) (lm_w (mem_seg 3 rfl) ag_25 sz_25 rfl)) ?_
      replace hF := obind hF
      obtain ⟨x7, hx7, hF⟩ := hF
      refine g_callp (v := .agg #[.string x7.R.From, .string x7.R.To, .int .i64 x7.Next, .bool x7.Once, .bool x7.Dead]) EE_fr rfl of (os1 (ot rfl) os0) hb_10 (fun _ => rfl) (fun hf kn w => by exact s_law10_made w p1  hx7) ?_
      refine gM rfl rfl ?_
      refine gM rfl rfl ?_
      refine gr rfl (r_bin (ot rfl) (oc rfl) rfl) ?_
      refine gr rfl (r_conv (ot rfl) rfl) ?_
      replace hF := obind hF
      obtain ⟨x8, hx8, hF⟩ := hF
      refine gs_call EE_fr w6 (.cons .z (.cons .z (.cons .z .nil))) (fun _ h => by cases h; rfl) of (os1 (ot rfl) (os1 (ot rfl) (os1 (ot rfl) os0))) hb_24 (by exact s_cursor_Poll n w6 x7 (⟨s6.1, s6.2.1, s6.2.2.2, s6.2.2.1⟩ : Ohist_Hist) (IntKind.i64.wrap (Int.tmod p2 20)) f6_3 f6_2 hx8) ?_
      rintro v8 S8 h8 e8 w8 ⟨rw8_y0_2, q8_y0_3, t8_y0_3, a8_0, c8_0, rfl, rfl, f8_0, f8_1, f8_2⟩
      simp only [List.cons_append, List.nil_append]
      refine gM rfl rfl ?_
      refine gE rfl rfl rfl ?_
      refine gE rfl rfl rfl ?_
      refine gs_alloc rfl zo_31 rfl ?_; intro b10_9
      refine gs_alloc rfl zo_34 rfl ?_; intro b11_10
      refine gs_store (ot rfl) (ot rfl) sz_31 rfl rfl rfl rfl rfl (.s (.z)) ?_
      refine gs_store (ot rfl) (ot rfl) sz_34 rfl rfl rfl rfl rfl .z ?_
      refine go_nil ?_
      refine go_seq ?_
      refine go_region ?_
      refine gr rfl (r_load (ot rfl) (lm_w (mem_seg 5 rfl) ag_25 sz_25 rfl)) ?_
      replace hF := obind hF
      obtain ⟨x11, hx11, hF⟩ := hF
      refine g_callp (v := .agg #[.string x11.R.From, .string x11.R.To, .int .i64 x11.Next, .bool x11.Once, .bool x11.Dead]) EE_fr rfl of (os1 (ot rfl) os0) hb_10 (fun _ => rfl) (fun hf kn w => by exact s_law10_made w p1  hx11) ?_
      replace hF := obind hF
      obtain ⟨x12, hx12, hF⟩ := hF
      refine g_callp (v := .agg #[.string x12.R.From, .string x12.R.To, .int .i64 x12.Next, .bool x12.Once]) EE_fr rfl of (os1 (ot rfl) os0) hb_31 (fun _ => rfl) (fun hf kn w => by exact s_cursor_Token w x11  hx12) ?_
      replace hF := obind hF
      obtain ⟨x13, hx13, hF⟩ := hF
      refine g_callp (v := .agg #[.string x13.R.From, .string x13.R.To, .int .i64 x13.Next, .bool x13.Once, .bool x13.Dead]) EE_fr rfl of (os1 (ot rfl) os0) hb_30 (fun _ => rfl) (fun hf kn w => by exact s_cursor_Resume w x12  hx13) ?_
      refine gM rfl rfl ?_
      refine gM rfl rfl ?_
      refine gr rfl (r_bin (ot rfl) (oc rfl) rfl) ?_
      refine gr rfl (r_conv (ot rfl) rfl) ?_
      replace hF := obind hF
      obtain ⟨x14, hx14, hF⟩ := hF
      refine gs_call EE_fr w8 (.cons (.s (.s (.z))) (.cons (.s (.s (.z))) (.cons (.s (.s (.z))) .nil))) (fun _ h => by cases h; rfl) of (os1 (ot rfl) (os1 (ot rfl) (os1 (ot rfl) os0))) hb_24 (by exact s_cursor_Poll n w8 x13 (⟨x8.2.2.bounds_rev, x8.2.2.bounds_hor, x8.2.2.keys, x8.2.2.rows⟩ : Ohist_Hist) (IntKind.i64.wrap (Int.tmod p2 20)) f8_0 f8_1 hx14) ?_
      rintro v14 S14 h14 e14 w14 ⟨rw14_y0_2, q14_y0_3, t14_y0_3, a14_0, c14_0, rfl, rfl, f14_0, f14_1, f14_2⟩
      simp only [List.cons_append, List.nil_append]
      refine gM rfl rfl ?_
      refine gE rfl rfl rfl ?_
      refine gE rfl rfl rfl ?_
      refine gs_alloc rfl zo_31 rfl ?_; intro b12_15
      refine gs_alloc rfl zo_34 rfl ?_; intro b13_16
      refine gs_store (ot rfl) (ot rfl) sz_31 rfl rfl rfl rfl rfl (.s (.z)) ?_
      refine gs_store (ot rfl) (ot rfl) sz_34 rfl rfl rfl rfl rfl .z ?_
      refine go_nil ?_
      refine go_seq ?_
      refine go_region ?_
      refine gr rfl (r_load (ot rfl) (lm_w (mem_seg 6 rfl) ag_31 sz_31 rfl)) ?_
      replace hF := obind hF
      obtain ⟨x17, hx17, hF⟩ := hF
      refine g_callp (v := .agg #[.string x17.R.From, .string x17.R.To, .int .i64 x17.Next, .bool x17.Once]) EE_fr rfl of (os1 (ot rfl) os0) hb_31 (fun _ => rfl) (fun hf kn w => by exact s_cursor_Token w x8.1  hx17) ?_
      replace hF := obind hF
      obtain ⟨x18, hx18, hF⟩ := hF
      refine g_callp (v := .agg #[.string x18.R.From, .string x18.R.To, .int .i64 x18.Next, .bool x18.Once, .bool x18.Dead]) EE_fr rfl of (os1 (ot rfl) os0) hb_30 (fun _ => rfl) (fun hf kn w => by exact s_cursor_Resume w x17  hx18) ?_
      refine gM rfl rfl ?_
      replace hF := obind hF
      obtain ⟨x19, hx19, hF⟩ := hF
      refine gs_call EE_fr w14 (.cons (.s (.s (.z))) (.cons (.s (.s (.z))) (.cons (.s (.s (.z))) .nil))) (fun _ h => by cases h; rfl) of (os1 (ot rfl) (os1 (ot rfl) (os1 (oc rfl) os0))) hb_24 (by exact s_cursor_Poll n w14 x18 (⟨x14.2.2.bounds_rev, x14.2.2.bounds_hor, x14.2.2.keys, x14.2.2.rows⟩ : Ohist_Hist) 3 f14_0 f14_1 hx19) ?_
      rintro v19 S19 h19 e19 w19 ⟨rw19_y0_2, q19_y0_3, t19_y0_3, a19_0, c19_0, rfl, rfl, f19_0, f19_1, f19_2⟩
      simp only [List.cons_append, List.nil_append]
      refine gM rfl rfl ?_
      refine gE rfl rfl rfl ?_
      refine gE rfl rfl rfl ?_
      refine gs_alloc rfl zo_31 rfl ?_; intro b14_20
      refine gs_alloc rfl zo_34 rfl ?_; intro b15_21
      refine gs_store (ot rfl) (ot rfl) sz_31 rfl rfl rfl rfl rfl (.s (.z)) ?_
      refine gs_store (ot rfl) (ot rfl) sz_34 rfl rfl rfl rfl rfl .z ?_
      refine go_nil ?_
      refine go_seq ?_
      refine go_region ?_
      refine gr rfl (r_load (ot rfl) (lm_w (mem_seg 8 rfl) ag_31 sz_31 rfl)) ?_
      refine gM rfl rfl ?_
      replace hF := obind hF
      obtain ⟨x22, hx22, hF⟩ := hF
      refine gs_call EE_fr w19 (.cons (.s (.s (.z))) (.cons (.s (.s (.z))) (.cons (.s (.s (.z))) .nil))) (fun _ h => by cases h; rfl) of (os1 (ot rfl) (os1 (ot rfl) (os1 (oc rfl) os0))) hb_24 (by exact s_cursor_Poll n w19 x8.1 (⟨x19.2.2.bounds_rev, x19.2.2.bounds_hor, x19.2.2.keys, x19.2.2.rows⟩ : Ohist_Hist) 3 f19_0 f19_1 hx22) ?_
      rintro v22 S22 h22 e22 w22 ⟨rw22_y0_2, q22_y0_3, t22_y0_3, a22_0, c22_0, rfl, rfl, f22_0, f22_1, f22_2⟩
      simp only [List.cons_append, List.nil_append]
      refine gM rfl rfl ?_
      refine gE rfl rfl rfl ?_
      refine gE rfl rfl rfl ?_
      refine gs_alloc rfl zo_31 rfl ?_; intro b16_23
      refine gs_alloc rfl zo_34 rfl ?_; intro b17_24
      refine gs_store (ot rfl) (ot rfl) sz_31 rfl rfl rfl rfl rfl (.s (.z)) ?_
      refine gs_store (ot rfl) (ot rfl) sz_34 rfl rfl rfl rfl rfl .z ?_
      refine go_nil ?_
      refine go_seq ?_
      replace hF := obind hF
      obtain ⟨s25, hF, hK25⟩ := hF
      refine go_joinc (β := Unit) (fun s h' => True) (fun s => [(6, true, .bool s25)]) (fun s => (List.flatten [[⟨b17_24, .cells [.int .i64 x22.2.1.Err, .int .i64 x22.2.1.Hor, .int .i64 x22.2.1.Upto, .slice a22_0 x22.2.1.Rows.length c22_0] 34⟩], [⟨b16_23, .cells [.string x22.1.R.From, .string x22.1.R.To, .int .i64 x22.1.Next, .bool x22.1.Once, .bool x22.1.Dead] 31⟩], [⟨b5_w0, .cells [.int .i64 x22.2.2.bounds_rev, .int .i64 x22.2.2.bounds_hor, .map (some b5_w0m2), .slice q22_y0_3 x22.2.2.rows.length x22.2.2.rows.length] 90⟩], [⟨b5_w0m2, .map (encM kS id rw22_y0_2)⟩], t22_y0_3, [⟨b15_21, .cells [.int .i64 x19.2.1.Err, .int .i64 x19.2.1.Hor, .int .i64 x19.2.1.Upto, .slice a19_0 x19.2.1.Rows.length c19_0] 34⟩], [⟨b14_20, .cells [.string x19.1.R.From, .string x19.1.R.To, .int .i64 x19.1.Next, .bool x19.1.Once, .bool x19.1.Dead] 31⟩], [⟨b13_16, .cells [.int .i64 x14.2.1.Err, .int .i64 x14.2.1.Hor, .int .i64 x14.2.1.Upto, .slice a14_0 x14.2.1.Rows.length c14_0] 34⟩], [⟨b12_15, .cells [.string x14.1.R.From, .string x14.1.R.To, .int .i64 x14.1.Next, .bool x14.1.Once, .bool x14.1.Dead] 31⟩], [⟨b11_10, .cells [.int .i64 x8.2.1.Err, .int .i64 x8.2.1.Hor, .int .i64 x8.2.1.Upto, .slice a8_0 x8.2.1.Rows.length c8_0] 34⟩], [⟨b10_9, .cells [.string x8.1.R.From, .string x8.1.R.To, .int .i64 x8.1.Next, .bool x8.1.Once, .bool x8.1.Dead] 31⟩], [⟨b4_1, .cells [.string p1.R.From, .string p1.R.To, .int .i64 p1.Next, .bool p1.Once, .bool p1.Dead] 25⟩]] : List Blk)) ?_ (fun J25 => ?_)
      ·
        rintro _ h25 e25 w25 _
        replace hF := hK25
        obtain rfl := someI hF
        exact g_ret (rst rfl rs0) (fun h1 hf hs => ⟨(e5.trans (e6.trans (e8.trans (e14.trans (e19.trans (e22.trans (e25.trans hs.hext))))))), rfl⟩)
      ·
        refine go_regions (L := [(0, []), (1, []), (2, []), (3, []), (4, []), (5, []), (6, []), (7, []), (9, []), (8, [9]), (10, []), (11, []), (12, []), (13, []), (14, []), (15, []), (16, []), (17, []), (18, []), (19, []), (20, []), (21, []), (22, [])]) (by kernel_rfl) (by kernel_rfl) (fun _ => rfl) ?_
        refine go_sop rfl rfl ?_
        refine gM rfl rfl ?_
        refine go_nil ?_
        refine go_sop rfl rfl ?_
        refine gM rfl rfl ?_
        refine go_nil ?_
        refine go_sop rfl rfl ?_
        refine g_do rfl rfl rfl ?_
        refine gr rfl (r_load (ot rfl) (lm_w (mem_seg 10 rfl) ag_31 sz_31 rfl)) ?_
        refine go_nil ?_
        refine go_sop rfl rfl ?_
        refine g_do rfl rfl rfl ?_
        refine gr rfl (r_load (ot rfl) (lm_w (mem_seg 8 rfl) ag_31 sz_31 rfl)) ?_
        refine go_nil ?_
        refine go_sop rfl rfl ?_
        refine g_do rfl rfl rfl ?_
        refine gr rfl (r_bin (ot rfl) (ot rfl) bq_31) ?_
        refine go_nil ?_
        refine go_sop rfl rfl ?_
        refine gr rfl (r_pkT (ot rfl) (ot rfl)) ?_
        refine go_nil ?_
        refine go_sop rfl rfl ?_
        refine gM rfl rfl ?_
        refine go_nil ?_
        rcases Bool.eq_false_or_eq_true (eq_Tcursor_Cursor x8.1 x14.1) with hb26 | hb26
        ·
          replace hF := ifT hb26 hF
          refine go_re 106 (v2 := .bool true) rfl (congrArg Value.bool hb26) ?_
          refine go_sop rfl rfl ?_
          refine g_do rfl rfl rfl ?_
          refine gr rfl (r_load (ot rfl) (lm_w (mem_seg 9 rfl) ag_34 sz_34 rfl)) ?_
          refine go_nil ?_
          refine go_sop rfl rfl ?_
          refine g_do rfl rfl rfl ?_
          refine gr rfl (r_load (ot rfl) (lm_w (mem_seg 7 rfl) ag_34 sz_34 rfl)) ?_
          refine go_nil ?_
          refine go_sopc [(9, .agg #[.int .i64 x14.2.1.Err, .int .i64 x14.2.1.Hor, .int .i64 x14.2.1.Upto, .slice a14_0 x14.2.1.Rows.length c14_0])] rfl rfl rfl (rc1 rfl (r_load (ot rfl) (lm_w (mem_seg 7 rfl) ag_34 sz_34 rfl)) rc0) (vq1 (veq_agg _ _ (va1 (veq_int _ _ _) (va1 (veq_int _ _ _) (va1 (veq_int _ _ _) (va1 (veq_sl _ _ _ _) (va0 _)))))) vq0) rfl ?_
          refine g_do rfl rfl rfl ?_
          replace hF := obind hF
          obtain ⟨x27, hx27, hF⟩ := hF
          refine g_call EE_fr (fun _ h => by cases h; rfl) of (os1 (ot rfl) os0) hb_14 (fun hf kn w => by exact s_law10_told w x8.2.1 ((((f8_2.ext e14.kn).ext e19.kn).ext e22.kn).ext kn) hx27) ?_
          rintro v27 h27 e27 w27 ⟨a27_0, c27_0, rfl, f27_0⟩
          refine go_nil ?_
          refine go_rck (rc1 rfl (r_load (ot rfl) (lm_w (mem_seg 7 rfl) ag_34 sz_34 rfl)) rc0) ?_
          refine go_sop rfl rfl ?_
          refine g_do rfl rfl rfl ?_
          replace hF := obind hF
          obtain ⟨x28, hx28, hF⟩ := hF
          refine g_call EE_fr (fun _ h => by cases h; rfl) of (os1 (ot rfl) os0) hb_14 (fun hf kn w => by exact s_law10_told w x14.2.1 ((((f14_2.ext e19.kn).ext e22.kn).ext e27.kn).ext kn) hx28) ?_
          rintro v28 h28 e28 w28 ⟨a28_0, c28_0, rfl, f28_0⟩
          refine go_nil ?_
          refine go_sop rfl rfl ?_
          refine g_do rfl rfl rfl ?_
          replace hF := obind hF
          obtain ⟨x29, hx29, hF⟩ := hF
          refine g_callp (v := .bool x29) EE_fr rfl of (os1 (ot rfl) (os1 (ot rfl) os0)) hb_13 (fun _ => rfl) (fun hf kn w => by exact s_ref10_Same w x27 x28 ((f27_0.ext e28.kn).ext kn) (f28_0.ext kn) hx29) ?_
          refine go_nil ?_
          refine go_sop rfl rfl ?_
          refine gr rfl (r_pkT (ot rfl) (ot rfl)) ?_
          refine go_nil ?_
          refine go_sop rfl rfl ?_
          refine gM rfl rfl ?_
          refine go_nil ?_
          rcases Bool.eq_false_or_eq_true x29 with hb30 | hb30
          ·
            replace hF := ifT hb30 hF
            refine go_re 113 (v2 := .bool true) rfl (congrArg Value.bool hb30) ?_
            refine go_sop rfl rfl ?_
            refine g_do rfl rfl rfl ?_
            refine gr rfl (r_fa (ot rfl) (fa_31_3 _ _)) ?_
            refine go_nil ?_
            refine go_sop rfl rfl ?_
            refine g_do rfl rfl rfl ?_
            refine gr rfl (r_load (ot rfl) (lm_s (mem_seg 10 rfl) ag_4 rfl)) ?_
            refine go_nil ?_
            refine go_sop rfl rfl ?_
            refine g_do rfl rfl rfl ?_
            refine gM rfl rfl ?_
            refine go_nil ?_
            rcases Bool.eq_false_or_eq_true x8.1.Dead with hb31 | hb31
            ·
              replace hF := ifT hb31 hF
              refine go_re 116 (v2 := .bool true) rfl (congrArg Value.bool hb31) ?_
              refine go_sskip rfl (w_no rfl rfl rfl rfl rfl) ?_
              refine g_no rfl rfl rfl rfl rfl ?_
              refine go_nil ?_
              refine go_sskip rfl (w_no rfl rfl rfl rfl rfl) ?_
              refine g_no rfl rfl rfl rfl rfl ?_
              refine go_nil ?_
              refine go_sskip rfl (w_no rfl rfl rfl rfl rfl) ?_
              refine g_no rfl rfl rfl rfl rfl ?_
              refine go_nil ?_
              refine go_sop rfl rfl ?_
              refine g_do rfl rfl rfl ?_
              refine gr rfl (r_pkT (ot rfl) (oc rfl)) ?_
              refine go_nil ?_
              refine go_sop rfl rfl ?_
              refine gr rfl (r_pkT (ot rfl) (ot rfl)) ?_
              refine go_nil ?_
              refine go_sop rfl rfl ?_
              refine gA rfl rfl ?_
              refine go_nil ?_
              refine go_snil ?_
              obtain rfl := someI hF
              exact Goes.weak (J25 () _ (e27.trans e28) w28 trivial) (Sub.cons (Sub.nil _) rfl)
            ·
              replace hF := ifF hb31 hF
              refine go_re 116 (v2 := .bool false) rfl (congrArg Value.bool hb31) ?_
              refine go_sop rfl rfl ?_
              refine g_do rfl rfl rfl ?_
              refine gr rfl (r_load (ot rfl) (lm_w (mem_seg 6 rfl) ag_31 sz_31 rfl)) ?_
              refine go_nil ?_
              refine go_sop rfl rfl ?_
              refine g_do rfl rfl rfl ?_
              refine gr rfl (r_load (ot rfl) (lm_w (mem_seg 1 rfl) ag_31 sz_31 rfl)) ?_
              refine go_nil ?_
              refine go_sop rfl rfl ?_
              refine g_do rfl rfl rfl ?_
              refine gr rfl (r_bin (ot rfl) (ot rfl) bq_31) ?_
              refine go_nil ?_
              refine go_sop rfl rfl ?_
              refine g_do rfl rfl rfl ?_
              refine gr rfl (r_pkF (ot rfl) (ot rfl)) ?_
              refine go_nil ?_
              refine go_sop rfl rfl ?_
              refine gr rfl (r_pkT (ot rfl) (ot rfl)) ?_
              refine go_nil ?_
              refine go_sop rfl rfl ?_
              refine gA rfl rfl ?_
              refine go_nil ?_
              refine go_snil ?_
              obtain rfl := someI hF
              exact Goes.weak (J25 () _ (e27.trans e28) w28 trivial) (Sub.cons (Sub.nil _) rfl)
          ·
            replace hF := ifF hb30 hF
            refine go_re 113 (v2 := .bool false) rfl (congrArg Value.bool hb30) ?_
            refine go_sskip rfl (w_no rfl rfl rfl rfl rfl) ?_
            refine g_no rfl rfl rfl rfl rfl ?_
            refine go_nil ?_
            refine go_sskip rfl (w_no rfl rfl rfl rfl rfl) ?_
            refine g_no rfl rfl rfl rfl rfl ?_
            refine go_nil ?_
            refine go_sskip rfl (w_no rfl rfl rfl rfl rfl) ?_
            refine g_no rfl rfl rfl rfl rfl ?_
            refine go_nil ?_
            refine go_sskip rfl (w_nu rfl rfl rfl rfl) ?_
            refine g_nu rfl rfl rfl rfl ?_
            refine go_nil ?_
            refine go_sskip rfl (w_nu rfl rfl rfl rfl) ?_
            refine g_nu rfl rfl rfl rfl ?_
            refine go_nil ?_
            refine go_sskip rfl (w_nu rfl rfl rfl rfl) ?_
            refine g_nu rfl rfl rfl rfl ?_
            refine go_nil ?_
            refine go_sskip rfl (w_no rfl rfl rfl rfl rfl) ?_
            refine g_no rfl rfl rfl rfl rfl ?_
            refine go_nil ?_
            refine go_sop rfl rfl ?_
            refine gr rfl (r_pkF (ot rfl) (oc rfl)) ?_
            refine go_nil ?_
            refine go_sop rfl rfl ?_
            refine gA rfl rfl ?_
            refine go_nil ?_
            refine go_snil ?_
            obtain rfl := someI hF
            exact Goes.weak (J25 () _ (e27.trans e28) w28 trivial) (Sub.cons (Sub.nil _) rfl)
        ·
          replace hF := ifF hb26 hF
          refine go_re 106 (v2 := .bool false) rfl (congrArg Value.bool hb26) ?_
          refine go_sskip rfl (w_no rfl rfl rfl rfl rfl) ?_
          refine g_no rfl rfl rfl rfl rfl ?_
          refine go_nil ?_
          refine go_sskip rfl (w_no rfl rfl rfl rfl rfl) ?_
          refine g_no rfl rfl rfl rfl rfl ?_
          refine go_nil ?_
          refine go_sskip rfl (w_no rfl rfl rfl rfl rfl) ?_
          refine g_no rfl rfl rfl rfl rfl ?_
          refine go_nil ?_
          refine go_sskip rfl (w_no rfl rfl rfl rfl rfl) ?_
          refine g_no rfl rfl rfl rfl rfl ?_
          refine go_nil ?_
          refine go_sskip rfl (w_no rfl rfl rfl rfl rfl) ?_
          refine g_no rfl rfl rfl rfl rfl ?_
          refine go_nil ?_
          refine go_sop rfl rfl ?_
          refine gr rfl (r_pkF (ot rfl) (oc rfl)) ?_
          refine go_nil ?_
          refine go_sop rfl rfl ?_
          refine gM rfl rfl ?_
          refine go_nil ?_
          refine go_sskip rfl (w_no rfl rfl rfl rfl rfl) ?_
          refine g_no rfl rfl rfl rfl rfl ?_
          refine go_nil ?_
          refine go_sskip rfl (w_no rfl rfl rfl rfl rfl) ?_
          refine g_no rfl rfl rfl rfl rfl ?_
          refine go_nil ?_
          refine go_sskip rfl (w_no rfl rfl rfl rfl rfl) ?_
          refine g_no rfl rfl rfl rfl rfl ?_
          refine go_nil ?_
          refine go_sskip rfl (w_nu rfl rfl rfl rfl) ?_
          refine g_nu rfl rfl rfl rfl ?_
          refine go_nil ?_
          refine go_sskip rfl (w_nu rfl rfl rfl rfl) ?_
          refine g_nu rfl rfl rfl rfl ?_
          refine go_nil ?_
          refine go_sskip rfl (w_nu rfl rfl rfl rfl) ?_
          refine g_nu rfl rfl rfl rfl ?_
          refine go_nil ?_
          refine go_sskip rfl (w_no rfl rfl rfl rfl rfl) ?_
          refine g_no rfl rfl rfl rfl rfl ?_
          refine go_nil ?_
          refine go_sop rfl rfl ?_
          refine gr rfl (r_pkF (ot rfl) (oc rfl)) ?_
          refine go_nil ?_
          refine go_sop rfl rfl ?_
          refine gA rfl rfl ?_
          refine go_nil ?_
          refine go_snil ?_
          obtain rfl := someI hF
          exact Goes.weak (J25 () _ (HExt.refl _) w22 trivial) (Sub.cons (Sub.nil _) rfl)
    ·
      refine go_block ?_
      refine go_loop (α := (List Timpostlaw10_Deed) × Nat × Int × Int × (List (List TEvent)) × (List (ByteArray × (List TEvent))) × Option Addr × List Blk × List (ByteArray × Value) × Heap) (fun a => a.1 = List.drop a.2.1 p0 ∧ HExt h5 a.2.2.2.2.2.2.2.2.2 ∧ Wf a.2.2.2.2.2.2.2.2.2 ∧ F_law10_CursorTokens_L1 a.1 a.2.1 a.2.2.1 a.2.2.2.1 a.2.2.2.2.1 a.2.2.2.2.2.1 = some s6 ∧ AccR (Rep.sl R_TEvent 30) 30 a.2.2.2.2.2.2.2.2.2 a.2.2.2.2.2.2.2.1 (.slice a.2.2.2.2.2.2.1 a.2.2.2.2.1.length a.2.2.2.2.1.length) a.2.2.2.2.1 ∧ MR R_TEvent a.2.2.2.2.2.2.2.2.2 a.2.2.2.2.2.2.2.2.1 a.2.2.2.2.2.1) (fun a => a.1.length) (fun a => [(0, true, .slice a0_0 p0.length c0_0), (2, true, .int .u8 p2), (4, true, .pointer (some ⟨b4_1, 0, none⟩)), (6, true, .bool false), (7, true, .bool true), (8, true, .pointer (some ⟨b5_w0, 0, none⟩)), (9, true, .int .i64 (a.2.1 : Int))]) (fun a => (List.flatten [[⟨b5_w0, .cells [.int .i64 a.2.2.1, .int .i64 a.2.2.2.1, .map (some b5_w0m2), .slice a.2.2.2.2.2.2.1 a.2.2.2.2.1.length a.2.2.2.2.1.length] 90⟩], [⟨b5_w0m2, .map (encM kS id a.2.2.2.2.2.2.2.2.1)⟩], a.2.2.2.2.2.2.2.1, [⟨b4_1, .cells [.string p1.R.From, .string p1.R.To, .int .i64 p1.Next, .bool p1.Once, .bool p1.Dead] 25⟩]] : List Blk)) (fun a => a.2.2.2.2.2.2.2.2.2) ?_ (p0, 0, x5.bounds_rev, x5.bounds_hor, x5.rows, x5.keys, q5_w0_3, t5_w0_3, rw5_w0_2, h5) ⟨rfl, HExt.refl _, w5, hF, f5_1, f5_0⟩ (Sub.cons (Sub.cons (Sub.cons (Sub.cons (Sub.cons (Sub.cons (Sub.cons (Sub.nil _) rfl) rfl) rfl) rfl) rfl) rfl) rfl) rfl rfl
      rintro ⟨r32, i32, y32_0, y32_1, y32_2, y32_3, a32_0, a32_1, a32_2, h32⟩ ⟨hr32, e32, w32, hF, f32_2, f32_3⟩ ih32
      rcases r32 with _ | ⟨z32, r32⟩
      ·
        have hi32 := drop_nil hr32
        rw [F_law10_CursorTokens_L1.eq_1] at hF
        refine go_seq ?_
        refine go_seq ?_
        refine go_region ?_
        refine gM rfl rfl ?_
        refine gM rfl rfl ?_
        refine gr rfl (r_len rfl (os1 (ot rfl) os0) (fun _ _ => ln_48)) ?_
        refine gr rfl (r_bin (ot rfl) (ot rfl) rfl) ?_
        refine go_cast (.bool false) (congrArg Value.bool (decide_eq_false hi32)) ?_
        refine go_nil ?_
        refine g_cond (b := false) (ot rfl) (fun hc33 => ?_) (fun hc33 => ?_)
        · cases hc33
        refine go_exit rfl ?_
        obtain rfl := someI hF
        exact Goes.weak (J6 (a32_0, a32_1, a32_2) _ e32 w32 ⟨f32_2, f32_3⟩) (Sub.cons (Sub.cons (Sub.cons (Sub.cons (Sub.cons (Sub.nil _) rfl) rfl) rfl) rfl) rfl)
      ·
        obtain ⟨hi32, hx32, hr32⟩ := drop_cons hr32
        have hb32 := ((f0_0.ext e5.kn).ext e32.kn).1
        rw [F_law10_CursorTokens_L1.eq_2] at hF
        refine go_seq ?_
        refine go_seq ?_
        refine go_region ?_
        refine gM rfl rfl ?_
        refine gM rfl rfl ?_
        refine gr rfl (r_len rfl (os1 (ot rfl) os0) (fun _ _ => ln_48)) ?_
        refine gr rfl (r_bin (ot rfl) (ot rfl) rfl) ?_
        refine go_cast (.bool true) (congrArg Value.bool (decide_eq_true (Int.ofNat_lt.mpr hi32))) ?_
        refine go_nil ?_
        refine g_cond (b := true) (ot rfl) (fun hc34 => ?_) (fun hc34 => ?_)
        rotate_left
        · cases hc34
        refine go_skip ?_
        refine go_seq ?_
        refine go_block ?_
        refine go_seq ?_
        refine go_region ?_
        refine gM rfl rfl ?_
        refine gM rfl rfl ?_
        refine gM rfl rfl ?_
        obtain ⟨q35, row35, i35, cl35, rc35, sp35⟩ := ix (ik := .i64) (cap := c0_0) (E := EE) ((f0_0.ext e5.kn).ext e32.kn) ((getI_nat _ _).trans hx32) ut_48 sz_56 rfl
        obtain ⟨a35_0, c35_0, rfl, f35_0⟩ := rc35
        refine gr rfl (r_ia (ot rfl) (ot rfl) i35) ?_
        refine gr rfl (r_fa (ot rfl) (fs_56_1 sp35)) ?_
        refine gr rfl (r_load (ot rfl) (v := .slice a35_0 z32.Ops.length c35_0) (lo_e (fun hf kn => ld_field (r := [.int .i64 z32.Kind, .slice a35_0 z32.Ops.length c35_0, .int .i64 z32.Rev]) ag_54 (kn.cellsAt cl35) rfl))) ?_
        replace hF := obind hF
        obtain ⟨x36, hx36, hF⟩ := hF
        refine gs_call EE_fr w32 (.cons .z (.cons .z (.cons .z .nil))) (fun _ h => by cases h; rfl) of (os1 (ot rfl) (os1 (ot rfl) os0)) hb_19 (by exact s_hist_Hist_Apply w32 (⟨y32_0, y32_1, y32_3, y32_2⟩ : Ohist_Hist) z32.Ops f32_3 f32_2 f35_0 hx36) ?_
        rintro v36 S36 h36 e36 w36 ⟨rw36_y0_2, q36_y0_3, t36_y0_3, a36_0, c36_0, rfl, rfl, f36_0, f36_1, f36_2⟩
        simp only [List.cons_append, List.nil_append]
        refine go_nil ?_
        refine go_seq ?_
        refine go_region ?_
        refine gM rfl rfl ?_
        refine gM rfl rfl ?_
        obtain ⟨q37, row37, i37, cl37, rc37, sp37⟩ := ix (ik := .i64) (cap := c0_0) (E := EE) (((f0_0.ext e5.kn).ext e32.kn).ext e36.kn) ((getI_nat _ _).trans hx32) ut_48 sz_56 rfl
        obtain ⟨a37_0, c37_0, rfl, f37_0⟩ := rc37
        refine gr rfl (r_ia (ot rfl) (ot rfl) i37) ?_
        refine gr rfl (r_fa (ot rfl) (fs_56_0 sp37)) ?_
        refine gr rfl (r_load (ot rfl) (v := .int .i64 z32.Kind) (lo_e (fun hf kn => ld_field (r := [.int .i64 z32.Kind, .slice a37_0 z32.Ops.length c37_0, .int .i64 z32.Rev]) ag_3 (kn.cellsAt cl37) rfl))) ?_
        refine gr rfl (r_bin (ot rfl) (oc rfl) rfl) ?_
        refine go_nil ?_
        replace hF := obind hF
        obtain ⟨s39, hF, hK39⟩ := hF
        refine go_joinc (β := Option Addr × List Blk × List (ByteArray × Value)) (fun s h' => AccR (Rep.sl R_TEvent 30) 30 h' s.2.1 (.slice s.1 s39.2.2.1.length s39.2.2.1.length) s39.2.2.1 ∧ MR R_TEvent h' s.2.2 s39.2.2.2) (fun s => [(0, true, .slice a0_0 p0.length c0_0), (2, true, .int .u8 p2), (4, true, .pointer (some ⟨b4_1, 0, none⟩)), (6, true, .bool false), (7, true, .bool true), (8, true, .pointer (some ⟨b5_w0, 0, none⟩)), (9, true, .int .i64 (i32 : Int)), (38, true, .int .i64 (i32 : Int)), (39, true, .slice a0_0 p0.length c0_0), (40, true, .int .i64 (p0.length : Int)), (41, true, .bool true), (44, true, .pointer (some ⟨b5_w0, 0, none⟩)), (45, true, .slice a0_0 p0.length c0_0), (46, true, .int .i64 (i32 : Int)), (47, true, .pointer (some q35)), (48, true, .pointer (some ⟨q35.block, q35.off + 1, q35.spot⟩)), (49, true, .slice a35_0 z32.Ops.length c35_0), (51, true, .slice a0_0 p0.length c0_0), (52, true, .int .i64 (i32 : Int)), (53, true, .pointer (some q37)), (54, true, .pointer (some ⟨q37.block, q37.off + 0, q37.spot⟩)), (55, true, .int .i64 z32.Kind), (56, true, .bool (z32.Kind == 2))]) (fun s => (List.flatten [[⟨b5_w0, .cells [.int .i64 s39.1, .int .i64 s39.2.1, .map (some b5_w0m2), .slice s.1 s39.2.2.1.length s39.2.2.1.length] 90⟩], [⟨b5_w0m2, .map (encM kS id s.2.2)⟩], s.2.1, [⟨b4_1, .cells [.string p1.R.From, .string p1.R.To, .int .i64 p1.Next, .bool p1.Once, .bool p1.Dead] 25⟩]] : List Blk)) ?_ (fun J39 => ?_)
        ·
          rintro ⟨a39_0, a39_1, a39_2⟩ h39 e39 w39 ⟨f39_2, f39_3⟩
          replace hF := hK39
          refine go_endb ?_
          refine go_region ?_
          refine gM rfl rfl ?_
          refine gr rfl (r_bin (ot rfl) (oc rfl) rfl) ?_
          refine gA rfl rfl ?_
          refine go_nil ?_
          refine go_re 9 (v2 := .int .i64 ((i32 + 1 : Nat) : Int)) rfl (wrap_succ hi32 hb32) ?_
          exact Goes.weak (ih32 (r32, i32 + 1, s39.1, s39.2.1, s39.2.2.1, s39.2.2.2, a39_0, a39_1, a39_2, h39) ⟨hr32, (e32.trans (e36.trans e39)), w39, hF, f39_2, f39_3⟩ (Nat.lt_succ_self _)) (Sub.cons (Sub.cons (Sub.cons (Sub.cons (Sub.cons (Sub.cons (Sub.cons (Sub.nil _) rfl) rfl) rfl) rfl) rfl) rfl) rfl)
        ·
          refine g_cond (b := (z32.Kind == 2)) (ot rfl) (fun hc38 => ?_) (fun hc38 => ?_)
          ·
            replace hF := ifT hc38 hF
            refine go_region ?_
            refine gM rfl rfl ?_
            refine gM rfl rfl ?_
            refine gM rfl rfl ?_
            obtain ⟨q40, row40, i40, cl40, rc40, sp40⟩ := ix (ik := .i64) (cap := c0_0) (E := EE) (((f0_0.ext e5.kn).ext e32.kn).ext e36.kn) ((getI_nat _ _).trans hx32) ut_48 sz_56 rfl
            obtain ⟨a40_0, c40_0, rfl, f40_0⟩ := rc40
            refine gr rfl (r_ia (ot rfl) (ot rfl) i40) ?_
            refine gr rfl (r_fa (ot rfl) (fs_56_2 sp40)) ?_
            refine gr rfl (r_load (ot rfl) (v := .int .i64 z32.Rev) (lo_e (fun hf kn => ld_field (r := [.int .i64 z32.Kind, .slice a40_0 z32.Ops.length c40_0, .int .i64 z32.Rev]) ag_3 (kn.cellsAt cl40) rfl))) ?_
            replace hF := obind hF
            obtain ⟨x41, hx41, hF⟩ := hF
            refine gs_call EE_fr w36 (.cons .z (.cons .z (.cons .z .nil))) (fun _ h => by cases h; rfl) of (os1 (ot rfl) (os1 (ot rfl) os0)) hb_29 (by exact s_hist_Hist_Compact w36 (⟨x36.2.bounds_rev, x36.2.bounds_hor, x36.2.keys, x36.2.rows⟩ : Ohist_Hist) z32.Rev f36_0 f36_1 hx41) ?_
            rintro v41 S41 h41 e41 w41 ⟨rw41_y0_2, q41_y0_3, t41_y0_3, rfl, rfl, f41_0, f41_1⟩
            simp only [List.cons_append, List.nil_append]
            refine go_nil ?_
            obtain rfl := someI hF
            exact Goes.weak (J39 (q41_y0_3, t41_y0_3, rw41_y0_2) _ e41 w41 ⟨f41_1, f41_0⟩) (Sub.cons (Sub.cons (Sub.cons (Sub.cons (Sub.cons (Sub.cons (Sub.cons (Sub.cons (Sub.cons (Sub.cons (Sub.cons (Sub.cons (Sub.cons (Sub.cons (Sub.cons (Sub.cons (Sub.cons (Sub.cons (Sub.cons (Sub.cons (Sub.cons (Sub.cons (Sub.cons (Sub.nil _) rfl) rfl) rfl) rfl) rfl) rfl) rfl) rfl) rfl) rfl) rfl) rfl) rfl) rfl) rfl) rfl) rfl) rfl) rfl) rfl) rfl) rfl) rfl)
          ·
            replace hF := ifF hc38 hF
            refine go_skip ?_
            obtain rfl := someI hF
            exact Goes.weak (J39 (q36_y0_3, t36_y0_3, rw36_y0_2) _ (HExt.refl _) w36 ⟨f36_1, f36_0⟩) (Sub.cons (Sub.cons (Sub.cons (Sub.cons (Sub.cons (Sub.cons (Sub.cons (Sub.cons (Sub.cons (Sub.cons (Sub.cons (Sub.cons (Sub.cons (Sub.cons (Sub.cons (Sub.cons (Sub.cons (Sub.cons (Sub.cons (Sub.cons (Sub.cons (Sub.cons (Sub.cons (Sub.nil _) rfl) rfl) rfl) rfl) rfl) rfl) rfl) rfl) rfl) rfl) rfl) rfl) rfl) rfl) rfl) rfl) rfl) rfl) rfl) rfl) rfl) rfl) rfl)
end Go.Proofs.Ytfgoccdjbgecfaa.V
