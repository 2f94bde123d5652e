/- Walks.
   No condition: these are laws of the clean machine and of this program. -/
import Derived.Test.YtfgoccdjbgecfaaPT
import Derived.Test.YtfgoccdjbgecfaaFc
import Derived.Test.YtfgoccdjbgecfaaWx
import Derived.Test.YtfgoccdjbgecfaaWm
import Derived.Test.YtfgoccdjbgecfaaWr
import Derived.Test.YtfgoccdjbgecfaaWs
import Derived.Test.YtfgoccdjbgecfaaWo
namespace Go.Proofs.Ytfgoccdjbgecfaa.V
open Go
set_option linter.unusedVariables false
set_option linter.unusedSimpArgs false
set_option maxRecDepth 100000
set_option maxHeartbeats 4000000
theorem s_law10_CursorEvents (n : Nat) {h : Heap} (hw : Wf h) (p0 : A2_ListTimpostlaw10_Deed) (p1 : TRange) (p2 : Int) {a0_0 : Option Addr} {c0_0 : Nat} {a0_1 : Option Addr} {c0_1 : Nat} (f0_0 : RL R_Timpostlaw10_Deed h a0_0 c0_0 p0.x0) (f0_1 : RL R_Timpostlaw10_Deed h a0_1 c0_1 p0.x1) {r : Bool} (hF : F_law10_CursorEvents n p0 p1 p2 = some r) :
    Ev EE 4 [.agg #[.slice a0_0 p0.x0.length c0_0, .slice a0_1 p0.x1.length c0_1], .agg #[.string p1.From, .string p1.To], .int .u8 p2] h (fun v _ => v = .bool r) := by
  unfold F_law10_CursorEvents at hF
  refine ev_of hw rfl at_4 rfl rfl (go_seg0 ?_)
  refine go_seq ?_
  refine go_region ?_
  refine gs_box rfl (ot rfl) rfl ?_; intro b3_1
  refine gs_box rfl (ot rfl) rfl ?_; intro b4_2
  refine gAc rfl rfl ?_
  refine go_nil ?_
  refine go_seq ?_
  refine go_region ?_
  refine g_callp EE_fr rfl of os0 hb_8 (fun _ => rfl) (fun hf kn w => by exact known_evp rfl hf w) ?_
  refine gA rfl rfl ?_
  refine go_nil ?_
  refine go_seq ?_
  refine go_region ?_
  refine gr rfl (r_ia (ot rfl) (oc rfl) (ja_49_0 _ _)) ?_
  refine gr rfl (r_load (ot rfl) (lm_s (mem_seg 1 rfl) ag_48 rfl)) ?_
  refine gA rfl rfl ?_
  refine go_nil ?_
  refine go_seq ?_
  refine go_region ?_
  refine gr rfl (r_ia (ot rfl) (oc rfl) (ja_49_1 _ _)) ?_
  refine gr rfl (r_load (ot rfl) (lm_s (mem_seg 1 rfl) ag_48 rfl)) ?_
  refine gA rfl rfl ?_
  refine go_nil ?_
  refine go_seq ?_
  refine go_seq ?_
  refine go_region ?_
  refine gM rfl rfl ?_
  replace hF := obind hF
  obtain ⟨x4, hx4, hF⟩ := hF
  refine g_callp (v := .bool x4) EE_fr rfl of (os1 (ot rfl) os0) hb_17 (fun _ => rfl) (fun hf kn w => by exact s_law10_few w p0.x0 (f0_0.ext kn) hx4) ?_
  refine gr rfl (r_un (ot rfl) rfl) ?_
  refine gM rfl rfl ?_
  replace hF := obind hF
  obtain ⟨s6, hF, hK6⟩ := hF
  refine go_joinr 4 (β := Unit) (fun s h' => True) (fun s => [(2, true, .int .u8 p2), (4, true, .pointer (some ⟨b4_2, 0, none⟩)), (6, true, .bool false), (7, true, .bool true), (8, true, .slice a0_0 p0.x0.length c0_0), (9, true, .slice a0_1 p0.x1.length c0_1), (37, true, .bool s6)]) (fun s => (List.flatten [[⟨b4_2, .cells [.string p1.From, .string p1.To] 23⟩], [⟨b3_1, .cells [.slice a0_0 p0.x0.length c0_0, .slice a0_1 p0.x1.length c0_1] 49⟩]] : List Blk)) ?_ (fun J6 => ?_)
  ·
    rintro _ h6 e6 w6 _
    replace hF := hK6
    refine go_nil ?_
    refine g_cond (b := s6) (ot rfl) (fun hc7 => ?_) (fun hc7 => ?_)
    ·
      replace hF := ifT hc7 hF
      refine go_seq ?_
      refine go_region ?_
      refine gM rfl rfl ?_
      refine gA rfl rfl ?_
      refine go_nil ?_
      obtain rfl := someI hF
      exact g_ret (rst rfl rs0) (fun h1 hf hs => ⟨(e6.trans hs.hext), rfl⟩)
    ·
      replace hF := ifF hc7 hF
      refine go_skip ?_
      refine go_seq ?_
      refine go_region ?_
      replace hF := obind hF
      obtain ⟨x8, hx8, hF⟩ := hF
      refine gs_call EE_fr w6 .nil (fun _ h => by cases h; rfl) of os0 hb_18 (by exact s_hist_New w6   hx8) ?_
      rintro v8 S8 h8 e8 w8 ⟨b8_w0, b8_w0m2, rw8_w0_2, q8_w0_3, t8_w0_3, rfl, rfl, f8_0, f8_1⟩
      simp only [List.cons_append, List.nil_append]
      refine gA rfl rfl ?_
      refine go_nil ?_
      refine go_seq ?_
      refine go_seq ?_
      refine go_region ?_
      refine gAc rfl rfl ?_
      refine go_nil ?_
      replace hF := obind hF
      obtain ⟨s9, hF, hK9⟩ := hF
      refine go_joinc (β := Option Addr × List Blk × List (ByteArray × Value)) (fun s h' => AccR (Rep.sl R_TEvent 30) 30 h' s.2.1 (.slice s.1 s9.2.2.1.length s9.2.2.1.length) s9.2.2.1 ∧ MR R_TEvent h' s.2.2 s9.2.2.2) (fun s => [(2, true, .int .u8 p2), (4, true, .pointer (some ⟨b4_2, 0, none⟩)), (6, true, .bool false), (7, true, .bool true), (9, true, .slice a0_1 p0.x1.length c0_1), (10, true, .pointer (some ⟨b8_w0, 0, none⟩))]) (fun s => (List.flatten [[⟨b8_w0, .cells [.int .i64 s9.1, .int .i64 s9.2.1, .map (some b8_w0m2), .slice s.1 s9.2.2.1.length s9.2.2.1.length] 90⟩], [⟨b8_w0m2, .map (encM kS id s.2.2)⟩], s.2.1, [⟨b4_2, .cells [.string p1.From, .string p1.To] 23⟩], [⟨b3_1, .cells [.slice a0_0 p0.x0.length c0_0, .slice a0_1 p0.x1.length c0_1] 49⟩]] : List Blk)) ?_ (fun J9 => ?_)
      ·
        rintro ⟨a9_0, a9_1, a9_2⟩ h9 e9 w9 ⟨f9_2, f9_3⟩
        replace hF := hK9
        refine go_seq ?_
        refine go_region ?_
        refine gM rfl rfl ?_
        refine gr rfl (r_load (ot rfl) (lm_w (mem_seg 3 rfl) ag_23 sz_23 rfl)) ?_
        replace hF := obind hF
        obtain ⟨x10, hx10, hF⟩ := hF
        refine gs_call EE_fr w9 (.cons .z (.cons .z (.cons .z .nil))) (fun _ h => by cases h; rfl) of (os1 (ot rfl) (os1 (ot rfl) (os1 (oc rfl) os0))) hb_20 (by exact s_cursor_Open n w9 (⟨s9.1, s9.2.1, s9.2.2.2, s9.2.2.1⟩ : Ohist_Hist) p1 0 f9_3 f9_2 hx10) ?_
        rintro v10 S10 h10 e10 w10 ⟨rw10_y0_2, q10_y0_3, t10_y0_3, a10_0, c10_0, rfl, rfl, f10_0, f10_1, f10_2⟩
        simp only [List.cons_append, List.nil_append]
        refine gM rfl rfl ?_
        refine gE rfl rfl rfl ?_
        refine gE rfl rfl rfl ?_
        refine gE rfl rfl rfl ?_
        refine gs_alloc rfl zo_31 rfl ?_; intro b12_11
        refine gs_store (ot rfl) (ot rfl) sz_31 rfl rfl rfl rfl rfl .z ?_
        refine gA rfl rfl ?_
        refine gA rfl rfl ?_
        refine go_nil ?_
        refine go_seq ?_
        refine go_seq ?_
        refine go_region ?_
        refine gAc rfl rfl ?_
        refine go_nil ?_
        replace hF := obind hF
        obtain ⟨s12, hF, hK12⟩ := hF
        refine go_joinc (β := Option Addr × List Blk × List (ByteArray × Value)) (fun s h' => AccR (Rep.sl R_TEvent 30) 30 h' s.2.1 (.slice s.1 s12.2.2.1.length s12.2.2.1.length) s12.2.2.1 ∧ MR R_TEvent h' s.2.2 s12.2.2.2) (fun s => [(2, true, .int .u8 p2), (4, true, .pointer (some ⟨b4_2, 0, none⟩)), (6, true, .bool false), (7, true, .bool true), (10, true, .pointer (some ⟨b8_w0, 0, none⟩)), (12, true, .pointer (some ⟨b12_11, 0, none⟩)), (14, true, .int .i64 x10.2.2.1)]) (fun s => (List.flatten [[⟨b12_11, .cells [.string x10.1.R.From, .string x10.1.R.To, .int .i64 x10.1.Next, .bool x10.1.Once, .bool x10.1.Dead] 31⟩], [⟨b8_w0, .cells [.int .i64 s12.1, .int .i64 s12.2.1, .map (some b8_w0m2), .slice s.1 s12.2.2.1.length s12.2.2.1.length] 90⟩], [⟨b8_w0m2, .map (encM kS id s.2.2)⟩], s.2.1, [⟨b4_2, .cells [.string p1.From, .string p1.To] 23⟩], [⟨b3_1, .cells [.slice a0_0 p0.x0.length c0_0, .slice a0_1 p0.x1.length c0_1] 49⟩]] : List Blk)) ?_ (fun J12 => ?_)
        ·
          rintro ⟨a12_0, a12_1, a12_2⟩ h12 e12 w12 ⟨f12_2, f12_3⟩
          replace hF := hK12
          refine go_seq ?_
          refine go_region ?_
          refine gAc rfl rfl ?_
          refine go_nil ?_
          refine go_seq ?_
          refine go_seq ?_
          refine go_region ?_
          refine gr rfl (r_fa (ot rfl) (fa_31_1 _ _)) ?_
          refine gr rfl (r_load (ot rfl) (lm_s (mem_seg 0 rfl) ag_3 rfl)) ?_
          refine gA rfl rfl ?_
          refine go_nil ?_
          replace hF := obind hF
          obtain ⟨s13, hF, hK13⟩ := hF
          refine go_joinc (β := Option Addr × List Blk × Option Addr × List Blk × List (ByteArray × Value)) (fun s h' => AccR R_TEvent 77 h' s.2.1 (.slice s.1 s13.1.length s13.1.length) s13.1 ∧ AccR (Rep.sl R_TEvent 30) 30 h' s.2.2.2.1 (.slice s.2.2.1 s13.2.2.2.1.length s13.2.2.2.1.length) s13.2.2.2.1 ∧ MR R_TEvent h' s.2.2.2.2 s13.2.2.2.2) (fun s => [(2, true, .int .u8 p2), (6, true, .bool false), (7, true, .bool true), (10, true, .pointer (some ⟨b8_w0, 0, none⟩)), (12, true, .pointer (some ⟨b12_11, 0, none⟩)), (14, true, .int .i64 x10.2.2.1), (16, true, .slice s.1 s13.1.length s13.1.length)]) (fun s => (List.flatten [s.2.1, [⟨b12_11, .cells [.string x10.1.R.From, .string x10.1.R.To, .int .i64 x10.1.Next, .bool x10.1.Once, .bool x10.1.Dead] 31⟩], [⟨b8_w0, .cells [.int .i64 s13.2.1, .int .i64 s13.2.2.1, .map (some b8_w0m2), .slice s.2.2.1 s13.2.2.2.1.length s13.2.2.2.1.length] 90⟩], [⟨b8_w0m2, .map (encM kS id s.2.2.2.2)⟩], s.2.2.2.1, [⟨b4_2, .cells [.string p1.From, .string p1.To] 23⟩], [⟨b3_1, .cells [.slice a0_0 p0.x0.length c0_0, .slice a0_1 p0.x1.length c0_1] 49⟩]] : List Blk)) ?_ (fun J13 => ?_)
          ·
            rintro ⟨a13_0, a13_1, a13_2, a13_3, a13_4⟩ h13 e13 w13 ⟨f13_0, f13_3, f13_4⟩
            replace hF := hK13
            refine go_seq ?_
            refine go_region ?_
            refine gAc rfl rfl ?_
            refine go_nil ?_
            refine go_seq ?_
            refine go_seq ?_
            refine go_region ?_
            refine gAc rfl rfl ?_
            refine go_nil ?_
            replace hF := obind hF
            obtain ⟨s14, hF, hK14⟩ := hF
            refine go_joinc (β := Option Addr × List Blk × Option Addr × List Blk × List (ByteArray × Value)) (fun s h' => AccR R_TEvent 77 h' s.2.1 (.slice s.1 s14.1.length s14.1.length) s14.1 ∧ AccR (Rep.sl R_TEvent 30) 30 h' s.2.2.2.1 (.slice s.2.2.1 s14.2.2.2.2.2.2.2.2.1.length s14.2.2.2.2.2.2.2.2.1.length) s14.2.2.2.2.2.2.2.2.1 ∧ MR R_TEvent h' s.2.2.2.2 s14.2.2.2.2.2.2.2.2.2) (fun s => [(6, true, .bool false), (7, true, .bool true), (10, true, .pointer (some ⟨b8_w0, 0, none⟩)), (12, true, .pointer (some ⟨b12_11, 0, none⟩)), (14, true, .int .i64 x10.2.2.1), (16, true, .slice a13_0 s13.1.length s13.1.length), (20, true, .slice s.1 s14.1.length s14.1.length)]) (fun s => (List.flatten [s.2.1, a13_1, [⟨b12_11, .cells [.string s14.2.1, .string s14.2.2.1, .int .i64 s14.2.2.2.1, .bool s14.2.2.2.2.1, .bool s14.2.2.2.2.2.1] 31⟩], [⟨b8_w0, .cells [.int .i64 s14.2.2.2.2.2.2.1, .int .i64 s14.2.2.2.2.2.2.2.1, .map (some b8_w0m2), .slice s.2.2.1 s14.2.2.2.2.2.2.2.2.1.length s14.2.2.2.2.2.2.2.2.1.length] 90⟩], [⟨b8_w0m2, .map (encM kS id s.2.2.2.2)⟩], s.2.2.2.1, [⟨b4_2, .cells [.string p1.From, .string p1.To] 23⟩], [⟨b3_1, .cells [.slice a0_0 p0.x0.length c0_0, .slice a0_1 p0.x1.length c0_1] 49⟩]] : List Blk)) ?_ (fun J14 => ?_)
            ·
              rintro ⟨a14_0, a14_1, a14_2, a14_3, a14_4⟩ h14 e14 w14 ⟨f14_0, f14_8, f14_9⟩
              replace hF := hK14
              refine go_seq ?_
              refine go_regions (L := [(0, []), (1, []), (2, []), (3, []), (4, []), (5, []), (6, []), (7, []), (8, []), (9, []), (10, []), (11, []), (12, []), (13, []), (14, [12]), (15, []), (16, []), (17, []), (18, [])]) (by kernel_rfl) (by kernel_rfl) (fun _ => rfl) ?_
              refine go_sop rfl rfl ?_
              refine gM rfl rfl ?_
              refine go_nil ?_
              refine go_sop rfl rfl ?_
              refine gM rfl rfl ?_
              refine go_nil ?_
              refine go_sop rfl rfl ?_
              refine g_do rfl rfl rfl ?_
              refine gM rfl rfl ?_
              refine go_nil ?_
              refine go_sop rfl rfl ?_
              refine g_do rfl rfl rfl ?_
              refine gr rfl (r_bin (ot rfl) (oc rfl) rfl) ?_
              refine go_nil ?_
              refine go_sop rfl rfl ?_
              refine gr rfl (r_pkT (ot rfl) (ot rfl)) ?_
              refine go_nil ?_
              refine go_sop rfl rfl ?_
              refine gM rfl rfl ?_
              refine go_nil ?_
              rcases Bool.eq_false_or_eq_true (x10.2.2.1 == 0) with hb15 | hb15
              ·
                replace hF := ifT hb15 hF
                refine go_re 130 (v2 := .bool true) rfl (congrArg Value.bool hb15) ?_
                refine go_sop rfl rfl ?_
                refine g_do rfl rfl rfl ?_
                refine gM rfl rfl ?_
                refine go_nil ?_
                refine go_sop rfl rfl ?_
                refine g_do rfl rfl rfl ?_
                refine gM rfl rfl ?_
                refine go_nil ?_
                refine go_sop rfl rfl ?_
                refine g_do rfl rfl rfl ?_
                refine gs_accpub (.s (.z)) (f13_0.ext e14.kn) (fun h17 e17 w17 f17_ => ?_) rfl
                replace hF := obind hF
                obtain ⟨x16, hx16, hF⟩ := hF
                refine gs_callb (v := .bool x16) EE_fr rfl .z (f14_0.ext e17.kn) rfl of (os1 (ot rfl) (os1 (ot rfl) os0)) hb_25 (fun hf kn w fb16 => by exact s_ref05_Events w s14.1 s13.1 fb16 (f17_.ext kn) hx16) ?_
                refine go_nil ?_
                refine go_sop rfl rfl ?_
                refine gr rfl (r_pkT (ot rfl) (ot rfl)) ?_
                refine go_nil ?_
                refine go_sop rfl rfl ?_
                refine gM rfl rfl ?_
                refine go_nil ?_
                rcases Bool.eq_false_or_eq_true x16 with hb18 | hb18
                ·
                  replace hF := ifT hb18 hF
                  refine go_re 135 (v2 := .bool true) rfl (congrArg Value.bool hb18) ?_
                  refine go_sop rfl rfl ?_
                  refine g_do rfl rfl rfl ?_
                  refine gr rfl (r_fa (ot rfl) (fa_31_1 _ _)) ?_
                  refine go_nil ?_
                  refine go_sop rfl rfl ?_
                  refine g_do rfl rfl rfl ?_
                  refine gr rfl (r_load (ot rfl) (lm_s (mem_seg 1 rfl) ag_3 rfl)) ?_
                  refine go_nil ?_
                  refine go_sop rfl rfl ?_
                  refine g_do rfl rfl rfl ?_
                  refine gM rfl rfl ?_
                  refine go_nil ?_
                  refine go_sopc [(12, .int .i64 s14.2.2.2.1)] rfl rfl rfl (rc1 rfl (r_load (ot rfl) (lm_s (mem_seg 1 rfl) ag_3 rfl)) rc0) (vq1 (veq_int _ _ _) vq0) rfl ?_
                  refine g_do rfl rfl rfl ?_
                  replace hF := obind hF
                  obtain ⟨x19, hx19, hF⟩ := hF
                  refine gs_call EE_fr w17 (.cons (.s (.s (.z))) (.cons (.s (.s (.z))) (.cons (.s (.s (.z))) .nil))) (fun _ h => by cases h; rfl) of (os1 (ot rfl) os0) hb_21 (by exact s_hist_Hist_Rev w17 (⟨s14.2.2.2.2.2.2.1, s14.2.2.2.2.2.2.2.1, s14.2.2.2.2.2.2.2.2.2, s14.2.2.2.2.2.2.2.2.1⟩ : Ohist_Hist) (f14_9.ext e17.kn) (f14_8.ext e17.kn) hx19) ?_
                  rintro v19 S19 h19 e19 w19 ⟨rw19_y0_2, q19_y0_3, t19_y0_3, rfl, rfl, f19_0, f19_1⟩
                  simp only [List.cons_append, List.nil_append]
                  refine go_nil ?_
                  refine go_rck (rc1 rfl (r_load (ot rfl) (lm_s (mem_seg 4 rfl) ag_3 rfl)) rc0) ?_
                  refine go_sop rfl rfl ?_
                  refine g_do rfl rfl rfl ?_
                  refine gr rfl (r_bin (ot rfl) (oc rfl) rfl) ?_
                  refine go_nil ?_
                  refine go_sop rfl rfl ?_
                  refine g_do rfl rfl rfl ?_
                  refine gr rfl (r_bin (ot rfl) (ot rfl) rfl) ?_
                  refine go_nil ?_
                  refine go_sop rfl rfl ?_
                  refine gr rfl (r_pkT (ot rfl) (ot rfl)) ?_
                  refine go_nil ?_
                  refine go_sop rfl rfl ?_
                  refine gA rfl rfl ?_
                  refine go_nil ?_
                  refine go_snil ?_
                  obtain rfl := someI hF
                  exact g_ret (rst rfl rs0) (fun h1 hf hs => ⟨(e6.trans (e8.trans (e9.trans (e10.trans (e12.trans (e13.trans (e14.trans (e17.trans (e19.trans hs.hext))))))))), rfl⟩)
                ·
                  replace hF := ifF hb18 hF
                  refine go_re 135 (v2 := .bool false) rfl (congrArg Value.bool hb18) ?_
                  refine go_sskip rfl (w_no rfl rfl rfl rfl rfl) ?_
                  refine g_no rfl rfl rfl rfl rfl ?_
                  refine go_nil ?_
                  refine go_sskip rfl (w_no rfl rfl rfl rfl rfl) ?_
                  refine g_no rfl rfl rfl rfl rfl ?_
                  refine go_nil ?_
                  refine go_sskip rfl (w_no rfl rfl rfl rfl rfl) ?_
                  refine g_no rfl rfl rfl rfl rfl ?_
                  refine go_nil ?_
                  refine go_sskip rfl (w_no rfl rfl rfl rfl rfl) ?_
                  refine g_no rfl rfl rfl rfl rfl ?_
                  refine go_nil ?_
                  refine go_sskip rfl (w_no rfl rfl rfl rfl rfl) ?_
                  refine g_no rfl rfl rfl rfl rfl ?_
                  refine go_nil ?_
                  refine go_sskip rfl (w_no rfl rfl rfl rfl rfl) ?_
                  refine g_no rfl rfl rfl rfl rfl ?_
                  refine go_nil ?_
                  refine go_sop rfl rfl ?_
                  refine gr rfl (r_pkF (ot rfl) (oc rfl)) ?_
                  refine go_nil ?_
                  refine go_sop rfl rfl ?_
                  refine gA rfl rfl ?_
                  refine go_nil ?_
                  refine go_snil ?_
                  obtain rfl := someI hF
                  exact g_ret (rst rfl rs0) (fun h1 hf hs => ⟨(e6.trans (e8.trans (e9.trans (e10.trans (e12.trans (e13.trans (e14.trans (e17.trans hs.hext)))))))), rfl⟩)
              ·
                replace hF := ifF hb15 hF
                refine go_re 130 (v2 := .bool false) rfl (congrArg Value.bool hb15) ?_
                refine go_sskip rfl (w_no rfl rfl rfl rfl rfl) ?_
                refine g_no rfl rfl rfl rfl rfl ?_
                refine go_nil ?_
                refine go_sskip rfl (w_no rfl rfl rfl rfl rfl) ?_
                refine g_no rfl rfl rfl rfl rfl ?_
                refine go_nil ?_
                refine go_sskip rfl (w_no rfl rfl rfl rfl rfl) ?_
                refine g_no rfl rfl rfl rfl rfl ?_
                refine go_nil ?_
                refine go_sop rfl rfl ?_
                refine gr rfl (r_pkF (ot rfl) (oc rfl)) ?_
                refine go_nil ?_
                refine go_sop rfl rfl ?_
                refine gM rfl rfl ?_
                refine go_nil ?_
                refine go_sskip rfl (w_no rfl rfl rfl rfl rfl) ?_
                refine g_no rfl rfl rfl rfl rfl ?_
                refine go_nil ?_
                refine go_sskip rfl (w_no rfl rfl rfl rfl rfl) ?_
                refine g_no rfl rfl rfl rfl rfl ?_
                refine go_nil ?_
                refine go_sskip rfl (w_no rfl rfl rfl rfl rfl) ?_
                refine g_no rfl rfl rfl rfl rfl ?_
                refine go_nil ?_
                refine go_sskip rfl (w_no rfl rfl rfl rfl rfl) ?_
                refine g_no rfl rfl rfl rfl rfl ?_
                refine go_nil ?_
                refine go_sskip rfl (w_no rfl rfl rfl rfl rfl) ?_
                refine g_no rfl rfl rfl rfl rfl ?_
                refine go_nil ?_
                refine go_sskip rfl (w_no rfl rfl rfl rfl rfl) ?_
                refine g_no rfl rfl rfl rfl rfl ?_
                refine go_nil ?_
                refine go_sop rfl rfl ?_
                refine gr rfl (r_pkF (ot rfl) (oc rfl)) ?_
                refine go_nil ?_
                refine go_sop rfl rfl ?_
                refine gA rfl rfl ?_
                refine go_nil ?_
                refine go_snil ?_
                obtain rfl := someI hF
                exact g_ret (rst rfl rs0) (fun h1 hf hs => ⟨(e6.trans (e8.trans (e9.trans (e10.trans (e12.trans (e13.trans (e14.trans hs.hext))))))), rfl⟩)
            ·
              refine go_block ?_
              refine go_loop (α := Nat × (List TEvent) × Int × ByteArray × ByteArray × Int × Bool × Bool × Int × Int × (List (List TEvent)) × (List (ByteArray × (List TEvent))) × Option Addr × List Blk × Option Addr × List Blk × List (ByteArray × Value) × Heap) (fun a => HExt h13 a.2.2.2.2.2.2.2.2.2.2.2.2.2.2.2.2.2 ∧ Wf a.2.2.2.2.2.2.2.2.2.2.2.2.2.2.2.2.2 ∧ F_law10_CursorEvents_L1 n p2 a.1 a.2.1 a.2.2.1 a.2.2.2.1 a.2.2.2.2.1 a.2.2.2.2.2.1 a.2.2.2.2.2.2.1 a.2.2.2.2.2.2.2.1 a.2.2.2.2.2.2.2.2.1 a.2.2.2.2.2.2.2.2.2.1 a.2.2.2.2.2.2.2.2.2.2.1 a.2.2.2.2.2.2.2.2.2.2.2.1 = some s14 ∧ AccR R_TEvent 77 a.2.2.2.2.2.2.2.2.2.2.2.2.2.2.2.2.2 a.2.2.2.2.2.2.2.2.2.2.2.2.2.1 (.slice a.2.2.2.2.2.2.2.2.2.2.2.2.1 a.2.1.length a.2.1.length) a.2.1 ∧ AccR (Rep.sl R_TEvent 30) 30 a.2.2.2.2.2.2.2.2.2.2.2.2.2.2.2.2.2 a.2.2.2.2.2.2.2.2.2.2.2.2.2.2.2.1 (.slice a.2.2.2.2.2.2.2.2.2.2.2.2.2.2.1 a.2.2.2.2.2.2.2.2.2.2.1.length a.2.2.2.2.2.2.2.2.2.2.1.length) a.2.2.2.2.2.2.2.2.2.2.1 ∧ MR R_TEvent a.2.2.2.2.2.2.2.2.2.2.2.2.2.2.2.2.2 a.2.2.2.2.2.2.2.2.2.2.2.2.2.2.2.2.1 a.2.2.2.2.2.2.2.2.2.2.2.1) (fun a => a.1) (fun a => [(2, true, .int .u8 p2), (6, true, .bool false), (7, true, .bool true), (10, true, .pointer (some ⟨b8_w0, 0, none⟩)), (12, true, .pointer (some ⟨b12_11, 0, none⟩)), (14, true, .int .i64 x10.2.2.1), (16, true, .slice a13_0 s13.1.length s13.1.length), (20, true, .slice a.2.2.2.2.2.2.2.2.2.2.2.2.1 a.2.1.length a.2.1.length), (21, true, .int .i64 a.2.2.1)]) (fun a => (List.flatten [a.2.2.2.2.2.2.2.2.2.2.2.2.2.1, a13_1, [⟨b12_11, .cells [.string a.2.2.2.1, .string a.2.2.2.2.1, .int .i64 a.2.2.2.2.2.1, .bool a.2.2.2.2.2.2.1, .bool a.2.2.2.2.2.2.2.1] 31⟩], [⟨b8_w0, .cells [.int .i64 a.2.2.2.2.2.2.2.2.1, .int .i64 a.2.2.2.2.2.2.2.2.2.1, .map (some b8_w0m2), .slice a.2.2.2.2.2.2.2.2.2.2.2.2.2.2.1 a.2.2.2.2.2.2.2.2.2.2.1.length a.2.2.2.2.2.2.2.2.2.2.1.length] 90⟩], [⟨b8_w0m2, .map (encM kS id a.2.2.2.2.2.2.2.2.2.2.2.2.2.2.2.2.1)⟩], a.2.2.2.2.2.2.2.2.2.2.2.2.2.2.2.1, [⟨b4_2, .cells [.string p1.From, .string p1.To] 23⟩], [⟨b3_1, .cells [.slice a0_0 p0.x0.length c0_0, .slice a0_1 p0.x1.length c0_1] 49⟩]] : List Blk)) (fun a => a.2.2.2.2.2.2.2.2.2.2.2.2.2.2.2.2.2) ?_ (n, ([] : List TEvent), 0, x10.1.R.From, x10.1.R.To, x10.1.Next, x10.1.Once, x10.1.Dead, s13.2.1, s13.2.2.1, s13.2.2.2.1, s13.2.2.2.2, none, [], a13_2, a13_3, a13_4, h13) ⟨HExt.refl _, w13, hF, (AccR.nil _ _ _), f13_3, f13_4⟩ (Sub.cons (Sub.cons (Sub.cons (Sub.cons (Sub.cons (Sub.cons (Sub.cons (Sub.cons (Sub.cons (Sub.nil _) rfl) rfl) rfl) rfl) rfl) rfl) rfl) rfl) rfl) rfl rfl
              rintro ⟨m20, y20_0, y20_1, y20_2, y20_3, y20_4, y20_5, y20_6, y20_7, y20_8, y20_9, y20_10, a20_0, a20_1, a20_2, a20_3, a20_4, h20⟩ ⟨e20, w20, hF, f20_0, f20_9, f20_10⟩ ih20
              rcases m20 with _ | m20
              ·
                rw [F_law10_CursorEvents_L1.eq_1] at hF; cases hF
              ·
                rw [F_law10_CursorEvents_L1.eq_2] at hF
                refine go_seq ?_
                refine go_seq ?_
                refine go_region ?_
                refine gM rfl rfl ?_
                refine gr rfl (r_bin (ot rfl) (oc rfl) rfl) ?_
                refine go_nil ?_
                refine g_cond (b := (decide (y20_1 < 31))) (ot rfl) (fun hc21 => ?_) (fun hc21 => ?_)
                ·
                  replace hF := ifT hc21 hF
                  refine go_skip ?_
                  refine go_seq ?_
                  refine go_block ?_
                  refine go_seq ?_
                  refine go_region ?_
                  refine gr rfl (r_load (ot rfl) (lm_w (mem_seg 2 rfl) ag_31 sz_31 rfl)) ?_
                  refine gM rfl rfl ?_
                  refine gM rfl rfl ?_
                  refine gr rfl (r_bin (ot rfl) (oc rfl) rfl) ?_
                  refine gr rfl (r_conv (ot rfl) rfl) ?_
                  refine gr rfl (r_bin (oc rfl) (ot rfl) rfl) ?_
                  replace hF := obind hF
                  obtain ⟨x22, hx22, hF⟩ := hF
                  refine gs_call EE_fr w20 (.cons (.s (.s (.s (.z)))) (.cons (.s (.s (.s (.z)))) (.cons (.s (.s (.s (.z)))) .nil))) (fun _ h => by cases h; rfl) of (os1 (ot rfl) (os1 (ot rfl) (os1 (ot rfl) os0))) hb_24 (by exact s_cursor_Poll n w20 (⟨(⟨y20_2, y20_3⟩ : TRange), y20_4, y20_5, y20_6⟩ : Tcursor_Cursor) (⟨y20_7, y20_8, y20_10, y20_9⟩ : Ohist_Hist) (IntKind.i64.wrap (1 + (IntKind.i64.wrap (Int.tmod p2 4)))) f20_10 f20_9 hx22) ?_
                  rintro v22 S22 h22 e22 w22 ⟨rw22_y0_2, q22_y0_3, t22_y0_3, a22_0, c22_0, rfl, rfl, f22_0, f22_1, f22_2⟩
                  simp only [List.cons_append, List.nil_append]
                  refine gM rfl rfl ?_
                  refine gE rfl rfl rfl ?_
                  refine gE rfl rfl rfl ?_
                  refine gs_alloc rfl zo_31 rfl ?_; intro b22_23
                  refine gs_alloc rfl zo_34 rfl ?_; intro b23_24
                  refine gs_store (ot rfl) (ot rfl) sz_31 rfl rfl rfl rfl rfl (.s (.z)) ?_
                  refine gs_store (ot rfl) (ot rfl) sz_34 rfl rfl rfl rfl rfl .z ?_
                  refine go_nil ?_
                  refine go_seq ?_
                  refine go_region ?_
                  refine gr rfl (r_load (ot rfl) (lm_w (mem_seg 1 rfl) ag_31 sz_31 rfl)) ?_
                  refine gs_store (ot rfl) (ot rfl) sz_31 rfl rfl rfl rfl rfl (.s (.s (.s (.s (.s (.s (.s (.z)))))))) ?_
                  refine go_nil ?_
                  refine go_seq ?_
                  refine go_region ?_
                  refine gAc rfl rfl ?_
                  refine go_nil ?_
                  replace hF := obind hF
                  obtain ⟨s25, hF, hK25⟩ := hF
                  refine go_joinc (β := Option Addr × List Blk) (fun s h' => AccR R_TEvent 77 h' s.2 (.slice s.1 s25.1.length s25.1.length) s25.1) (fun s => [(2, true, .int .u8 p2), (6, true, .bool false), (7, true, .bool true), (10, true, .pointer (some ⟨b8_w0, 0, none⟩)), (12, true, .pointer (some ⟨b12_11, 0, none⟩)), (14, true, .int .i64 x10.2.2.1), (16, true, .slice a13_0 s13.1.length s13.1.length), (20, true, .slice s.1 s25.1.length s25.1.length), (21, true, .int .i64 y20_1), (22, true, .pointer (some ⟨b22_23, 0, none⟩)), (23, true, .pointer (some ⟨b23_24, 0, none⟩)), (24, true, .int .i64 s25.2.1), (96, true, .int .i64 y20_1), (97, true, .bool (decide (y20_1 < 31))), (100, true, .tuple #[.agg #[.string x22.1.R.From, .string x22.1.R.To, .int .i64 x22.1.Next, .bool x22.1.Once, .bool x22.1.Dead], .agg #[.int .i64 x22.2.1.Err, .int .i64 x22.2.1.Hor, .int .i64 x22.2.1.Upto, .slice a22_0 x22.2.1.Rows.length c22_0]]), (101, true, .agg #[.string y20_2, .string y20_3, .int .i64 y20_4, .bool y20_5, .bool y20_6]), (102, true, .pointer (some ⟨b8_w0, 0, none⟩)), (103, true, .int .u8 p2), (104, true, .int .u8 (Int.tmod p2 4)), (105, true, .int .i64 (IntKind.i64.wrap (Int.tmod p2 4))), (106, true, .int .i64 (IntKind.i64.wrap (1 + (IntKind.i64.wrap (Int.tmod p2 4))))), (107, true, .tuple #[.agg #[.string x22.1.R.From, .string x22.1.R.To, .int .i64 x22.1.Next, .bool x22.1.Once, .bool x22.1.Dead], .agg #[.int .i64 x22.2.1.Err, .int .i64 x22.2.1.Hor, .int .i64 x22.2.1.Upto, .slice a22_0 x22.2.1.Rows.length c22_0]]), (108, true, .agg #[.string x22.1.R.From, .string x22.1.R.To, .int .i64 x22.1.Next, .bool x22.1.Once, .bool x22.1.Dead]), (109, true, .agg #[.int .i64 x22.2.1.Err, .int .i64 x22.2.1.Hor, .int .i64 x22.2.1.Upto, .slice a22_0 x22.2.1.Rows.length c22_0]), (110, true, .agg #[.string x22.1.R.From, .string x22.1.R.To, .int .i64 x22.1.Next, .bool x22.1.Once, .bool x22.1.Dead]), (111, true, .int .i64 s25.2.2), (113, true, .slice a22_0 x22.2.1.Rows.length c22_0), (114, true, .int .i64 (x22.2.1.Rows.length : Int)), (115, true, .bool false)]) (fun s => (List.flatten [[⟨b23_24, .cells [.int .i64 x22.2.1.Err, .int .i64 x22.2.1.Hor, .int .i64 x22.2.1.Upto, .slice a22_0 x22.2.1.Rows.length c22_0] 34⟩], [⟨b22_23, .cells [.string x22.1.R.From, .string x22.1.R.To, .int .i64 x22.1.Next, .bool x22.1.Once, .bool x22.1.Dead] 31⟩], [⟨b8_w0, .cells [.int .i64 x22.2.2.bounds_rev, .int .i64 x22.2.2.bounds_hor, .map (some b8_w0m2), .slice q22_y0_3 x22.2.2.rows.length x22.2.2.rows.length] 90⟩], [⟨b8_w0m2, .map (encM kS id rw22_y0_2)⟩], t22_y0_3, s.2, a13_1, [⟨b12_11, .cells [.string x22.1.R.From, .string x22.1.R.To, .int .i64 x22.1.Next, .bool x22.1.Once, .bool x22.1.Dead] 31⟩], [⟨b4_2, .cells [.string p1.From, .string p1.To] 23⟩], [⟨b3_1, .cells [.slice a0_0 p0.x0.length c0_0, .slice a0_1 p0.x1.length c0_1] 49⟩]] : List Blk)) ?_ (fun J25 => ?_)
                  ·
                    rintro ⟨a25_0, a25_1⟩ h25 e25 w25 f25_0
                    replace hF := hK25
                    refine go_endb ?_
                    refine go_region ?_
                    refine gM rfl rfl ?_
                    refine gr rfl (r_bin (ot rfl) (oc rfl) rfl) ?_
                    refine gA rfl rfl ?_
                    refine go_nil ?_
                    refine gs_sub (.cons _ (.cons _ (.cons_cons _ (.cons_cons _ (.cons_cons _ (.cons_cons _ (.cons_cons _ (.cons_cons _ (.cons_cons _ (.cons_cons _ (.refl _))))))))))) ?_
                    refine gs_perm (perm_of (d := []) _ [3, 4, 5, 0, 1, 2, 6, 7] rfl) ?_
                    exact Goes.weak (ih20 (m20, s25.1, (IntKind.i64.wrap (y20_1 + 1)), x22.1.R.From, x22.1.R.To, x22.1.Next, x22.1.Once, x22.1.Dead, x22.2.2.bounds_rev, x22.2.2.bounds_hor, x22.2.2.rows, x22.2.2.keys, a25_0, a25_1, q22_y0_3, t22_y0_3, rw22_y0_2, h25) ⟨(e20.trans (e22.trans e25)), w25, hF, f25_0, (f22_1.ext e25.kn), (f22_0.ext e25.kn)⟩ (Nat.lt_succ_self _)) (Sub.cons (Sub.cons (Sub.cons (Sub.cons (Sub.cons (Sub.cons (Sub.cons (Sub.cons (Sub.cons (Sub.nil _) rfl) rfl) rfl) rfl) rfl) rfl) rfl) rfl) rfl)
                  ·
                    refine go_block ?_
                    refine go_loop (α := (List (List TEvent)) × Nat × (List TEvent) × Option Addr × List Blk × Heap) (fun a => a.1 = List.drop a.2.1 x22.2.1.Rows ∧ HExt h22 a.2.2.2.2.2 ∧ Wf a.2.2.2.2.2 ∧ F_law10_CursorEvents_L2 a.1 a.2.1 a.2.2.1 = some s25 ∧ AccR R_TEvent 77 a.2.2.2.2.2 a.2.2.2.2.1 (.slice a.2.2.2.1 a.2.2.1.length a.2.2.1.length) a.2.2.1) (fun a => a.1.length) (fun a => [(2, true, .int .u8 p2), (6, true, .bool false), (7, true, .bool true), (10, true, .pointer (some ⟨b8_w0, 0, none⟩)), (12, true, .pointer (some ⟨b12_11, 0, none⟩)), (14, true, .int .i64 x10.2.2.1), (16, true, .slice a13_0 s13.1.length s13.1.length), (20, true, .slice a.2.2.2.1 a.2.2.1.length a.2.2.1.length), (21, true, .int .i64 y20_1), (22, true, .pointer (some ⟨b22_23, 0, none⟩)), (23, true, .pointer (some ⟨b23_24, 0, none⟩)), (24, true, .int .i64 (a.2.1 : Int)), (96, true, .int .i64 y20_1), (97, true, .bool (decide (y20_1 < 31))), (100, true, .tuple #[.agg #[.string x22.1.R.From, .string x22.1.R.To, .int .i64 x22.1.Next, .bool x22.1.Once, .bool x22.1.Dead], .agg #[.int .i64 x22.2.1.Err, .int .i64 x22.2.1.Hor, .int .i64 x22.2.1.Upto, .slice a22_0 x22.2.1.Rows.length c22_0]]), (101, true, .agg #[.string y20_2, .string y20_3, .int .i64 y20_4, .bool y20_5, .bool y20_6]), (102, true, .pointer (some ⟨b8_w0, 0, none⟩)), (103, true, .int .u8 p2), (104, true, .int .u8 (Int.tmod p2 4)), (105, true, .int .i64 (IntKind.i64.wrap (Int.tmod p2 4))), (106, true, .int .i64 (IntKind.i64.wrap (1 + (IntKind.i64.wrap (Int.tmod p2 4))))), (107, true, .tuple #[.agg #[.string x22.1.R.From, .string x22.1.R.To, .int .i64 x22.1.Next, .bool x22.1.Once, .bool x22.1.Dead], .agg #[.int .i64 x22.2.1.Err, .int .i64 x22.2.1.Hor, .int .i64 x22.2.1.Upto, .slice a22_0 x22.2.1.Rows.length c22_0]]), (108, true, .agg #[.string x22.1.R.From, .string x22.1.R.To, .int .i64 x22.1.Next, .bool x22.1.Once, .bool x22.1.Dead]), (109, true, .agg #[.int .i64 x22.2.1.Err, .int .i64 x22.2.1.Hor, .int .i64 x22.2.1.Upto, .slice a22_0 x22.2.1.Rows.length c22_0]), (110, true, .agg #[.string x22.1.R.From, .string x22.1.R.To, .int .i64 x22.1.Next, .bool x22.1.Once, .bool x22.1.Dead])]) (fun a => (List.flatten [[⟨b23_24, .cells [.int .i64 x22.2.1.Err, .int .i64 x22.2.1.Hor, .int .i64 x22.2.1.Upto, .slice a22_0 x22.2.1.Rows.length c22_0] 34⟩], [⟨b22_23, .cells [.string x22.1.R.From, .string x22.1.R.To, .int .i64 x22.1.Next, .bool x22.1.Once, .bool x22.1.Dead] 31⟩], [⟨b8_w0, .cells [.int .i64 x22.2.2.bounds_rev, .int .i64 x22.2.2.bounds_hor, .map (some b8_w0m2), .slice q22_y0_3 x22.2.2.rows.length x22.2.2.rows.length] 90⟩], [⟨b8_w0m2, .map (encM kS id rw22_y0_2)⟩], t22_y0_3, a.2.2.2.2.1, a13_1, [⟨b12_11, .cells [.string x22.1.R.From, .string x22.1.R.To, .int .i64 x22.1.Next, .bool x22.1.Once, .bool x22.1.Dead] 31⟩], [⟨b4_2, .cells [.string p1.From, .string p1.To] 23⟩], [⟨b3_1, .cells [.slice a0_0 p0.x0.length c0_0, .slice a0_1 p0.x1.length c0_1] 49⟩]] : List Blk)) (fun a => a.2.2.2.2.2) ?_ (x22.2.1.Rows, 0, y20_0, a20_0, a20_1, h22) ⟨rfl, HExt.refl _, w22, hF, (f20_0.ext e22.kn)⟩ (Sub.cons (Sub.cons (Sub.cons (Sub.cons (Sub.cons (Sub.cons (Sub.cons (Sub.cons (Sub.cons (Sub.cons (Sub.cons (Sub.cons (Sub.cons (Sub.cons (Sub.cons (Sub.cons (Sub.cons (Sub.cons (Sub.cons (Sub.cons (Sub.cons (Sub.cons (Sub.cons (Sub.cons (Sub.cons (Sub.nil _) rfl) rfl) rfl) rfl) rfl) rfl) rfl) rfl) rfl) rfl) rfl) rfl) rfl) rfl) rfl) rfl) rfl) rfl) rfl) rfl) rfl) rfl) rfl) rfl) rfl) rfl rfl
                    rintro ⟨r26, i26, y26_0, a26_0, a26_1, h26⟩ ⟨hr26, e26, w26, hF, f26_0⟩ ih26
                    rcases r26 with _ | ⟨z26, r26⟩
                    ·
                      have hi26 := drop_nil hr26
                      rw [F_law10_CursorEvents_L2.eq_1] at hF
                      refine go_seq ?_
                      refine go_seq ?_
                      refine go_region ?_
                      refine gM rfl rfl ?_
                      refine gr rfl (r_fa (ot rfl) (fa_34_3 _ _)) ?_
                      refine gr rfl (r_load (ot rfl) (lm_s (mem_seg 0 rfl) ag_28 rfl)) ?_
                      refine gr rfl (r_len rfl (os1 (ot rfl) os0) (fun _ _ => ln_28)) ?_
                      refine gr rfl (r_bin (ot rfl) (ot rfl) rfl) ?_
                      refine go_cast (.bool false) (congrArg Value.bool (decide_eq_false hi26)) ?_
                      refine go_nil ?_
                      refine g_cond (b := false) (ot rfl) (fun hc27 => ?_) (fun hc27 => ?_)
                      · cases hc27
                      refine go_exit rfl ?_
                      obtain rfl := someI hF
                      exact Goes.weak (J25 (a26_0, a26_1) _ e26 w26 f26_0) (Sub.cons (Sub.cons (Sub.cons (Sub.cons (Sub.cons (Sub.cons (Sub.cons (Sub.cons (Sub.cons (Sub.cons (Sub.cons (Sub.cons (Sub.cons (Sub.cons (Sub.cons (Sub.cons (Sub.cons (Sub.cons (Sub.cons (Sub.cons (Sub.cons (Sub.cons (Sub.cons (Sub.cons (Sub.cons (Sub.cons (Sub.cons (Sub.cons (Sub.cons (Sub.nil _) rfl) rfl) rfl) rfl) rfl) rfl) rfl) rfl) rfl) rfl) rfl) rfl) rfl) rfl) rfl) rfl) rfl) rfl) rfl) rfl) rfl) rfl) rfl) rfl) rfl) rfl) rfl) rfl) rfl)
                    ·
                      obtain ⟨hi26, hx26, hr26⟩ := drop_cons hr26
                      have hb26 := (f22_2.ext e26.kn).1
                      rw [F_law10_CursorEvents_L2.eq_2] at hF
                      refine go_seq ?_
                      refine go_seq ?_
                      refine go_region ?_
                      refine gM rfl rfl ?_
                      refine gr rfl (r_fa (ot rfl) (fa_34_3 _ _)) ?_
                      refine gr rfl (r_load (ot rfl) (lm_s (mem_seg 0 rfl) ag_28 rfl)) ?_
                      refine gr rfl (r_len rfl (os1 (ot rfl) os0) (fun _ _ => ln_28)) ?_
                      refine gr rfl (r_bin (ot rfl) (ot rfl) rfl) ?_
                      refine go_cast (.bool true) (congrArg Value.bool (decide_eq_true (Int.ofNat_lt.mpr hi26))) ?_
                      refine go_nil ?_
                      refine g_cond (b := true) (ot rfl) (fun hc28 => ?_) (fun hc28 => ?_)
                      rotate_left
                      · cases hc28
                      refine go_skip ?_
                      refine go_seq ?_
                      refine go_block ?_
                      refine go_region ?_
                      refine gM rfl rfl ?_
                      refine gr rfl (r_fa (ot rfl) (fa_34_3 _ _)) ?_
                      refine gr rfl (r_load (ot rfl) (lm_s (mem_seg 0 rfl) ag_28 rfl)) ?_
                      refine gM rfl rfl ?_
                      obtain ⟨q29, row29, i29, cl29, rc29, sp29⟩ := ix (ik := .i64) (cap := c22_0) (E := EE) (f22_2.ext e26.kn) ((getI_nat _ _).trans hx26) ut_28 sz_30 rfl
                      obtain ⟨a29_0, c29_0, rfl, f29_0⟩ := rc29
                      refine gr rfl (r_ia (ot rfl) (ot rfl) i29) ?_
                      refine gr rfl (r_load (ot rfl) (v := .slice a29_0 z26.length c29_0) (lo_e (fun hf kn => ld_one ag_30 (kn.cellsAt cl29)))) ?_
                      replace hF := obind hF
                      obtain ⟨x30, hx30, hF⟩ := hF
                      obtain ⟨hr30, hz30_⟩ := appL_some hx30; subst x30
                      refine gs_front (.s (.s (.s (.s (.s (.z)))))) ?_
                      obtain ⟨rw30, hw30, hq30⟩ := RL.first f29_0 (by decide)
                      refine gs_app (rows2 := rw30) (R := R_TEvent) rfl (os1 (ot rfl) (os1 (ot rfl) os0)) rfl ut_30 sz_77 rfl (by decide) by_77 zo_77 rfl zs_30_30 rfl rfl (first_e hq30 (fun h' kn => kn.firstV hq30)) hw30 f26_0 hr30 (fun p30_ tl30 f30_ => ?_)
                      refine gA rfl rfl ?_
                      refine go_nil ?_
                      refine go_endb ?_
                      refine go_region ?_
                      refine gM rfl rfl ?_
                      refine gr rfl (r_bin (ot rfl) (oc rfl) rfl) ?_
                      refine gA rfl rfl ?_
                      refine go_nil ?_
                      refine gs_perm (perm_of (d := []) _ [1, 2, 3, 4, 5, 0, 6, 7, 8, 9] rfl) ?_
                      refine go_re 24 (v2 := .int .i64 ((i26 + 1 : Nat) : Int)) rfl (wrap_succ hi26 hb26) ?_
                      exact Goes.weak (ih26 (r26, i26 + 1, (y26_0 ++ z26), p30_, tl30, h26) ⟨hr26, e26, w26, hF, f30_⟩ (Nat.lt_succ_self _)) (Sub.cons (Sub.cons (Sub.cons (Sub.cons (Sub.cons (Sub.cons (Sub.cons (Sub.cons (Sub.cons (Sub.cons (Sub.cons (Sub.cons (Sub.cons (Sub.cons (Sub.cons (Sub.cons (Sub.cons (Sub.cons (Sub.cons (Sub.cons (Sub.cons (Sub.cons (Sub.cons (Sub.cons (Sub.cons (Sub.nil _) rfl) rfl) rfl) rfl) rfl) rfl) rfl) rfl) rfl) rfl) rfl) rfl) rfl) rfl) rfl) rfl) rfl) rfl) rfl) rfl) rfl) rfl) rfl) rfl) rfl)
                ·
                  replace hF := ifF hc21 hF
                  refine go_exit rfl ?_
                  obtain rfl := someI hF
                  exact Goes.weak (J14 (a20_0, a20_1, a20_2, a20_3, a20_4) _ e20 w20 ⟨f20_0, f20_9, f20_10⟩) (Sub.cons (Sub.cons (Sub.cons (Sub.cons (Sub.cons (Sub.cons (Sub.cons (Sub.nil _) rfl) rfl) rfl) rfl) rfl) rfl) rfl)
          ·
            refine go_block ?_
            refine go_loop (α := Nat × (List TEvent) × Int × Int × Int × (List (List TEvent)) × (List (ByteArray × (List TEvent))) × Option Addr × List Blk × Option Addr × List Blk × List (ByteArray × Value) × Heap) (fun a => HExt h12 a.2.2.2.2.2.2.2.2.2.2.2.2 ∧ Wf a.2.2.2.2.2.2.2.2.2.2.2.2 ∧ F_law10_CursorEvents_L3 p1 a.1 a.2.1 a.2.2.1 a.2.2.2.1 a.2.2.2.2.1 a.2.2.2.2.2.1 a.2.2.2.2.2.2.1 = some s13 ∧ AccR R_TEvent 77 a.2.2.2.2.2.2.2.2.2.2.2.2 a.2.2.2.2.2.2.2.2.1 (.slice a.2.2.2.2.2.2.2.1 a.2.1.length a.2.1.length) a.2.1 ∧ AccR (Rep.sl R_TEvent 30) 30 a.2.2.2.2.2.2.2.2.2.2.2.2 a.2.2.2.2.2.2.2.2.2.2.1 (.slice a.2.2.2.2.2.2.2.2.2.1 a.2.2.2.2.2.1.length a.2.2.2.2.2.1.length) a.2.2.2.2.2.1 ∧ MR R_TEvent a.2.2.2.2.2.2.2.2.2.2.2.2 a.2.2.2.2.2.2.2.2.2.2.2.1 a.2.2.2.2.2.2.1) (fun a => a.1) (fun a => [(2, true, .int .u8 p2), (4, true, .pointer (some ⟨b4_2, 0, none⟩)), (6, true, .bool false), (7, true, .bool true), (10, true, .pointer (some ⟨b8_w0, 0, none⟩)), (12, true, .pointer (some ⟨b12_11, 0, none⟩)), (14, true, .int .i64 x10.2.2.1), (16, true, .slice a.2.2.2.2.2.2.2.1 a.2.1.length a.2.1.length), (17, true, .int .i64 a.2.2.1)]) (fun a => (List.flatten [a.2.2.2.2.2.2.2.2.1, [⟨b12_11, .cells [.string x10.1.R.From, .string x10.1.R.To, .int .i64 x10.1.Next, .bool x10.1.Once, .bool x10.1.Dead] 31⟩], [⟨b8_w0, .cells [.int .i64 a.2.2.2.1, .int .i64 a.2.2.2.2.1, .map (some b8_w0m2), .slice a.2.2.2.2.2.2.2.2.2.1 a.2.2.2.2.2.1.length a.2.2.2.2.2.1.length] 90⟩], [⟨b8_w0m2, .map (encM kS id a.2.2.2.2.2.2.2.2.2.2.2.1)⟩], a.2.2.2.2.2.2.2.2.2.2.1, [⟨b4_2, .cells [.string p1.From, .string p1.To] 23⟩], [⟨b3_1, .cells [.slice a0_0 p0.x0.length c0_0, .slice a0_1 p0.x1.length c0_1] 49⟩]] : List Blk)) (fun a => a.2.2.2.2.2.2.2.2.2.2.2.2) ?_ (n, ([] : List TEvent), x10.1.Next, s12.1, s12.2.1, s12.2.2.1, s12.2.2.2, none, [], a12_0, a12_1, a12_2, h12) ⟨HExt.refl _, w12, hF, (AccR.nil _ _ _), f12_2, f12_3⟩ (Sub.cons (Sub.cons (Sub.cons (Sub.cons (Sub.cons (Sub.cons (Sub.cons (Sub.cons (Sub.cons (Sub.nil _) rfl) rfl) rfl) rfl) rfl) rfl) rfl) rfl) rfl) rfl rfl
            rintro ⟨m31, y31_0, y31_1, y31_2, y31_3, y31_4, y31_5, a31_0, a31_1, a31_2, a31_3, a31_4, h31⟩ ⟨e31, w31, hF, f31_0, f31_4, f31_5⟩ ih31
            rcases m31 with _ | m31
            ·
              rw [F_law10_CursorEvents_L3.eq_1] at hF; cases hF
            ·
              rw [F_law10_CursorEvents_L3.eq_2] at hF
              refine go_seq ?_
              refine go_seq ?_
              refine go_region ?_
              refine gM rfl rfl ?_
              refine gr rfl (r_bin (ot rfl) (oc rfl) rfl) ?_
              refine gM rfl rfl ?_
              replace hF := obind hF
              obtain ⟨s33, hF, hK33⟩ := hF
              refine go_joinr 5 (β := Option Addr × List Blk × List (ByteArray × Value)) (fun s h' => AccR (Rep.sl R_TEvent 30) 30 h' s.2.1 (.slice s.1 s33.2.2.2.2.1.length s33.2.2.2.2.1.length) s33.2.2.2.2.1 ∧ MR R_TEvent h' s.2.2 s33.2.2.2.2.2) (fun s => [(2, true, .int .u8 p2), (4, true, .pointer (some ⟨b4_2, 0, none⟩)), (6, true, .bool false), (7, true, .bool true), (10, true, .pointer (some ⟨b8_w0, 0, none⟩)), (12, true, .pointer (some ⟨b12_11, 0, none⟩)), (14, true, .int .i64 x10.2.2.1), (16, true, .slice a31_0 y31_0.length y31_0.length), (17, true, .int .i64 y31_1), (75, true, .int .i64 y31_1), (76, true, .bool (decide (y31_1 ≥ 1))), (77, true, .bool s33.1), (82, true, .bool s33.2.1)]) (fun s => (List.flatten [a31_1, [⟨b12_11, .cells [.string x10.1.R.From, .string x10.1.R.To, .int .i64 x10.1.Next, .bool x10.1.Once, .bool x10.1.Dead] 31⟩], [⟨b8_w0, .cells [.int .i64 s33.2.2.1, .int .i64 s33.2.2.2.1, .map (some b8_w0m2), .slice s.1 s33.2.2.2.2.1.length s33.2.2.2.2.1.length] 90⟩], [⟨b8_w0m2, .map (encM kS id s.2.2)⟩], s.2.1, [⟨b4_2, .cells [.string p1.From, .string p1.To] 23⟩], [⟨b3_1, .cells [.slice a0_0 p0.x0.length c0_0, .slice a0_1 p0.x1.length c0_1] 49⟩]] : List Blk)) ?_ (fun J33 => ?_)
              ·
                rintro ⟨a33_0, a33_1, a33_2⟩ h33 e33 w33 ⟨f33_4, f33_5⟩
                replace hF := hK33
                refine go_nil ?_
                refine g_cond (b := s33.2.1) (ot rfl) (fun hc34 => ?_) (fun hc34 => ?_)
                ·
                  replace hF := ifT hc34 hF
                  refine go_skip ?_
                  refine go_seq ?_
                  refine go_block ?_
                  refine go_seq ?_
                  refine go_region ?_
                  refine gM rfl rfl ?_
                  refine gM rfl rfl ?_
                  replace hF := obind hF
                  obtain ⟨x35, hx35, hF⟩ := hF
                  refine gs_call EE_fr w33 (.cons (.s (.s (.z))) (.cons (.s (.s (.z))) (.cons (.s (.s (.z))) .nil))) (fun _ h => by cases h; rfl) of (os1 (ot rfl) (os1 (ot rfl) os0)) hb_22 (by exact s_hist_Hist_Events w33 (⟨s33.2.2.1, s33.2.2.2.1, s33.2.2.2.2.2, s33.2.2.2.2.1⟩ : Ohist_Hist) y31_1 f33_5 f33_4 hx35) ?_
                  rintro v35 S35 h35 e35 w35 ⟨rw35_y0_2, q35_y0_3, t35_y0_3, a35_0, c35_0, rfl, rfl, f35_0, f35_1, f35_2⟩
                  simp only [List.cons_append, List.nil_append]
                  refine gM rfl rfl ?_
                  refine gE rfl rfl rfl ?_
                  refine gE rfl rfl rfl ?_
                  refine gA rfl rfl ?_
                  refine gA rfl rfl ?_
                  refine go_nil ?_
                  refine go_region ?_
                  refine gM rfl rfl ?_
                  refine gM rfl rfl ?_
                  refine gr rfl (r_load (ot rfl) (lm_w (mem_seg 5 rfl) ag_23 sz_23 rfl)) ?_
                  replace hF := obind hF
                  obtain ⟨x36, hx36, hF⟩ := hF
                  refine g_call EE_fr (fun _ h => by cases h; rfl) of (os1 (ot rfl) (os1 (ot rfl) os0)) hb_23 (fun hf kn w => by exact s_ref05_Filter w x35.1 p1 (f35_2.ext kn) hx36) ?_
                  rintro v36 h36 e36 w36 ⟨a36_0, c36_0, rfl, f36_0⟩
                  replace hF := obind hF
                  obtain ⟨x37, hx37, hF⟩ := hF
                  obtain ⟨hr37, hz37_⟩ := appL_some hx37; subst x37
                  refine gs_front (.s (.s (.s (.z)))) ?_
                  obtain ⟨rw37, hw37, hq37⟩ := RL.first f36_0 (by decide)
                  refine gs_app (rows2 := rw37) (R := R_TEvent) rfl (os1 (ot rfl) (os1 (ot rfl) os0)) rfl ut_30 sz_77 rfl (by decide) by_77 zo_77 rfl zs_30_30 rfl rfl (first_e hq37 (fun h' kn => kn.firstV hq37)) hw37 (((f31_0.ext e33.kn).ext e35.kn).ext e36.kn) hr37 (fun p37_ tl37 f37_ => ?_)
                  refine gA rfl rfl ?_
                  refine go_nil ?_
                  refine go_endb ?_
                  refine go_region ?_
                  refine gM rfl rfl ?_
                  refine gr rfl (r_bin (ot rfl) (oc rfl) rfl) ?_
                  refine gA rfl rfl ?_
                  refine go_nil ?_
                  refine gs_perm (perm_of (d := []) _ [0, 4, 1, 2, 3, 5, 6] rfl) ?_
                  exact Goes.weak (ih31 (m31, (y31_0 ++ x36), (IntKind.i64.wrap (y31_1 + 1)), x35.2.2.bounds_rev, x35.2.2.bounds_hor, x35.2.2.rows, x35.2.2.keys, p37_, tl37, q35_y0_3, t35_y0_3, rw35_y0_2, h36) ⟨(e31.trans (e33.trans (e35.trans e36))), w36, hF, f37_, (f35_1.ext e36.kn), (f35_0.ext e36.kn)⟩ (Nat.lt_succ_self _)) (Sub.cons (Sub.cons (Sub.cons (Sub.cons (Sub.cons (Sub.cons (Sub.cons (Sub.cons (Sub.cons (Sub.nil _) rfl) rfl) rfl) rfl) rfl) rfl) rfl) rfl) rfl)
                ·
                  replace hF := ifF hc34 hF
                  refine go_exit rfl ?_
                  obtain rfl := someI hF
                  exact Goes.weak (J13 (a31_0, a31_1, a33_0, a33_1, a33_2) _ (e31.trans e33) w33 ⟨(f31_0.ext e33.kn), f33_4, f33_5⟩) (Sub.cons (Sub.cons (Sub.cons (Sub.cons (Sub.cons (Sub.cons (Sub.cons (Sub.nil _) rfl) rfl) rfl) rfl) rfl) rfl) rfl)
              ·
                rcases Bool.eq_false_or_eq_true (decide (y31_1 ≥ 1)) with hb32 | hb32
                ·
                  replace hF := ifT hb32 hF
                  refine go_re 77 (v2 := .bool true) rfl (congrArg Value.bool hb32) ?_
                  refine g_do rfl rfl rfl ?_
                  refine gM rfl rfl ?_
                  refine g_do rfl rfl rfl ?_
                  refine gM rfl rfl ?_
                  refine g_do rfl rfl rfl ?_
                  replace hF := obind hF
                  obtain ⟨x38, hx38, hF⟩ := hF
                  refine gs_call EE_fr w31 (.cons (.s (.s (.z))) (.cons (.s (.s (.z))) (.cons (.s (.s (.z))) .nil))) (fun _ h => by cases h; rfl) of (os1 (ot rfl) os0) hb_21 (by exact s_hist_Hist_Rev w31 (⟨y31_2, y31_3, y31_5, y31_4⟩ : Ohist_Hist) f31_5 f31_4 hx38) ?_
                  rintro v38 S38 h38 e38 w38 ⟨rw38_y0_2, q38_y0_3, t38_y0_3, rfl, rfl, f38_0, f38_1⟩
                  simp only [List.cons_append, List.nil_append]
                  refine g_do rfl rfl rfl ?_
                  refine gr rfl (r_bin (ot rfl) (ot rfl) rfl) ?_
                  refine gr rfl (r_pkT (ot rfl) (ot rfl)) ?_
                  obtain rfl := someI hF
                  refine gs_perm (perm_of (d := []) _ [3, 4, 0, 1, 2, 5, 6] rfl) ?_
                  exact Goes.weak (J33 (q38_y0_3, t38_y0_3, rw38_y0_2) _ e38 w38 ⟨f38_1, f38_0⟩) (Sub.cons (Sub.cons (Sub.cons (Sub.cons (Sub.cons (Sub.cons (Sub.cons (Sub.cons (Sub.cons (Sub.cons (Sub.cons (Sub.cons (Sub.cons (Sub.nil _) rfl) rfl) rfl) rfl) rfl) rfl) rfl) rfl) rfl) rfl) rfl) rfl) rfl)
                ·
                  replace hF := ifF hb32 hF
                  refine go_re 77 (v2 := .bool false) rfl (congrArg Value.bool hb32) ?_
                  refine g_no rfl rfl rfl rfl rfl ?_
                  refine g_no rfl rfl rfl rfl rfl ?_
                  refine g_no rfl rfl rfl rfl rfl ?_
                  refine g_no rfl rfl rfl rfl rfl ?_
                  refine gr rfl (r_pkF (ot rfl) (oc rfl)) ?_
                  obtain rfl := someI hF
                  exact Goes.weak (J33 (a31_2, a31_3, a31_4) _ (HExt.refl _) w31 ⟨f31_4, f31_5⟩) (Sub.cons (Sub.cons (Sub.cons (Sub.cons (Sub.cons (Sub.cons (Sub.cons (Sub.cons (Sub.cons (Sub.cons (Sub.cons (Sub.cons (Sub.cons (Sub.nil _) rfl) rfl) rfl) rfl) rfl) rfl) rfl) rfl) rfl) rfl) rfl) rfl) rfl)
        ·
          refine go_block ?_
          refine go_loop (α := (List Timpostlaw10_Deed) × Nat × Int × Int × (List (List TEvent)) × (List (ByteArray × (List TEvent))) × Option Addr × List Blk × List (ByteArray × Value) × Heap) (fun a => a.1 = List.drop a.2.1 p0.x1 ∧ HExt h10 a.2.2.2.2.2.2.2.2.2 ∧ Wf a.2.2.2.2.2.2.2.2.2 ∧ F_law10_CursorEvents_L4 a.1 a.2.1 a.2.2.1 a.2.2.2.1 a.2.2.2.2.1 a.2.2.2.2.2.1 = some s12 ∧ AccR (Rep.sl R_TEvent 30) 30 a.2.2.2.2.2.2.2.2.2 a.2.2.2.2.2.2.2.1 (.slice a.2.2.2.2.2.2.1 a.2.2.2.2.1.length a.2.2.2.2.1.length) a.2.2.2.2.1 ∧ MR R_TEvent a.2.2.2.2.2.2.2.2.2 a.2.2.2.2.2.2.2.2.1 a.2.2.2.2.2.1) (fun a => a.1.length) (fun a => [(2, true, .int .u8 p2), (4, true, .pointer (some ⟨b4_2, 0, none⟩)), (6, true, .bool false), (7, true, .bool true), (9, true, .slice a0_1 p0.x1.length c0_1), (10, true, .pointer (some ⟨b8_w0, 0, none⟩)), (12, true, .pointer (some ⟨b12_11, 0, none⟩)), (14, true, .int .i64 x10.2.2.1), (15, true, .int .i64 (a.2.1 : Int))]) (fun a => (List.flatten [[⟨b12_11, .cells [.string x10.1.R.From, .string x10.1.R.To, .int .i64 x10.1.Next, .bool x10.1.Once, .bool x10.1.Dead] 31⟩], [⟨b8_w0, .cells [.int .i64 a.2.2.1, .int .i64 a.2.2.2.1, .map (some b8_w0m2), .slice a.2.2.2.2.2.2.1 a.2.2.2.2.1.length a.2.2.2.2.1.length] 90⟩], [⟨b8_w0m2, .map (encM kS id a.2.2.2.2.2.2.2.2.1)⟩], a.2.2.2.2.2.2.2.1, [⟨b4_2, .cells [.string p1.From, .string p1.To] 23⟩], [⟨b3_1, .cells [.slice a0_0 p0.x0.length c0_0, .slice a0_1 p0.x1.length c0_1] 49⟩]] : List Blk)) (fun a => a.2.2.2.2.2.2.2.2.2) ?_ (p0.x1, 0, x10.2.2.2.bounds_rev, x10.2.2.2.bounds_hor, x10.2.2.2.rows, x10.2.2.2.keys, q10_y0_3, t10_y0_3, rw10_y0_2, h10) ⟨rfl, HExt.refl _, w10, hF, f10_1, f10_0⟩ (Sub.cons (Sub.cons (Sub.cons (Sub.cons (Sub.cons (Sub.cons (Sub.cons (Sub.cons (Sub.cons (Sub.nil _) rfl) rfl) rfl) rfl) rfl) rfl) rfl) rfl) rfl) rfl rfl
          rintro ⟨r39, i39, y39_0, y39_1, y39_2, y39_3, a39_0, a39_1, a39_2, h39⟩ ⟨hr39, e39, w39, hF, f39_2, f39_3⟩ ih39
          rcases r39 with _ | ⟨z39, r39⟩
          ·
            have hi39 := drop_nil hr39
            rw [F_law10_CursorEvents_L4.eq_1] at hF
            refine go_seq ?_
            refine go_seq ?_
            refine go_region ?_
            refine gM rfl rfl ?_
            refine gM rfl rfl ?_
            refine gr rfl (r_len rfl (os1 (ot rfl) os0) (fun _ _ => ln_48)) ?_
            refine gr rfl (r_bin (ot rfl) (ot rfl) rfl) ?_
            refine go_cast (.bool false) (congrArg Value.bool (decide_eq_false hi39)) ?_
            refine go_nil ?_
            refine g_cond (b := false) (ot rfl) (fun hc40 => ?_) (fun hc40 => ?_)
            · cases hc40
            refine go_exit rfl ?_
            obtain rfl := someI hF
            exact Goes.weak (J12 (a39_0, a39_1, a39_2) _ e39 w39 ⟨f39_2, f39_3⟩) (Sub.cons (Sub.cons (Sub.cons (Sub.cons (Sub.cons (Sub.cons (Sub.cons (Sub.nil _) rfl) rfl) rfl) rfl) rfl) rfl) rfl)
          ·
            obtain ⟨hi39, hx39, hr39⟩ := drop_cons hr39
            have hb39 := (((((f0_1.ext e6.kn).ext e8.kn).ext e9.kn).ext e10.kn).ext e39.kn).1
            rw [F_law10_CursorEvents_L4.eq_2] at hF
            refine go_seq ?_
            refine go_seq ?_
            refine go_region ?_
            refine gM rfl rfl ?_
            refine gM rfl rfl ?_
            refine gr rfl (r_len rfl (os1 (ot rfl) os0) (fun _ _ => ln_48)) ?_
            refine gr rfl (r_bin (ot rfl) (ot rfl) rfl) ?_
            refine go_cast (.bool true) (congrArg Value.bool (decide_eq_true (Int.ofNat_lt.mpr hi39))) ?_
            refine go_nil ?_
            refine g_cond (b := true) (ot rfl) (fun hc41 => ?_) (fun hc41 => ?_)
            rotate_left
            · cases hc41
            refine go_skip ?_
            refine go_seq ?_
            refine go_block ?_
            refine go_region ?_
            refine gM rfl rfl ?_
            refine gM rfl rfl ?_
            refine gM rfl rfl ?_
            obtain ⟨q42, row42, i42, cl42, rc42, sp42⟩ := ix (ik := .i64) (cap := c0_1) (E := EE) (((((f0_1.ext e6.kn).ext e8.kn).ext e9.kn).ext e10.kn).ext e39.kn) ((getI_nat _ _).trans hx39) ut_48 sz_56 rfl
            obtain ⟨a42_0, c42_0, rfl, f42_0⟩ := rc42
            refine gr rfl (r_ia (ot rfl) (ot rfl) i42) ?_
            refine gr rfl (r_fa (ot rfl) (fs_56_1 sp42)) ?_
            refine gr rfl (r_load (ot rfl) (v := .slice a42_0 z39.Ops.length c42_0) (lo_e (fun hf kn => ld_field (r := [.int .i64 z39.Kind, .slice a42_0 z39.Ops.length c42_0, .int .i64 z39.Rev]) ag_54 (kn.cellsAt cl42) rfl))) ?_
            replace hF := obind hF
            obtain ⟨x43, hx43, hF⟩ := hF
            refine gs_call EE_fr w39 (.cons (.s (.z)) (.cons (.s (.z)) (.cons (.s (.z)) .nil))) (fun _ h => by cases h; rfl) of (os1 (ot rfl) (os1 (ot rfl) os0)) hb_19 (by exact s_hist_Hist_Apply w39 (⟨y39_0, y39_1, y39_3, y39_2⟩ : Ohist_Hist) z39.Ops f39_3 f39_2 f42_0 hx43) ?_
            rintro v43 S43 h43 e43 w43 ⟨rw43_y0_2, q43_y0_3, t43_y0_3, a43_0, c43_0, rfl, rfl, f43_0, f43_1, f43_2⟩
            simp only [List.cons_append, List.nil_append]
            refine go_nil ?_
            refine go_endb ?_
            refine go_region ?_
            refine gM rfl rfl ?_
            refine gr rfl (r_bin (ot rfl) (oc rfl) rfl) ?_
            refine gA rfl rfl ?_
            refine go_nil ?_
            refine gs_perm (perm_of (d := []) _ [3, 0, 1, 2, 4, 5] rfl) ?_
            refine go_re 15 (v2 := .int .i64 ((i39 + 1 : Nat) : Int)) rfl (wrap_succ hi39 hb39) ?_
            exact Goes.weak (ih39 (r39, i39 + 1, x43.2.bounds_rev, x43.2.bounds_hor, x43.2.rows, x43.2.keys, q43_y0_3, t43_y0_3, rw43_y0_2, h43) ⟨hr39, (e39.trans e43), w43, hF, f43_1, f43_0⟩ (Nat.lt_succ_self _)) (Sub.cons (Sub.cons (Sub.cons (Sub.cons (Sub.cons (Sub.cons (Sub.cons (Sub.cons (Sub.cons (Sub.nil _) rfl) rfl) rfl) rfl) rfl) rfl) rfl) rfl) rfl)
      ·
        refine go_block ?_
        refine go_loop (α := (List Timpostlaw10_Deed) × Nat × Int × Int × (List (List TEvent)) × (List (ByteArray × (List TEvent))) × Option Addr × List Blk × List (ByteArray × Value) × Heap) (fun a => a.1 = List.drop a.2.1 p0.x0 ∧ HExt h8 a.2.2.2.2.2.2.2.2.2 ∧ Wf a.2.2.2.2.2.2.2.2.2 ∧ F_law10_CursorEvents_L5 a.1 a.2.1 a.2.2.1 a.2.2.2.1 a.2.2.2.2.1 a.2.2.2.2.2.1 = some s9 ∧ AccR (Rep.sl R_TEvent 30) 30 a.2.2.2.2.2.2.2.2.2 a.2.2.2.2.2.2.2.1 (.slice a.2.2.2.2.2.2.1 a.2.2.2.2.1.length a.2.2.2.2.1.length) a.2.2.2.2.1 ∧ MR R_TEvent a.2.2.2.2.2.2.2.2.2 a.2.2.2.2.2.2.2.2.1 a.2.2.2.2.2.1) (fun a => a.1.length) (fun a => [(2, true, .int .u8 p2), (4, true, .pointer (some ⟨b4_2, 0, none⟩)), (6, true, .bool false), (7, true, .bool true), (8, true, .slice a0_0 p0.x0.length c0_0), (9, true, .slice a0_1 p0.x1.length c0_1), (10, true, .pointer (some ⟨b8_w0, 0, none⟩)), (11, true, .int .i64 (a.2.1 : Int))]) (fun a => (List.flatten [[⟨b8_w0, .cells [.int .i64 a.2.2.1, .int .i64 a.2.2.2.1, .map (some b8_w0m2), .slice a.2.2.2.2.2.2.1 a.2.2.2.2.1.length a.2.2.2.2.1.length] 90⟩], [⟨b8_w0m2, .map (encM kS id a.2.2.2.2.2.2.2.2.1)⟩], a.2.2.2.2.2.2.2.1, [⟨b4_2, .cells [.string p1.From, .string p1.To] 23⟩], [⟨b3_1, .cells [.slice a0_0 p0.x0.length c0_0, .slice a0_1 p0.x1.length c0_1] 49⟩]] : List Blk)) (fun a => a.2.2.2.2.2.2.2.2.2) ?_ (p0.x0, 0, x8.bounds_rev, x8.bounds_hor, x8.rows, x8.keys, q8_w0_3, t8_w0_3, rw8_w0_2, h8) ⟨rfl, HExt.refl _, w8, hF, f8_1, f8_0⟩ (Sub.cons (Sub.cons (Sub.cons (Sub.cons (Sub.cons (Sub.cons (Sub.cons (Sub.cons (Sub.nil _) rfl) rfl) rfl) rfl) rfl) rfl) rfl) rfl) rfl rfl
        rintro ⟨r44, i44, y44_0, y44_1, y44_2, y44_3, a44_0, a44_1, a44_2, h44⟩ ⟨hr44, e44, w44, hF, f44_2, f44_3⟩ ih44
        rcases r44 with _ | ⟨z44, r44⟩
        ·
          have hi44 := drop_nil hr44
          rw [F_law10_CursorEvents_L5.eq_1] at hF
          refine go_seq ?_
          refine go_seq ?_
          refine go_region ?_
          refine gM rfl rfl ?_
          refine gM rfl rfl ?_
          refine gr rfl (r_len rfl (os1 (ot rfl) os0) (fun _ _ => ln_48)) ?_
          refine gr rfl (r_bin (ot rfl) (ot rfl) rfl) ?_
          refine go_cast (.bool false) (congrArg Value.bool (decide_eq_false hi44)) ?_
          refine go_nil ?_
          refine g_cond (b := false) (ot rfl) (fun hc45 => ?_) (fun hc45 => ?_)
          · cases hc45
          refine go_exit rfl ?_
          obtain rfl := someI hF
          exact Goes.weak (J9 (a44_0, a44_1, a44_2) _ e44 w44 ⟨f44_2, f44_3⟩) (Sub.cons (Sub.cons (Sub.cons (Sub.cons (Sub.cons (Sub.cons (Sub.nil _) rfl) rfl) rfl) rfl) rfl) rfl)
        ·
          obtain ⟨hi44, hx44, hr44⟩ := drop_cons hr44
          have hb44 := (((f0_0.ext e6.kn).ext e8.kn).ext e44.kn).1
          rw [F_law10_CursorEvents_L5.eq_2] at hF
          refine go_seq ?_
          refine go_seq ?_
          refine go_region ?_
          refine gM rfl rfl ?_
          refine gM rfl rfl ?_
          refine gr rfl (r_len rfl (os1 (ot rfl) os0) (fun _ _ => ln_48)) ?_
          refine gr rfl (r_bin (ot rfl) (ot rfl) rfl) ?_
          refine go_cast (.bool true) (congrArg Value.bool (decide_eq_true (Int.ofNat_lt.mpr hi44))) ?_
          refine go_nil ?_
          refine g_cond (b := true) (ot rfl) (fun hc46 => ?_) (fun hc46 => ?_)
          rotate_left
          · cases hc46
          refine go_skip ?_
          refine go_seq ?_
          refine go_block ?_
          refine go_region ?_
          refine gM rfl rfl ?_
          refine gM rfl rfl ?_
          refine gM rfl rfl ?_
          obtain ⟨q47, row47, i47, cl47, rc47, sp47⟩ := ix (ik := .i64) (cap := c0_0) (E := EE) (((f0_0.ext e6.kn).ext e8.kn).ext e44.kn) ((getI_nat _ _).trans hx44) ut_48 sz_56 rfl
          obtain ⟨a47_0, c47_0, rfl, f47_0⟩ := rc47
          refine gr rfl (r_ia (ot rfl) (ot rfl) i47) ?_
          refine gr rfl (r_fa (ot rfl) (fs_56_1 sp47)) ?_
          refine gr rfl (r_load (ot rfl) (v := .slice a47_0 z44.Ops.length c47_0) (lo_e (fun hf kn => ld_field (r := [.int .i64 z44.Kind, .slice a47_0 z44.Ops.length c47_0, .int .i64 z44.Rev]) ag_54 (kn.cellsAt cl47) rfl))) ?_
          replace hF := obind hF
          obtain ⟨x48, hx48, hF⟩ := hF
          refine gs_call EE_fr w44 (.cons .z (.cons .z (.cons .z .nil))) (fun _ h => by cases h; rfl) of (os1 (ot rfl) (os1 (ot rfl) os0)) hb_19 (by exact s_hist_Hist_Apply w44 (⟨y44_0, y44_1, y44_3, y44_2⟩ : Ohist_Hist) z44.Ops f44_3 f44_2 f47_0 hx48) ?_
          rintro v48 S48 h48 e48 w48 ⟨rw48_y0_2, q48_y0_3, t48_y0_3, a48_0, c48_0, rfl, rfl, f48_0, f48_1, f48_2⟩
          simp only [List.cons_append, List.nil_append]
          refine go_nil ?_
          refine go_endb ?_
          refine go_region ?_
          refine gM rfl rfl ?_
          refine gr rfl (r_bin (ot rfl) (oc rfl) rfl) ?_
          refine gA rfl rfl ?_
          refine go_nil ?_
          refine go_re 11 (v2 := .int .i64 ((i44 + 1 : Nat) : Int)) rfl (wrap_succ hi44 hb44) ?_
          exact Goes.weak (ih44 (r44, i44 + 1, x48.2.bounds_rev, x48.2.bounds_hor, x48.2.rows, x48.2.keys, q48_y0_3, t48_y0_3, rw48_y0_2, h48) ⟨hr44, (e44.trans e48), w48, hF, f48_1, f48_0⟩ (Nat.lt_succ_self _)) (Sub.cons (Sub.cons (Sub.cons (Sub.cons (Sub.cons (Sub.cons (Sub.cons (Sub.cons (Sub.nil _) rfl) rfl) rfl) rfl) rfl) rfl) rfl) rfl)
  ·
    rcases Bool.eq_false_or_eq_true (!x4) with hb5 | hb5
    ·
      replace hF := ifT hb5 hF
      refine go_re 33 (v2 := .bool true) rfl (congrArg Value.bool hb5) ?_
      refine g_no rfl rfl rfl rfl rfl ?_
      refine g_no rfl rfl rfl rfl rfl ?_
      refine g_no rfl rfl rfl rfl rfl ?_
      refine gr rfl (r_pkT (ot rfl) (oc rfl)) ?_
      obtain rfl := someI hF
      exact Goes.weak (J6 () _ (HExt.refl _) hw trivial) (Sub.cons (Sub.cons (Sub.cons (Sub.cons (Sub.cons (Sub.cons (Sub.cons (Sub.nil _) rfl) rfl) rfl) rfl) rfl) rfl) rfl)
    ·
      replace hF := ifF hb5 hF
      refine go_re 33 (v2 := .bool false) rfl (congrArg Value.bool hb5) ?_
      refine g_do rfl rfl rfl ?_
      refine gM rfl rfl ?_
      refine g_do rfl rfl rfl ?_
      replace hF := obind hF
      obtain ⟨x49, hx49, hF⟩ := hF
      refine g_callp (v := .bool x49) EE_fr rfl of (os1 (ot rfl) os0) hb_17 (fun _ => rfl) (fun hf kn w => by exact s_law10_few w p0.x1 (f0_1.ext kn) hx49) ?_
      refine g_do rfl rfl rfl ?_
      refine gr rfl (r_un (ot rfl) rfl) ?_
      refine gr rfl (r_pkF (ot rfl) (ot rfl)) ?_
      obtain rfl := someI hF
      exact Goes.weak (J6 () _ (HExt.refl _) hw trivial) (Sub.cons (Sub.cons (Sub.cons (Sub.cons (Sub.cons (Sub.cons (Sub.cons (Sub.nil _) rfl) rfl) rfl) rfl) rfl) rfl) rfl)
end Go.Proofs.Ytfgoccdjbgecfaa.V
