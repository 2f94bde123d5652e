/- Walks.
   No condition: these are laws of the clean machine and of this program. -/
import Derived.Test.YtpfdandpmpmbiaaWc
namespace Go.Proofs.Ytpfdandpmpmbiaa.V
open Go
set_option linter.unusedVariables false
set_option linter.unusedSimpArgs false
set_option maxRecDepth 100000
set_option maxHeartbeats 4000000
theorem s_law06_HistHorizon (n : Nat) {h : Heap} (hw : Wf h) (p0 : (List Timpostlaw06_Deed)) (p1 : Int) {a0_0 : Option Addr} {c0_0 : Nat} (f0_0 : RL R_Timpostlaw06_Deed h a0_0 c0_0 p0) {r : Bool} (hF : F_law06_HistHorizon n p0 p1 = some r) :
    Ev EE 5 [.slice a0_0 p0.length c0_0, .int .i64 p1] h (fun v _ => v = .bool r) := by
  unfold F_law06_HistHorizon at hF
  refine ev_of hw rfl at_5 rfl rfl (go_seg0 ?_)
  refine go_seq ?_
  refine go_region ?_
  refine gAc rfl rfl ?_
  refine go_nil ?_
  refine go_seq ?_
  refine go_region ?_
  refine g_callp EE_fr rfl of os0 hb_14 (fun _ => rfl) (fun hf kn w => by exact known_evp rfl hf w) ?_
  refine gA rfl rfl ?_
  refine go_nil ?_
  refine go_seq ?_
  refine go_seq ?_
  refine go_region ?_
  refine gM rfl rfl ?_
  replace hF := obind hF
  obtain ⟨x2, hx2, hF⟩ := hF
  refine g_callp (v := .bool x2) EE_fr rfl of (os1 (ot rfl) os0) hb_15 (fun _ => rfl) (fun hf kn w => by exact s_law06_few w p0 (f0_0.ext kn) hx2) ?_
  refine gr rfl (r_un (ot rfl) rfl) ?_
  refine go_nil ?_
  refine g_cond (b := (!x2)) (ot rfl) (fun hc3 => ?_) (fun hc3 => ?_)
  ·
    replace hF := ifT hc3 hF
    refine go_seq ?_
    refine go_region ?_
    refine gM rfl rfl ?_
    refine gA rfl rfl ?_
    refine go_nil ?_
    obtain rfl := someI hF
    exact g_ret (rst rfl rs0) (fun h1 hf hs => ⟨hs.hext, rfl⟩)
  ·
    replace hF := ifF hc3 hF
    refine go_skip ?_
    refine go_seq ?_
    refine go_region ?_
    refine gM rfl rfl ?_
    replace hF := obind hF
    obtain ⟨x4, hx4, hF⟩ := hF
    refine gs_call EE_fr hw .nil (fun _ h => by cases h; rfl) of (os1 (ot rfl) os0) hb_16 (by exact s_law06_ran n hw p0 f0_0 hx4) ?_
    rintro v4 S4 h4 e4 w4 ⟨b4_w0, b4_w0m2, rw4_w0_2, q4_w0_3, t4_w0_3, rfl, rfl, f4_0, f4_1⟩
    simp only [List.cons_append, List.nil_append]
    refine gA rfl rfl ?_
    refine go_nil ?_
    refine go_seq ?_
    refine go_region ?_
    refine gM rfl rfl ?_
    replace hF := obind hF
    obtain ⟨x5, hx5, hF⟩ := hF
    refine gs_call EE_fr w4 (.cons .z (.cons .z (.cons .z .nil))) (fun _ h => by cases h; rfl) of (os1 (ot rfl) os0) hb_20 (by exact s_hist_Hist_Hor w4 x4 f4_0 f4_1 hx5) ?_
    rintro v5 S5 h5 e5 w5 ⟨rw5_y0_2, q5_y0_3, t5_y0_3, rfl, rfl, f5_0, f5_1⟩
    simp only [List.cons_append, List.nil_append]
    refine gA rfl rfl ?_
    refine go_nil ?_
    refine go_seq ?_
    refine go_region ?_
    refine gM rfl rfl ?_
    replace hF := obind hF
    obtain ⟨x6, hx6, hF⟩ := hF
    refine gs_call EE_fr w5 (.cons .z (.cons .z (.cons .z .nil))) (fun _ h => by cases h; rfl) of (os1 (ot rfl) os0) hb_17 (by exact s_hist_Hist_Rev w5 (⟨x5.2.bounds_rev, x5.2.bounds_hor, x5.2.keys, x5.2.rows⟩ : Ohist_Hist) f5_0 f5_1 hx6) ?_
    rintro v6 S6 h6 e6 w6 ⟨rw6_y0_2, q6_y0_3, t6_y0_3, rfl, rfl, f6_0, f6_1⟩
    simp only [List.cons_append, List.nil_append]
    refine gA rfl rfl ?_
    refine go_nil ?_
    refine go_seq ?_
    refine go_region ?_
    refine gM rfl rfl ?_
    refine gM rfl rfl ?_
    refine gr rfl (r_build op0 rfl) ?_
    replace hF := obind hF
    obtain ⟨x7, hx7, hF⟩ := hF
    refine gs_call EE_fr w6 (.cons .z (.cons .z (.cons .z .nil))) (fun _ h => by cases h; rfl) of (os1 (ot rfl) (os1 (ot rfl) (os1 (ot rfl) os0))) hb_18 (by exact s_hist_Hist_At n w6 (⟨x6.2.bounds_rev, x6.2.bounds_hor, x6.2.keys, x6.2.rows⟩ : Ohist_Hist) x6.1 (⟨ByteArray.empty, ByteArray.empty⟩ : TRange) f6_0 f6_1 hx7) ?_
    rintro v7 S7 h7 e7 w7 ⟨rw7_y0_2, q7_y0_3, t7_y0_3, a7_0, c7_0, rfl, rfl, f7_0, f7_1, f7_2⟩
    simp only [List.cons_append, List.nil_append]
    refine gM rfl rfl ?_
    refine gE rfl rfl rfl ?_
    refine gE rfl rfl rfl ?_
    refine gA rfl rfl ?_
    refine gA rfl rfl ?_
    refine go_nil ?_
    refine go_seq ?_
    refine go_region ?_
    refine gM rfl rfl ?_
    refine gM rfl rfl ?_
    replace hF := obind hF
    obtain ⟨x8, hx8, hF⟩ := hF
    refine gs_call EE_fr w7 (.cons .z (.cons .z (.cons .z .nil))) (fun _ h => by cases h; rfl) of (os1 (ot rfl) (os1 (ot rfl) os0)) hb_24 (by exact s_hist_Hist_Compact w7 (⟨x7.2.2.bounds_rev, x7.2.2.bounds_hor, x7.2.2.keys, x7.2.2.rows⟩ : Ohist_Hist) p1 f7_0 f7_1 hx8) ?_
    rintro v8 S8 h8 e8 w8 ⟨rw8_y0_2, q8_y0_3, t8_y0_3, rfl, rfl, f8_0, f8_1⟩
    simp only [List.cons_append, List.nil_append]
    refine gA rfl rfl ?_
    refine go_nil ?_
    refine go_seq ?_
    refine go_region ?_
    refine gM rfl rfl ?_
    refine gM rfl rfl ?_
    refine gr rfl (r_build op0 rfl) ?_
    replace hF := obind hF
    obtain ⟨x9, hx9, hF⟩ := hF
    refine gs_call EE_fr w8 (.cons .z (.cons .z (.cons .z .nil))) (fun _ h => by cases h; rfl) of (os1 (ot rfl) (os1 (ot rfl) (os1 (ot rfl) os0))) hb_18 (by exact s_hist_Hist_At n w8 (⟨x8.2.bounds_rev, x8.2.bounds_hor, x8.2.keys, x8.2.rows⟩ : Ohist_Hist) x6.1 (⟨ByteArray.empty, ByteArray.empty⟩ : TRange) f8_0 f8_1 hx9) ?_
    rintro v9 S9 h9 e9 w9 ⟨rw9_y0_2, q9_y0_3, t9_y0_3, a9_0, c9_0, rfl, rfl, f9_0, f9_1, f9_2⟩
    simp only [List.cons_append, List.nil_append]
    refine gM rfl rfl ?_
    refine gE rfl rfl rfl ?_
    refine gE rfl rfl rfl ?_
    refine gA rfl rfl ?_
    refine gA rfl rfl ?_
    refine go_nil ?_
    refine go_seq ?_
    refine go_region ?_
    refine gM rfl rfl ?_
    refine gA rfl rfl ?_
    refine go_nil ?_
    refine go_seq ?_
    refine go_seq ?_
    refine go_region ?_
    refine gM rfl rfl ?_
    refine gr rfl (r_bin (ot rfl) (oc rfl) rfl) ?_
    refine gM rfl rfl ?_
    refine grt rfl rfl rfl rfl (r_move (ot rfl)) ?_
    refine grt rfl rfl rfl rfl (r_move (ot rfl)) ?_
    refine grt rfl rfl rfl rfl (r_bin (og rfl id) (og rfl id) rfl) ?_
    refine gr rfl (r_pickb (ot rfl) (og rfl id) (oc rfl)) ?_
    refine go_nil ?_
    replace hF := obind hF
    obtain ⟨s11, hF, hK11⟩ := hF
    refine go_joinc (β := Unit) (fun s h' => True) (fun s => [(1, true, .int .i64 p1), (4, true, .bool false), (5, true, .bool true), (6, true, .pointer (some ⟨b4_w0, 0, none⟩)), (8, true, .int .i64 x6.1), (9, true, .slice a7_0 x7.1.length c7_0), (11, true, .int .i64 x8.1), (12, true, .slice a9_0 x9.1.length c9_0), (13, true, .int .i64 x9.2.1), (14, true, .int .i64 s11)]) (fun s => (List.flatten [[⟨b4_w0, .cells [.int .i64 x9.2.2.bounds_rev, .int .i64 x9.2.2.bounds_hor, .map (some b4_w0m2), .slice q9_y0_3 x9.2.2.rows.length x9.2.2.rows.length] 100⟩], [⟨b4_w0m2, .map (encM kS id rw9_y0_2)⟩], t9_y0_3] : List Blk)) ?_ (fun J11 => ?_)
    ·
      rintro _ h11 e11 w11 _
      replace hF := hK11
      refine go_seq ?_
      refine go_region ?_
      refine gM rfl rfl ?_
      refine gM rfl rfl ?_
      refine g_do rfl rfl rfl ?_
      refine gM rfl rfl ?_
      refine g_do rfl rfl rfl ?_
      replace hF := obind hF
      obtain ⟨x12, hx12, hF⟩ := hF
      refine gs_call EE_fr w11 (.cons .z (.cons .z (.cons .z .nil))) (fun _ h => by cases h; rfl) of (os1 (ot rfl) os0) hb_20 (by exact s_hist_Hist_Hor w11 (⟨x9.2.2.bounds_rev, x9.2.2.bounds_hor, x9.2.2.keys, x9.2.2.rows⟩ : Ohist_Hist) (f9_0.ext e11.kn) (f9_1.ext e11.kn) hx12) ?_
      rintro v12 S12 h12 e12 w12 ⟨rw12_y0_2, q12_y0_3, t12_y0_3, rfl, rfl, f12_0, f12_1⟩
      simp only [List.cons_append, List.nil_append]
      refine g_do rfl rfl rfl ?_
      refine gM rfl rfl ?_
      refine g_do rfl rfl rfl ?_
      refine gr rfl (r_bin (ot rfl) (ot rfl) rfl) ?_
      refine gr rfl (r_pkT (ot rfl) (ot rfl)) ?_
      refine gM rfl rfl ?_
      replace hF := obind hF
      obtain ⟨s14, hF, hK14⟩ := hF
      refine go_joinr 5 (β := Option Addr × List Blk × List (ByteArray × Value)) (fun s h' => AccR (Rep.sl R_TEvent 50) 50 h' s.2.1 (.slice s.1 s14.2.2.2.1.length s14.2.2.2.1.length) s14.2.2.2.1 ∧ MR R_TEvent h' s.2.2 s14.2.2.2.2) (fun s => [(1, true, .int .i64 p1), (4, true, .bool false), (6, true, .pointer (some ⟨b4_w0, 0, none⟩)), (8, true, .int .i64 x6.1), (9, true, .slice a7_0 x7.1.length c7_0), (11, true, .int .i64 x8.1), (12, true, .slice a9_0 x9.1.length c9_0), (13, true, .int .i64 x9.2.1), (66, true, .bool s14.1)]) (fun s => (List.flatten [[⟨b4_w0, .cells [.int .i64 s14.2.1, .int .i64 s14.2.2.1, .map (some b4_w0m2), .slice s.1 s14.2.2.2.1.length s14.2.2.2.1.length] 100⟩], [⟨b4_w0m2, .map (encM kS id s.2.2)⟩], s.2.1] : List Blk)) ?_ (fun J14 => ?_)
      ·
        rintro ⟨a14_0, a14_1, a14_2⟩ h14 e14 w14 ⟨f14_3, f14_4⟩
        replace hF := hK14
        refine gM rfl rfl ?_
        refine grt rfl rfl rfl rfl (r_move (ot rfl)) ?_
        refine grt rfl rfl rfl rfl (r_bin (og rfl id) (oc rfl) rfl) ?_
        refine gr rfl (r_pickb (ot rfl) (og rfl id) (oc rfl)) ?_
        refine gM rfl rfl ?_
        replace hF := obind hF
        obtain ⟨s16, hF, hK16⟩ := hF
        refine go_joinr 4 (β := Unit) (fun s h' => True) (fun s => [(1, true, .int .i64 p1), (4, true, .bool false), (6, true, .pointer (some ⟨b4_w0, 0, none⟩)), (8, true, .int .i64 x6.1), (11, true, .int .i64 x8.1), (75, true, .bool s16)]) (fun s => (List.flatten [[⟨b4_w0, .cells [.int .i64 s14.2.1, .int .i64 s14.2.2.1, .map (some b4_w0m2), .slice a14_0 s14.2.2.2.1.length s14.2.2.2.1.length] 100⟩], [⟨b4_w0m2, .map (encM kS id a14_2)⟩], a14_1] : List Blk)) ?_ (fun J16 => ?_)
        ·
          rintro _ h16 e16 w16 _
          replace hF := hK16
          refine gM rfl rfl ?_
          refine grt rfl rfl rfl rfl (r_move (ot rfl)) ?_
          refine grt rfl rfl rfl rfl (r_bin (og rfl id) (oc rfl) rfl) ?_
          refine grt rfl rfl rfl rfl (r_move (ot rfl)) ?_
          refine grt rfl rfl rfl rfl (r_bin (og rfl id) (oc rfl) rfl) ?_
          refine grt rfl rfl rfl rfl (r_move (og rfl id)) ?_
          refine grt' rfl rfl rfl rfl (r_move (ot rfl)) ?_
          refine grt' rfl rfl rfl rfl (r_move (ot rfl)) ?_
          refine grt' rfl rfl rfl rfl (r_bin (og rfl id) (og rfl id) rfl) ?_
          refine grt rfl rfl rfl rfl (r_pickb (og rfl id) (og rfl id) (oc rfl)) ?_
          refine grt rfl rfl rfl rfl (r_bin (og rfl id) (og rfl id) be_4) ?_
          refine gr rfl (r_pickb (ot rfl) (og rfl id) (oc rfl)) ?_
          refine gM rfl rfl ?_
          replace hF := obind hF
          obtain ⟨s18, hF, hK18⟩ := hF
          refine go_joinr 5 (β := Option Addr × List Blk × List (ByteArray × Value)) (fun s h' => AccR (Rep.sl R_TEvent 50) 50 h' s.2.1 (.slice s.1 s18.2.2.2.1.length s18.2.2.2.1.length) s18.2.2.2.1 ∧ MR R_TEvent h' s.2.2 s18.2.2.2.2) (fun s => [(4, true, .bool false), (93, true, .bool s18.1)]) (fun s => (List.flatten [[⟨b4_w0, .cells [.int .i64 s18.2.1, .int .i64 s18.2.2.1, .map (some b4_w0m2), .slice s.1 s18.2.2.2.1.length s18.2.2.2.1.length] 100⟩], [⟨b4_w0m2, .map (encM kS id s.2.2)⟩], s.2.1] : List Blk)) ?_ (fun J18 => ?_)
          ·
            rintro ⟨a18_0, a18_1, a18_2⟩ h18 e18 w18 ⟨f18_3, f18_4⟩
            replace hF := hK18
            refine gA rfl rfl ?_
            refine go_nil ?_
            obtain rfl := someI hF
            exact g_ret (rst rfl rs0) (fun h1 hf hs => ⟨(e4.trans (e5.trans (e6.trans (e7.trans (e8.trans (e9.trans (e11.trans (e12.trans (e14.trans (e16.trans (e18.trans hs.hext))))))))))), rfl⟩)
          ·
            rcases Bool.eq_false_or_eq_true (bif s16 then ((x8.1 == 0) == (bif (decide (p1 ≥ 0)) then (decide (p1 ≤ x6.1)) else false)) else false) with hb17 | hb17
            ·
              replace hF := ifT hb17 hF
              refine go_re 88 (v2 := .bool true) rfl (congrArg Value.bool hb17) ?_
              refine g_do rfl rfl rfl ?_
              refine gM rfl rfl ?_
              refine g_do rfl rfl rfl ?_
              replace hF := obind hF
              obtain ⟨x19, hx19, hF⟩ := hF
              refine gs_call EE_fr w16 (.cons .z (.cons .z (.cons .z .nil))) (fun _ h => by cases h; rfl) of (os1 (ot rfl) os0) hb_20 (by exact s_hist_Hist_Hor w16 (⟨s14.2.1, s14.2.2.1, s14.2.2.2.2, s14.2.2.2.1⟩ : Ohist_Hist) (f14_4.ext e16.kn) (f14_3.ext e16.kn) hx19) ?_
              rintro v19 S19 h19 e19 w19 ⟨rw19_y0_2, q19_y0_3, t19_y0_3, rfl, rfl, f19_0, f19_1⟩
              simp only [List.cons_append, List.nil_append]
              refine g_do rfl rfl rfl ?_
              refine gM rfl rfl ?_
              refine g_do rfl rfl rfl ?_
              refine gr rfl (r_bin (ot rfl) (ot rfl) rfl) ?_
              refine gr rfl (r_pkT (ot rfl) (ot rfl)) ?_
              obtain rfl := someI hF
              exact Goes.weak (J18 (q19_y0_3, t19_y0_3, rw19_y0_2) _ e19 w19 ⟨f19_1, f19_0⟩) (Sub.cons (Sub.cons (Sub.nil _) rfl) rfl)
            ·
              replace hF := ifF hb17 hF
              refine go_re 88 (v2 := .bool false) rfl (congrArg Value.bool hb17) ?_
              refine g_no rfl rfl rfl rfl rfl ?_
              refine g_no rfl rfl rfl rfl rfl ?_
              refine g_no rfl rfl rfl rfl rfl ?_
              refine g_no rfl rfl rfl rfl rfl ?_
              refine gr rfl (r_pkF (ot rfl) (oc rfl)) ?_
              obtain rfl := someI hF
              exact Goes.weak (J18 (a14_0, a14_1, a14_2) _ (HExt.refl _) w16 ⟨(f14_3.ext e16.kn), (f14_4.ext e16.kn)⟩) (Sub.cons (Sub.cons (Sub.nil _) rfl) rfl)
        ·
          rcases Bool.eq_false_or_eq_true (bif s14.1 then (x9.2.1 == 0) else false) with hb15 | hb15
          ·
            replace hF := ifT hb15 hF
            refine go_re 71 (v2 := .bool true) rfl (congrArg Value.bool hb15) ?_
            refine g_do rfl rfl rfl ?_
            refine gM rfl rfl ?_
            refine g_do rfl rfl rfl ?_
            refine gM rfl rfl ?_
            refine g_do rfl rfl rfl ?_
            replace hF := obind hF
            obtain ⟨x20, hx20, hF⟩ := hF
            refine g_callp (v := .bool x20) EE_fr rfl of (os1 (ot rfl) (os1 (ot rfl) os0)) hb_21 (fun _ => rfl) (fun hf kn w => by exact s_ref05_KVs w x7.1 x9.1 ((((((f7_2.ext e8.kn).ext e9.kn).ext e11.kn).ext e12.kn).ext e14.kn).ext kn) ((((f9_2.ext e11.kn).ext e12.kn).ext e14.kn).ext kn) hx20) ?_
            refine gr rfl (r_pkT (ot rfl) (ot rfl)) ?_
            obtain rfl := someI hF
            exact Goes.weak (J16 () _ (HExt.refl _) w14 trivial) (Sub.cons (Sub.cons (Sub.cons (Sub.cons (Sub.cons (Sub.cons (Sub.nil _) rfl) rfl) rfl) rfl) rfl) rfl)
          ·
            replace hF := ifF hb15 hF
            refine go_re 71 (v2 := .bool false) rfl (congrArg Value.bool hb15) ?_
            refine g_no rfl rfl rfl rfl rfl ?_
            refine g_no rfl rfl rfl rfl rfl ?_
            refine g_no rfl rfl rfl rfl rfl ?_
            refine gr rfl (r_pkF (ot rfl) (oc rfl)) ?_
            obtain rfl := someI hF
            exact Goes.weak (J16 () _ (HExt.refl _) w14 trivial) (Sub.cons (Sub.cons (Sub.cons (Sub.cons (Sub.cons (Sub.cons (Sub.nil _) rfl) rfl) rfl) rfl) rfl) rfl)
      ·
        rcases Bool.eq_false_or_eq_true (x12.1 == s11) with hb13 | hb13
        ·
          replace hF := ifT hb13 hF
          refine go_re 61 (v2 := .bool true) rfl (congrArg Value.bool hb13) ?_
          refine g_do rfl rfl rfl ?_
          refine gM rfl rfl ?_
          refine g_do rfl rfl rfl ?_
          replace hF := obind hF
          obtain ⟨x21, hx21, hF⟩ := hF
          refine gs_call EE_fr w12 (.cons .z (.cons .z (.cons .z .nil))) (fun _ h => by cases h; rfl) of (os1 (ot rfl) os0) hb_17 (by exact s_hist_Hist_Rev w12 (⟨x12.2.bounds_rev, x12.2.bounds_hor, x12.2.keys, x12.2.rows⟩ : Ohist_Hist) f12_0 f12_1 hx21) ?_
          rintro v21 S21 h21 e21 w21 ⟨rw21_y0_2, q21_y0_3, t21_y0_3, rfl, rfl, f21_0, f21_1⟩
          simp only [List.cons_append, List.nil_append]
          refine g_do rfl rfl rfl ?_
          refine gM rfl rfl ?_
          refine g_do rfl rfl rfl ?_
          refine gr rfl (r_bin (ot rfl) (ot rfl) rfl) ?_
          refine gr rfl (r_pkT (ot rfl) (ot rfl)) ?_
          obtain rfl := someI hF
          exact Goes.weak (J14 (q21_y0_3, t21_y0_3, rw21_y0_2) _ e21 w21 ⟨f21_1, f21_0⟩) (Sub.cons (Sub.cons (Sub.cons (Sub.cons (Sub.cons (Sub.cons (Sub.cons (Sub.cons (Sub.cons (Sub.nil _) rfl) rfl) rfl) rfl) rfl) rfl) rfl) rfl) rfl)
        ·
          replace hF := ifF hb13 hF
          refine go_re 61 (v2 := .bool false) rfl (congrArg Value.bool hb13) ?_
          refine g_no rfl rfl rfl rfl rfl ?_
          refine g_no rfl rfl rfl rfl rfl ?_
          refine g_no rfl rfl rfl rfl rfl ?_
          refine g_no rfl rfl rfl rfl rfl ?_
          refine gr rfl (r_pkF (ot rfl) (oc rfl)) ?_
          obtain rfl := someI hF
          exact Goes.weak (J14 (q12_y0_3, t12_y0_3, rw12_y0_2) _ (HExt.refl _) w12 ⟨f12_1, f12_0⟩) (Sub.cons (Sub.cons (Sub.cons (Sub.cons (Sub.cons (Sub.cons (Sub.cons (Sub.cons (Sub.cons (Sub.nil _) rfl) rfl) rfl) rfl) rfl) rfl) rfl) rfl) rfl)
    ·
      refine g_cond (b := (bif (decide (p1 ≥ 0)) then (decide (p1 ≤ x6.1)) else false)) (ot rfl) (fun hc10 => ?_) (fun hc10 => ?_)
      ·
        replace hF := ifT hc10 hF
        refine go_region ?_
        refine gM rfl rfl ?_
        refine gM rfl rfl ?_
        refine gr rfl (r_max (os1 (ot rfl) (os1 (ot rfl) os0)) rfl) ?_
        refine gA rfl rfl ?_
        refine go_nil ?_
        obtain rfl := someI hF
        exact Goes.weak (J11 () _ (HExt.refl _) w9 trivial) (Sub.cons (Sub.cons (Sub.cons (Sub.cons (Sub.cons (Sub.cons (Sub.cons (Sub.cons (Sub.cons (Sub.cons (Sub.nil _) rfl) rfl) rfl) rfl) rfl) rfl) rfl) rfl) rfl) rfl)
      ·
        replace hF := ifF hc10 hF
        refine go_skip ?_
        obtain rfl := someI hF
        exact Goes.weak (J11 () _ (HExt.refl _) w9 trivial) (Sub.cons (Sub.cons (Sub.cons (Sub.cons (Sub.cons (Sub.cons (Sub.cons (Sub.cons (Sub.cons (Sub.cons (Sub.nil _) rfl) rfl) rfl) rfl) rfl) rfl) rfl) rfl) rfl) rfl)
end Go.Proofs.Ytpfdandpmpmbiaa.V
