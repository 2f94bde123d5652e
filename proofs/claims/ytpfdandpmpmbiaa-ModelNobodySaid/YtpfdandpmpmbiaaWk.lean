/- Walks.
   No condition: these are laws of the clean machine and of this program. -/
import Derived.Test.YtpfdandpmpmbiaaPT
import Derived.Test.YtpfdandpmpmbiaaFk
import Derived.Test.YtpfdandpmpmbiaaWo
import Derived.Test.YtpfdandpmpmbiaaWm
namespace Go.Proofs.Ytpfdandpmpmbiaa.V
open Go
set_option linter.unusedVariables false
set_option linter.unusedSimpArgs false
set_option maxRecDepth 100000
set_option maxHeartbeats 4000000
theorem s_law08_ModelNobody {h : Heap} (hw : Wf h) (p0 : TReq) (p1 : (List TOp)) {a0_4 : Option Addr} {c0_4 : Nat} {a0_5 : Option Addr} {c0_5 : Nat} {a0_6 : Option Addr} {c0_6 : Nat} {a1_0 : Option Addr} {c1_0 : Nat} (f0_4 : RL R_TCmp h a0_4 c0_4 p0.Cmps) (f0_5 : RL R_TOp h a0_5 c0_5 p0.Then) (f0_6 : RL R_TOp h a0_6 c0_6 p0.Else) (f1_0 : RL R_TOp h a1_0 c1_0 p1) {r : Bool} (hF : F_law08_ModelNobody p0 p1 = some r) :
    Ev EE 11 [.agg #[.int .i64 p0.Kind, .string p0.R.From, .string p0.R.To, .int .i64 p0.Rev, .slice a0_4 p0.Cmps.length c0_4, .slice a0_5 p0.Then.length c0_5, .slice a0_6 p0.Else.length c0_6], .slice a1_0 p1.length c1_0] h (fun v _ => v = .bool r) := by
  unfold F_law08_ModelNobody at hF
  refine ev_of hw rfl at_11 rfl rfl (go_seg0 ?_)
  refine go_seq ?_
  refine go_region ?_
  refine gs_box rfl (ot rfl) rfl ?_; intro b2_1
  refine gAc rfl rfl ?_
  refine go_nil ?_
  refine go_seq ?_
  refine go_region ?_
  refine g_callp EE_fr rfl of os0 hb_31 (fun _ => rfl) (fun hf kn w => by exact known_evp rfl hf w) ?_
  refine gA rfl rfl ?_
  refine go_nil ?_
  refine go_seq ?_
  refine go_region ?_
  refine gAc rfl rfl ?_
  refine go_nil ?_
  refine go_seq ?_
  refine go_region ?_
  replace hF := obind hF
  obtain ⟨x3, hx3, hF⟩ := hF
  refine gs_call EE_fr hw .nil (fun _ h => by cases h; rfl) of os0 hb_32 (by exact s_model_New hw   hx3) ?_
  rintro v3 S3 h3 e3 w3 ⟨b3_w0, b3_w0o0, b3_w0o0m2, rw3_w0o0_2, q3_w0o0_3, t3_w0o0_3, rfl, rfl, f3_0, f3_1⟩
  simp only [List.cons_append, List.nil_append]
  refine gA rfl rfl ?_
  refine go_nil ?_
  refine go_seq ?_
  refine go_region ?_
  refine gM rfl rfl ?_
  replace hF := obind hF
  obtain ⟨x4, hx4, hF⟩ := hF
  refine gs_call EE_fr w3 (.cons .z (.cons .z (.cons .z (.cons .z .nil)))) (fun _ h => by cases h; rfl) of (os1 (ot rfl) os0) hb_37 (by exact s_model_Model_Hist w3 (⟨x3.1.seq⟩ : Omodel_Model) (⟨x3.2.bounds_rev, x3.2.bounds_hor, x3.2.keys, x3.2.rows⟩ : Ohist_Hist) f3_0 f3_1 hx4) ?_
  rintro v4 S4 h4 e4 w4 ⟨rw4_y0o0_2, q4_y0o0_3, t4_y0o0_3, b4_w0, b4_w0m2, rw4_w0_2, q4_w0_3, t4_w0_3, rfl, rfl, f4_0, f4_1, f4_2, f4_3⟩
  simp only [List.cons_append, List.nil_append]
  refine gM rfl rfl ?_
  replace hF := obind hF
  obtain ⟨x5, hx5, hF⟩ := hF
  refine gs_call EE_fr w4 (.cons (.s (.s (.s (.s (.z))))) (.cons (.s (.s (.s (.s (.z))))) (.cons (.s (.s (.s (.s (.z))))) .nil))) (fun _ h => by cases h; rfl) of (os1 (ot rfl) (os1 (ot rfl) os0)) hb_23 (by exact s_hist_Hist_Apply w4 (⟨x4.1.bounds_rev, x4.1.bounds_hor, x4.1.keys, x4.1.rows⟩ : Ohist_Hist) p1 f4_2 f4_3 ((f1_0.ext e3.kn).ext e4.kn) hx5) ?_
  rintro v5 S5 h5 e5 w5 ⟨rw5_y0_2, q5_y0_3, t5_y0_3, a5_0, c5_0, rfl, rfl, f5_0, f5_1, f5_2⟩
  simp only [List.cons_append, List.nil_append]
  refine go_nil ?_
  refine go_seq ?_
  refine go_region ?_
  refine gM rfl rfl ?_
  refine gM rfl rfl ?_
  refine g_do rfl rfl rfl ?_
  refine gM rfl rfl ?_
  refine g_do rfl rfl rfl ?_
  refine gr rfl (r_load (ot rfl) (lm_w (mem_seg 7 rfl) ag_61 sz_61 rfl)) ?_
  refine g_do rfl rfl rfl ?_
  replace hF := obind hF
  obtain ⟨x6, hx6, hF⟩ := hF
  refine g_call EE_fr (fun _ h => by cases h; rfl) of (os1 (ot rfl) (os1 (ot rfl) os0)) hb_34 (fun hf kn w => by exact s_model_Model_Serve_nil w p0 ((((f0_4.ext e3.kn).ext e4.kn).ext e5.kn).ext kn) ((((f0_5.ext e3.kn).ext e4.kn).ext e5.kn).ext kn) ((((f0_6.ext e3.kn).ext e4.kn).ext e5.kn).ext kn) hx6) ?_
  rintro v6 h6 e6 w6 ⟨a6_0, c6_0, rfl, f6_0⟩
  refine g_do rfl rfl rfl ?_
  refine gr rfl (r_field (v := .int .i64 x6.Err) (ot rfl) (by first | rfl | kernel_rfl)) ?_
  refine g_do rfl rfl rfl ?_
  refine gr rfl (r_bin (ot rfl) (oc rfl) rfl) ?_
  refine gr rfl (r_pkT (ot rfl) (ot rfl)) ?_
  refine gM rfl rfl ?_
  replace hF := obind hF
  obtain ⟨s8, hF, hK8⟩ := hF
  refine go_joinr 5 (β := Unit) (fun s h' => True) (fun s => [(4, true, .bool false), (6, true, .pointer none), (7, true, .pointer (some ⟨b3_w0, 0, none⟩)), (27, true, .bool s8)]) (fun s => (List.flatten [[⟨b4_w0, .cells [.int .i64 x5.2.bounds_rev, .int .i64 x5.2.bounds_hor, .map (some b4_w0m2), .slice q5_y0_3 x5.2.rows.length x5.2.rows.length] 100⟩], [⟨b4_w0m2, .map (encM kS id rw5_y0_2)⟩], t5_y0_3, [⟨b3_w0, .cells [.pointer (some ⟨b3_w0o0, 0, none⟩), .int .i64 x4.2.1.seq] 130⟩], [⟨b3_w0o0, .cells [.int .i64 x4.2.2.bounds_rev, .int .i64 x4.2.2.bounds_hor, .map (some b3_w0o0m2), .slice q4_y0o0_3 x4.2.2.rows.length x4.2.2.rows.length] 100⟩], [⟨b3_w0o0m2, .map (encM kS id rw4_y0o0_2)⟩], t4_y0o0_3, [⟨b2_1, .cells [.int .i64 p0.Kind, .string p0.R.From, .string p0.R.To, .int .i64 p0.Rev, .slice a0_4 p0.Cmps.length c0_4, .slice a0_5 p0.Then.length c0_5, .slice a0_6 p0.Else.length c0_6] 61⟩]] : List Blk)) ?_ (fun J8 => ?_)
  ·
    rintro _ h8 e8 w8 _
    replace hF := hK8
    refine gM rfl rfl ?_
    replace hF := obind hF
    obtain ⟨s10, hF, hK10⟩ := hF
    refine go_joinr 4 (β := Unit) (fun s h' => True) (fun s => [(4, true, .bool false), (7, true, .pointer (some ⟨b3_w0, 0, none⟩)), (32, true, .bool s10)]) (fun s => (List.flatten [[⟨b4_w0, .cells [.int .i64 x5.2.bounds_rev, .int .i64 x5.2.bounds_hor, .map (some b4_w0m2), .slice q5_y0_3 x5.2.rows.length x5.2.rows.length] 100⟩], [⟨b4_w0m2, .map (encM kS id rw5_y0_2)⟩], t5_y0_3, [⟨b3_w0, .cells [.pointer (some ⟨b3_w0o0, 0, none⟩), .int .i64 x4.2.1.seq] 130⟩], [⟨b3_w0o0, .cells [.int .i64 x4.2.2.bounds_rev, .int .i64 x4.2.2.bounds_hor, .map (some b3_w0o0m2), .slice q4_y0o0_3 x4.2.2.rows.length x4.2.2.rows.length] 100⟩], [⟨b3_w0o0m2, .map (encM kS id rw4_y0o0_2)⟩], t4_y0o0_3, [⟨b2_1, .cells [.int .i64 p0.Kind, .string p0.R.From, .string p0.R.To, .int .i64 p0.Rev, .slice a0_4 p0.Cmps.length c0_4, .slice a0_5 p0.Then.length c0_5, .slice a0_6 p0.Else.length c0_6] 61⟩]] : List Blk)) ?_ (fun J10 => ?_)
    ·
      rintro _ h10 e10 w10 _
      replace hF := hK10
      refine gM rfl rfl ?_
      replace hF := obind hF
      obtain ⟨s12, hF, hK12⟩ := hF
      refine go_joinr 5 (β := Option Addr × List Blk × List (ByteArray × Value)) (fun s h' => AccR (Rep.sl R_TEvent 50) 50 h' s.2.1 (.slice s.1 s12.2.2.2.2.1.length s12.2.2.2.2.1.length) s12.2.2.2.2.1 ∧ MR R_TEvent h' s.2.2 s12.2.2.2.2.2) (fun s => [(4, true, .bool false), (7, true, .pointer (some ⟨b3_w0, 0, none⟩)), (38, true, .bool s12.1)]) (fun s => (List.flatten [[⟨b4_w0, .cells [.int .i64 x5.2.bounds_rev, .int .i64 x5.2.bounds_hor, .map (some b4_w0m2), .slice q5_y0_3 x5.2.rows.length x5.2.rows.length] 100⟩], [⟨b4_w0m2, .map (encM kS id rw5_y0_2)⟩], t5_y0_3, [⟨b3_w0, .cells [.pointer (some ⟨b3_w0o0, 0, none⟩), .int .i64 s12.2.1] 130⟩], [⟨b3_w0o0, .cells [.int .i64 s12.2.2.1, .int .i64 s12.2.2.2.1, .map (some b3_w0o0m2), .slice s.1 s12.2.2.2.2.1.length s12.2.2.2.2.1.length] 100⟩], [⟨b3_w0o0m2, .map (encM kS id s.2.2)⟩], s.2.1, [⟨b2_1, .cells [.int .i64 p0.Kind, .string p0.R.From, .string p0.R.To, .int .i64 p0.Rev, .slice a0_4 p0.Cmps.length c0_4, .slice a0_5 p0.Then.length c0_5, .slice a0_6 p0.Else.length c0_6] 61⟩]] : List Blk)) ?_ (fun J12 => ?_)
      ·
        rintro ⟨a12_0, a12_1, a12_2⟩ h12 e12 w12 ⟨f12_4, f12_5⟩
        replace hF := hK12
        refine gM rfl rfl ?_
        replace hF := obind hF
        obtain ⟨s14, hF, hK14⟩ := hF
        refine go_joinr 5 (β := Option Addr × List Blk × List (ByteArray × Value)) (fun s h' => AccR (Rep.sl R_TEvent 50) 50 h' s.2.1 (.slice s.1 s14.2.2.2.2.1.length s14.2.2.2.2.1.length) s14.2.2.2.2.1 ∧ MR R_TEvent h' s.2.2 s14.2.2.2.2.2) (fun s => [(4, true, .bool false), (44, true, .bool s14.1)]) (fun s => (List.flatten [[⟨b4_w0, .cells [.int .i64 x5.2.bounds_rev, .int .i64 x5.2.bounds_hor, .map (some b4_w0m2), .slice q5_y0_3 x5.2.rows.length x5.2.rows.length] 100⟩], [⟨b4_w0m2, .map (encM kS id rw5_y0_2)⟩], t5_y0_3, [⟨b3_w0, .cells [.pointer (some ⟨b3_w0o0, 0, none⟩), .int .i64 s14.2.1] 130⟩], [⟨b3_w0o0, .cells [.int .i64 s14.2.2.1, .int .i64 s14.2.2.2.1, .map (some b3_w0o0m2), .slice s.1 s14.2.2.2.2.1.length s14.2.2.2.2.1.length] 100⟩], [⟨b3_w0o0m2, .map (encM kS id s.2.2)⟩], s.2.1, [⟨b2_1, .cells [.int .i64 p0.Kind, .string p0.R.From, .string p0.R.To, .int .i64 p0.Rev, .slice a0_4 p0.Cmps.length c0_4, .slice a0_5 p0.Then.length c0_5, .slice a0_6 p0.Else.length c0_6] 61⟩]] : List Blk)) ?_ (fun J14 => ?_)
        ·
          rintro ⟨a14_0, a14_1, a14_2⟩ h14 e14 w14 ⟨f14_4, f14_5⟩
          replace hF := hK14
          refine gA rfl rfl ?_
          refine go_nil ?_
          obtain rfl := someI hF
          exact g_ret (rst rfl rs0) (fun h1 hf hs => ⟨(e3.trans (e4.trans (e5.trans (e6.trans (e8.trans (e10.trans (e12.trans (e14.trans hs.hext)))))))), rfl⟩)
        ·
          rcases Bool.eq_false_or_eq_true s12.1 with hb13 | hb13
          ·
            replace hF := ifT hb13 hF
            refine go_re 39 (v2 := .bool true) rfl (congrArg Value.bool hb13) ?_
            refine g_do rfl rfl rfl ?_
            refine gM rfl rfl ?_
            refine g_do rfl rfl rfl ?_
            replace hF := obind hF
            obtain ⟨x15, hx15, hF⟩ := hF
            refine gs_call EE_fr w12 (.cons (.s (.s (.s (.z)))) (.cons (.s (.s (.s (.z)))) (.cons (.s (.s (.s (.z)))) (.cons (.s (.s (.s (.z)))) .nil)))) (fun _ h => by cases h; rfl) of (os1 (ot rfl) os0) hb_37 (by exact s_model_Model_Hist w12 (⟨s12.2.1⟩ : Omodel_Model) (⟨s12.2.2.1, s12.2.2.2.1, s12.2.2.2.2.2, s12.2.2.2.2.1⟩ : Ohist_Hist) f12_5 f12_4 hx15) ?_
            rintro v15 S15 h15 e15 w15 ⟨rw15_y0o0_2, q15_y0o0_3, t15_y0o0_3, b15_w0, b15_w0m2, rw15_w0_2, q15_w0_3, t15_w0_3, rfl, rfl, f15_0, f15_1, f15_2, f15_3⟩
            simp only [List.cons_append, List.nil_append]
            refine g_do rfl rfl rfl ?_
            replace hF := obind hF
            obtain ⟨x16, hx16, hF⟩ := hF
            refine gs_call EE_fr w15 (.cons (.s (.s (.s (.s (.z))))) (.cons (.s (.s (.s (.s (.z))))) (.cons (.s (.s (.s (.s (.z))))) .nil))) (fun _ h => by cases h; rfl) of (os1 (ot rfl) os0) hb_17 (by exact s_hist_Hist_Rev w15 (⟨x15.1.bounds_rev, x15.1.bounds_hor, x15.1.keys, x15.1.rows⟩ : Ohist_Hist) f15_2 f15_3 hx16) ?_
            rintro v16 S16 h16 e16 w16 ⟨rw16_y0_2, q16_y0_3, t16_y0_3, rfl, rfl, f16_0, f16_1⟩
            simp only [List.cons_append, List.nil_append]
            refine g_do rfl rfl rfl ?_
            refine gr rfl (r_bin (ot rfl) (oc rfl) rfl) ?_
            refine gr rfl (r_pkT (ot rfl) (ot rfl)) ?_
            obtain rfl := someI hF
            refine gs_sub (.cons _ (.cons _ (.cons _ (.cons_cons _ (.cons_cons _ (.cons_cons _ (.cons_cons _ (.cons_cons _ (.cons_cons _ (.cons_cons _ (.cons_cons _ (.refl _)))))))))))) ?_
            refine gs_perm (perm_of (d := []) _ [4, 5, 6, 0, 1, 2, 3, 7] rfl) ?_
            exact Goes.weak (J14 (q15_y0o0_3, t15_y0o0_3, rw15_y0o0_2) _ (e15.trans e16) w16 ⟨(f15_1.ext e16.kn), (f15_0.ext e16.kn)⟩) (Sub.cons (Sub.cons (Sub.nil _) rfl) rfl)
          ·
            replace hF := ifF hb13 hF
            refine go_re 39 (v2 := .bool false) rfl (congrArg Value.bool hb13) ?_
            refine g_no rfl rfl rfl rfl rfl ?_
            refine g_no rfl rfl rfl rfl rfl ?_
            refine g_no rfl rfl rfl rfl rfl ?_
            refine g_no rfl rfl rfl rfl rfl ?_
            refine gr rfl (r_pkF (ot rfl) (oc rfl)) ?_
            obtain rfl := someI hF
            exact Goes.weak (J14 (a12_0, a12_1, a12_2) _ (HExt.refl _) w12 ⟨f12_4, f12_5⟩) (Sub.cons (Sub.cons (Sub.nil _) rfl) rfl)
      ·
        rcases Bool.eq_false_or_eq_true s10 with hb11 | hb11
        ·
          replace hF := ifT hb11 hF
          refine go_re 33 (v2 := .bool true) rfl (congrArg Value.bool hb11) ?_
          refine g_do rfl rfl rfl ?_
          refine gM rfl rfl ?_
          refine g_do rfl rfl rfl ?_
          replace hF := obind hF
          obtain ⟨x17, hx17, hF⟩ := hF
          refine gs_call EE_fr w10 (.cons (.s (.s (.s (.z)))) (.cons (.s (.s (.s (.z)))) (.cons (.s (.s (.s (.z)))) (.cons (.s (.s (.s (.z)))) .nil)))) (fun _ h => by cases h; rfl) of (os1 (ot rfl) os0) hb_35 (by exact s_model_Model_Head w10 (⟨x4.2.1.seq⟩ : Omodel_Model) (⟨x4.2.2.bounds_rev, x4.2.2.bounds_hor, x4.2.2.keys, x4.2.2.rows⟩ : Ohist_Hist) ((((f4_0.ext e5.kn).ext e6.kn).ext e8.kn).ext e10.kn) ((((f4_1.ext e5.kn).ext e6.kn).ext e8.kn).ext e10.kn) hx17) ?_
          rintro v17 S17 h17 e17 w17 ⟨rw17_y0o0_2, q17_y0o0_3, t17_y0o0_3, rfl, rfl, f17_0, f17_1⟩
          simp only [List.cons_append, List.nil_append]
          refine g_do rfl rfl rfl ?_
          refine gr rfl (r_build op0 rfl) ?_
          refine g_do rfl rfl rfl ?_
          refine gr rfl (r_bin (ot rfl) (ot rfl) bq_71) ?_
          refine gr rfl (r_pkT (ot rfl) (ot rfl)) ?_
          obtain rfl := someI hF
          refine gs_perm (perm_of (d := []) _ [4, 5, 6, 0, 1, 2, 3, 7] rfl) ?_
          exact Goes.weak (J12 (q17_y0o0_3, t17_y0o0_3, rw17_y0o0_2) _ e17 w17 ⟨f17_1, f17_0⟩) (Sub.cons (Sub.cons (Sub.cons (Sub.nil _) rfl) rfl) rfl)
        ·
          replace hF := ifF hb11 hF
          refine go_re 33 (v2 := .bool false) rfl (congrArg Value.bool hb11) ?_
          refine g_no rfl rfl rfl rfl rfl ?_
          refine g_no rfl rfl rfl rfl rfl ?_
          refine g_no rfl rfl rfl rfl rfl ?_
          refine g_no rfl rfl rfl rfl rfl ?_
          refine gr rfl (r_pkF (ot rfl) (oc rfl)) ?_
          obtain rfl := someI hF
          exact Goes.weak (J12 (q4_y0o0_3, t4_y0o0_3, rw4_y0o0_2) _ (HExt.refl _) w10 ⟨((((f4_1.ext e5.kn).ext e6.kn).ext e8.kn).ext e10.kn), ((((f4_0.ext e5.kn).ext e6.kn).ext e8.kn).ext e10.kn)⟩) (Sub.cons (Sub.cons (Sub.cons (Sub.nil _) rfl) rfl) rfl)
    ·
      rcases Bool.eq_false_or_eq_true s8 with hb9 | hb9
      ·
        replace hF := ifT hb9 hF
        refine go_re 28 (v2 := .bool true) rfl (congrArg Value.bool hb9) ?_
        refine g_do rfl rfl rfl ?_
        refine gM rfl rfl ?_
        refine g_do rfl rfl rfl ?_
        replace hF := obind hF
        obtain ⟨x18, hx18, hF⟩ := hF
        refine g_callp (v := .pointer none) EE_fr rfl of (os1 (ot rfl) os0) hb_37 (fun _ => rfl) (fun hf kn w => by exact s_model_Model_Hist_nil w   hx18) ?_
        refine g_do rfl rfl rfl ?_
        refine gr rfl (r_bin (v := .bool true) (ot rfl) (oc rfl) (by first | rfl | kernel_rfl)) ?_
        refine gr rfl (r_pkT (ot rfl) (ot rfl)) ?_
        obtain rfl := someI hF
        exact Goes.weak (J10 () _ (HExt.refl _) w8 trivial) (Sub.cons (Sub.cons (Sub.cons (Sub.nil _) rfl) rfl) rfl)
      ·
        replace hF := ifF hb9 hF
        refine go_re 28 (v2 := .bool false) rfl (congrArg Value.bool hb9) ?_
        refine g_no rfl rfl rfl rfl rfl ?_
        refine g_no rfl rfl rfl rfl rfl ?_
        refine g_no rfl rfl rfl rfl rfl ?_
        refine gr rfl (r_pkF (ot rfl) (oc rfl)) ?_
        obtain rfl := someI hF
        exact Goes.weak (J10 () _ (HExt.refl _) w8 trivial) (Sub.cons (Sub.cons (Sub.cons (Sub.nil _) rfl) rfl) rfl)
  ·
    rcases Bool.eq_false_or_eq_true (x6.Err == 1) with hb7 | hb7
    ·
      replace hF := ifT hb7 hF
      refine go_re 22 (v2 := .bool true) rfl (congrArg Value.bool hb7) ?_
      refine g_do rfl rfl rfl ?_
      refine gM rfl rfl ?_
      refine g_do rfl rfl rfl ?_
      replace hF := obind hF
      obtain ⟨x19, hx19, hF⟩ := hF
      refine g_callp (v := .agg #[.int .i64 x19.Seq, .int .i64 x19.Rev, .int .i64 x19.Hor]) EE_fr rfl of (os1 (ot rfl) os0) hb_35 (fun _ => rfl) (fun hf kn w => by exact s_model_Model_Head_nil w   hx19) ?_
      refine g_do rfl rfl rfl ?_
      refine gr rfl (r_build op0 rfl) ?_
      refine g_do rfl rfl rfl ?_
      refine gr rfl (r_bin (ot rfl) (ot rfl) bq_71) ?_
      refine gr rfl (r_pkT (ot rfl) (ot rfl)) ?_
      obtain rfl := someI hF
      exact Goes.weak (J8 () _ (HExt.refl _) w6 trivial) (Sub.cons (Sub.cons (Sub.cons (Sub.cons (Sub.nil _) rfl) rfl) rfl) rfl)
    ·
      replace hF := ifF hb7 hF
      refine go_re 22 (v2 := .bool false) rfl (congrArg Value.bool hb7) ?_
      refine g_no rfl rfl rfl rfl rfl ?_
      refine g_no rfl rfl rfl rfl rfl ?_
      refine g_no rfl rfl rfl rfl rfl ?_
      refine g_no rfl rfl rfl rfl rfl ?_
      refine gr rfl (r_pkF (ot rfl) (oc rfl)) ?_
      obtain rfl := someI hF
      exact Goes.weak (J8 () _ (HExt.refl _) w6 trivial) (Sub.cons (Sub.cons (Sub.cons (Sub.cons (Sub.nil _) rfl) rfl) rfl) rfl)
end Go.Proofs.Ytpfdandpmpmbiaa.V
