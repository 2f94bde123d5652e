/- Walks.
   No condition: these are laws of the clean machine and of this program. -/
import Derived.Test.YtpfdandpmpmbiaaWb
namespace Go.Proofs.Ytpfdandpmpmbiaa.V
open Go
set_option linter.unusedVariables false
set_option linter.unusedSimpArgs false
set_option maxRecDepth 100000
set_option maxHeartbeats 4000000
theorem s_law06_HistPuts (n : Nat) {h : Heap} (hw : Wf h) (p0 : (List Timpostlaw06_Deed)) (p1 : TOp) (p2 : ByteArray) {a0_0 : Option Addr} {c0_0 : Nat} (f0_0 : RL R_Timpostlaw06_Deed h a0_0 c0_0 p0) {r : Bool} (hF : F_law06_HistPuts n p0 p1 p2 = some r) :
    Ev EE 4 [.slice a0_0 p0.length c0_0, .agg #[.string p1.Key, .string p1.Val, .bool p1.Del], .string p2] h (fun v _ => v = .bool r) := by
  unfold F_law06_HistPuts at hF
  refine ev_of hw rfl at_4 rfl rfl (go_seg0 ?_)
  refine go_seq ?_
  refine go_region ?_
  refine gs_box rfl (ot rfl) rfl ?_; intro b4_1
  refine gAc rfl rfl ?_
  refine go_nil ?_
  refine go_seq ?_
  refine go_region ?_
  refine g_callp EE_fr rfl of os0 hb_14 (fun _ => rfl) (fun hf kn w => by exact known_evp rfl hf w) ?_
  refine gA rfl rfl ?_
  refine go_nil ?_
  refine go_seq ?_
  refine go_seq ?_
  refine go_region ?_
  refine gM rfl rfl ?_
  replace hF := obind hF
  obtain ⟨x3, hx3, hF⟩ := hF
  refine g_callp (v := .bool x3) EE_fr rfl of (os1 (ot rfl) os0) hb_15 (fun _ => rfl) (fun hf kn w => by exact s_law06_few w p0 (f0_0.ext kn) hx3) ?_
  refine gr rfl (r_un (ot rfl) rfl) ?_
  refine go_nil ?_
  refine g_cond (b := (!x3)) (ot rfl) (fun hc4 => ?_) (fun hc4 => ?_)
  ·
    replace hF := ifT hc4 hF
    refine go_seq ?_
    refine go_region ?_
    refine gM rfl rfl ?_
    refine gA rfl rfl ?_
    refine go_nil ?_
    obtain rfl := someI hF
    exact g_ret (rst rfl rs0) (fun h1 hf hs => ⟨hs.hext, rfl⟩)
  ·
    replace hF := ifF hc4 hF
    refine go_skip ?_
    refine go_seq ?_
    refine go_region ?_
    refine gM rfl rfl ?_
    replace hF := obind hF
    obtain ⟨x5, hx5, hF⟩ := hF
    refine gs_call EE_fr hw .nil (fun _ h => by cases h; rfl) of (os1 (ot rfl) os0) hb_16 (by exact s_law06_ran n hw p0 f0_0 hx5) ?_
    rintro v5 S5 h5 e5 w5 ⟨b5_w0, b5_w0m2, rw5_w0_2, q5_w0_3, t5_w0_3, rfl, rfl, f5_0, f5_1⟩
    simp only [List.cons_append, List.nil_append]
    refine gA rfl rfl ?_
    refine go_nil ?_
    refine go_seq ?_
    refine go_region ?_
    refine gM rfl rfl ?_
    refine gM rfl rfl ?_
    replace hF := obind hF
    obtain ⟨x6, hx6, hF⟩ := hF
    refine gs_call EE_fr w5 (.cons .z (.cons .z (.cons .z .nil))) (fun _ h => by cases h; rfl) of (os1 (ot rfl) os0) hb_17 (by exact s_hist_Hist_Rev w5 x5 f5_0 f5_1 hx6) ?_
    rintro v6 S6 h6 e6 w6 ⟨rw6_y0_2, q6_y0_3, t6_y0_3, rfl, rfl, f6_0, f6_1⟩
    simp only [List.cons_append, List.nil_append]
    refine gr rfl (r_build op0 rfl) ?_
    replace hF := obind hF
    obtain ⟨x7, hx7, hF⟩ := hF
    refine gs_call EE_fr w6 (.cons .z (.cons .z (.cons .z .nil))) (fun _ h => by cases h; rfl) of (os1 (ot rfl) (os1 (ot rfl) (os1 (ot rfl) os0))) hb_18 (by exact s_hist_Hist_At n w6 (⟨x6.2.bounds_rev, x6.2.bounds_hor, x6.2.keys, x6.2.rows⟩ : Ohist_Hist) x6.1 (⟨ByteArray.empty, ByteArray.empty⟩ : TRange) f6_0 f6_1 hx7) ?_
    rintro v7 S7 h7 e7 w7 ⟨rw7_y0_2, q7_y0_3, t7_y0_3, a7_0, c7_0, rfl, rfl, f7_0, f7_1, f7_2⟩
    simp only [List.cons_append, List.nil_append]
    refine gM rfl rfl ?_
    refine gE rfl rfl rfl ?_
    refine gE rfl rfl rfl ?_
    refine gA rfl rfl ?_
    refine gA rfl rfl ?_
    refine go_nil ?_
    refine go_seq ?_
    refine go_region ?_
    refine gM rfl rfl ?_
    refine gr rfl (r_fa (ot rfl) (fa_45_0 _ _)) ?_
    refine gr rfl (r_load (ot rfl) (lm_s (mem_seg 3 rfl) ag_9 rfl)) ?_
    replace hF := obind hF
    obtain ⟨x8, hx8, hF⟩ := hF
    refine g_callp (v := .tuple #[.agg #[.string x8.1.Key, .string x8.1.Val, .int .i64 x8.1.Rev], .bool x8.2]) EE_fr rfl of (os1 (ot rfl) (os1 (ot rfl) os0)) hb_22 (fun _ => rfl) (fun hf kn w => by exact s_ref06_Get w x7.1 p1.Key (f7_2.ext kn) hx8) ?_
    refine gM rfl rfl ?_
    refine gE rfl rfl rfl ?_
    refine gE rfl rfl rfl ?_
    refine gs_alloc rfl zo_47 rfl ?_; intro b11_9
    refine gs_store (ot rfl) (ot rfl) sz_47 rfl rfl rfl rfl rfl .z ?_
    refine gA rfl rfl ?_
    refine go_nil ?_
    refine go_seq ?_
    refine go_region ?_
    refine gM rfl rfl ?_
    replace hF := obind hF
    obtain ⟨x10, hx10, hF⟩ := hF
    refine gs_call EE_fr w7 (.cons (.s (.z)) (.cons (.s (.z)) (.cons (.s (.z)) .nil))) (fun _ h => by cases h; rfl) of (os1 (ot rfl) os0) hb_17 (by exact s_hist_Hist_Rev w7 (⟨x7.2.2.bounds_rev, x7.2.2.bounds_hor, x7.2.2.keys, x7.2.2.rows⟩ : Ohist_Hist) f7_0 f7_1 hx10) ?_
    rintro v10 S10 h10 e10 w10 ⟨rw10_y0_2, q10_y0_3, t10_y0_3, rfl, rfl, f10_0, f10_1⟩
    simp only [List.cons_append, List.nil_append]
    refine gA rfl rfl ?_
    refine go_nil ?_
    refine go_seq ?_
    refine go_region ?_
    refine gM rfl rfl ?_
    refine gr rfl (r_load (ot rfl) (lm_w (mem_seg 4 rfl) ag_45 sz_45 rfl)) ?_
    refine gs_bslice (cs := [.string p1.Key, .string p1.Val, .bool p1.Del]) rfl (op1 (ot rfl) op0) ut_39 sz_45 zo_45 rfl rfl ?_; intro b49_11
    refine gs_pub .z (fun h13 e13 w13 hb13 => ?_)
    have f13_ : RL R_TOp h13 (some ⟨b49_11, 0, none⟩) 1 ([p1] : List TOp) := RL.of_blk (R := R_TOp) (rows := [[.string p1.Key, .string p1.Val, .bool p1.Del]]) (.inl rfl) hb13 rfl (Rws.cons (x := p1) rfl Rws.nil) (by simp) (by simp) rfl
    replace hF := obind hF
    obtain ⟨x12, hx12, hF⟩ := hF
    refine gs_call EE_fr w13 (.cons .z (.cons .z (.cons .z .nil))) (fun _ h => by cases h; rfl) of (os1 (ot rfl) (os1 (ot rfl) os0)) hb_23 (by exact s_hist_Hist_Apply w13 (⟨x10.2.bounds_rev, x10.2.bounds_hor, x10.2.keys, x10.2.rows⟩ : Ohist_Hist) ([p1] : List TOp) (f10_0.ext e13.kn) (f10_1.ext e13.kn) f13_ hx12) ?_
    rintro v12 S12 h12 e12 w12 ⟨rw12_y0_2, q12_y0_3, t12_y0_3, a12_0, c12_0, rfl, rfl, f12_0, f12_1, f12_2⟩
    simp only [List.cons_append, List.nil_append]
    refine gA rfl rfl ?_
    refine go_nil ?_
    refine go_seq ?_
    refine go_region ?_
    refine gM rfl rfl ?_
    refine gM rfl rfl ?_
    replace hF := obind hF
    obtain ⟨x14, hx14, hF⟩ := hF
    refine gs_call EE_fr w12 (.cons .z (.cons .z (.cons .z .nil))) (fun _ h => by cases h; rfl) of (os1 (ot rfl) os0) hb_17 (by exact s_hist_Hist_Rev w12 (⟨x12.2.bounds_rev, x12.2.bounds_hor, x12.2.keys, x12.2.rows⟩ : Ohist_Hist) f12_0 f12_1 hx14) ?_
    rintro v14 S14 h14 e14 w14 ⟨rw14_y0_2, q14_y0_3, t14_y0_3, rfl, rfl, f14_0, f14_1⟩
    simp only [List.cons_append, List.nil_append]
    refine gr rfl (r_build op0 rfl) ?_
    replace hF := obind hF
    obtain ⟨x15, hx15, hF⟩ := hF
    refine gs_call EE_fr w14 (.cons .z (.cons .z (.cons .z .nil))) (fun _ h => by cases h; rfl) of (os1 (ot rfl) (os1 (ot rfl) (os1 (ot rfl) os0))) hb_18 (by exact s_hist_Hist_At n w14 (⟨x14.2.bounds_rev, x14.2.bounds_hor, x14.2.keys, x14.2.rows⟩ : Ohist_Hist) x14.1 (⟨ByteArray.empty, ByteArray.empty⟩ : TRange) f14_0 f14_1 hx15) ?_
    rintro v15 S15 h15 e15 w15 ⟨rw15_y0_2, q15_y0_3, t15_y0_3, a15_0, c15_0, rfl, rfl, f15_0, f15_1, f15_2⟩
    simp only [List.cons_append, List.nil_append]
    refine gM rfl rfl ?_
    refine gE rfl rfl rfl ?_
    refine gE rfl rfl rfl ?_
    refine gA rfl rfl ?_
    refine gA rfl rfl ?_
    refine go_nil ?_
    refine go_seq ?_
    refine go_region ?_
    refine gM rfl rfl ?_
    refine gr rfl (r_fa (ot rfl) (fa_45_0 _ _)) ?_
    refine gr rfl (r_load (ot rfl) (lm_s (mem_seg 4 rfl) ag_9 rfl)) ?_
    replace hF := obind hF
    obtain ⟨x16, hx16, hF⟩ := hF
    refine g_callp (v := .tuple #[.agg #[.string x16.1.Key, .string x16.1.Val, .int .i64 x16.1.Rev], .bool x16.2]) EE_fr rfl of (os1 (ot rfl) (os1 (ot rfl) os0)) hb_22 (fun _ => rfl) (fun hf kn w => by exact s_ref06_Get w x15.1 p1.Key (f15_2.ext kn) hx16) ?_
    refine gM rfl rfl ?_
    refine gE rfl rfl rfl ?_
    refine gE rfl rfl rfl ?_
    refine gs_alloc rfl zo_47 rfl ?_; intro b17_17
    refine gs_store (ot rfl) (ot rfl) sz_47 rfl rfl rfl rfl rfl .z ?_
    refine gA rfl rfl ?_
    refine go_nil ?_
    refine go_seq ?_
    refine go_region ?_
    refine gM rfl rfl ?_
    refine gM rfl rfl ?_
    replace hF := obind hF
    obtain ⟨x18, hx18, hF⟩ := hF
    refine g_callp (v := .tuple #[.agg #[.string x18.1.Key, .string x18.1.Val, .int .i64 x18.1.Rev], .bool x18.2]) EE_fr rfl of (os1 (ot rfl) (os1 (ot rfl) os0)) hb_22 (fun _ => rfl) (fun hf kn w => by exact s_ref06_Get w x7.1 p2 ((((((f7_2.ext e10.kn).ext e13.kn).ext e12.kn).ext e14.kn).ext e15.kn).ext kn) hx18) ?_
    refine gM rfl rfl ?_
    refine gE rfl rfl rfl ?_
    refine gE rfl rfl rfl ?_
    refine gs_alloc rfl zo_47 rfl ?_; intro b19_19
    refine gs_store (ot rfl) (ot rfl) sz_47 rfl rfl rfl rfl rfl .z ?_
    refine gA rfl rfl ?_
    refine go_nil ?_
    refine go_seq ?_
    refine go_region ?_
    refine gM rfl rfl ?_
    refine gM rfl rfl ?_
    replace hF := obind hF
    obtain ⟨x20, hx20, hF⟩ := hF
    refine g_callp (v := .tuple #[.agg #[.string x20.1.Key, .string x20.1.Val, .int .i64 x20.1.Rev], .bool x20.2]) EE_fr rfl of (os1 (ot rfl) (os1 (ot rfl) os0)) hb_22 (fun _ => rfl) (fun hf kn w => by exact s_ref06_Get w x15.1 p2 (f15_2.ext kn) hx20) ?_
    refine gM rfl rfl ?_
    refine gE rfl rfl rfl ?_
    refine gE rfl rfl rfl ?_
    refine gs_alloc rfl zo_47 rfl ?_; intro b21_21
    refine gs_store (ot rfl) (ot rfl) sz_47 rfl rfl rfl rfl rfl .z ?_
    refine gA rfl rfl ?_
    refine go_nil ?_
    refine go_seq ?_
    refine go_seq ?_
    refine go_region ?_
    refine gM rfl rfl ?_
    refine gr rfl (r_bin (ot rfl) (oc rfl) rfl) ?_
    refine gM rfl rfl ?_
    refine grf rfl rfl rfl rfl (r_move (ot rfl)) ?_
    refine grf rfl rfl rfl rfl (r_fa (ot rfl) (fa_45_0 _ _)) ?_
    refine grf rfl rfl rfl rfl (r_load (og rfl id) (lm_s (mem_seg 7 rfl) ag_9 rfl)) ?_
    refine grf rfl rfl rfl rfl (r_bin (og rfl id) (og rfl id) rfl) ?_
    refine grf rfl rfl rfl rfl (r_move (og rfl id)) ?_
    refine grt' rfl rfl rfl rfl (r_load (ot rfl) (lm_w (mem_seg 1 rfl) ag_47 sz_47 rfl)) ?_
    refine grt' rfl rfl rfl rfl (r_load (ot rfl) (lm_w (mem_seg 0 rfl) ag_47 sz_47 rfl)) ?_
    refine grt' rfl rfl rfl rfl (r_bin (og rfl id) (og rfl id) bn_47) ?_
    refine grt' rfl rfl rfl rfl (r_move (og rfl id)) ?_
    refine grf' rfl rfl rfl rfl (r_move (ot rfl)) ?_
    refine grf' rfl rfl rfl rfl (r_move (ot rfl)) ?_
    refine grf' rfl rfl rfl rfl (r_bin (og rfl id) (og rfl id) bu_4) ?_
    refine grt' rfl rfl rfl rfl (r_pickb (og rfl id) (oc rfl) (og rfl id)) ?_
    refine grf rfl rfl rfl rfl (r_pickb (og rfl id) (og rfl id) (oc rfl)) ?_
    refine gr rfl (r_pickb (ot rfl) (oc rfl) (og rfl id)) ?_
    refine go_nil ?_
    refine g_cond (b := (bif (x15.2.1 != 0) then true else (bif (!eqB p2 p1.Key) then (bif (!(eq_TKV x18.1 x20.1)) then true else (!(x18.2 == x20.2))) else false))) (ot rfl) (fun hc22 => ?_) (fun hc22 => ?_)
    ·
      replace hF := ifT hc22 hF
      refine go_seq ?_
      refine go_region ?_
      refine gAc rfl rfl ?_
      refine go_nil ?_
      obtain rfl := someI hF
      exact g_ret (rst rfl rs0) (fun h1 hf hs => ⟨(e5.trans (e6.trans (e7.trans (e10.trans (e13.trans (e12.trans (e14.trans (e15.trans hs.hext)))))))), rfl⟩)
    ·
      replace hF := ifF hc22 hF
      refine go_skip ?_
      refine go_seq ?_
      refine go_seq ?_
      refine go_region ?_
      refine gr rfl (r_fa (ot rfl) (fa_45_2 _ _)) ?_
      refine gr rfl (r_load (ot rfl) (lm_s (mem_seg 7 rfl) ag_4 rfl)) ?_
      refine go_nil ?_
      refine g_cond (b := p1.Del) (ot rfl) (fun hc23 => ?_) (fun hc23 => ?_)
      ·
        replace hF := ifT hc23 hF
        refine go_seq ?_
        refine go_region ?_
        refine gM rfl rfl ?_
        refine gM rfl rfl ?_
        refine g_do rfl rfl rfl ?_
        refine gM rfl rfl ?_
        refine g_do rfl rfl rfl ?_
        refine gr rfl (r_un (ot rfl) rfl) ?_
        refine gr rfl (r_pkT (ot rfl) (ot rfl)) ?_
        refine gM rfl rfl ?_
        refine grt rfl rfl rfl rfl (r_move (ot rfl)) ?_
        refine grt rfl rfl rfl rfl (r_len rfl (os1 (og rfl id) os0) (fun _ _ => ln_50)) ?_
        refine grt rfl rfl rfl rfl (r_bin (og rfl id) (oc rfl) rfl) ?_
        refine grt rfl rfl rfl rfl (r_move (ot rfl)) ?_
        refine grt rfl rfl rfl rfl (r_bin (og rfl id) (og rfl id) be_4) ?_
        refine gr rfl (r_pickb (ot rfl) (og rfl id) (oc rfl)) ?_
        refine gM rfl rfl ?_
        replace hF := obind hF
        obtain ⟨s25, hF, hK25⟩ := hF
        refine go_joinr 8 (β := Option Addr × List Blk × List (ByteArray × Value)) (fun s h' => AccR (Rep.sl R_TEvent 50) 50 h' s.2.1 (.slice s.1 s25.2.2.2.1.length s25.2.2.2.1.length) s25.2.2.2.1 ∧ MR R_TEvent h' s.2.2 s25.2.2.2.2) (fun s => [(4, true, .pointer (some ⟨b4_1, 0, none⟩)), (6, true, .bool false), (7, true, .bool true), (8, true, .pointer (some ⟨b5_w0, 0, none⟩)), (13, true, .int .i64 x10.1), (14, true, .slice a12_0 x12.1.length c12_0), (17, true, .pointer (some ⟨b17_17, 0, none⟩)), (18, true, .bool x16.2), (118, true, .bool s25.1)]) (fun s => (List.flatten [[⟨b21_21, .cells [.string x20.1.Key, .string x20.1.Val, .int .i64 x20.1.Rev] 47⟩], [⟨b19_19, .cells [.string x18.1.Key, .string x18.1.Val, .int .i64 x18.1.Rev] 47⟩], [⟨b17_17, .cells [.string x16.1.Key, .string x16.1.Val, .int .i64 x16.1.Rev] 47⟩], [⟨b5_w0, .cells [.int .i64 s25.2.1, .int .i64 s25.2.2.1, .map (some b5_w0m2), .slice s.1 s25.2.2.2.1.length s25.2.2.2.1.length] 100⟩], [⟨b5_w0m2, .map (encM kS id s.2.2)⟩], s.2.1, [⟨b11_9, .cells [.string x8.1.Key, .string x8.1.Val, .int .i64 x8.1.Rev] 47⟩], [⟨b4_1, .cells [.string p1.Key, .string p1.Val, .bool p1.Del] 45⟩]] : List Blk)) ?_ (fun J25 => ?_)
        ·
          rintro ⟨a25_0, a25_1, a25_2⟩ h25 e25 w25 ⟨f25_3, f25_4⟩
          replace hF := hK25
          refine gA rfl rfl ?_
          refine go_nil ?_
          obtain rfl := someI hF
          exact g_ret (rst rfl rs0) (fun h1 hf hs => ⟨(e5.trans (e6.trans (e7.trans (e10.trans (e13.trans (e12.trans (e14.trans (e15.trans (e25.trans hs.hext))))))))), rfl⟩)
        ·
          rcases Bool.eq_false_or_eq_true (bif (!x16.2) then (((x12.1.length : Int) == 1) == x8.2) else false) with hb24 | hb24
          ·
            replace hF := ifT hb24 hF
            refine go_re 110 (v2 := .bool true) rfl (congrArg Value.bool hb24) ?_
            refine g_do rfl rfl rfl ?_
            refine gM rfl rfl ?_
            refine g_do rfl rfl rfl ?_
            replace hF := obind hF
            obtain ⟨x26, hx26, hF⟩ := hF
            refine gs_call EE_fr w15 (.cons (.s (.s (.s (.z)))) (.cons (.s (.s (.s (.z)))) (.cons (.s (.s (.s (.z)))) .nil))) (fun _ h => by cases h; rfl) of (os1 (ot rfl) os0) hb_17 (by exact s_hist_Hist_Rev w15 (⟨x15.2.2.bounds_rev, x15.2.2.bounds_hor, x15.2.2.keys, x15.2.2.rows⟩ : Ohist_Hist) f15_0 f15_1 hx26) ?_
            rintro v26 S26 h26 e26 w26 ⟨rw26_y0_2, q26_y0_3, t26_y0_3, rfl, rfl, f26_0, f26_1⟩
            simp only [List.cons_append, List.nil_append]
            refine g_do rfl rfl rfl ?_
            refine gM rfl rfl ?_
            refine g_do rfl rfl rfl ?_
            refine gr rfl (r_bin (ot rfl) (oc rfl) rfl) ?_
            refine g_do rfl rfl rfl ?_
            refine gr rfl (r_bin (ot rfl) (ot rfl) rfl) ?_
            refine g_do rfl rfl rfl ?_
            refine gM rfl rfl ?_
            refine g_do rfl rfl rfl ?_
            refine gr rfl (r_bin (ot rfl) (ot rfl) be_4) ?_
            refine gr rfl (r_pkT (ot rfl) (ot rfl)) ?_
            obtain rfl := someI hF
            refine gs_perm (perm_of (d := []) _ [3, 4, 5, 0, 1, 2, 6, 7] rfl) ?_
            exact Goes.weak (J25 (q26_y0_3, t26_y0_3, rw26_y0_2) _ e26 w26 ⟨f26_1, f26_0⟩) (Sub.cons (Sub.cons (Sub.cons (Sub.cons (Sub.cons (Sub.cons (Sub.cons (Sub.cons (Sub.cons (Sub.nil _) rfl) rfl) rfl) rfl) rfl) rfl) rfl) rfl) rfl)
          ·
            replace hF := ifF hb24 hF
            refine go_re 110 (v2 := .bool false) rfl (congrArg Value.bool hb24) ?_
            refine g_no rfl rfl rfl rfl rfl ?_
            refine g_no rfl rfl rfl rfl rfl ?_
            refine g_no rfl rfl rfl rfl rfl ?_
            refine g_no rfl rfl rfl rfl rfl ?_
            refine g_no rfl rfl rfl rfl rfl ?_
            refine g_no rfl rfl rfl rfl rfl ?_
            refine g_no rfl rfl rfl rfl rfl ?_
            refine gr rfl (r_pkF (ot rfl) (oc rfl)) ?_
            obtain rfl := someI hF
            exact Goes.weak (J25 (q15_y0_3, t15_y0_3, rw15_y0_2) _ (HExt.refl _) w15 ⟨f15_1, f15_0⟩) (Sub.cons (Sub.cons (Sub.cons (Sub.cons (Sub.cons (Sub.cons (Sub.cons (Sub.cons (Sub.cons (Sub.nil _) rfl) rfl) rfl) rfl) rfl) rfl) rfl) rfl) rfl)
      ·
        replace hF := ifF hc23 hF
        refine go_skip ?_
        refine go_seq ?_
        refine go_region ?_
        refine gM rfl rfl ?_
        refine gM rfl rfl ?_
        refine g_do rfl rfl rfl ?_
        refine gM rfl rfl ?_
        refine gr rfl (r_pkT (ot rfl) (ot rfl)) ?_
        refine gM rfl rfl ?_
        refine grt rfl rfl rfl rfl (r_load (ot rfl) (lm_w (mem_seg 2 rfl) ag_47 sz_47 rfl)) ?_
        refine grt rfl rfl rfl rfl (r_fa (ot rfl) (fa_45_0 _ _)) ?_
        refine grt rfl rfl rfl rfl (r_load (og rfl id) (lm_s (mem_seg 7 rfl) ag_9 rfl)) ?_
        refine grt rfl rfl rfl rfl (r_fa (ot rfl) (fa_45_1 _ _)) ?_
        refine grt rfl rfl rfl rfl (r_load (og rfl id) (lm_s (mem_seg 7 rfl) ag_9 rfl)) ?_
        refine grt rfl rfl rfl rfl (r_move (ot rfl)) ?_
        refine grt rfl rfl rfl rfl (r_bin (og rfl id) (oc rfl) rfl) ?_
        refine grt rfl rfl rfl rfl (r_build (op1 (og rfl id) (op1 (og rfl id) (op1 (og rfl id) op0))) rfl) ?_
        refine grt rfl rfl rfl rfl (r_bin (og rfl id) (og rfl id) bq_47) ?_
        refine gr rfl (r_pickb (ot rfl) (og rfl id) (oc rfl)) ?_
        refine gM rfl rfl ?_
        refine grt rfl rfl rfl rfl (r_move (ot rfl)) ?_
        refine grt rfl rfl rfl rfl (r_len rfl (os1 (og rfl id) os0) (fun _ _ => ln_50)) ?_
        refine grt rfl rfl rfl rfl (r_bin (og rfl id) (oc rfl) rfl) ?_
        refine gr rfl (r_pickb (ot rfl) (og rfl id) (oc rfl)) ?_
        refine gM rfl rfl ?_
        replace hF := obind hF
        obtain ⟨s28, hF, hK28⟩ := hF
        refine go_joinr 6 (β := Option Addr × List Blk × List (ByteArray × Value)) (fun s h' => AccR (Rep.sl R_TEvent 50) 50 h' s.2.1 (.slice s.1 s28.2.2.2.1.length s28.2.2.2.1.length) s28.2.2.2.1 ∧ MR R_TEvent h' s.2.2 s28.2.2.2.2) (fun s => [(6, true, .bool false), (145, true, .bool s28.1)]) (fun s => (List.flatten [[⟨b21_21, .cells [.string x20.1.Key, .string x20.1.Val, .int .i64 x20.1.Rev] 47⟩], [⟨b19_19, .cells [.string x18.1.Key, .string x18.1.Val, .int .i64 x18.1.Rev] 47⟩], [⟨b17_17, .cells [.string x16.1.Key, .string x16.1.Val, .int .i64 x16.1.Rev] 47⟩], [⟨b5_w0, .cells [.int .i64 s28.2.1, .int .i64 s28.2.2.1, .map (some b5_w0m2), .slice s.1 s28.2.2.2.1.length s28.2.2.2.1.length] 100⟩], [⟨b5_w0m2, .map (encM kS id s.2.2)⟩], s.2.1, [⟨b11_9, .cells [.string x8.1.Key, .string x8.1.Val, .int .i64 x8.1.Rev] 47⟩], [⟨b4_1, .cells [.string p1.Key, .string p1.Val, .bool p1.Del] 45⟩]] : List Blk)) ?_ (fun J28 => ?_)
        ·
          rintro ⟨a28_0, a28_1, a28_2⟩ h28 e28 w28 ⟨f28_3, f28_4⟩
          replace hF := hK28
          refine gA rfl rfl ?_
          refine go_nil ?_
          obtain rfl := someI hF
          exact g_ret (rst rfl rs0) (fun h1 hf hs => ⟨(e5.trans (e6.trans (e7.trans (e10.trans (e13.trans (e12.trans (e14.trans (e15.trans (e28.trans hs.hext))))))))), rfl⟩)
        ·
          rcases Bool.eq_false_or_eq_true (bif (bif x16.2 then (eq_TKV x16.1 (⟨p1.Key, p1.Val, (IntKind.i64.wrap (x10.1 + 1))⟩ : TKV)) else false) then ((x12.1.length : Int) == 1) else false) with hb27 | hb27
          ·
            replace hF := ifT hb27 hF
            refine go_re 139 (v2 := .bool true) rfl (congrArg Value.bool hb27) ?_
            refine g_do rfl rfl rfl ?_
            refine gM rfl rfl ?_
            refine g_do rfl rfl rfl ?_
            replace hF := obind hF
            obtain ⟨x29, hx29, hF⟩ := hF
            refine gs_call EE_fr w15 (.cons (.s (.s (.s (.z)))) (.cons (.s (.s (.s (.z)))) (.cons (.s (.s (.s (.z)))) .nil))) (fun _ h => by cases h; rfl) of (os1 (ot rfl) os0) hb_17 (by exact s_hist_Hist_Rev w15 (⟨x15.2.2.bounds_rev, x15.2.2.bounds_hor, x15.2.2.keys, x15.2.2.rows⟩ : Ohist_Hist) f15_0 f15_1 hx29) ?_
            rintro v29 S29 h29 e29 w29 ⟨rw29_y0_2, q29_y0_3, t29_y0_3, rfl, rfl, f29_0, f29_1⟩
            simp only [List.cons_append, List.nil_append]
            refine g_do rfl rfl rfl ?_
            refine gM rfl rfl ?_
            refine g_do rfl rfl rfl ?_
            refine gr rfl (r_bin (ot rfl) (oc rfl) rfl) ?_
            refine g_do rfl rfl rfl ?_
            refine gr rfl (r_bin (ot rfl) (ot rfl) rfl) ?_
            refine gr rfl (r_pkT (ot rfl) (ot rfl)) ?_
            obtain rfl := someI hF
            refine gs_perm (perm_of (d := []) _ [3, 4, 5, 0, 1, 2, 6, 7] rfl) ?_
            exact Goes.weak (J28 (q29_y0_3, t29_y0_3, rw29_y0_2) _ e29 w29 ⟨f29_1, f29_0⟩) (Sub.cons (Sub.cons (Sub.nil _) rfl) rfl)
          ·
            replace hF := ifF hb27 hF
            refine go_re 139 (v2 := .bool false) rfl (congrArg Value.bool hb27) ?_
            refine g_no rfl rfl rfl rfl rfl ?_
            refine g_no rfl rfl rfl rfl rfl ?_
            refine g_no rfl rfl rfl rfl rfl ?_
            refine g_no rfl rfl rfl rfl rfl ?_
            refine g_no rfl rfl rfl rfl rfl ?_
            refine gr rfl (r_pkF (ot rfl) (oc rfl)) ?_
            obtain rfl := someI hF
            exact Goes.weak (J28 (q15_y0_3, t15_y0_3, rw15_y0_2) _ (HExt.refl _) w15 ⟨f15_1, f15_0⟩) (Sub.cons (Sub.cons (Sub.nil _) rfl) rfl)
end Go.Proofs.Ytpfdandpmpmbiaa.V
