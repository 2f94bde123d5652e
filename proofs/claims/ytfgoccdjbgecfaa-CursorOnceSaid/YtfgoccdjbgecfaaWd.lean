/- Walks.
   No condition: these are laws of the clean machine and of this program. -/
import Derived.Test.YtfgoccdjbgecfaaPT
import Derived.Test.YtfgoccdjbgecfaaFd
import Derived.Test.YtfgoccdjbgecfaaWx
import Derived.Test.YtfgoccdjbgecfaaWm
import Derived.Test.YtfgoccdjbgecfaaWr
import Derived.Test.YtfgoccdjbgecfaaWs
import Derived.Test.YtfgoccdjbgecfaaWo
namespace Go.Proofs.Ytfgoccdjbgecfaa.V
open Go
set_option linter.unusedVariables false
set_option linter.unusedSimpArgs false
set_option maxRecDepth 100000
set_option maxHeartbeats 4000000
theorem s_law10_CursorOnce (n : Nat) {h : Heap} (hw : Wf h) (p0 : (List Timpostlaw10_Deed)) (p1 : TRange) (p2 : Int) {a0_0 : Option Addr} {c0_0 : Nat} (f0_0 : RL R_Timpostlaw10_Deed h a0_0 c0_0 p0) {r : Bool} (hF : F_law10_CursorOnce n p0 p1 p2 = some r) :
    Ev EE 5 [.slice a0_0 p0.length c0_0, .agg #[.string p1.From, .string p1.To], .int .u8 p2] h (fun v _ => v = .bool r) := by
  unfold F_law10_CursorOnce at hF
  refine ev_of hw rfl at_5 rfl rfl (go_seg0 ?_)
  refine go_seq ?_
  refine go_region ?_
  refine gs_box rfl (ot rfl) rfl ?_; intro b4_1
  refine gAc rfl rfl ?_
  refine go_nil ?_
  refine go_seq ?_
  refine go_region ?_
  refine g_callp EE_fr rfl of os0 hb_8 (fun _ => rfl) (fun hf kn w => by exact known_evp rfl hf w) ?_
  refine gA rfl rfl ?_
  refine go_nil ?_
  refine go_seq ?_
  refine go_seq ?_
  refine go_region ?_
  refine gM rfl rfl ?_
  replace hF := obind hF
  obtain ⟨x3, hx3, hF⟩ := hF
  refine g_callp (v := .bool x3) EE_fr rfl of (os1 (ot rfl) os0) hb_17 (fun _ => rfl) (fun hf kn w => by exact s_law10_few w p0 (f0_0.ext kn) hx3) ?_
  refine gr rfl (r_un (ot rfl) rfl) ?_
  refine go_nil ?_
  refine g_cond (b := (!x3)) (ot rfl) (fun hc4 => ?_) (fun hc4 => ?_)
  ·
    replace hF := ifT hc4 hF
    refine go_seq ?_
    refine go_region ?_
    refine gM rfl rfl ?_
    refine gA rfl rfl ?_
    refine go_nil ?_
    obtain rfl := someI hF
    exact g_ret (rst rfl rs0) (fun h1 hf hs => ⟨hs.hext, rfl⟩)
  ·
    replace hF := ifF hc4 hF
    refine go_skip ?_
    refine go_seq ?_
    refine go_region ?_
    replace hF := obind hF
    obtain ⟨x5, hx5, hF⟩ := hF
    refine gs_call EE_fr hw .nil (fun _ h => by cases h; rfl) of os0 hb_18 (by exact s_hist_New hw   hx5) ?_
    rintro v5 S5 h5 e5 w5 ⟨b5_w0, b5_w0m2, rw5_w0_2, q5_w0_3, t5_w0_3, rfl, rfl, f5_0, f5_1⟩
    simp only [List.cons_append, List.nil_append]
    refine gA rfl rfl ?_
    refine go_nil ?_
    refine go_seq ?_
    refine go_region ?_
    refine gM rfl rfl ?_
    refine gr rfl (r_load (ot rfl) (lm_w (mem_seg 3 rfl) ag_23 sz_23 rfl)) ?_
    replace hF := obind hF
    obtain ⟨x6, hx6, hF⟩ := hF
    refine gs_call EE_fr w5 (.cons .z (.cons .z (.cons .z .nil))) (fun _ h => by cases h; rfl) of (os1 (ot rfl) (os1 (ot rfl) (os1 (oc rfl) os0))) hb_20 (by exact s_cursor_Open n w5 x5 p1 0 f5_0 f5_1 hx6) ?_
    rintro v6 S6 h6 e6 w6 ⟨rw6_y0_2, q6_y0_3, t6_y0_3, a6_0, c6_0, rfl, rfl, f6_0, f6_1, f6_2⟩
    simp only [List.cons_append, List.nil_append]
    refine gM rfl rfl ?_
    refine gE rfl rfl rfl ?_
    refine gE rfl rfl rfl ?_
    refine gE rfl rfl rfl ?_
    refine gs_alloc rfl zo_31 rfl ?_; intro b9_7
    refine gs_store (ot rfl) (ot rfl) sz_31 rfl rfl rfl rfl rfl .z ?_
    refine gA rfl rfl ?_
    refine gA rfl rfl ?_
    refine go_nil ?_
    refine go_seq ?_
    refine go_region ?_
    refine gr rfl (r_load (ot rfl) (lm_w (mem_seg 0 rfl) ag_31 sz_31 rfl)) ?_
    refine gs_alloc rfl zo_31 rfl ?_; intro b12_8
    refine gs_store (ot rfl) (ot rfl) sz_31 rfl rfl rfl rfl rfl .z ?_
    refine go_nil ?_
    refine go_seq ?_
    refine go_region ?_
    refine gr rfl (r_fa (ot rfl) (fa_31_2 _ _)) ?_
    refine gs_store (ot rfl) (oc rfl) sz_4 rfl rfl rfl rfl rfl .z ?_
    refine go_nil ?_
    refine go_seq ?_
    refine go_seq ?_
    refine go_region ?_
    refine gAc rfl rfl ?_
    refine go_nil ?_
    replace hF := obind hF
    obtain ⟨s9, hF, hK9⟩ := hF
    refine go_joinc (β := Option Addr × List Blk × List (ByteArray × Value)) (fun s h' => AccR (Rep.sl R_TEvent 30) 30 h' s.2.1 (.slice s.1 s9.2.2.1.length s9.2.2.1.length) s9.2.2.1 ∧ MR R_TEvent h' s.2.2 s9.2.2.2) (fun s => [(2, true, .int .u8 p2), (6, true, .bool false), (7, true, .bool true), (8, true, .pointer (some ⟨b5_w0, 0, none⟩)), (9, true, .pointer (some ⟨b9_7, 0, none⟩)), (10, true, .slice a6_0 x6.2.1.length c6_0), (11, true, .int .i64 x6.2.2.1), (12, true, .pointer (some ⟨b12_8, 0, none⟩))]) (fun s => (List.flatten [[⟨b12_8, .cells [.string x6.1.R.From, .string x6.1.R.To, .int .i64 x6.1.Next, .bool true, .bool x6.1.Dead] 31⟩], [⟨b9_7, .cells [.string x6.1.R.From, .string x6.1.R.To, .int .i64 x6.1.Next, .bool x6.1.Once, .bool x6.1.Dead] 31⟩], [⟨b5_w0, .cells [.int .i64 s9.1, .int .i64 s9.2.1, .map (some b5_w0m2), .slice s.1 s9.2.2.1.length s9.2.2.1.length] 90⟩], [⟨b5_w0m2, .map (encM kS id s.2.2)⟩], s.2.1, [⟨b4_1, .cells [.string p1.From, .string p1.To] 23⟩]] : List Blk)) ?_ (fun J9 => ?_)
    ·
      rintro ⟨a9_0, a9_1, a9_2⟩ h9 e9 w9 ⟨f9_2, f9_3⟩
      replace hF := hK9
      refine go_seq ?_
      refine go_region ?_
      refine gM rfl rfl ?_
      refine gr rfl (r_bin (ot rfl) (oc rfl) rfl) ?_
      refine gr rfl (r_conv (ot rfl) rfl) ?_
      refine gA rfl rfl ?_
      refine go_nil ?_
      refine go_seq ?_
      refine go_region ?_
      refine gr rfl (r_load (ot rfl) (lm_w (mem_seg 1 rfl) ag_31 sz_31 rfl)) ?_
      refine gM rfl rfl ?_
      refine gM rfl rfl ?_
      replace hF := obind hF
      obtain ⟨x10, hx10, hF⟩ := hF
      refine gs_call EE_fr w9 (.cons (.s (.s (.z))) (.cons (.s (.s (.z))) (.cons (.s (.s (.z))) .nil))) (fun _ h => by cases h; rfl) of (os1 (ot rfl) (os1 (ot rfl) (os1 (ot rfl) os0))) hb_24 (by exact s_cursor_Poll n w9 x6.1 (⟨s9.1, s9.2.1, s9.2.2.2, s9.2.2.1⟩ : Ohist_Hist) (IntKind.i64.wrap (Int.tmod p2 33)) f9_3 f9_2 hx10) ?_
      rintro v10 S10 h10 e10 w10 ⟨rw10_y0_2, q10_y0_3, t10_y0_3, a10_0, c10_0, rfl, rfl, f10_0, f10_1, f10_2⟩
      simp only [List.cons_append, List.nil_append]
      refine gM rfl rfl ?_
      refine gE rfl rfl rfl ?_
      refine gE rfl rfl rfl ?_
      refine gs_alloc rfl zo_31 rfl ?_; intro b15_11
      refine gs_alloc rfl zo_34 rfl ?_; intro b16_12
      refine gs_store (ot rfl) (ot rfl) sz_31 rfl rfl rfl rfl rfl (.s (.z)) ?_
      refine gs_store (ot rfl) (ot rfl) sz_34 rfl rfl rfl rfl rfl .z ?_
      refine go_nil ?_
      refine go_seq ?_
      refine go_region ?_
      refine gr rfl (r_load (ot rfl) (lm_w (mem_seg 5 rfl) ag_31 sz_31 rfl)) ?_
      refine gM rfl rfl ?_
      refine gM rfl rfl ?_
      replace hF := obind hF
      obtain ⟨x13, hx13, hF⟩ := hF
      refine gs_call EE_fr w10 (.cons (.s (.s (.z))) (.cons (.s (.s (.z))) (.cons (.s (.s (.z))) .nil))) (fun _ h => by cases h; rfl) of (os1 (ot rfl) (os1 (ot rfl) (os1 (ot rfl) os0))) hb_24 (by exact s_cursor_Poll n w10 (⟨x6.1.R, x6.1.Next, true, x6.1.Dead⟩ : Tcursor_Cursor) (⟨x10.2.2.bounds_rev, x10.2.2.bounds_hor, x10.2.2.keys, x10.2.2.rows⟩ : Ohist_Hist) (IntKind.i64.wrap (Int.tmod p2 33)) f10_0 f10_1 hx13) ?_
      rintro v13 S13 h13 e13 w13 ⟨rw13_y0_2, q13_y0_3, t13_y0_3, a13_0, c13_0, rfl, rfl, f13_0, f13_1, f13_2⟩
      simp only [List.cons_append, List.nil_append]
      refine gM rfl rfl ?_
      refine gE rfl rfl rfl ?_
      refine gE rfl rfl rfl ?_
      refine gs_alloc rfl zo_31 rfl ?_; intro b17_14
      refine gs_alloc rfl zo_34 rfl ?_; intro b18_15
      refine gs_store (ot rfl) (ot rfl) sz_31 rfl rfl rfl rfl rfl (.s (.z)) ?_
      refine gs_store (ot rfl) (ot rfl) sz_34 rfl rfl rfl rfl rfl .z ?_
      refine go_nil ?_
      refine go_seq ?_
      refine go_region ?_
      refine gAc rfl rfl ?_
      refine go_nil ?_
      refine go_seq ?_
      refine go_seq ?_
      refine go_region ?_
      refine gAc rfl rfl ?_
      refine go_nil ?_
      replace hF := obind hF
      obtain ⟨s16, hF, hK16⟩ := hF
      refine go_joinc (β := Option Addr × List Blk) (fun s h' => AccR R_TEvent 77 h' s.2 (.slice s.1 s16.length s16.length) s16) (fun s => [(6, true, .bool false), (7, true, .bool true), (10, true, .slice a6_0 x6.2.1.length c6_0), (11, true, .int .i64 x6.2.2.1), (16, true, .pointer (some ⟨b16_12, 0, none⟩)), (18, true, .pointer (some ⟨b18_15, 0, none⟩)), (19, true, .slice s.1 s16.length s16.length)]) (fun s => (List.flatten [s.2, [⟨b18_15, .cells [.int .i64 x13.2.1.Err, .int .i64 x13.2.1.Hor, .int .i64 x13.2.1.Upto, .slice a13_0 x13.2.1.Rows.length c13_0] 34⟩], [⟨b17_14, .cells [.string x13.1.R.From, .string x13.1.R.To, .int .i64 x13.1.Next, .bool x13.1.Once, .bool x13.1.Dead] 31⟩], [⟨b5_w0, .cells [.int .i64 x13.2.2.bounds_rev, .int .i64 x13.2.2.bounds_hor, .map (some b5_w0m2), .slice q13_y0_3 x13.2.2.rows.length x13.2.2.rows.length] 90⟩], [⟨b5_w0m2, .map (encM kS id rw13_y0_2)⟩], t13_y0_3, [⟨b16_12, .cells [.int .i64 x10.2.1.Err, .int .i64 x10.2.1.Hor, .int .i64 x10.2.1.Upto, .slice a10_0 x10.2.1.Rows.length c10_0] 34⟩], [⟨b15_11, .cells [.string x10.1.R.From, .string x10.1.R.To, .int .i64 x10.1.Next, .bool x10.1.Once, .bool x10.1.Dead] 31⟩], [⟨b12_8, .cells [.string x6.1.R.From, .string x6.1.R.To, .int .i64 x6.1.Next, .bool true, .bool x6.1.Dead] 31⟩], [⟨b9_7, .cells [.string x6.1.R.From, .string x6.1.R.To, .int .i64 x6.1.Next, .bool x6.1.Once, .bool x6.1.Dead] 31⟩], [⟨b4_1, .cells [.string p1.From, .string p1.To] 23⟩]] : List Blk)) ?_ (fun J16 => ?_)
      ·
        rintro ⟨a16_0, a16_1⟩ h16 e16 w16 f16_0
        replace hF := hK16
        refine go_seq ?_
        refine go_region ?_
        refine gAc rfl rfl ?_
        refine go_nil ?_
        refine go_seq ?_
        refine go_seq ?_
        refine go_region ?_
        refine gr rfl (r_fa (ot rfl) (fa_34_3 _ _)) ?_
        refine gr rfl (r_load (ot rfl) (lm_s (mem_seg 1 rfl) ag_28 rfl)) ?_
        refine gr rfl (r_len rfl (os1 (ot rfl) os0) (fun _ _ => ln_28)) ?_
        refine gr rfl (r_bin (ot rfl) (oc rfl) rfl) ?_
        refine go_nil ?_
        replace hF := obind hF
        obtain ⟨s18, hF, hK18⟩ := hF
        refine go_joinc (β := Option Addr × Nat) (fun s h' => RL R_TEvent h' s.1 s.2 s18) (fun s => [(6, true, .bool false), (7, true, .bool true), (10, true, .slice a6_0 x6.2.1.length c6_0), (11, true, .int .i64 x6.2.2.1), (16, true, .pointer (some ⟨b16_12, 0, none⟩)), (18, true, .pointer (some ⟨b18_15, 0, none⟩)), (19, true, .slice a16_0 s16.length s16.length), (21, true, .slice s.1 s18.length s.2)]) (fun s => (List.flatten [a16_1, [⟨b18_15, .cells [.int .i64 x13.2.1.Err, .int .i64 x13.2.1.Hor, .int .i64 x13.2.1.Upto, .slice a13_0 x13.2.1.Rows.length c13_0] 34⟩], [⟨b17_14, .cells [.string x13.1.R.From, .string x13.1.R.To, .int .i64 x13.1.Next, .bool x13.1.Once, .bool x13.1.Dead] 31⟩], [⟨b5_w0, .cells [.int .i64 x13.2.2.bounds_rev, .int .i64 x13.2.2.bounds_hor, .map (some b5_w0m2), .slice q13_y0_3 x13.2.2.rows.length x13.2.2.rows.length] 90⟩], [⟨b5_w0m2, .map (encM kS id rw13_y0_2)⟩], t13_y0_3, [⟨b16_12, .cells [.int .i64 x10.2.1.Err, .int .i64 x10.2.1.Hor, .int .i64 x10.2.1.Upto, .slice a10_0 x10.2.1.Rows.length c10_0] 34⟩], [⟨b15_11, .cells [.string x10.1.R.From, .string x10.1.R.To, .int .i64 x10.1.Next, .bool x10.1.Once, .bool x10.1.Dead] 31⟩], [⟨b12_8, .cells [.string x6.1.R.From, .string x6.1.R.To, .int .i64 x6.1.Next, .bool true, .bool x6.1.Dead] 31⟩], [⟨b9_7, .cells [.string x6.1.R.From, .string x6.1.R.To, .int .i64 x6.1.Next, .bool x6.1.Once, .bool x6.1.Dead] 31⟩], [⟨b4_1, .cells [.string p1.From, .string p1.To] 23⟩]] : List Blk)) ?_ (fun J18 => ?_)
        ·
          rintro ⟨a18_0, a18_1⟩ h18 e18 w18 f18_0
          replace hF := hK18
          refine go_seq ?_
          refine go_region ?_
          refine gM rfl rfl ?_
          refine gM rfl rfl ?_
          refine g_do rfl rfl rfl ?_
          refine gM rfl rfl ?_
          refine g_do rfl rfl rfl ?_
          refine gr rfl (r_bin (ot rfl) (oc rfl) rfl) ?_
          refine gr rfl (r_pkT (ot rfl) (ot rfl)) ?_
          refine gM rfl rfl ?_
          refine grt rfl rfl rfl rfl (r_fa (ot rfl) (fa_34_3 _ _)) ?_
          refine grt rfl rfl rfl rfl (r_load (og rfl id) (lm_s (mem_seg 1 rfl) ag_28 rfl)) ?_
          refine grt rfl rfl rfl rfl (r_len rfl (os1 (og rfl id) os0) (fun _ _ => ln_28)) ?_
          refine grt rfl rfl rfl rfl (r_bin (og rfl id) (oc rfl) rfl) ?_
          refine gr rfl (r_pickb (ot rfl) (og rfl id) (oc rfl)) ?_
          refine gM rfl rfl ?_
          refine grt rfl rfl rfl rfl (r_fa (ot rfl) (fa_34_2 _ _)) ?_
          refine grt rfl rfl rfl rfl (r_load (og rfl id) (lm_s (mem_seg 6 rfl) ag_3 rfl)) ?_
          refine grt rfl rfl rfl rfl (r_fa (ot rfl) (fa_34_2 _ _)) ?_
          refine grt rfl rfl rfl rfl (r_load (og rfl id) (lm_s (mem_seg 1 rfl) ag_3 rfl)) ?_
          refine grt rfl rfl rfl rfl (r_bin (og rfl id) (og rfl id) rfl) ?_
          refine gr rfl (r_pickb (ot rfl) (og rfl id) (oc rfl)) ?_
          refine gM rfl rfl ?_
          refine gs_accpub .z (f16_0.ext e18.kn) (fun h20 e20 w20 f20_ => ?_) rfl
          replace hF := obind hF
          obtain ⟨s21, hF, hK21⟩ := hF
          refine go_joinr 5 (β := Unit) (fun s h' => True) (fun s => [(6, true, .bool false), (10, true, .slice a6_0 x6.2.1.length c6_0), (19, true, .slice a16_0 s16.length s16.length), (21, true, .slice a18_0 s18.length a18_1), (112, true, .bool s21)]) (fun s => (List.flatten [[⟨b18_15, .cells [.int .i64 x13.2.1.Err, .int .i64 x13.2.1.Hor, .int .i64 x13.2.1.Upto, .slice a13_0 x13.2.1.Rows.length c13_0] 34⟩], [⟨b17_14, .cells [.string x13.1.R.From, .string x13.1.R.To, .int .i64 x13.1.Next, .bool x13.1.Once, .bool x13.1.Dead] 31⟩], [⟨b5_w0, .cells [.int .i64 x13.2.2.bounds_rev, .int .i64 x13.2.2.bounds_hor, .map (some b5_w0m2), .slice q13_y0_3 x13.2.2.rows.length x13.2.2.rows.length] 90⟩], [⟨b5_w0m2, .map (encM kS id rw13_y0_2)⟩], t13_y0_3, [⟨b16_12, .cells [.int .i64 x10.2.1.Err, .int .i64 x10.2.1.Hor, .int .i64 x10.2.1.Upto, .slice a10_0 x10.2.1.Rows.length c10_0] 34⟩], [⟨b15_11, .cells [.string x10.1.R.From, .string x10.1.R.To, .int .i64 x10.1.Next, .bool x10.1.Once, .bool x10.1.Dead] 31⟩], [⟨b12_8, .cells [.string x6.1.R.From, .string x6.1.R.To, .int .i64 x6.1.Next, .bool true, .bool x6.1.Dead] 31⟩], [⟨b9_7, .cells [.string x6.1.R.From, .string x6.1.R.To, .int .i64 x6.1.Next, .bool x6.1.Once, .bool x6.1.Dead] 31⟩], [⟨b4_1, .cells [.string p1.From, .string p1.To] 23⟩]] : List Blk)) ?_ (fun J21 => ?_)
          ·
            rintro _ h21 e21 w21 _
            replace hF := hK21
            refine gM rfl rfl ?_
            replace hF := obind hF
            obtain ⟨s23, hF, hK23⟩ := hF
            refine go_joinr 8 (β := Unit) (fun s h' => True) (fun s => [(6, true, .bool false), (121, true, .bool s23)]) (fun s => (List.flatten [[⟨b18_15, .cells [.int .i64 x13.2.1.Err, .int .i64 x13.2.1.Hor, .int .i64 x13.2.1.Upto, .slice a13_0 x13.2.1.Rows.length c13_0] 34⟩], [⟨b17_14, .cells [.string x13.1.R.From, .string x13.1.R.To, .int .i64 x13.1.Next, .bool x13.1.Once, .bool x13.1.Dead] 31⟩], [⟨b5_w0, .cells [.int .i64 x13.2.2.bounds_rev, .int .i64 x13.2.2.bounds_hor, .map (some b5_w0m2), .slice q13_y0_3 x13.2.2.rows.length x13.2.2.rows.length] 90⟩], [⟨b5_w0m2, .map (encM kS id rw13_y0_2)⟩], t13_y0_3, [⟨b16_12, .cells [.int .i64 x10.2.1.Err, .int .i64 x10.2.1.Hor, .int .i64 x10.2.1.Upto, .slice a10_0 x10.2.1.Rows.length c10_0] 34⟩], [⟨b15_11, .cells [.string x10.1.R.From, .string x10.1.R.To, .int .i64 x10.1.Next, .bool x10.1.Once, .bool x10.1.Dead] 31⟩], [⟨b12_8, .cells [.string x6.1.R.From, .string x6.1.R.To, .int .i64 x6.1.Next, .bool true, .bool x6.1.Dead] 31⟩], [⟨b9_7, .cells [.string x6.1.R.From, .string x6.1.R.To, .int .i64 x6.1.Next, .bool x6.1.Once, .bool x6.1.Dead] 31⟩], [⟨b4_1, .cells [.string p1.From, .string p1.To] 23⟩]] : List Blk)) ?_ (fun J23 => ?_)
            ·
              rintro _ h23 e23 w23 _
              replace hF := hK23
              refine gA rfl rfl ?_
              refine go_nil ?_
              obtain rfl := someI hF
              exact g_ret (rst rfl rs0) (fun h1 hf hs => ⟨(e5.trans (e6.trans (e9.trans (e10.trans (e13.trans (e16.trans (e18.trans (e20.trans (e21.trans (e23.trans hs.hext)))))))))), rfl⟩)
            ·
              rcases Bool.eq_false_or_eq_true s21 with hb22 | hb22
              ·
                replace hF := ifT hb22 hF
                refine go_re 113 (v2 := .bool true) rfl (congrArg Value.bool hb22) ?_
                refine g_do rfl rfl rfl ?_
                refine gM rfl rfl ?_
                refine g_do rfl rfl rfl ?_
                refine gM rfl rfl ?_
                refine g_do rfl rfl rfl ?_
                replace hF := obind hF
                obtain ⟨x24, hx24, hF⟩ := hF
                refine g_call EE_fr (fun _ h => by cases h; rfl) of (os1 (ot rfl) (os1 (ot rfl) os0)) hb_28 (fun hf kn w => by exact s_ref05_Fold n w x6.2.1 s16 ((((((((f6_2.ext e9.kn).ext e10.kn).ext e13.kn).ext e16.kn).ext e18.kn).ext e20.kn).ext e21.kn).ext kn) ((f20_.ext e21.kn).ext kn) hx24) ?_
                rintro v24 h24 e24 w24 ⟨a24_0, c24_0, rfl, f24_0⟩
                refine g_do rfl rfl rfl ?_
                refine gM rfl rfl ?_
                refine g_do rfl rfl rfl ?_
                refine gM rfl rfl ?_
                refine g_do rfl rfl rfl ?_
                replace hF := obind hF
                obtain ⟨x25, hx25, hF⟩ := hF
                refine g_call EE_fr (fun _ h => by cases h; rfl) of (os1 (ot rfl) (os1 (ot rfl) os0)) hb_28 (fun hf kn w => by exact s_ref05_Fold n w x6.2.1 s18 (((((((((f6_2.ext e9.kn).ext e10.kn).ext e13.kn).ext e16.kn).ext e18.kn).ext e20.kn).ext e21.kn).ext e24.kn).ext kn) ((((f18_0.ext e20.kn).ext e21.kn).ext e24.kn).ext kn) hx25) ?_
                rintro v25 h25 e25 w25 ⟨a25_0, c25_0, rfl, f25_0⟩
                refine g_do rfl rfl rfl ?_
                replace hF := obind hF
                obtain ⟨x26, hx26, hF⟩ := hF
                refine g_callp (v := .bool x26) EE_fr rfl of (os1 (ot rfl) (os1 (ot rfl) os0)) hb_27 (fun _ => rfl) (fun hf kn w => by exact s_ref05_KVs w x24 x25 ((f24_0.ext e25.kn).ext kn) (f25_0.ext kn) hx26) ?_
                refine gr rfl (r_pkT (ot rfl) (ot rfl)) ?_
                obtain rfl := someI hF
                exact Goes.weak (J23 () _ (e24.trans e25) w25 trivial) (Sub.cons (Sub.cons (Sub.nil _) rfl) rfl)
              ·
                replace hF := ifF hb22 hF
                refine go_re 113 (v2 := .bool false) rfl (congrArg Value.bool hb22) ?_
                refine g_no rfl rfl rfl rfl rfl ?_
                refine g_no rfl rfl rfl rfl rfl ?_
                refine g_no rfl rfl rfl rfl rfl ?_
                refine g_no rfl rfl rfl rfl rfl ?_
                refine g_no rfl rfl rfl rfl rfl ?_
                refine g_no rfl rfl rfl rfl rfl ?_
                refine g_no rfl rfl rfl rfl rfl ?_
                refine gr rfl (r_pkF (ot rfl) (oc rfl)) ?_
                obtain rfl := someI hF
                exact Goes.weak (J23 () _ (HExt.refl _) w21 trivial) (Sub.cons (Sub.cons (Sub.nil _) rfl) rfl)
          ·
            rcases Bool.eq_false_or_eq_true (bif (bif (x6.2.2.1 == 0) then (decide ((x13.2.1.Rows.length : Int) ≤ 1)) else false) then (x10.2.1.Upto == x13.2.1.Upto) else false) with hb19 | hb19
            ·
              replace hF := ifT hb19 hF
              refine go_re 107 (v2 := .bool true) rfl (congrArg Value.bool hb19) ?_
              refine g_do rfl rfl rfl ?_
              refine gM rfl rfl ?_
              refine g_do rfl rfl rfl ?_
              refine gM rfl rfl ?_
              refine g_do rfl rfl rfl ?_
              replace hF := obind hF
              obtain ⟨x27, hx27, hF⟩ := hF
              refine g_call EE_fr (fun _ h => by cases h; rfl) of (os1 (ot rfl) os0) hb_26 (fun hf kn w => by exact s_ref05_Last n w s16 (f20_.ext kn) hx27) ?_
              rintro v27 h27 e27 w27 ⟨a27_0, c27_0, rfl, f27_0⟩
              refine g_do rfl rfl rfl ?_
              replace hF := obind hF
              obtain ⟨x28, hx28, hF⟩ := hF
              refine g_callp (v := .bool x28) EE_fr rfl of (os1 (ot rfl) (os1 (ot rfl) os0)) hb_25 (fun _ => rfl) (fun hf kn w => by exact s_ref05_Events w s18 x27 (((f18_0.ext e20.kn).ext e27.kn).ext kn) (f27_0.ext kn) hx28) ?_
              refine gr rfl (r_pkT (ot rfl) (ot rfl)) ?_
              obtain rfl := someI hF
              exact Goes.weak (J21 () _ e27 w27 trivial) (Sub.cons (Sub.cons (Sub.cons (Sub.cons (Sub.cons (Sub.nil _) rfl) rfl) rfl) rfl) rfl)
            ·
              replace hF := ifF hb19 hF
              refine go_re 107 (v2 := .bool false) rfl (congrArg Value.bool hb19) ?_
              refine g_no rfl rfl rfl rfl rfl ?_
              refine g_no rfl rfl rfl rfl rfl ?_
              refine g_no rfl rfl rfl rfl rfl ?_
              refine g_no rfl rfl rfl rfl rfl ?_
              refine gr rfl (r_pkF (ot rfl) (oc rfl)) ?_
              obtain rfl := someI hF
              exact Goes.weak (J21 () _ (HExt.refl _) w20 trivial) (Sub.cons (Sub.cons (Sub.cons (Sub.cons (Sub.cons (Sub.nil _) rfl) rfl) rfl) rfl) rfl)
        ·
          refine g_cond (b := (decide ((x13.2.1.Rows.length : Int) > 0))) (ot rfl) (fun hc17 => ?_) (fun hc17 => ?_)
          ·
            replace hF := ifT hc17 hF
            refine go_region ?_
            refine gr rfl (r_fa (ot rfl) (fa_34_3 _ _)) ?_
            refine gr rfl (r_load (ot rfl) (lm_s (mem_seg 1 rfl) ag_28 rfl)) ?_
            replace hF := obind hF
            obtain ⟨x29, hx29, hF⟩ := hF
            obtain ⟨q29, row29, i29, cl29, rc29, sp29⟩ := ix (ik := .i64) (cap := c13_0) (E := EE) (f13_2.ext e16.kn) hx29 ut_28 sz_30 rfl
            obtain ⟨a29_0, c29_0, rfl, f29_0⟩ := rc29
            refine gr rfl (r_ia (ot rfl) (oc rfl) i29) ?_
            refine gr rfl (r_load (ot rfl) (v := .slice a29_0 x29.length c29_0) (lo_e (fun hf kn => ld_one ag_30 (kn.cellsAt cl29)))) ?_
            refine gA rfl rfl ?_
            refine go_nil ?_
            obtain rfl := someI hF
            exact Goes.weak (J18 (a29_0, c29_0) _ (HExt.refl _) w16 f29_0) (Sub.cons (Sub.cons (Sub.cons (Sub.cons (Sub.cons (Sub.cons (Sub.cons (Sub.cons (Sub.nil _) rfl) rfl) rfl) rfl) rfl) rfl) rfl) rfl)
          ·
            replace hF := ifF hc17 hF
            refine go_skip ?_
            obtain rfl := someI hF
            exact Goes.weak (J18 (none, 0) _ (HExt.refl _) w16 (RL.nil _ _ _)) (Sub.cons (Sub.cons (Sub.cons (Sub.cons (Sub.cons (Sub.cons (Sub.cons (Sub.cons (Sub.nil _) rfl) rfl) rfl) rfl) rfl) rfl) rfl) rfl)
      ·
        refine go_block ?_
        refine go_loop (α := (List (List TEvent)) × Nat × (List TEvent) × Option Addr × List Blk × Heap) (fun a => a.1 = List.drop a.2.1 x10.2.1.Rows ∧ HExt h13 a.2.2.2.2.2 ∧ Wf a.2.2.2.2.2 ∧ F_law10_CursorOnce_L1 a.1 a.2.1 a.2.2.1 = some s16 ∧ AccR R_TEvent 77 a.2.2.2.2.2 a.2.2.2.2.1 (.slice a.2.2.2.1 a.2.2.1.length a.2.2.1.length) a.2.2.1) (fun a => a.1.length) (fun a => [(6, true, .bool false), (7, true, .bool true), (10, true, .slice a6_0 x6.2.1.length c6_0), (11, true, .int .i64 x6.2.2.1), (16, true, .pointer (some ⟨b16_12, 0, none⟩)), (18, true, .pointer (some ⟨b18_15, 0, none⟩)), (19, true, .slice a.2.2.2.1 a.2.2.1.length a.2.2.1.length), (20, true, .int .i64 (a.2.1 : Int))]) (fun a => (List.flatten [a.2.2.2.2.1, [⟨b18_15, .cells [.int .i64 x13.2.1.Err, .int .i64 x13.2.1.Hor, .int .i64 x13.2.1.Upto, .slice a13_0 x13.2.1.Rows.length c13_0] 34⟩], [⟨b17_14, .cells [.string x13.1.R.From, .string x13.1.R.To, .int .i64 x13.1.Next, .bool x13.1.Once, .bool x13.1.Dead] 31⟩], [⟨b5_w0, .cells [.int .i64 x13.2.2.bounds_rev, .int .i64 x13.2.2.bounds_hor, .map (some b5_w0m2), .slice q13_y0_3 x13.2.2.rows.length x13.2.2.rows.length] 90⟩], [⟨b5_w0m2, .map (encM kS id rw13_y0_2)⟩], t13_y0_3, [⟨b16_12, .cells [.int .i64 x10.2.1.Err, .int .i64 x10.2.1.Hor, .int .i64 x10.2.1.Upto, .slice a10_0 x10.2.1.Rows.length c10_0] 34⟩], [⟨b15_11, .cells [.string x10.1.R.From, .string x10.1.R.To, .int .i64 x10.1.Next, .bool x10.1.Once, .bool x10.1.Dead] 31⟩], [⟨b12_8, .cells [.string x6.1.R.From, .string x6.1.R.To, .int .i64 x6.1.Next, .bool true, .bool x6.1.Dead] 31⟩], [⟨b9_7, .cells [.string x6.1.R.From, .string x6.1.R.To, .int .i64 x6.1.Next, .bool x6.1.Once, .bool x6.1.Dead] 31⟩], [⟨b4_1, .cells [.string p1.From, .string p1.To] 23⟩]] : List Blk)) (fun a => a.2.2.2.2.2) ?_ (x10.2.1.Rows, 0, ([] : List TEvent), none, [], h13) ⟨rfl, HExt.refl _, w13, hF, (AccR.nil _ _ _)⟩ (Sub.cons (Sub.cons (Sub.cons (Sub.cons (Sub.cons (Sub.cons (Sub.cons (Sub.cons (Sub.nil _) rfl) rfl) rfl) rfl) rfl) rfl) rfl) rfl) rfl rfl
        rintro ⟨r30, i30, y30_0, a30_0, a30_1, h30⟩ ⟨hr30, e30, w30, hF, f30_0⟩ ih30
        rcases r30 with _ | ⟨z30, r30⟩
        ·
          have hi30 := drop_nil hr30
          rw [F_law10_CursorOnce_L1.eq_1] at hF
          refine go_seq ?_
          refine go_seq ?_
          refine go_region ?_
          refine gM rfl rfl ?_
          refine gr rfl (r_fa (ot rfl) (fa_34_3 _ _)) ?_
          refine gr rfl (r_load (ot rfl) (lm_s (mem_seg 6 rfl) ag_28 rfl)) ?_
          refine gr rfl (r_len rfl (os1 (ot rfl) os0) (fun _ _ => ln_28)) ?_
          refine gr rfl (r_bin (ot rfl) (ot rfl) rfl) ?_
          refine go_cast (.bool false) (congrArg Value.bool (decide_eq_false hi30)) ?_
          refine go_nil ?_
          refine g_cond (b := false) (ot rfl) (fun hc31 => ?_) (fun hc31 => ?_)
          · cases hc31
          refine go_exit rfl ?_
          obtain rfl := someI hF
          exact Goes.weak (J16 (a30_0, a30_1) _ e30 w30 f30_0) (Sub.cons (Sub.cons (Sub.cons (Sub.cons (Sub.cons (Sub.cons (Sub.cons (Sub.nil _) rfl) rfl) rfl) rfl) rfl) rfl) rfl)
        ·
          obtain ⟨hi30, hx30, hr30⟩ := drop_cons hr30
          have hb30 := ((f10_2.ext e13.kn).ext e30.kn).1
          rw [F_law10_CursorOnce_L1.eq_2] at hF
          refine go_seq ?_
          refine go_seq ?_
          refine go_region ?_
          refine gM rfl rfl ?_
          refine gr rfl (r_fa (ot rfl) (fa_34_3 _ _)) ?_
          refine gr rfl (r_load (ot rfl) (lm_s (mem_seg 6 rfl) ag_28 rfl)) ?_
          refine gr rfl (r_len rfl (os1 (ot rfl) os0) (fun _ _ => ln_28)) ?_
          refine gr rfl (r_bin (ot rfl) (ot rfl) rfl) ?_
          refine go_cast (.bool true) (congrArg Value.bool (decide_eq_true (Int.ofNat_lt.mpr hi30))) ?_
          refine go_nil ?_
          refine g_cond (b := true) (ot rfl) (fun hc32 => ?_) (fun hc32 => ?_)
          rotate_left
          · cases hc32
          refine go_skip ?_
          refine go_seq ?_
          refine go_block ?_
          refine go_region ?_
          refine gM rfl rfl ?_
          refine gr rfl (r_fa (ot rfl) (fa_34_3 _ _)) ?_
          refine gr rfl (r_load (ot rfl) (lm_s (mem_seg 6 rfl) ag_28 rfl)) ?_
          refine gM rfl rfl ?_
          obtain ⟨q33, row33, i33, cl33, rc33, sp33⟩ := ix (ik := .i64) (cap := c10_0) (E := EE) ((f10_2.ext e13.kn).ext e30.kn) ((getI_nat _ _).trans hx30) ut_28 sz_30 rfl
          obtain ⟨a33_0, c33_0, rfl, f33_0⟩ := rc33
          refine gr rfl (r_ia (ot rfl) (ot rfl) i33) ?_
          refine gr rfl (r_load (ot rfl) (v := .slice a33_0 z30.length c33_0) (lo_e (fun hf kn => ld_one ag_30 (kn.cellsAt cl33)))) ?_
          replace hF := obind hF
          obtain ⟨x34, hx34, hF⟩ := hF
          obtain ⟨hr34, hz34_⟩ := appL_some hx34; subst x34
          obtain ⟨rw34, hw34, hq34⟩ := RL.first f33_0 (by decide)
          refine gs_app (rows2 := rw34) (R := R_TEvent) rfl (os1 (ot rfl) (os1 (ot rfl) os0)) rfl ut_30 sz_77 rfl (by decide) by_77 zo_77 rfl zs_30_30 rfl rfl (first_e hq34 (fun h' kn => kn.firstV hq34)) hw34 f30_0 hr34 (fun p34_ tl34 f34_ => ?_)
          refine gA rfl rfl ?_
          refine go_nil ?_
          refine go_endb ?_
          refine go_region ?_
          refine gM rfl rfl ?_
          refine gr rfl (r_bin (ot rfl) (oc rfl) rfl) ?_
          refine gA rfl rfl ?_
          refine go_nil ?_
          refine go_re 20 (v2 := .int .i64 ((i30 + 1 : Nat) : Int)) rfl (wrap_succ hi30 hb30) ?_
          exact Goes.weak (ih30 (r30, i30 + 1, (y30_0 ++ z30), p34_, tl34, h30) ⟨hr30, e30, w30, hF, f34_⟩ (Nat.lt_succ_self _)) (Sub.cons (Sub.cons (Sub.cons (Sub.cons (Sub.cons (Sub.cons (Sub.cons (Sub.cons (Sub.nil _) rfl) rfl) rfl) rfl) rfl) rfl) rfl) rfl)
    ·
      refine go_block ?_
      refine go_loop (α := (List Timpostlaw10_Deed) × Nat × Int × Int × (List (List TEvent)) × (List (ByteArray × (List TEvent))) × Option Addr × List Blk × List (ByteArray × Value) × Heap) (fun a => a.1 = List.drop a.2.1 p0 ∧ HExt h6 a.2.2.2.2.2.2.2.2.2 ∧ Wf a.2.2.2.2.2.2.2.2.2 ∧ F_law10_CursorOnce_L2 a.1 a.2.1 a.2.2.1 a.2.2.2.1 a.2.2.2.2.1 a.2.2.2.2.2.1 = some s9 ∧ AccR (Rep.sl R_TEvent 30) 30 a.2.2.2.2.2.2.2.2.2 a.2.2.2.2.2.2.2.1 (.slice a.2.2.2.2.2.2.1 a.2.2.2.2.1.length a.2.2.2.2.1.length) a.2.2.2.2.1 ∧ MR R_TEvent a.2.2.2.2.2.2.2.2.2 a.2.2.2.2.2.2.2.2.1 a.2.2.2.2.2.1) (fun a => a.1.length) (fun a => [(0, true, .slice a0_0 p0.length c0_0), (2, true, .int .u8 p2), (6, true, .bool false), (7, true, .bool true), (8, true, .pointer (some ⟨b5_w0, 0, none⟩)), (9, true, .pointer (some ⟨b9_7, 0, none⟩)), (10, true, .slice a6_0 x6.2.1.length c6_0), (11, true, .int .i64 x6.2.2.1), (12, true, .pointer (some ⟨b12_8, 0, none⟩)), (13, true, .int .i64 (a.2.1 : Int))]) (fun a => (List.flatten [[⟨b12_8, .cells [.string x6.1.R.From, .string x6.1.R.To, .int .i64 x6.1.Next, .bool true, .bool x6.1.Dead] 31⟩], [⟨b9_7, .cells [.string x6.1.R.From, .string x6.1.R.To, .int .i64 x6.1.Next, .bool x6.1.Once, .bool x6.1.Dead] 31⟩], [⟨b5_w0, .cells [.int .i64 a.2.2.1, .int .i64 a.2.2.2.1, .map (some b5_w0m2), .slice a.2.2.2.2.2.2.1 a.2.2.2.2.1.length a.2.2.2.2.1.length] 90⟩], [⟨b5_w0m2, .map (encM kS id a.2.2.2.2.2.2.2.2.1)⟩], a.2.2.2.2.2.2.2.1, [⟨b4_1, .cells [.string p1.From, .string p1.To] 23⟩]] : List Blk)) (fun a => a.2.2.2.2.2.2.2.2.2) ?_ (p0, 0, x6.2.2.2.bounds_rev, x6.2.2.2.bounds_hor, x6.2.2.2.rows, x6.2.2.2.keys, q6_y0_3, t6_y0_3, rw6_y0_2, h6) ⟨rfl, HExt.refl _, w6, hF, f6_1, f6_0⟩ (Sub.cons (Sub.cons (Sub.cons (Sub.cons (Sub.cons (Sub.cons (Sub.cons (Sub.cons (Sub.cons (Sub.cons (Sub.nil _) rfl) rfl) rfl) rfl) rfl) rfl) rfl) rfl) rfl) rfl) rfl rfl
      rintro ⟨r35, i35, y35_0, y35_1, y35_2, y35_3, a35_0, a35_1, a35_2, h35⟩ ⟨hr35, e35, w35, hF, f35_2, f35_3⟩ ih35
      rcases r35 with _ | ⟨z35, r35⟩
      ·
        have hi35 := drop_nil hr35
        rw [F_law10_CursorOnce_L2.eq_1] at hF
        refine go_seq ?_
        refine go_seq ?_
        refine go_region ?_
        refine gM rfl rfl ?_
        refine gM rfl rfl ?_
        refine gr rfl (r_len rfl (os1 (ot rfl) os0) (fun _ _ => ln_48)) ?_
        refine gr rfl (r_bin (ot rfl) (ot rfl) rfl) ?_
        refine go_cast (.bool false) (congrArg Value.bool (decide_eq_false hi35)) ?_
        refine go_nil ?_
        refine g_cond (b := false) (ot rfl) (fun hc36 => ?_) (fun hc36 => ?_)
        · cases hc36
        refine go_exit rfl ?_
        obtain rfl := someI hF
        exact Goes.weak (J9 (a35_0, a35_1, a35_2) _ e35 w35 ⟨f35_2, f35_3⟩) (Sub.cons (Sub.cons (Sub.cons (Sub.cons (Sub.cons (Sub.cons (Sub.cons (Sub.cons (Sub.nil _) rfl) rfl) rfl) rfl) rfl) rfl) rfl) rfl)
      ·
        obtain ⟨hi35, hx35, hr35⟩ := drop_cons hr35
        have hb35 := (((f0_0.ext e5.kn).ext e6.kn).ext e35.kn).1
        rw [F_law10_CursorOnce_L2.eq_2] at hF
        refine go_seq ?_
        refine go_seq ?_
        refine go_region ?_
        refine gM rfl rfl ?_
        refine gM rfl rfl ?_
        refine gr rfl (r_len rfl (os1 (ot rfl) os0) (fun _ _ => ln_48)) ?_
        refine gr rfl (r_bin (ot rfl) (ot rfl) rfl) ?_
        refine go_cast (.bool true) (congrArg Value.bool (decide_eq_true (Int.ofNat_lt.mpr hi35))) ?_
        refine go_nil ?_
        refine g_cond (b := true) (ot rfl) (fun hc37 => ?_) (fun hc37 => ?_)
        rotate_left
        · cases hc37
        refine go_skip ?_
        refine go_seq ?_
        refine go_block ?_
        refine go_region ?_
        refine gM rfl rfl ?_
        refine gM rfl rfl ?_
        refine gM rfl rfl ?_
        obtain ⟨q38, row38, i38, cl38, rc38, sp38⟩ := ix (ik := .i64) (cap := c0_0) (E := EE) (((f0_0.ext e5.kn).ext e6.kn).ext e35.kn) ((getI_nat _ _).trans hx35) ut_48 sz_56 rfl
        obtain ⟨a38_0, c38_0, rfl, f38_0⟩ := rc38
        refine gr rfl (r_ia (ot rfl) (ot rfl) i38) ?_
        refine gr rfl (r_fa (ot rfl) (fs_56_1 sp38)) ?_
        refine gr rfl (r_load (ot rfl) (v := .slice a38_0 z35.Ops.length c38_0) (lo_e (fun hf kn => ld_field (r := [.int .i64 z35.Kind, .slice a38_0 z35.Ops.length c38_0, .int .i64 z35.Rev]) ag_54 (kn.cellsAt cl38) rfl))) ?_
        replace hF := obind hF
        obtain ⟨x39, hx39, hF⟩ := hF
        refine gs_call EE_fr w35 (.cons (.s (.s (.z))) (.cons (.s (.s (.z))) (.cons (.s (.s (.z))) .nil))) (fun _ h => by cases h; rfl) of (os1 (ot rfl) (os1 (ot rfl) os0)) hb_19 (by exact s_hist_Hist_Apply w35 (⟨y35_0, y35_1, y35_3, y35_2⟩ : Ohist_Hist) z35.Ops f35_3 f35_2 f38_0 hx39) ?_
        rintro v39 S39 h39 e39 w39 ⟨rw39_y0_2, q39_y0_3, t39_y0_3, a39_0, c39_0, rfl, rfl, f39_0, f39_1, f39_2⟩
        simp only [List.cons_append, List.nil_append]
        refine go_nil ?_
        refine go_endb ?_
        refine go_region ?_
        refine gM rfl rfl ?_
        refine gr rfl (r_bin (ot rfl) (oc rfl) rfl) ?_
        refine gA rfl rfl ?_
        refine go_nil ?_
        refine gs_perm (perm_of (d := []) _ [3, 4, 0, 1, 2, 5] rfl) ?_
        refine go_re 13 (v2 := .int .i64 ((i35 + 1 : Nat) : Int)) rfl (wrap_succ hi35 hb35) ?_
        exact Goes.weak (ih35 (r35, i35 + 1, x39.2.bounds_rev, x39.2.bounds_hor, x39.2.rows, x39.2.keys, q39_y0_3, t39_y0_3, rw39_y0_2, h39) ⟨hr35, (e35.trans e39), w39, hF, f39_1, f39_0⟩ (Nat.lt_succ_self _)) (Sub.cons (Sub.cons (Sub.cons (Sub.cons (Sub.cons (Sub.cons (Sub.cons (Sub.cons (Sub.cons (Sub.cons (Sub.nil _) rfl) rfl) rfl) rfl) rfl) rfl) rfl) rfl) rfl) rfl)
end Go.Proofs.Ytfgoccdjbgecfaa.V
