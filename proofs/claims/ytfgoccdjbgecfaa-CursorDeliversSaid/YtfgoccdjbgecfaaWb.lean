/- Walks.
   No condition: these are laws of the clean machine and of this program. -/
import Derived.Test.YtfgoccdjbgecfaaPT
import Derived.Test.YtfgoccdjbgecfaaFb
import Derived.Test.YtfgoccdjbgecfaaWx
import Derived.Test.YtfgoccdjbgecfaaWm
import Derived.Test.YtfgoccdjbgecfaaWr
import Derived.Test.YtfgoccdjbgecfaaWs
namespace Go.Proofs.Ytfgoccdjbgecfaa.V
open Go
set_option linter.unusedVariables false
set_option linter.unusedSimpArgs false
set_option maxRecDepth 100000
set_option maxHeartbeats 4000000
theorem s_law10_CursorDelivers (n : Nat) {h : Heap} (hw : Wf h) (p0 : Timpostref10_Cursor) (p1 : THead) (p2 : (List (List TEvent))) {a2_0 : Option Addr} {c2_0 : Nat} (f2_0 : RL (Rep.sl R_TEvent 30) h a2_0 c2_0 p2) {r : Bool} (hF : F_law10_CursorDelivers n p0 p1 p2 = some r) :
    Ev EE 3 [.agg #[.string p0.R.From, .string p0.R.To, .int .i64 p0.Next, .bool p0.Once, .bool p0.Dead], .agg #[.int .i64 p1.Seq, .int .i64 p1.Rev, .int .i64 p1.Hor], .slice a2_0 p2.length c2_0] h (fun v _ => v = .bool r) := by
  unfold F_law10_CursorDelivers at hF
  refine ev_of hw rfl at_3 rfl rfl (go_seg0 ?_)
  refine go_seq ?_
  refine go_region ?_
  refine gs_box rfl (ot rfl) rfl ?_; intro b3_1
  refine gs_box rfl (ot rfl) rfl ?_; intro b4_2
  refine gAc rfl rfl ?_
  refine go_nil ?_
  refine go_seq ?_
  refine go_region ?_
  refine g_callp EE_fr rfl of os0 hb_8 (fun _ => rfl) (fun hf kn w => by exact known_evp rfl hf w) ?_
  refine gA rfl rfl ?_
  refine go_nil ?_
  refine go_seq ?_
  refine go_seq ?_
  refine go_region ?_
  refine gM rfl rfl ?_
  refine gr rfl (r_len rfl (os1 (ot rfl) os0) (fun _ _ => ln_28)) ?_
  refine gr rfl (r_bin (ot rfl) (oc rfl) rfl) ?_
  refine gM rfl rfl ?_
  refine grf rfl rfl rfl rfl (r_fa (ot rfl) (fa_25_1 _ _)) ?_
  refine grf rfl rfl rfl rfl (r_load (og rfl id) (lm_s (mem_seg 1 rfl) ag_3 rfl)) ?_
  refine grf rfl rfl rfl rfl (r_bin (og rfl id) (oc rfl) rfl) ?_
  refine gr rfl (r_pickb (ot rfl) (oc rfl) (og rfl id)) ?_
  refine gM rfl rfl ?_
  refine grf rfl rfl rfl rfl (r_fa (ot rfl) (fa_25_1 _ _)) ?_
  refine grf rfl rfl rfl rfl (r_load (og rfl id) (lm_s (mem_seg 1 rfl) ag_3 rfl)) ?_
  refine grf rfl rfl rfl rfl (r_bin (og rfl id) (oc rfl) rfl) ?_
  refine gr rfl (r_pickb (ot rfl) (oc rfl) (og rfl id)) ?_
  refine gM rfl rfl ?_
  refine grf rfl rfl rfl rfl (r_fa (ot rfl) (fa_27_1 _ _)) ?_
  refine grf rfl rfl rfl rfl (r_load (og rfl id) (lm_s (mem_seg 0 rfl) ag_3 rfl)) ?_
  refine grf rfl rfl rfl rfl (r_bin (og rfl id) (oc rfl) rfl) ?_
  refine gr rfl (r_pickb (ot rfl) (oc rfl) (og rfl id)) ?_
  refine gM rfl rfl ?_
  refine grf rfl rfl rfl rfl (r_fa (ot rfl) (fa_27_1 _ _)) ?_
  refine grf rfl rfl rfl rfl (r_load (og rfl id) (lm_s (mem_seg 0 rfl) ag_3 rfl)) ?_
  refine grf rfl rfl rfl rfl (r_bin (og rfl id) (oc rfl) rfl) ?_
  refine gr rfl (r_pickb (ot rfl) (oc rfl) (og rfl id)) ?_
  refine go_nil ?_
  refine g_cond (b := (bif (bif (bif (bif (decide ((p2.length : Int) > 30)) then true else (decide (p0.Next > 1099511627776))) then true else (decide (p0.Next < (-1099511627776)))) then true else (decide (p1.Rev > 1099511627776))) then true else (decide (p1.Rev < (-1099511627776))))) (ot rfl) (fun hc4 => ?_) (fun hc4 => ?_)
  ·
    replace hF := ifT hc4 hF
    refine go_seq ?_
    refine go_region ?_
    refine gM rfl rfl ?_
    refine gA rfl rfl ?_
    refine go_nil ?_
    obtain rfl := someI hF
    exact g_ret (rst rfl rs0) (fun h1 hf hs => ⟨hs.hext, rfl⟩)
  ·
    replace hF := ifF hc4 hF
    refine go_skip ?_
    refine go_seq ?_
    refine go_seq ?_
    refine go_region ?_
    refine gAc rfl rfl ?_
    refine go_nil ?_
    replace hF := obind hF
    obtain ⟨s5, hF, hK5⟩ := hF
    refine go_joinc (β := (Unit)) (fun s h' => s5 = .go s) (fun s => [(2, true, .slice a2_0 p2.length c2_0), (3, true, .pointer (some ⟨b3_1, 0, none⟩)), (4, true, .pointer (some ⟨b4_2, 0, none⟩)), (6, true, .bool false), (7, true, .bool true)]) (fun s => (List.flatten [[⟨b4_2, .cells [.int .i64 p1.Seq, .int .i64 p1.Rev, .int .i64 p1.Hor] 27⟩], [⟨b3_1, .cells [.string p0.R.From, .string p0.R.To, .int .i64 p0.Next, .bool p0.Once, .bool p0.Dead] 25⟩]] : List Blk)) ?_ (fun J5 => ?_)
    ·
      rintro _ h5 e5 w5 hs5
      subst hs5
      replace hF := lpgo hK5
      refine go_seq ?_
      refine go_regA2 (L := [(0, []), (2, []), (3, []), (1, [2]), (4, []), (5, []), (6, []), (7, []), (8, []), (9, []), (10, []), (11, [])]) (by kernel_rfl) (by kernel_rfl) (fun _ => rfl) ?_; intro b9_6 b10_6
      refine go_sop rfl rfl ?_
      refine gr rfl (r_load (ot rfl) (lm_w (mem_seg 3 rfl) ag_25 sz_25 rfl)) ?_
      refine go_nil ?_
      refine go_sop rfl rfl ?_
      refine gr rfl (r_load (ot rfl) (lm_w (mem_seg 2 rfl) ag_27 sz_27 rfl)) ?_
      refine go_nil ?_
      refine go_sop rfl rfl ?_
      refine gM rfl rfl ?_
      refine go_nil ?_
      refine go_sopc [(2, .agg #[.int .i64 p1.Seq, .int .i64 p1.Rev, .int .i64 p1.Hor])] rfl rfl rfl (rc1 rfl (r_load (ot rfl) (lm_w (mem_seg 2 rfl) ag_27 sz_27 rfl)) rc0) (vq1 (veq_agg _ _ (va1 (veq_int _ _ _) (va1 (veq_int _ _ _) (va1 (veq_int _ _ _) (va0 _))))) vq0) rfl ?_
      replace hF := obind hF
      obtain ⟨x7, hx7, hF⟩ := hF
      refine g_callp (v := .agg #[.string x7.R.From, .string x7.R.To, .int .i64 x7.Next, .bool x7.Once, .bool x7.Dead]) EE_fr rfl of (os1 (ot rfl) os0) hb_10 (fun _ => rfl) (fun hf kn w => by exact s_law10_made w p0  hx7) ?_
      refine go_nil ?_
      refine go_rck (rc1 rfl (r_load (ot rfl) (lm_w (mem_seg 2 rfl) ag_27 sz_27 rfl)) rc0) ?_
      refine go_sop rfl rfl ?_
      replace hF := obind hF
      obtain ⟨x8, hx8, hF⟩ := hF
      refine g_call EE_fr (fun _ h => by cases h; rfl) of (os1 (ot rfl) (os1 (ot rfl) (os1 (ot rfl) os0))) hb_9 (fun hf kn w => by exact s_cursor_Deliver n w x7 p1 p2 ((f2_0.ext e5.kn).ext kn) hx8) ?_
      rintro v8 h8 e8 w8 ⟨a8_0, c8_0, rfl, f8_0⟩
      refine go_nil ?_
      refine go_sop rfl rfl ?_
      refine gM rfl rfl ?_
      refine go_nil ?_
      refine go_sop rfl rfl ?_
      refine gE rfl rfl rfl ?_
      refine go_nil ?_
      refine go_sop rfl rfl ?_
      refine gE rfl rfl rfl ?_
      refine go_nil ?_
      refine go_salloc rfl rfl rfl zo_31 rfl (.s (.z)) ?_
      refine go_salloc rfl rfl rfl zo_34 rfl .z ?_
      refine go_sop rfl rfl ?_
      refine gs_store (ot rfl) (ot rfl) sz_31 rfl rfl rfl rfl rfl (.s (.z)) ?_
      refine go_nil ?_
      refine go_sop rfl rfl ?_
      refine gs_store (ot rfl) (ot rfl) sz_34 rfl rfl rfl rfl rfl .z ?_
      refine go_nil ?_
      refine go_snil ?_
      refine go_seq ?_
      refine go_region ?_
      refine gr rfl (r_load (ot rfl) (lm_w (mem_seg 3 rfl) ag_25 sz_25 rfl)) ?_
      refine gr rfl (r_load (ot rfl) (lm_w (mem_seg 2 rfl) ag_27 sz_27 rfl)) ?_
      refine gM rfl rfl ?_
      replace hF := obind hF
      obtain ⟨x9, hx9, hF⟩ := hF
      refine g_call EE_fr (fun _ h => by cases h; rfl) of (os1 (ot rfl) (os1 (ot rfl) (os1 (ot rfl) os0))) hb_11 (fun hf kn w => by exact s_ref10_Deliver n w p0 p1 p2 (((f2_0.ext e5.kn).ext e8.kn).ext kn) hx9) ?_
      rintro v9 h9 e9 w9 ⟨a9_0, c9_0, rfl, f9_0⟩
      refine gM rfl rfl ?_
      refine gE rfl rfl rfl ?_
      refine gE rfl rfl rfl ?_
      refine gs_alloc rfl zo_25 rfl ?_; intro b11_10
      refine gs_alloc rfl zo_39 rfl ?_; intro b12_11
      refine gs_store (ot rfl) (ot rfl) sz_25 rfl rfl rfl rfl rfl (.s (.z)) ?_
      refine gs_store (ot rfl) (ot rfl) sz_39 rfl rfl rfl rfl rfl .z ?_
      refine go_nil ?_
      refine go_seq ?_
      refine go_regions (L := [(0, []), (1, []), (2, []), (4, []), (3, [4]), (5, []), (6, []), (7, []), (8, []), (10, []), (9, [10]), (11, []), (12, []), (13, []), (14, []), (16, []), (17, []), (18, []), (20, []), (21, []), (22, []), (23, []), (15, [16, 18, 20, 21, 23]), (19, [20, 21, 23]), (24, []), (25, []), (26, []), (27, [])]) (by kernel_rfl) (by kernel_rfl) (fun _ => rfl) ?_
      refine go_sop rfl rfl ?_
      refine gM rfl rfl ?_
      refine go_nil ?_
      refine go_sop rfl rfl ?_
      refine gM rfl rfl ?_
      refine go_nil ?_
      refine go_sop rfl rfl ?_
      refine g_do rfl rfl rfl ?_
      refine gr rfl (r_load (ot rfl) (lm_w (mem_seg 3 rfl) ag_31 sz_31 rfl)) ?_
      refine go_nil ?_
      refine go_sop rfl rfl ?_
      refine g_do rfl rfl rfl ?_
      refine gr rfl (r_load (ot rfl) (lm_w (mem_seg 1 rfl) ag_25 sz_25 rfl)) ?_
      refine go_nil ?_
      refine go_sopc [(4, .agg #[.string x9.1.R.From, .string x9.1.R.To, .int .i64 x9.1.Next, .bool x9.1.Once, .bool x9.1.Dead])] rfl rfl rfl (rc1 rfl (r_load (ot rfl) (lm_w (mem_seg 1 rfl) ag_25 sz_25 rfl)) rc0) (vq1 (veq_agg _ _ (va1 (veq_str _ _) (va1 (veq_str _ _) (va1 (veq_int _ _ _) (va1 (veq_bool _ _) (va1 (veq_bool _ _) (va0 _))))))) vq0) rfl ?_
      refine g_do rfl rfl rfl ?_
      replace hF := obind hF
      obtain ⟨x12, hx12, hF⟩ := hF
      refine g_callp (v := .agg #[.string x12.R.From, .string x12.R.To, .int .i64 x12.Next, .bool x12.Once, .bool x12.Dead]) EE_fr rfl of (os1 (ot rfl) os0) hb_12 (fun _ => rfl) (fun hf kn w => by exact s_law10_real w x8.1  hx12) ?_
      refine go_nil ?_
      refine go_rck (rc1 rfl (r_load (ot rfl) (lm_w (mem_seg 1 rfl) ag_25 sz_25 rfl)) rc0) ?_
      refine go_sop rfl rfl ?_
      refine g_do rfl rfl rfl ?_
      refine gr rfl (r_bin (ot rfl) (ot rfl) bq_25) ?_
      refine go_nil ?_
      refine go_sop rfl rfl ?_
      refine gr rfl (r_pkT (ot rfl) (ot rfl)) ?_
      refine go_nil ?_
      refine go_sop rfl rfl ?_
      refine gM rfl rfl ?_
      refine go_nil ?_
      rcases Bool.eq_false_or_eq_true (eq_Timpostref10_Cursor x12 x9.1) with hb13 | hb13
      ·
        replace hF := ifT hb13 hF
        refine go_re 73 (v2 := .bool true) rfl (congrArg Value.bool hb13) ?_
        refine go_sop rfl rfl ?_
        refine g_do rfl rfl rfl ?_
        refine gr rfl (r_load (ot rfl) (lm_w (mem_seg 2 rfl) ag_34 sz_34 rfl)) ?_
        refine go_nil ?_
        refine go_sop rfl rfl ?_
        refine g_do rfl rfl rfl ?_
        refine gr rfl (r_load (ot rfl) (lm_w (mem_seg 0 rfl) ag_39 sz_39 rfl)) ?_
        refine go_nil ?_
        refine go_sopc [(10, .agg #[.int .i64 x9.2.Err, .int .i64 x9.2.Hor, .int .i64 x9.2.Upto, .slice a9_0 x9.2.Rows.length c9_0])] rfl rfl rfl (rc1 rfl (r_load (ot rfl) (lm_w (mem_seg 0 rfl) ag_39 sz_39 rfl)) rc0) (vq1 (veq_agg _ _ (va1 (veq_int _ _ _) (va1 (veq_int _ _ _) (va1 (veq_int _ _ _) (va1 (veq_sl _ _ _ _) (va0 _)))))) vq0) rfl ?_
        refine g_do rfl rfl rfl ?_
        replace hF := obind hF
        obtain ⟨x14, hx14, hF⟩ := hF
        refine g_call EE_fr (fun _ h => by cases h; rfl) of (os1 (ot rfl) os0) hb_14 (fun hf kn w => by exact s_law10_told w x8.2 ((f8_0.ext e9.kn).ext kn) hx14) ?_
        rintro v14 h14 e14 w14 ⟨a14_0, c14_0, rfl, f14_0⟩
        refine go_nil ?_
        refine go_rck (rc1 rfl (r_load (ot rfl) (lm_w (mem_seg 0 rfl) ag_39 sz_39 rfl)) rc0) ?_
        refine go_sop rfl rfl ?_
        refine g_do rfl rfl rfl ?_
        replace hF := obind hF
        obtain ⟨x15, hx15, hF⟩ := hF
        refine g_callp (v := .bool x15) EE_fr rfl of (os1 (ot rfl) (os1 (ot rfl) os0)) hb_13 (fun _ => rfl) (fun hf kn w => by exact s_ref10_Same w x14 x9.2 (f14_0.ext kn) ((f9_0.ext e14.kn).ext kn) hx15) ?_
        refine go_nil ?_
        refine go_sop rfl rfl ?_
        refine gr rfl (r_pkT (ot rfl) (ot rfl)) ?_
        refine go_nil ?_
        refine go_sop rfl rfl ?_
        refine gM rfl rfl ?_
        refine go_nil ?_
        rcases Bool.eq_false_or_eq_true x15 with hb16 | hb16
        ·
          replace hF := ifT hb16 hF
          refine go_re 79 (v2 := .bool true) rfl (congrArg Value.bool hb16) ?_
          refine go_sop rfl rfl ?_
          refine g_do rfl rfl rfl ?_
          refine gr rfl (r_load (ot rfl) (lm_w (mem_seg 5 rfl) ag_25 sz_25 rfl)) ?_
          refine go_nil ?_
          refine go_sop rfl rfl ?_
          refine g_do rfl rfl rfl ?_
          refine gr rfl (r_load (ot rfl) (lm_w (mem_seg 4 rfl) ag_27 sz_27 rfl)) ?_
          refine go_nil ?_
          refine go_sop rfl rfl ?_
          refine g_do rfl rfl rfl ?_
          refine gM rfl rfl ?_
          refine go_nil ?_
          refine go_sop rfl rfl ?_
          refine g_do rfl rfl rfl ?_
          refine gr rfl (r_len rfl (os1 (ot rfl) os0) (fun _ _ => ln_28)) ?_
          refine go_nil ?_
          refine go_sop rfl rfl ?_
          refine g_do rfl rfl rfl ?_
          refine gr rfl (r_load (ot rfl) (lm_w (mem_seg 5 rfl) ag_25 sz_25 rfl)) ?_
          refine go_nil ?_
          refine go_sop rfl rfl ?_
          refine g_do rfl rfl rfl ?_
          refine gr rfl (r_load (ot rfl) (lm_w (mem_seg 4 rfl) ag_27 sz_27 rfl)) ?_
          refine go_nil ?_
          refine go_sop rfl rfl ?_
          refine g_do rfl rfl rfl ?_
          refine gM rfl rfl ?_
          refine go_nil ?_
          refine go_sop rfl rfl ?_
          refine g_do rfl rfl rfl ?_
          refine gr rfl (r_len rfl (os1 (ot rfl) os0) (fun _ _ => ln_28)) ?_
          refine go_nil ?_
          refine go_sopc [(16, .agg #[.int .i64 p1.Seq, .int .i64 p1.Rev, .int .i64 p1.Hor]), (18, .int .i64 (p2.length : Int)), (20, .agg #[.string p0.R.From, .string p0.R.To, .int .i64 p0.Next, .bool p0.Once, .bool p0.Dead]), (21, .agg #[.int .i64 p1.Seq, .int .i64 p1.Rev, .int .i64 p1.Hor]), (23, .int .i64 (p2.length : Int))] rfl rfl rfl (rc1 rfl (r_load (ot rfl) (lm_w (mem_seg 4 rfl) ag_27 sz_27 rfl)) (rc1 rfl (r_len rfl (os1 (ot rfl) os0) (fun _ _ => ln_28)) (rc1 rfl (r_load (ot rfl) (lm_w (mem_seg 5 rfl) ag_25 sz_25 rfl)) (rc1 rfl (r_load (ot rfl) (lm_w (mem_seg 4 rfl) ag_27 sz_27 rfl)) (rc1 rfl (r_len rfl (os1 (ot rfl) os0) (fun _ _ => ln_28)) rc0))))) (vq1 (veq_agg _ _ (va1 (veq_int _ _ _) (va1 (veq_int _ _ _) (va1 (veq_int _ _ _) (va0 _))))) (vq1 (veq_int _ _ _) (vq1 (veq_agg _ _ (va1 (veq_str _ _) (va1 (veq_str _ _) (va1 (veq_int _ _ _) (va1 (veq_bool _ _) (va1 (veq_bool _ _) (va0 _))))))) (vq1 (veq_agg _ _ (va1 (veq_int _ _ _) (va1 (veq_int _ _ _) (va1 (veq_int _ _ _) (va0 _))))) (vq1 (veq_int _ _ _) vq0))))) rfl ?_
          refine g_do rfl rfl rfl ?_
          replace hF := obind hF
          obtain ⟨x17, hx17, hF⟩ := hF
          refine g_callp (v := .agg #[.string x17.R.From, .string x17.R.To, .int .i64 x17.Next, .bool x17.Once, .bool x17.Dead]) EE_fr rfl of (os1 (ot rfl) os0) hb_10 (fun _ => rfl) (fun hf kn w => by exact s_law10_made w p0  hx17) ?_
          refine go_nil ?_
          refine go_rck (rc1 rfl (r_load (ot rfl) (lm_w (mem_seg 4 rfl) ag_27 sz_27 rfl)) (rc1 rfl (r_len rfl (os1 (ot rfl) os0) (fun _ _ => ln_28)) (rc1 rfl (r_load (ot rfl) (lm_w (mem_seg 5 rfl) ag_25 sz_25 rfl)) (rc1 rfl (r_load (ot rfl) (lm_w (mem_seg 4 rfl) ag_27 sz_27 rfl)) (rc1 rfl (r_len rfl (os1 (ot rfl) os0) (fun _ _ => ln_28)) rc0))))) ?_
          refine go_sopc [(20, .agg #[.string p0.R.From, .string p0.R.To, .int .i64 p0.Next, .bool p0.Once, .bool p0.Dead]), (21, .agg #[.int .i64 p1.Seq, .int .i64 p1.Rev, .int .i64 p1.Hor]), (23, .int .i64 (p2.length : Int))] rfl rfl rfl (rc1 rfl (r_load (ot rfl) (lm_w (mem_seg 5 rfl) ag_25 sz_25 rfl)) (rc1 rfl (r_load (ot rfl) (lm_w (mem_seg 4 rfl) ag_27 sz_27 rfl)) (rc1 rfl (r_len rfl (os1 (ot rfl) os0) (fun _ _ => ln_28)) rc0))) (vq1 (veq_agg _ _ (va1 (veq_str _ _) (va1 (veq_str _ _) (va1 (veq_int _ _ _) (va1 (veq_bool _ _) (va1 (veq_bool _ _) (va0 _))))))) (vq1 (veq_agg _ _ (va1 (veq_int _ _ _) (va1 (veq_int _ _ _) (va1 (veq_int _ _ _) (va0 _))))) (vq1 (veq_int _ _ _) vq0))) rfl ?_
          refine g_do rfl rfl rfl ?_
          replace hF := obind hF
          obtain ⟨x18, hx18, hF⟩ := hF
          refine g_callp (v := .int .i64 x18) EE_fr rfl of (os1 (ot rfl) (os1 (ot rfl) (os1 (ot rfl) os0))) hb_15 (fun _ => rfl) (fun hf kn w => by exact s_cursor_Window w x17 p1 (p2.length : Int)  hx18) ?_
          refine go_nil ?_
          refine go_rck (rc1 rfl (r_load (ot rfl) (lm_w (mem_seg 5 rfl) ag_25 sz_25 rfl)) (rc1 rfl (r_load (ot rfl) (lm_w (mem_seg 4 rfl) ag_27 sz_27 rfl)) (rc1 rfl (r_len rfl (os1 (ot rfl) os0) (fun _ _ => ln_28)) rc0))) ?_
          refine go_sop rfl rfl ?_
          refine g_do rfl rfl rfl ?_
          replace hF := obind hF
          obtain ⟨x19, hx19, hF⟩ := hF
          refine g_callp (v := .int .i64 x19) EE_fr rfl of (os1 (ot rfl) (os1 (ot rfl) (os1 (ot rfl) os0))) hb_16 (fun _ => rfl) (fun hf kn w => by exact s_ref10_Window w p0 p1 (p2.length : Int)  hx19) ?_
          refine go_nil ?_
          refine go_sop rfl rfl ?_
          refine g_do rfl rfl rfl ?_
          refine gr rfl (r_bin (ot rfl) (ot rfl) rfl) ?_
          refine go_nil ?_
          refine go_sop rfl rfl ?_
          refine gr rfl (r_pkT (ot rfl) (ot rfl)) ?_
          refine go_nil ?_
          refine go_sop rfl rfl ?_
          refine gA rfl rfl ?_
          refine go_nil ?_
          refine go_snil ?_
          obtain rfl := someI hF
          exact g_ret (rst rfl rs0) (fun h1 hf hs => ⟨(e5.trans (e8.trans (e9.trans (e14.trans hs.hext)))), rfl⟩)
        ·
          replace hF := ifF hb16 hF
          refine go_re 79 (v2 := .bool false) rfl (congrArg Value.bool hb16) ?_
          refine go_sskip rfl (w_no rfl rfl rfl rfl rfl) ?_
          refine g_no rfl rfl rfl rfl rfl ?_
          refine go_nil ?_
          refine go_sskip rfl (w_no rfl rfl rfl rfl rfl) ?_
          refine g_no rfl rfl rfl rfl rfl ?_
          refine go_nil ?_
          refine go_sskip rfl (w_no rfl rfl rfl rfl rfl) ?_
          refine g_no rfl rfl rfl rfl rfl ?_
          refine go_nil ?_
          refine go_sskip rfl (w_no rfl rfl rfl rfl rfl) ?_
          refine g_no rfl rfl rfl rfl rfl ?_
          refine go_nil ?_
          refine go_sskip rfl (w_no rfl rfl rfl rfl rfl) ?_
          refine g_no rfl rfl rfl rfl rfl ?_
          refine go_nil ?_
          refine go_sskip rfl (w_no rfl rfl rfl rfl rfl) ?_
          refine g_no rfl rfl rfl rfl rfl ?_
          refine go_nil ?_
          refine go_sskip rfl (w_no rfl rfl rfl rfl rfl) ?_
          refine g_no rfl rfl rfl rfl rfl ?_
          refine go_nil ?_
          refine go_sskip rfl (w_no rfl rfl rfl rfl rfl) ?_
          refine g_no rfl rfl rfl rfl rfl ?_
          refine go_nil ?_
          refine go_sskip rfl (w_no rfl rfl rfl rfl rfl) ?_
          refine g_no rfl rfl rfl rfl rfl ?_
          refine go_nil ?_
          refine go_sskip rfl (w_no rfl rfl rfl rfl rfl) ?_
          refine g_no rfl rfl rfl rfl rfl ?_
          refine go_nil ?_
          refine go_sskip rfl (w_no rfl rfl rfl rfl rfl) ?_
          refine g_no rfl rfl rfl rfl rfl ?_
          refine go_nil ?_
          refine go_sskip rfl (w_no rfl rfl rfl rfl rfl) ?_
          refine g_no rfl rfl rfl rfl rfl ?_
          refine go_nil ?_
          refine go_sop rfl rfl ?_
          refine gr rfl (r_pkF (ot rfl) (oc rfl)) ?_
          refine go_nil ?_
          refine go_sop rfl rfl ?_
          refine gA rfl rfl ?_
          refine go_nil ?_
          refine go_snil ?_
          obtain rfl := someI hF
          exact g_ret (rst rfl rs0) (fun h1 hf hs => ⟨(e5.trans (e8.trans (e9.trans (e14.trans hs.hext)))), rfl⟩)
      ·
        replace hF := ifF hb13 hF
        refine go_re 73 (v2 := .bool false) rfl (congrArg Value.bool hb13) ?_
        refine go_sskip rfl (w_no rfl rfl rfl rfl rfl) ?_
        refine g_no rfl rfl rfl rfl rfl ?_
        refine go_nil ?_
        refine go_sskip rfl (w_no rfl rfl rfl rfl rfl) ?_
        refine g_no rfl rfl rfl rfl rfl ?_
        refine go_nil ?_
        refine go_sskip rfl (w_no rfl rfl rfl rfl rfl) ?_
        refine g_no rfl rfl rfl rfl rfl ?_
        refine go_nil ?_
        refine go_sskip rfl (w_no rfl rfl rfl rfl rfl) ?_
        refine g_no rfl rfl rfl rfl rfl ?_
        refine go_nil ?_
        refine go_sop rfl rfl ?_
        refine gr rfl (r_pkF (ot rfl) (oc rfl)) ?_
        refine go_nil ?_
        refine go_sop rfl rfl ?_
        refine gM rfl rfl ?_
        refine go_nil ?_
        refine go_sskip rfl (w_no rfl rfl rfl rfl rfl) ?_
        refine g_no rfl rfl rfl rfl rfl ?_
        refine go_nil ?_
        refine go_sskip rfl (w_no rfl rfl rfl rfl rfl) ?_
        refine g_no rfl rfl rfl rfl rfl ?_
        refine go_nil ?_
        refine go_sskip rfl (w_no rfl rfl rfl rfl rfl) ?_
        refine g_no rfl rfl rfl rfl rfl ?_
        refine go_nil ?_
        refine go_sskip rfl (w_no rfl rfl rfl rfl rfl) ?_
        refine g_no rfl rfl rfl rfl rfl ?_
        refine go_nil ?_
        refine go_sskip rfl (w_no rfl rfl rfl rfl rfl) ?_
        refine g_no rfl rfl rfl rfl rfl ?_
        refine go_nil ?_
        refine go_sskip rfl (w_no rfl rfl rfl rfl rfl) ?_
        refine g_no rfl rfl rfl rfl rfl ?_
        refine go_nil ?_
        refine go_sskip rfl (w_no rfl rfl rfl rfl rfl) ?_
        refine g_no rfl rfl rfl rfl rfl ?_
        refine go_nil ?_
        refine go_sskip rfl (w_no rfl rfl rfl rfl rfl) ?_
        refine g_no rfl rfl rfl rfl rfl ?_
        refine go_nil ?_
        refine go_sskip rfl (w_no rfl rfl rfl rfl rfl) ?_
        refine g_no rfl rfl rfl rfl rfl ?_
        refine go_nil ?_
        refine go_sskip rfl (w_no rfl rfl rfl rfl rfl) ?_
        refine g_no rfl rfl rfl rfl rfl ?_
        refine go_nil ?_
        refine go_sskip rfl (w_no rfl rfl rfl rfl rfl) ?_
        refine g_no rfl rfl rfl rfl rfl ?_
        refine go_nil ?_
        refine go_sskip rfl (w_no rfl rfl rfl rfl rfl) ?_
        refine g_no rfl rfl rfl rfl rfl ?_
        refine go_nil ?_
        refine go_sop rfl rfl ?_
        refine gr rfl (r_pkF (ot rfl) (oc rfl)) ?_
        refine go_nil ?_
        refine go_sop rfl rfl ?_
        refine gA rfl rfl ?_
        refine go_nil ?_
        refine go_snil ?_
        obtain rfl := someI hF
        exact g_ret (rst rfl rs0) (fun h1 hf hs => ⟨(e5.trans (e8.trans (e9.trans hs.hext))), rfl⟩)
    ·
      refine go_block ?_
      refine go_loop (α := (List (List TEvent)) × Nat × Heap) (fun a => a.1 = List.drop a.2.1 p2 ∧ HExt h a.2.2 ∧ Wf a.2.2 ∧ F_law10_CursorDelivers_L1 a.1 a.2.1 = some s5) (fun a => a.1.length) (fun a => [(2, true, .slice a2_0 p2.length c2_0), (3, true, .pointer (some ⟨b3_1, 0, none⟩)), (4, true, .pointer (some ⟨b4_2, 0, none⟩)), (6, true, .bool false), (7, true, .bool true), (8, true, .int .i64 (a.2.1 : Int))]) (fun a => (List.flatten [[⟨b4_2, .cells [.int .i64 p1.Seq, .int .i64 p1.Rev, .int .i64 p1.Hor] 27⟩], [⟨b3_1, .cells [.string p0.R.From, .string p0.R.To, .int .i64 p0.Next, .bool p0.Once, .bool p0.Dead] 25⟩]] : List Blk)) (fun a => a.2.2) ?_ (p2, 0, h) ⟨rfl, HExt.refl _, hw, hF⟩ (Sub.cons (Sub.cons (Sub.cons (Sub.cons (Sub.cons (Sub.cons (Sub.nil _) rfl) rfl) rfl) rfl) rfl) rfl) rfl rfl
      rintro ⟨r20, i20, h20⟩ ⟨hr20, e20, w20, hF⟩ ih20
      rcases r20 with _ | ⟨z20, r20⟩
      ·
        have hi20 := drop_nil hr20
        rw [F_law10_CursorDelivers_L1.eq_1] at hF
        refine go_seq ?_
        refine go_seq ?_
        refine go_region ?_
        refine gM rfl rfl ?_
        refine gM rfl rfl ?_
        refine gr rfl (r_len rfl (os1 (ot rfl) os0) (fun _ _ => ln_28)) ?_
        refine gr rfl (r_bin (ot rfl) (ot rfl) rfl) ?_
        refine go_cast (.bool false) (congrArg Value.bool (decide_eq_false hi20)) ?_
        refine go_nil ?_
        refine g_cond (b := false) (ot rfl) (fun hc21 => ?_) (fun hc21 => ?_)
        · cases hc21
        refine go_exit rfl ?_
        obtain rfl := someI hF
        exact Goes.weak (J5 () _ e20 w20 rfl) (Sub.cons (Sub.cons (Sub.cons (Sub.cons (Sub.cons (Sub.nil _) rfl) rfl) rfl) rfl) rfl)
      ·
        obtain ⟨hi20, hx20, hr20⟩ := drop_cons hr20
        have hb20 := (f2_0.ext e20.kn).1
        rw [F_law10_CursorDelivers_L1.eq_2] at hF
        refine go_seq ?_
        refine go_seq ?_
        refine go_region ?_
        refine gM rfl rfl ?_
        refine gM rfl rfl ?_
        refine gr rfl (r_len rfl (os1 (ot rfl) os0) (fun _ _ => ln_28)) ?_
        refine gr rfl (r_bin (ot rfl) (ot rfl) rfl) ?_
        refine go_cast (.bool true) (congrArg Value.bool (decide_eq_true (Int.ofNat_lt.mpr hi20))) ?_
        refine go_nil ?_
        refine g_cond (b := true) (ot rfl) (fun hc22 => ?_) (fun hc22 => ?_)
        rotate_left
        · cases hc22
        refine go_skip ?_
        refine go_seq ?_
        refine go_block ?_
        refine go_seq ?_
        refine go_region ?_
        refine gM rfl rfl ?_
        refine gM rfl rfl ?_
        obtain ⟨q23, row23, i23, cl23, rc23, sp23⟩ := ix (ik := .i64) (cap := c2_0) (E := EE) (f2_0.ext e20.kn) ((getI_nat _ _).trans hx20) ut_28 sz_30 rfl
        obtain ⟨a23_0, c23_0, rfl, f23_0⟩ := rc23
        refine gr rfl (r_ia (ot rfl) (ot rfl) i23) ?_
        refine gr rfl (r_load (ot rfl) (v := .slice a23_0 z20.length c23_0) (lo_e (fun hf kn => ld_one ag_30 (kn.cellsAt cl23)))) ?_
        refine gr rfl (r_len rfl (os1 (ot rfl) os0) (fun _ _ => ln_30)) ?_
        refine gr rfl (r_bin (ot rfl) (oc rfl) rfl) ?_
        refine go_nil ?_
        refine g_cond (b := (decide ((z20.length : Int) > 30))) (ot rfl) (fun hc24 => ?_) (fun hc24 => ?_)
        ·
          replace hF := ifT hc24 hF
          refine go_seq ?_
          refine go_region ?_
          refine gM rfl rfl ?_
          refine gA rfl rfl ?_
          refine go_nil ?_
          obtain rfl := someI hF
          obtain rfl := someI hK5
          exact g_ret (rst rfl rs0) (fun h1 hf hs => ⟨(e20.trans hs.hext), rfl⟩)
        ·
          replace hF := ifF hc24 hF
          refine go_skip ?_
          refine go_endb ?_
          refine go_region ?_
          refine gM rfl rfl ?_
          refine gr rfl (r_bin (ot rfl) (oc rfl) rfl) ?_
          refine gA rfl rfl ?_
          refine go_nil ?_
          refine go_re 8 (v2 := .int .i64 ((i20 + 1 : Nat) : Int)) rfl (wrap_succ hi20 hb20) ?_
          exact Goes.weak (ih20 (r20, i20 + 1, h20) ⟨hr20, e20, w20, hF⟩ (Nat.lt_succ_self _)) (Sub.cons (Sub.cons (Sub.cons (Sub.cons (Sub.cons (Sub.cons (Sub.nil _) rfl) rfl) rfl) rfl) rfl) rfl)
end Go.Proofs.Ytfgoccdjbgecfaa.V
