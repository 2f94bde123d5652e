/- Walks.
   No condition: these are laws of the clean machine and of this program. -/
import Derived.Test.YtfgoccdjbgecfaaPT
import Derived.Test.YtfgoccdjbgecfaaFe
import Derived.Test.YtfgoccdjbgecfaaWx
import Derived.Test.YtfgoccdjbgecfaaWm
import Derived.Test.YtfgoccdjbgecfaaWr
import Derived.Test.YtfgoccdjbgecfaaWs
import Derived.Test.YtfgoccdjbgecfaaWo
namespace Go.Proofs.Ytfgoccdjbgecfaa.V
open Go
set_option linter.unusedVariables false
set_option linter.unusedSimpArgs false
set_option maxRecDepth 100000
set_option maxHeartbeats 4000000
theorem s_law10_CursorFolds (n : Nat) {h : Heap} (hw : Wf h) (p0 : (List Timpostlaw10_Deed)) (p1 : (List Timpostlaw10_Deed)) (p2 : Timpostref10_Cursor) {a0_0 : Option Addr} {c0_0 : Nat} {a1_0 : Option Addr} {c1_0 : Nat} (f0_0 : RL R_Timpostlaw10_Deed h a0_0 c0_0 p0) (f1_0 : RL R_Timpostlaw10_Deed h a1_0 c1_0 p1) {r : Bool} (hF : F_law10_CursorFolds n p0 p1 p2 = some r) :
    Ev EE 6 [.slice a0_0 p0.length c0_0, .slice a1_0 p1.length c1_0, .agg #[.string p2.R.From, .string p2.R.To, .int .i64 p2.Next, .bool p2.Once, .bool p2.Dead]] h (fun v _ => v = .bool r) := by
  unfold F_law10_CursorFolds at hF
  refine ev_of hw rfl at_6 rfl rfl (go_seg0 ?_)
  refine go_seq ?_
  refine go_region ?_
  refine gs_box rfl (ot rfl) rfl ?_; intro b5_1
  refine gAc rfl rfl ?_
  refine go_nil ?_
  refine go_seq ?_
  refine go_region ?_
  refine g_callp EE_fr rfl of os0 hb_8 (fun _ => rfl) (fun hf kn w => by exact known_evp rfl hf w) ?_
  refine gA rfl rfl ?_
  refine go_nil ?_
  refine go_seq ?_
  refine go_seq ?_
  refine go_region ?_
  refine gM rfl rfl ?_
  replace hF := obind hF
  obtain ⟨x3, hx3, hF⟩ := hF
  refine g_callp (v := .bool x3) EE_fr rfl of (os1 (ot rfl) os0) hb_17 (fun _ => rfl) (fun hf kn w => by exact s_law10_few w p0 (f0_0.ext kn) hx3) ?_
  refine gr rfl (r_un (ot rfl) rfl) ?_
  refine gM rfl rfl ?_
  replace hF := obind hF
  obtain ⟨s5, hF, hK5⟩ := hF
  refine go_joinr 4 (β := Unit) (fun s h' => True) (fun s => [(0, true, .slice a0_0 p0.length c0_0), (1, true, .slice a1_0 p1.length c1_0), (5, true, .pointer (some ⟨b5_1, 0, none⟩)), (6, true, .bool false), (7, true, .bool true), (29, true, .bool s5)]) (fun s => (List.flatten [[⟨b5_1, .cells [.string p2.R.From, .string p2.R.To, .int .i64 p2.Next, .bool p2.Once, .bool p2.Dead] 25⟩]] : List Blk)) ?_ (fun J5 => ?_)
  ·
    rintro _ h5 e5 w5 _
    replace hF := hK5
    refine go_nil ?_
    refine g_cond (b := s5) (ot rfl) (fun hc6 => ?_) (fun hc6 => ?_)
    ·
      replace hF := ifT hc6 hF
      refine go_seq ?_
      refine go_region ?_
      refine gM rfl rfl ?_
      refine gA rfl rfl ?_
      refine go_nil ?_
      obtain rfl := someI hF
      exact g_ret (rst rfl rs0) (fun h1 hf hs => ⟨(e5.trans hs.hext), rfl⟩)
    ·
      replace hF := ifF hc6 hF
      refine go_skip ?_
      refine go_seq ?_
      refine go_region ?_
      replace hF := obind hF
      obtain ⟨x7, hx7, hF⟩ := hF
      refine gs_call EE_fr w5 .nil (fun _ h => by cases h; rfl) of os0 hb_18 (by exact s_hist_New w5   hx7) ?_
      rintro v7 S7 h7 e7 w7 ⟨b7_w0, b7_w0m2, rw7_w0_2, q7_w0_3, t7_w0_3, rfl, rfl, f7_0, f7_1⟩
      simp only [List.cons_append, List.nil_append]
      refine gA rfl rfl ?_
      refine go_nil ?_
      refine go_seq ?_
      refine go_seq ?_
      refine go_region ?_
      refine gAc rfl rfl ?_
      refine go_nil ?_
      replace hF := obind hF
      obtain ⟨s8, hF, hK8⟩ := hF
      refine go_joinc (β := Option Addr × List Blk × List (ByteArray × Value)) (fun s h' => AccR (Rep.sl R_TEvent 30) 30 h' s.2.1 (.slice s.1 s8.2.2.1.length s8.2.2.1.length) s8.2.2.1 ∧ MR R_TEvent h' s.2.2 s8.2.2.2) (fun s => [(1, true, .slice a1_0 p1.length c1_0), (5, true, .pointer (some ⟨b5_1, 0, none⟩)), (6, true, .bool false), (7, true, .bool true), (8, true, .pointer (some ⟨b7_w0, 0, none⟩))]) (fun s => (List.flatten [[⟨b7_w0, .cells [.int .i64 s8.1, .int .i64 s8.2.1, .map (some b7_w0m2), .slice s.1 s8.2.2.1.length s8.2.2.1.length] 90⟩], [⟨b7_w0m2, .map (encM kS id s.2.2)⟩], s.2.1, [⟨b5_1, .cells [.string p2.R.From, .string p2.R.To, .int .i64 p2.Next, .bool p2.Once, .bool p2.Dead] 25⟩]] : List Blk)) ?_ (fun J8 => ?_)
      ·
        rintro ⟨a8_0, a8_1, a8_2⟩ h8 e8 w8 ⟨f8_2, f8_3⟩
        replace hF := hK8
        refine go_seq ?_
        refine go_region ?_
        refine gM rfl rfl ?_
        refine gr rfl (r_fa (ot rfl) (fa_25_0 _ _)) ?_
        refine gr rfl (r_load (ot rfl) (lm_a (vs := [_, _]) (mem_seg 3 rfl) ag_23 sz_23 rfl rfl)) ?_
        replace hF := obind hF
        obtain ⟨x9, hx9, hF⟩ := hF
        refine gs_call EE_fr w8 (.cons .z (.cons .z (.cons .z .nil))) (fun _ h => by cases h; rfl) of (os1 (ot rfl) (os1 (ot rfl) (os1 (oc rfl) os0))) hb_20 (by exact s_cursor_Open n w8 (⟨s8.1, s8.2.1, s8.2.2.2, s8.2.2.1⟩ : Ohist_Hist) p2.R 0 f8_3 f8_2 hx9) ?_
        rintro v9 S9 h9 e9 w9 ⟨rw9_y0_2, q9_y0_3, t9_y0_3, a9_0, c9_0, rfl, rfl, f9_0, f9_1, f9_2⟩
        simp only [List.cons_append, List.nil_append]
        refine gM rfl rfl ?_
        refine gE rfl rfl rfl ?_
        refine gE rfl rfl rfl ?_
        refine gE rfl rfl rfl ?_
        refine gs_alloc rfl zo_31 rfl ?_; intro b10_10
        refine gs_store (ot rfl) (ot rfl) sz_31 rfl rfl rfl rfl rfl .z ?_
        refine gA rfl rfl ?_
        refine gA rfl rfl ?_
        refine go_nil ?_
        refine go_seq ?_
        refine go_seq ?_
        refine go_region ?_
        refine gM rfl rfl ?_
        refine gr rfl (r_bin (ot rfl) (oc rfl) rfl) ?_
        refine go_nil ?_
        refine g_cond (b := (x9.2.2.1 != 0)) (ot rfl) (fun hc11 => ?_) (fun hc11 => ?_)
        ·
          replace hF := ifT hc11 hF
          refine go_seq ?_
          refine go_region ?_
          refine gAc rfl rfl ?_
          refine go_nil ?_
          obtain rfl := someI hF
          exact g_ret (rst rfl rs0) (fun h1 hf hs => ⟨(e5.trans (e7.trans (e8.trans (e9.trans hs.hext)))), rfl⟩)
        ·
          replace hF := ifF hc11 hF
          refine go_skip ?_
          refine go_seq ?_
          refine go_region ?_
          refine gr rfl (r_fa (ot rfl) (fa_25_2 _ _)) ?_
          refine gr rfl (r_load (ot rfl) (lm_s (mem_seg 4 rfl) ag_4 rfl)) ?_
          refine gr rfl (r_fa (ot rfl) (fa_31_2 _ _)) ?_
          refine gs_store (ot rfl) (ot rfl) sz_4 rfl rfl rfl rfl rfl .z ?_
          refine go_nil ?_
          refine go_seq ?_
          refine go_region ?_
          refine gM rfl rfl ?_
          replace hF := obind hF
          obtain ⟨x12, hx12, hF⟩ := hF
          refine gs_call EE_fr w9 (.cons (.s (.z)) (.cons (.s (.z)) (.cons (.s (.z)) .nil))) (fun _ h => by cases h; rfl) of (os1 (ot rfl) os0) hb_21 (by exact s_hist_Hist_Rev w9 (⟨x9.2.2.2.bounds_rev, x9.2.2.2.bounds_hor, x9.2.2.2.keys, x9.2.2.2.rows⟩ : Ohist_Hist) f9_0 f9_1 hx12) ?_
          rintro v12 S12 h12 e12 w12 ⟨rw12_y0_2, q12_y0_3, t12_y0_3, rfl, rfl, f12_0, f12_1⟩
          simp only [List.cons_append, List.nil_append]
          refine gA rfl rfl ?_
          refine go_nil ?_
          refine go_seq ?_
          refine go_seq ?_
          refine go_region ?_
          refine gAc rfl rfl ?_
          refine go_nil ?_
          replace hF := obind hF
          obtain ⟨s13, hF, hK13⟩ := hF
          refine go_joinc (β := (Int × Int × (List (List TEvent)) × (List (ByteArray × (List TEvent))) × ByteArray × ByteArray × Int × Bool × Bool) × Option Addr × List Blk × List (ByteArray × Value)) (fun s h' => s13 = .go s.1 ∧ AccR (Rep.sl R_TEvent 30) 30 h' s.2.2.1 (.slice s.2.1 s.1.2.2.1.length s.1.2.2.1.length) s.1.2.2.1 ∧ MR R_TEvent h' s.2.2.2 s.1.2.2.2.1) (fun s => [(6, true, .bool false), (7, true, .bool true)]) (fun s => (List.flatten [[⟨b7_w0, .cells [.int .i64 s.1.1, .int .i64 s.1.2.1, .map (some b7_w0m2), .slice s.2.1 s.1.2.2.1.length s.1.2.2.1.length] 90⟩], [⟨b7_w0m2, .map (encM kS id s.2.2.2)⟩], s.2.2.1, [⟨b10_10, .cells [.string s.1.2.2.2.2.1, .string s.1.2.2.2.2.2.1, .int .i64 s.1.2.2.2.2.2.2.1, .bool s.1.2.2.2.2.2.2.2.1, .bool s.1.2.2.2.2.2.2.2.2] 31⟩], [⟨b5_1, .cells [.string p2.R.From, .string p2.R.To, .int .i64 p2.Next, .bool p2.Once, .bool p2.Dead] 25⟩]] : List Blk)) ?_ (fun J13 => ?_)
          ·
            rintro ⟨⟨x13_0, x13_1, x13_2, x13_3, x13_4, x13_5, x13_6, x13_7, x13_8⟩, a13_0, a13_1, a13_2⟩ h13 e13 w13 ⟨hs13, f13_2, f13_3⟩
            subst hs13
            replace hF := lpgo hK13
            refine go_seq ?_
            refine go_region ?_
            refine gM rfl rfl ?_
            refine gA rfl rfl ?_
            refine go_nil ?_
            obtain rfl := someI hF
            exact g_ret (rst rfl rs0) (fun h1 hf hs => ⟨(e5.trans (e7.trans (e8.trans (e9.trans (e12.trans (e13.trans hs.hext)))))), rfl⟩)
          ·
            refine go_block ?_
            refine go_loop (α := (List Timpostlaw10_Deed) × Nat × (List TKV) × Int × Int × Int × (List (List TEvent)) × (List (ByteArray × (List TEvent))) × ByteArray × ByteArray × Int × Bool × Bool × Option Addr × Nat × Option Addr × List Blk × List (ByteArray × Value) × Heap) (fun a => a.1 = List.drop a.2.1 p1 ∧ HExt h12 a.2.2.2.2.2.2.2.2.2.2.2.2.2.2.2.2.2.2 ∧ Wf a.2.2.2.2.2.2.2.2.2.2.2.2.2.2.2.2.2.2 ∧ F_law10_CursorFolds_L1 n p2 a.1 a.2.1 a.2.2.1 a.2.2.2.1 a.2.2.2.2.1 a.2.2.2.2.2.1 a.2.2.2.2.2.2.1 a.2.2.2.2.2.2.2.1 a.2.2.2.2.2.2.2.2.1 a.2.2.2.2.2.2.2.2.2.1 a.2.2.2.2.2.2.2.2.2.2.1 a.2.2.2.2.2.2.2.2.2.2.2.1 a.2.2.2.2.2.2.2.2.2.2.2.2.1 = some s13 ∧ RL R_TKV a.2.2.2.2.2.2.2.2.2.2.2.2.2.2.2.2.2.2 a.2.2.2.2.2.2.2.2.2.2.2.2.2.1 a.2.2.2.2.2.2.2.2.2.2.2.2.2.2.1 a.2.2.1 ∧ AccR (Rep.sl R_TEvent 30) 30 a.2.2.2.2.2.2.2.2.2.2.2.2.2.2.2.2.2.2 a.2.2.2.2.2.2.2.2.2.2.2.2.2.2.2.2.1 (.slice a.2.2.2.2.2.2.2.2.2.2.2.2.2.2.2.1 a.2.2.2.2.2.2.1.length a.2.2.2.2.2.2.1.length) a.2.2.2.2.2.2.1 ∧ MR R_TEvent a.2.2.2.2.2.2.2.2.2.2.2.2.2.2.2.2.2.2 a.2.2.2.2.2.2.2.2.2.2.2.2.2.2.2.2.2.1 a.2.2.2.2.2.2.2.1) (fun a => a.1.length) (fun a => [(1, true, .slice a1_0 p1.length c1_0), (5, true, .pointer (some ⟨b5_1, 0, none⟩)), (6, true, .bool false), (7, true, .bool true), (8, true, .pointer (some ⟨b7_w0, 0, none⟩)), (10, true, .pointer (some ⟨b10_10, 0, none⟩)), (11, true, .slice a.2.2.2.2.2.2.2.2.2.2.2.2.2.1 a.2.2.1.length a.2.2.2.2.2.2.2.2.2.2.2.2.2.2.1), (13, true, .int .i64 a.2.2.2.1), (14, true, .int .i64 (a.2.1 : Int))]) (fun a => (List.flatten [[⟨b7_w0, .cells [.int .i64 a.2.2.2.2.1, .int .i64 a.2.2.2.2.2.1, .map (some b7_w0m2), .slice a.2.2.2.2.2.2.2.2.2.2.2.2.2.2.2.1 a.2.2.2.2.2.2.1.length a.2.2.2.2.2.2.1.length] 90⟩], [⟨b7_w0m2, .map (encM kS id a.2.2.2.2.2.2.2.2.2.2.2.2.2.2.2.2.2.1)⟩], a.2.2.2.2.2.2.2.2.2.2.2.2.2.2.2.2.1, [⟨b10_10, .cells [.string a.2.2.2.2.2.2.2.2.1, .string a.2.2.2.2.2.2.2.2.2.1, .int .i64 a.2.2.2.2.2.2.2.2.2.2.1, .bool a.2.2.2.2.2.2.2.2.2.2.2.1, .bool a.2.2.2.2.2.2.2.2.2.2.2.2.1] 31⟩], [⟨b5_1, .cells [.string p2.R.From, .string p2.R.To, .int .i64 p2.Next, .bool p2.Once, .bool p2.Dead] 25⟩]] : List Blk)) (fun a => a.2.2.2.2.2.2.2.2.2.2.2.2.2.2.2.2.2.2) ?_ (p1, 0, x9.2.1, x12.1, x12.2.bounds_rev, x12.2.bounds_hor, x12.2.rows, x12.2.keys, x9.1.R.From, x9.1.R.To, x9.1.Next, p2.Once, x9.1.Dead, a9_0, c9_0, q12_y0_3, t12_y0_3, rw12_y0_2, h12) ⟨rfl, HExt.refl _, w12, hF, (f9_2.ext e12.kn), f12_1, f12_0⟩ (Sub.cons (Sub.cons (Sub.cons (Sub.cons (Sub.cons (Sub.cons (Sub.cons (Sub.cons (Sub.cons (Sub.nil _) rfl) rfl) rfl) rfl) rfl) rfl) rfl) rfl) rfl) rfl rfl
            rintro ⟨r14, i14, y14_0, y14_1, y14_2, y14_3, y14_4, y14_5, y14_6, y14_7, y14_8, y14_9, y14_10, a14_0, a14_1, a14_2, a14_3, a14_4, h14⟩ ⟨hr14, e14, w14, hF, f14_0, f14_4, f14_5⟩ ih14
            rcases r14 with _ | ⟨z14, r14⟩
            ·
              have hi14 := drop_nil hr14
              rw [F_law10_CursorFolds_L1.eq_1] at hF
              refine go_seq ?_
              refine go_seq ?_
              refine go_region ?_
              refine gM rfl rfl ?_
              refine gM rfl rfl ?_
              refine gr rfl (r_len rfl (os1 (ot rfl) os0) (fun _ _ => ln_48)) ?_
              refine gr rfl (r_bin (ot rfl) (ot rfl) rfl) ?_
              refine go_cast (.bool false) (congrArg Value.bool (decide_eq_false hi14)) ?_
              refine go_nil ?_
              refine g_cond (b := false) (ot rfl) (fun hc15 => ?_) (fun hc15 => ?_)
              · cases hc15
              refine go_exit rfl ?_
              obtain rfl := someI hF
              exact Goes.weak (J13 ((y14_2, y14_3, y14_4, y14_5, y14_6, y14_7, y14_8, y14_9, y14_10), a14_2, a14_3, a14_4) _ e14 w14 ⟨rfl, f14_4, f14_5⟩) (Sub.cons (Sub.cons (Sub.nil _) rfl) rfl)
            ·
              obtain ⟨hi14, hx14, hr14⟩ := drop_cons hr14
              have hb14 := ((((((f1_0.ext e5.kn).ext e7.kn).ext e8.kn).ext e9.kn).ext e12.kn).ext e14.kn).1
              rw [F_law10_CursorFolds_L1.eq_2] at hF
              refine go_seq ?_
              refine go_seq ?_
              refine go_region ?_
              refine gM rfl rfl ?_
              refine gM rfl rfl ?_
              refine gr rfl (r_len rfl (os1 (ot rfl) os0) (fun _ _ => ln_48)) ?_
              refine gr rfl (r_bin (ot rfl) (ot rfl) rfl) ?_
              refine go_cast (.bool true) (congrArg Value.bool (decide_eq_true (Int.ofNat_lt.mpr hi14))) ?_
              refine go_nil ?_
              refine g_cond (b := true) (ot rfl) (fun hc16 => ?_) (fun hc16 => ?_)
              rotate_left
              · cases hc16
              refine go_skip ?_
              refine go_seq ?_
              replace hF := obind hF
              obtain ⟨s17, hF, hK17⟩ := hF
              refine go_joinc (β := ((List TKV) × Int × Int × Int × (List (List TEvent)) × (List (ByteArray × (List TEvent))) × ByteArray × ByteArray × Int × Bool × Bool) × Option Addr × Nat × Option Addr × List Blk × List (ByteArray × Value)) (fun s h' => s17 = .go s.1 ∧ RL R_TKV h' s.2.1 s.2.2.1 s.1.1 ∧ AccR (Rep.sl R_TEvent 30) 30 h' s.2.2.2.2.1 (.slice s.2.2.2.1 s.1.2.2.2.2.1.length s.1.2.2.2.2.1.length) s.1.2.2.2.2.1 ∧ MR R_TEvent h' s.2.2.2.2.2 s.1.2.2.2.2.2.1) (fun s => [(1, true, .slice a1_0 p1.length c1_0), (5, true, .pointer (some ⟨b5_1, 0, none⟩)), (6, true, .bool false), (7, true, .bool true), (8, true, .pointer (some ⟨b7_w0, 0, none⟩)), (10, true, .pointer (some ⟨b10_10, 0, none⟩)), (11, true, .slice s.2.1 s.1.1.length s.2.2.1), (13, true, .int .i64 s.1.2.1), (14, true, .int .i64 (i14 : Int)), (60, true, .int .i64 (i14 : Int)), (61, true, .slice a1_0 p1.length c1_0), (62, true, .int .i64 (p1.length : Int)), (63, true, .bool true), (66, true, .slice a1_0 p1.length c1_0), (67, true, .int .i64 (i14 : Int)), (70, true, .int .i64 z14.Kind), (71, true, .bool (z14.Kind == 1))]) (fun s => (List.flatten [[⟨b7_w0, .cells [.int .i64 s.1.2.2.1, .int .i64 s.1.2.2.2.1, .map (some b7_w0m2), .slice s.2.2.2.1 s.1.2.2.2.2.1.length s.1.2.2.2.2.1.length] 90⟩], [⟨b7_w0m2, .map (encM kS id s.2.2.2.2.2)⟩], s.2.2.2.2.1, [⟨b10_10, .cells [.string s.1.2.2.2.2.2.2.1, .string s.1.2.2.2.2.2.2.2.1, .int .i64 s.1.2.2.2.2.2.2.2.2.1, .bool s.1.2.2.2.2.2.2.2.2.2.1, .bool s.1.2.2.2.2.2.2.2.2.2.2] 31⟩], [⟨b5_1, .cells [.string p2.R.From, .string p2.R.To, .int .i64 p2.Next, .bool p2.Once, .bool p2.Dead] 25⟩]] : List Blk)) ?_ (fun J17 => ?_)
              ·
                rintro ⟨⟨x17_0, x17_1, x17_2, x17_3, x17_4, x17_5, x17_6, x17_7, x17_8, x17_9, x17_10⟩, a17_0, a17_1, a17_2, a17_3, a17_4⟩ h17 e17 w17 ⟨hs17, f17_0, f17_4, f17_5⟩
                subst hs17
                replace hF := lpgo2 hK17
                refine go_region ?_
                refine gM rfl rfl ?_
                refine gr rfl (r_bin (ot rfl) (oc rfl) rfl) ?_
                refine gA rfl rfl ?_
                refine go_nil ?_
                refine go_re 14 (v2 := .int .i64 ((i14 + 1 : Nat) : Int)) rfl (wrap_succ hi14 hb14) ?_
                exact Goes.weak (ih14 (r14, i14 + 1, x17_0, x17_1, x17_2, x17_3, x17_4, x17_5, x17_6, x17_7, x17_8, x17_9, x17_10, a17_0, a17_1, a17_2, a17_3, a17_4, h17) ⟨hr14, (e14.trans e17), w17, hF, f17_0, f17_4, f17_5⟩ (Nat.lt_succ_self _)) (Sub.cons (Sub.cons (Sub.cons (Sub.cons (Sub.cons (Sub.cons (Sub.cons (Sub.cons (Sub.cons (Sub.nil _) rfl) rfl) rfl) rfl) rfl) rfl) rfl) rfl) rfl)
              ·
                refine go_block ?_
                refine go_seq ?_
                refine go_seq ?_
                refine go_region ?_
                refine gM rfl rfl ?_
                refine gM rfl rfl ?_
                obtain ⟨q18, row18, i18, cl18, rc18, sp18⟩ := ix (ik := .i64) (cap := c1_0) (E := EE) ((((((f1_0.ext e5.kn).ext e7.kn).ext e8.kn).ext e9.kn).ext e12.kn).ext e14.kn) ((getI_nat _ _).trans hx14) ut_48 sz_56 rfl
                obtain ⟨a18_0, c18_0, rfl, f18_0⟩ := rc18
                refine gr rfl (r_ia (ot rfl) (ot rfl) i18) ?_
                refine gr rfl (r_fa (ot rfl) (fs_56_0 sp18)) ?_
                refine gr rfl (r_load (ot rfl) (v := .int .i64 z14.Kind) (lo_e (fun hf kn => ld_field (r := [.int .i64 z14.Kind, .slice a18_0 z14.Ops.length c18_0, .int .i64 z14.Rev]) ag_3 (kn.cellsAt cl18) rfl))) ?_
                refine gr rfl (r_bin (ot rfl) (oc rfl) rfl) ?_
                refine go_nil ?_
                refine g_cond (b := (z14.Kind == 1)) (ot rfl) (fun hc19 => ?_) (fun hc19 => ?_)
                ·
                  replace hF := ifT hc19 hF
                  refine go_seq ?_
                  refine go_region ?_
                  refine gM rfl rfl ?_
                  refine gM rfl rfl ?_
                  refine gM rfl rfl ?_
                  obtain ⟨q20, row20, i20, cl20, rc20, sp20⟩ := ix (ik := .i64) (cap := c1_0) (E := EE) ((((((f1_0.ext e5.kn).ext e7.kn).ext e8.kn).ext e9.kn).ext e12.kn).ext e14.kn) ((getI_nat _ _).trans hx14) ut_48 sz_56 rfl
                  obtain ⟨a20_0, c20_0, rfl, f20_0⟩ := rc20
                  refine gr rfl (r_ia (ot rfl) (ot rfl) i20) ?_
                  refine gr rfl (r_fa (ot rfl) (fs_56_1 sp20)) ?_
                  refine gr rfl (r_load (ot rfl) (v := .slice a20_0 z14.Ops.length c20_0) (lo_e (fun hf kn => ld_field (r := [.int .i64 z14.Kind, .slice a20_0 z14.Ops.length c20_0, .int .i64 z14.Rev]) ag_54 (kn.cellsAt cl20) rfl))) ?_
                  replace hF := obind hF
                  obtain ⟨x21, hx21, hF⟩ := hF
                  refine gs_call EE_fr w14 (.cons .z (.cons .z (.cons .z .nil))) (fun _ h => by cases h; rfl) of (os1 (ot rfl) (os1 (ot rfl) os0)) hb_19 (by exact s_hist_Hist_Apply w14 (⟨y14_2, y14_3, y14_5, y14_4⟩ : Ohist_Hist) z14.Ops f14_5 f14_4 f20_0 hx21) ?_
                  rintro v21 S21 h21 e21 w21 ⟨rw21_y0_2, q21_y0_3, t21_y0_3, a21_0, c21_0, rfl, rfl, f21_0, f21_1, f21_2⟩
                  simp only [List.cons_append, List.nil_append]
                  refine go_nil ?_
                  refine go_exit rfl ?_
                  obtain rfl := someI hF
                  exact Goes.weak (J17 ((y14_0, y14_1, x21.2.bounds_rev, x21.2.bounds_hor, x21.2.rows, x21.2.keys, y14_6, y14_7, y14_8, y14_9, y14_10), a14_0, a14_1, q21_y0_3, t21_y0_3, rw21_y0_2) _ e21 w21 ⟨rfl, (f14_0.ext e21.kn), f21_1, f21_0⟩) (Sub.cons (Sub.cons (Sub.cons (Sub.cons (Sub.cons (Sub.cons (Sub.cons (Sub.cons (Sub.cons (Sub.cons (Sub.cons (Sub.cons (Sub.cons (Sub.cons (Sub.cons (Sub.cons (Sub.cons (Sub.nil _) rfl) rfl) rfl) rfl) rfl) rfl) rfl) rfl) rfl) rfl) rfl) rfl) rfl) rfl) rfl) rfl) rfl)
                ·
                  replace hF := ifF hc19 hF
                  refine go_skip ?_
                  refine go_seq ?_
                  refine go_seq ?_
                  refine go_region ?_
                  refine gM rfl rfl ?_
                  refine gM rfl rfl ?_
                  obtain ⟨q22, row22, i22, cl22, rc22, sp22⟩ := ix (ik := .i64) (cap := c1_0) (E := EE) ((((((f1_0.ext e5.kn).ext e7.kn).ext e8.kn).ext e9.kn).ext e12.kn).ext e14.kn) ((getI_nat _ _).trans hx14) ut_48 sz_56 rfl
                  obtain ⟨a22_0, c22_0, rfl, f22_0⟩ := rc22
                  refine gr rfl (r_ia (ot rfl) (ot rfl) i22) ?_
                  refine gr rfl (r_fa (ot rfl) (fs_56_0 sp22)) ?_
                  refine gr rfl (r_load (ot rfl) (v := .int .i64 z14.Kind) (lo_e (fun hf kn => ld_field (r := [.int .i64 z14.Kind, .slice a22_0 z14.Ops.length c22_0, .int .i64 z14.Rev]) ag_3 (kn.cellsAt cl22) rfl))) ?_
                  refine gr rfl (r_bin (ot rfl) (oc rfl) rfl) ?_
                  refine go_nil ?_
                  refine g_cond (b := (z14.Kind == 2)) (ot rfl) (fun hc23 => ?_) (fun hc23 => ?_)
                  ·
                    replace hF := ifT hc23 hF
                    refine go_seq ?_
                    refine go_region ?_
                    refine gM rfl rfl ?_
                    refine gM rfl rfl ?_
                    refine gM rfl rfl ?_
                    obtain ⟨q24, row24, i24, cl24, rc24, sp24⟩ := ix (ik := .i64) (cap := c1_0) (E := EE) ((((((f1_0.ext e5.kn).ext e7.kn).ext e8.kn).ext e9.kn).ext e12.kn).ext e14.kn) ((getI_nat _ _).trans hx14) ut_48 sz_56 rfl
                    obtain ⟨a24_0, c24_0, rfl, f24_0⟩ := rc24
                    refine gr rfl (r_ia (ot rfl) (ot rfl) i24) ?_
                    refine gr rfl (r_fa (ot rfl) (fs_56_2 sp24)) ?_
                    refine gr rfl (r_load (ot rfl) (v := .int .i64 z14.Rev) (lo_e (fun hf kn => ld_field (r := [.int .i64 z14.Kind, .slice a24_0 z14.Ops.length c24_0, .int .i64 z14.Rev]) ag_3 (kn.cellsAt cl24) rfl))) ?_
                    replace hF := obind hF
                    obtain ⟨x25, hx25, hF⟩ := hF
                    refine gs_call EE_fr w14 (.cons .z (.cons .z (.cons .z .nil))) (fun _ h => by cases h; rfl) of (os1 (ot rfl) (os1 (ot rfl) os0)) hb_29 (by exact s_hist_Hist_Compact w14 (⟨y14_2, y14_3, y14_5, y14_4⟩ : Ohist_Hist) z14.Rev f14_5 f14_4 hx25) ?_
                    rintro v25 S25 h25 e25 w25 ⟨rw25_y0_2, q25_y0_3, t25_y0_3, rfl, rfl, f25_0, f25_1⟩
                    simp only [List.cons_append, List.nil_append]
                    refine go_nil ?_
                    refine go_seq ?_
                    refine go_region ?_
                    refine gr rfl (r_load (ot rfl) (lm_w (mem_seg 3 rfl) ag_31 sz_31 rfl)) ?_
                    replace hF := obind hF
                    obtain ⟨x26, hx26, hF⟩ := hF
                    refine g_callp (v := .agg #[.string x26.R.From, .string x26.R.To, .int .i64 x26.Next, .bool x26.Once]) EE_fr rfl of (os1 (ot rfl) os0) hb_31 (fun _ => rfl) (fun hf kn w => by exact s_cursor_Token w (⟨(⟨y14_6, y14_7⟩ : TRange), y14_8, y14_9, y14_10⟩ : Tcursor_Cursor)  hx26) ?_
                    replace hF := obind hF
                    obtain ⟨x27, hx27, hF⟩ := hF
                    refine g_callp (v := .agg #[.string x27.R.From, .string x27.R.To, .int .i64 x27.Next, .bool x27.Once, .bool x27.Dead]) EE_fr rfl of (os1 (ot rfl) os0) hb_30 (fun _ => rfl) (fun hf kn w => by exact s_cursor_Resume w x26  hx27) ?_
                    refine gs_store (ot rfl) (ot rfl) sz_31 rfl rfl rfl rfl rfl (.s (.s (.s (.z)))) ?_
                    refine go_nil ?_
                    refine go_exit rfl ?_
                    obtain rfl := someI hF
                    exact Goes.weak (J17 ((y14_0, y14_1, x25.2.bounds_rev, x25.2.bounds_hor, x25.2.rows, x25.2.keys, x27.R.From, x27.R.To, x27.Next, x27.Once, x27.Dead), a14_0, a14_1, q25_y0_3, t25_y0_3, rw25_y0_2) _ e25 w25 ⟨rfl, (f14_0.ext e25.kn), f25_1, f25_0⟩) (Sub.cons (Sub.cons (Sub.cons (Sub.cons (Sub.cons (Sub.cons (Sub.cons (Sub.cons (Sub.cons (Sub.cons (Sub.cons (Sub.cons (Sub.cons (Sub.cons (Sub.cons (Sub.cons (Sub.cons (Sub.nil _) rfl) rfl) rfl) rfl) rfl) rfl) rfl) rfl) rfl) rfl) rfl) rfl) rfl) rfl) rfl) rfl) rfl)
                  ·
                    replace hF := ifF hc23 hF
                    refine go_skip ?_
                    refine go_seq ?_
                    refine go_regA2 (L := [(0, []), (1, []), (2, []), (3, []), (4, []), (5, []), (6, []), (7, []), (8, []), (9, []), (10, []), (11, []), (12, []), (13, []), (14, [])]) (by kernel_rfl) (by kernel_rfl) (fun _ => rfl) ?_; intro b15_28 b16_28
                    refine go_sop rfl rfl ?_
                    refine gr rfl (r_load (ot rfl) (lm_w (mem_seg 5 rfl) ag_31 sz_31 rfl)) ?_
                    refine go_nil ?_
                    refine go_sop rfl rfl ?_
                    refine gM rfl rfl ?_
                    refine go_nil ?_
                    refine go_sop rfl rfl ?_
                    refine gM rfl rfl ?_
                    refine go_nil ?_
                    refine go_sop rfl rfl ?_
                    refine gM rfl rfl ?_
                    refine go_nil ?_
                    refine go_sop rfl rfl ?_
                    obtain ⟨q29, row29, i29, cl29, rc29, sp29⟩ := ix (ik := .i64) (cap := c1_0) (E := EE) ((((((f1_0.ext e5.kn).ext e7.kn).ext e8.kn).ext e9.kn).ext e12.kn).ext e14.kn) ((getI_nat _ _).trans hx14) ut_48 sz_56 rfl
                    obtain ⟨a29_0, c29_0, rfl, f29_0⟩ := rc29
                    refine gr rfl (r_ia (ot rfl) (ot rfl) i29) ?_
                    refine go_nil ?_
                    refine go_sop rfl rfl ?_
                    refine gr rfl (r_fa (ot rfl) (fs_56_2 sp29)) ?_
                    refine go_nil ?_
                    refine go_sop rfl rfl ?_
                    refine gr rfl (r_load (ot rfl) (v := .int .i64 z14.Rev) (lo_e (fun hf kn => ld_field (r := [.int .i64 z14.Kind, .slice a29_0 z14.Ops.length c29_0, .int .i64 z14.Rev]) ag_3 (kn.cellsAt cl29) rfl))) ?_
                    refine go_nil ?_
                    refine go_sop rfl rfl ?_
                    replace hF := obind hF
                    obtain ⟨x30, hx30, hF⟩ := hF
                    refine gs_call EE_fr w14 (.cons (.s (.s (.z))) (.cons (.s (.s (.z))) (.cons (.s (.s (.z))) .nil))) (fun _ h => by cases h; rfl) of (os1 (ot rfl) (os1 (ot rfl) (os1 (ot rfl) os0))) hb_24 (by exact s_cursor_Poll n w14 (⟨(⟨y14_6, y14_7⟩ : TRange), y14_8, y14_9, y14_10⟩ : Tcursor_Cursor) (⟨y14_2, y14_3, y14_5, y14_4⟩ : Ohist_Hist) z14.Rev f14_5 f14_4 hx30) ?_
                    rintro v30 S30 h30 e30 w30 ⟨rw30_y0_2, q30_y0_3, t30_y0_3, a30_0, c30_0, rfl, rfl, f30_0, f30_1, f30_2⟩
                    simp only [List.cons_append, List.nil_append]
                    refine go_nil ?_
                    refine go_sop rfl rfl ?_
                    refine gM rfl rfl ?_
                    refine go_nil ?_
                    refine go_sop rfl rfl ?_
                    refine gE rfl rfl rfl ?_
                    refine go_nil ?_
                    refine go_sop rfl rfl ?_
                    refine gE rfl rfl rfl ?_
                    refine go_nil ?_
                    refine go_salloc rfl rfl rfl zo_31 rfl (.s (.s (.s (.s (.z))))) ?_
                    refine go_salloc rfl rfl rfl zo_34 rfl (.s (.s (.s (.z)))) ?_
                    refine go_sop rfl rfl ?_
                    refine gs_store (ot rfl) (ot rfl) sz_31 rfl rfl rfl rfl rfl (.s (.s (.s (.s (.z))))) ?_
                    refine go_nil ?_
                    refine go_sop rfl rfl ?_
                    refine gs_store (ot rfl) (ot rfl) sz_34 rfl rfl rfl rfl rfl (.s (.s (.s (.z)))) ?_
                    refine go_nil ?_
                    refine go_snil ?_
                    refine go_seq ?_
                    refine go_region ?_
                    refine gr rfl (r_load (ot rfl) (lm_w (mem_seg 4 rfl) ag_31 sz_31 rfl)) ?_
                    refine gs_store (ot rfl) (ot rfl) sz_31 rfl rfl rfl rfl rfl (.s (.s (.s (.s (.s (.z)))))) ?_
                    refine go_nil ?_
                    refine go_seq ?_
                    refine go_seq ?_
                    refine go_region ?_
                    refine gr rfl (r_fa (ot rfl) (fa_34_0 _ _)) ?_
                    refine gr rfl (r_load (ot rfl) (lm_s (mem_seg 3 rfl) ag_32 rfl)) ?_
                    refine gr rfl (r_bin (ot rfl) (oc rfl) rfl) ?_
                    refine go_nil ?_
                    refine g_cond (b := (x30.2.1.Err != 0)) (ot rfl) (fun hc31 => ?_) (fun hc31 => ?_)
                    ·
                      replace hF := ifT hc31 hF
                      refine go_seq ?_
                      replace hF := obind hF
                      obtain ⟨s32, hF, hK32⟩ := hF
                      refine go_joinc (β := Option Addr × List Blk × List (ByteArray × Value)) (fun s h' => AccR (Rep.sl R_TEvent 30) 30 h' s.2.1 (.slice s.1 s32.2.2.2.2.2.2.2.2.2.1.length s32.2.2.2.2.2.2.2.2.2.1.length) s32.2.2.2.2.2.2.2.2.2.1 ∧ MR R_TEvent h' s.2.2 s32.2.2.2.2.2.2.2.2.2.2) (fun s => [(1, true, .slice a1_0 p1.length c1_0), (5, true, .pointer (some ⟨b5_1, 0, none⟩)), (6, true, .bool s32.1), (7, true, .bool true), (8, true, .pointer (some ⟨b7_w0, 0, none⟩)), (10, true, .pointer (some ⟨b10_10, 0, none⟩)), (11, true, .slice a14_0 y14_0.length a14_1), (13, true, .int .i64 y14_1), (14, true, .int .i64 (i14 : Int)), (15, true, .pointer (some ⟨b15_28, 0, none⟩)), (16, true, .pointer (some ⟨b16_28, 0, none⟩)), (60, true, .int .i64 (i14 : Int)), (61, true, .slice a1_0 p1.length c1_0), (62, true, .int .i64 (p1.length : Int)), (63, true, .bool true), (66, true, .slice a1_0 p1.length c1_0), (67, true, .int .i64 (i14 : Int)), (68, true, .pointer (some q18)), (69, true, .pointer (some ⟨q18.block, q18.off + 0, q18.spot⟩)), (70, true, .int .i64 z14.Kind), (71, true, .bool (z14.Kind == 1)), (79, true, .slice a1_0 p1.length c1_0), (80, true, .int .i64 (i14 : Int)), (81, true, .pointer (some q22)), (82, true, .pointer (some ⟨q22.block, q22.off + 0, q22.spot⟩)), (83, true, .int .i64 z14.Kind), (84, true, .bool (z14.Kind == 2)), (95, true, .tuple #[.agg #[.string x30.1.R.From, .string x30.1.R.To, .int .i64 x30.1.Next, .bool x30.1.Once, .bool x30.1.Dead], .agg #[.int .i64 x30.2.1.Err, .int .i64 x30.2.1.Hor, .int .i64 x30.2.1.Upto, .slice a30_0 x30.2.1.Rows.length c30_0]]), (96, true, .agg #[.string y14_6, .string y14_7, .int .i64 y14_8, .bool y14_9, .bool y14_10]), (97, true, .pointer (some ⟨b7_w0, 0, none⟩)), (98, true, .slice a1_0 p1.length c1_0), (99, true, .int .i64 (i14 : Int)), (100, true, .pointer (some q29)), (101, true, .pointer (some ⟨q29.block, q29.off + 2, q29.spot⟩)), (102, true, .int .i64 z14.Rev), (103, true, .tuple #[.agg #[.string x30.1.R.From, .string x30.1.R.To, .int .i64 x30.1.Next, .bool x30.1.Once, .bool x30.1.Dead], .agg #[.int .i64 x30.2.1.Err, .int .i64 x30.2.1.Hor, .int .i64 x30.2.1.Upto, .slice a30_0 x30.2.1.Rows.length c30_0]]), (104, true, .agg #[.string x30.1.R.From, .string x30.1.R.To, .int .i64 x30.1.Next, .bool x30.1.Once, .bool x30.1.Dead]), (105, true, .agg #[.int .i64 x30.2.1.Err, .int .i64 x30.2.1.Hor, .int .i64 x30.2.1.Upto, .slice a30_0 x30.2.1.Rows.length c30_0]), (106, true, .agg #[.string x30.1.R.From, .string x30.1.R.To, .int .i64 x30.1.Next, .bool x30.1.Once, .bool x30.1.Dead]), (107, true, .pointer (some ⟨b16_28, 0, none⟩)), (108, true, .int .i64 x30.2.1.Err), (109, true, .bool (x30.2.1.Err != 0)), (110, true, .bool true), (111, true, .bool true), (113, true, .int .i64 x30.2.1.Err), (114, true, .bool (x30.2.1.Err == 5)), (115, true, .bool (x30.2.1.Err == 5)), (116, true, .bool s32.2.1), (122, true, .bool s32.2.2.1), (123, true, .bool s32.2.2.2.1), (128, true, .bool s32.2.2.2.2.1), (129, true, .bool s32.2.2.2.2.2.1), (132, true, .bool s32.2.2.2.2.2.2.1)]) (fun s => (List.flatten [[⟨b7_w0, .cells [.int .i64 s32.2.2.2.2.2.2.2.1, .int .i64 s32.2.2.2.2.2.2.2.2.1, .map (some b7_w0m2), .slice s.1 s32.2.2.2.2.2.2.2.2.2.1.length s32.2.2.2.2.2.2.2.2.2.1.length] 90⟩], [⟨b7_w0m2, .map (encM kS id s.2.2)⟩], s.2.1, [⟨b16_28, .cells [.int .i64 x30.2.1.Err, .int .i64 x30.2.1.Hor, .int .i64 x30.2.1.Upto, .slice a30_0 x30.2.1.Rows.length c30_0] 34⟩], [⟨b15_28, .cells [.string x30.1.R.From, .string x30.1.R.To, .int .i64 x30.1.Next, .bool x30.1.Once, .bool x30.1.Dead] 31⟩], [⟨b10_10, .cells [.string x30.1.R.From, .string x30.1.R.To, .int .i64 x30.1.Next, .bool x30.1.Once, .bool x30.1.Dead] 31⟩], [⟨b5_1, .cells [.string p2.R.From, .string p2.R.To, .int .i64 p2.Next, .bool p2.Once, .bool p2.Dead] 25⟩]] : List Blk)) ?_ (fun J32 => ?_)
                      ·
                        rintro ⟨a32_0, a32_1, a32_2⟩ h32 e32 w32 ⟨f32_9, f32_10⟩
                        replace hF := hK32
                        obtain rfl := someI hF
                        obtain rfl := someI hK17
                        obtain rfl := someI hK13
                        exact g_ret (rst rfl rs0) (fun h1 hf hs => ⟨(e5.trans (e7.trans (e8.trans (e9.trans (e12.trans (e14.trans (e30.trans (e32.trans hs.hext)))))))), rfl⟩)
                      ·
                        refine go_regions (L := [(0, []), (1, []), (2, []), (3, []), (4, []), (5, []), (6, []), (7, []), (8, []), (9, []), (10, [8]), (11, []), (12, []), (13, []), (14, []), (15, []), (16, []), (17, []), (18, []), (19, []), (20, []), (21, []), (22, []), (23, [])]) (by kernel_rfl) (by kernel_rfl) (fun _ => rfl) ?_
                        refine go_sop rfl rfl ?_
                        refine gM rfl rfl ?_
                        refine go_nil ?_
                        refine go_sop rfl rfl ?_
                        refine gM rfl rfl ?_
                        refine go_nil ?_
                        refine go_sop rfl rfl ?_
                        refine g_do rfl rfl rfl ?_
                        refine gr rfl (r_fa (ot rfl) (fa_34_0 _ _)) ?_
                        refine go_nil ?_
                        refine go_sop rfl rfl ?_
                        refine g_do rfl rfl rfl ?_
                        refine gr rfl (r_load (ot rfl) (lm_s (mem_seg 3 rfl) ag_32 rfl)) ?_
                        refine go_nil ?_
                        refine go_sop rfl rfl ?_
                        refine g_do rfl rfl rfl ?_
                        refine gr rfl (r_bin (ot rfl) (oc rfl) rfl) ?_
                        refine go_nil ?_
                        refine go_sop rfl rfl ?_
                        refine gr rfl (r_pkT (ot rfl) (ot rfl)) ?_
                        refine go_nil ?_
                        refine go_sop rfl rfl ?_
                        refine gM rfl rfl ?_
                        refine go_nil ?_
                        rcases Bool.eq_false_or_eq_true (x30.2.1.Err == 5) with hb33 | hb33
                        ·
                          replace hF := ifT hb33 hF
                          refine go_re 116 (v2 := .bool true) rfl (congrArg Value.bool hb33) ?_
                          refine go_sop rfl rfl ?_
                          refine g_do rfl rfl rfl ?_
                          refine gr rfl (r_fa (ot rfl) (fa_34_1 _ _)) ?_
                          refine go_nil ?_
                          refine go_sop rfl rfl ?_
                          refine g_do rfl rfl rfl ?_
                          refine gr rfl (r_load (ot rfl) (lm_s (mem_seg 3 rfl) ag_3 rfl)) ?_
                          refine go_nil ?_
                          refine go_sop rfl rfl ?_
                          refine g_do rfl rfl rfl ?_
                          refine gM rfl rfl ?_
                          refine go_nil ?_
                          refine go_sopc [(8, .int .i64 x30.2.1.Hor)] rfl rfl rfl (rc1 rfl (r_load (ot rfl) (lm_s (mem_seg 3 rfl) ag_3 rfl)) rc0) (vq1 (veq_int _ _ _) vq0) rfl ?_
                          refine g_do rfl rfl rfl ?_
                          replace hF := obind hF
                          obtain ⟨x34, hx34, hF⟩ := hF
                          refine gs_call EE_fr w30 (.cons .z (.cons .z (.cons .z .nil))) (fun _ h => by cases h; rfl) of (os1 (ot rfl) os0) hb_32 (by exact s_hist_Hist_Hor w30 (⟨x30.2.2.bounds_rev, x30.2.2.bounds_hor, x30.2.2.keys, x30.2.2.rows⟩ : Ohist_Hist) f30_0 f30_1 hx34) ?_
                          rintro v34 S34 h34 e34 w34 ⟨rw34_y0_2, q34_y0_3, t34_y0_3, rfl, rfl, f34_0, f34_1⟩
                          simp only [List.cons_append, List.nil_append]
                          refine go_nil ?_
                          refine go_rck (rc1 rfl (r_load (ot rfl) (lm_s (mem_seg 3 rfl) ag_3 rfl)) rc0) ?_
                          refine go_sop rfl rfl ?_
                          refine g_do rfl rfl rfl ?_
                          refine gr rfl (r_bin (ot rfl) (ot rfl) rfl) ?_
                          refine go_nil ?_
                          refine go_sop rfl rfl ?_
                          refine gr rfl (r_pkT (ot rfl) (ot rfl)) ?_
                          refine go_nil ?_
                          refine go_sop rfl rfl ?_
                          refine gM rfl rfl ?_
                          refine go_nil ?_
                          rcases Bool.eq_false_or_eq_true (x30.2.1.Hor == x34.1) with hb35 | hb35
                          ·
                            replace hF := ifT hb35 hF
                            refine go_re 123 (v2 := .bool true) rfl (congrArg Value.bool hb35) ?_
                            refine go_sop rfl rfl ?_
                            refine g_do rfl rfl rfl ?_
                            refine gM rfl rfl ?_
                            refine go_nil ?_
                            refine go_sop rfl rfl ?_
                            refine g_do rfl rfl rfl ?_
                            refine gM rfl rfl ?_
                            refine go_nil ?_
                            refine go_sop rfl rfl ?_
                            refine g_do rfl rfl rfl ?_
                            replace hF := obind hF
                            obtain ⟨x36, hx36, hF⟩ := hF
                            refine gs_call EE_fr w34 (.cons .z (.cons .z (.cons .z .nil))) (fun _ h => by cases h; rfl) of (os1 (ot rfl) os0) hb_32 (by exact s_hist_Hist_Hor w34 (⟨x34.2.bounds_rev, x34.2.bounds_hor, x34.2.keys, x34.2.rows⟩ : Ohist_Hist) f34_0 f34_1 hx36) ?_
                            rintro v36 S36 h36 e36 w36 ⟨rw36_y0_2, q36_y0_3, t36_y0_3, rfl, rfl, f36_0, f36_1⟩
                            simp only [List.cons_append, List.nil_append]
                            refine go_nil ?_
                            refine go_sop rfl rfl ?_
                            refine g_do rfl rfl rfl ?_
                            refine gr rfl (r_bin (ot rfl) (ot rfl) rfl) ?_
                            refine go_nil ?_
                            refine go_sop rfl rfl ?_
                            refine gr rfl (r_pkT (ot rfl) (ot rfl)) ?_
                            refine go_nil ?_
                            refine go_sop rfl rfl ?_
                            refine gM rfl rfl ?_
                            refine go_nil ?_
                            rcases Bool.eq_false_or_eq_true (decide (y14_1 < x36.1)) with hb37 | hb37
                            ·
                              replace hF := ifT hb37 hF
                              refine go_re 129 (v2 := .bool true) rfl (congrArg Value.bool hb37) ?_
                              refine go_sop rfl rfl ?_
                              refine g_do rfl rfl rfl ?_
                              refine gr rfl (r_fa (ot rfl) (fa_31_3 _ _)) ?_
                              refine go_nil ?_
                              refine go_sop rfl rfl ?_
                              refine g_do rfl rfl rfl ?_
                              refine gr rfl (r_load (ot rfl) (lm_s (mem_seg 5 rfl) ag_4 rfl)) ?_
                              refine go_nil ?_
                              refine go_sop rfl rfl ?_
                              refine gr rfl (r_pkT (ot rfl) (ot rfl)) ?_
                              refine go_nil ?_
                              refine go_sop rfl rfl ?_
                              refine gA rfl rfl ?_
                              refine go_nil ?_
                              refine go_snil ?_
                              obtain rfl := someI hF
                              exact Goes.weak (J32 (q36_y0_3, t36_y0_3, rw36_y0_2) _ (e34.trans e36) w36 ⟨f36_1, f36_0⟩) (Sub.cons (Sub.cons (Sub.cons (Sub.cons (Sub.cons (Sub.cons (Sub.cons (Sub.cons (Sub.cons (Sub.cons (Sub.cons (Sub.cons (Sub.cons (Sub.cons (Sub.cons (Sub.cons (Sub.cons (Sub.cons (Sub.cons (Sub.cons (Sub.cons (Sub.cons (Sub.cons (Sub.cons (Sub.cons (Sub.cons (Sub.cons (Sub.cons (Sub.cons (Sub.cons (Sub.cons (Sub.cons (Sub.cons (Sub.cons (Sub.cons (Sub.cons (Sub.cons (Sub.cons (Sub.cons (Sub.cons (Sub.cons (Sub.cons (Sub.cons (Sub.cons (Sub.cons (Sub.cons (Sub.cons (Sub.cons (Sub.cons (Sub.cons (Sub.cons (Sub.cons (Sub.cons (Sub.nil _) rfl) rfl) rfl) rfl) rfl) rfl) rfl) rfl) rfl) rfl) rfl) rfl) rfl) rfl) rfl) rfl) rfl) rfl) rfl) rfl) rfl) rfl) rfl) rfl) rfl) rfl) rfl) rfl) rfl) rfl) rfl) rfl) rfl) rfl) rfl) rfl) rfl) rfl) rfl) rfl) rfl) rfl) rfl) rfl) rfl) rfl) rfl) rfl) rfl) rfl) rfl) rfl) rfl)
                            ·
                              replace hF := ifF hb37 hF
                              refine go_re 129 (v2 := .bool false) rfl (congrArg Value.bool hb37) ?_
                              refine go_sskip rfl (w_no rfl rfl rfl rfl rfl) ?_
                              refine g_no rfl rfl rfl rfl rfl ?_
                              refine go_nil ?_
                              refine go_sskip rfl (w_no rfl rfl rfl rfl rfl) ?_
                              refine g_no rfl rfl rfl rfl rfl ?_
                              refine go_nil ?_
                              refine go_sop rfl rfl ?_
                              refine gr rfl (r_pkF (ot rfl) (oc rfl)) ?_
                              refine go_nil ?_
                              refine go_sop rfl rfl ?_
                              refine gA rfl rfl ?_
                              refine go_nil ?_
                              refine go_snil ?_
                              obtain rfl := someI hF
                              exact Goes.weak (J32 (q36_y0_3, t36_y0_3, rw36_y0_2) _ (e34.trans e36) w36 ⟨f36_1, f36_0⟩) (Sub.cons (Sub.cons (Sub.cons (Sub.cons (Sub.cons (Sub.cons (Sub.cons (Sub.cons (Sub.cons (Sub.cons (Sub.cons (Sub.cons (Sub.cons (Sub.cons (Sub.cons (Sub.cons (Sub.cons (Sub.cons (Sub.cons (Sub.cons (Sub.cons (Sub.cons (Sub.cons (Sub.cons (Sub.cons (Sub.cons (Sub.cons (Sub.cons (Sub.cons (Sub.cons (Sub.cons (Sub.cons (Sub.cons (Sub.cons (Sub.cons (Sub.cons (Sub.cons (Sub.cons (Sub.cons (Sub.cons (Sub.cons (Sub.cons (Sub.cons (Sub.cons (Sub.cons (Sub.cons (Sub.cons (Sub.cons (Sub.cons (Sub.cons (Sub.cons (Sub.cons (Sub.cons (Sub.nil _) rfl) rfl) rfl) rfl) rfl) rfl) rfl) rfl) rfl) rfl) rfl) rfl) rfl) rfl) rfl) rfl) rfl) rfl) rfl) rfl) rfl) rfl) rfl) rfl) rfl) rfl) rfl) rfl) rfl) rfl) rfl) rfl) rfl) rfl) rfl) rfl) rfl) rfl) rfl) rfl) rfl) rfl) rfl) rfl) rfl) rfl) rfl) rfl) rfl) rfl) rfl) rfl) rfl)
                          ·
                            replace hF := ifF hb35 hF
                            refine go_re 123 (v2 := .bool false) rfl (congrArg Value.bool hb35) ?_
                            refine go_sskip rfl (w_no rfl rfl rfl rfl rfl) ?_
                            refine g_no rfl rfl rfl rfl rfl ?_
                            refine go_nil ?_
                            refine go_sskip rfl (w_no rfl rfl rfl rfl rfl) ?_
                            refine g_no rfl rfl rfl rfl rfl ?_
                            refine go_nil ?_
                            refine go_sskip rfl (w_no rfl rfl rfl rfl rfl) ?_
                            refine g_no rfl rfl rfl rfl rfl ?_
                            refine go_nil ?_
                            refine go_sskip rfl (w_no rfl rfl rfl rfl rfl) ?_
                            refine g_no rfl rfl rfl rfl rfl ?_
                            refine go_nil ?_
                            refine go_sop rfl rfl ?_
                            refine gr rfl (r_pkF (ot rfl) (oc rfl)) ?_
                            refine go_nil ?_
                            refine go_sop rfl rfl ?_
                            refine gM rfl rfl ?_
                            refine go_nil ?_
                            refine go_sskip rfl (w_no rfl rfl rfl rfl rfl) ?_
                            refine g_no rfl rfl rfl rfl rfl ?_
                            refine go_nil ?_
                            refine go_sskip rfl (w_no rfl rfl rfl rfl rfl) ?_
                            refine g_no rfl rfl rfl rfl rfl ?_
                            refine go_nil ?_
                            refine go_sop rfl rfl ?_
                            refine gr rfl (r_pkF (ot rfl) (oc rfl)) ?_
                            refine go_nil ?_
                            refine go_sop rfl rfl ?_
                            refine gA rfl rfl ?_
                            refine go_nil ?_
                            refine go_snil ?_
                            obtain rfl := someI hF
                            exact Goes.weak (J32 (q34_y0_3, t34_y0_3, rw34_y0_2) _ e34 w34 ⟨f34_1, f34_0⟩) (Sub.cons (Sub.cons (Sub.cons (Sub.cons (Sub.cons (Sub.cons (Sub.cons (Sub.cons (Sub.cons (Sub.cons (Sub.cons (Sub.cons (Sub.cons (Sub.cons (Sub.cons (Sub.cons (Sub.cons (Sub.cons (Sub.cons (Sub.cons (Sub.cons (Sub.cons (Sub.cons (Sub.cons (Sub.cons (Sub.cons (Sub.cons (Sub.cons (Sub.cons (Sub.cons (Sub.cons (Sub.cons (Sub.cons (Sub.cons (Sub.cons (Sub.cons (Sub.cons (Sub.cons (Sub.cons (Sub.cons (Sub.cons (Sub.cons (Sub.cons (Sub.cons (Sub.cons (Sub.cons (Sub.cons (Sub.cons (Sub.cons (Sub.cons (Sub.cons (Sub.cons (Sub.cons (Sub.nil _) rfl) rfl) rfl) rfl) rfl) rfl) rfl) rfl) rfl) rfl) rfl) rfl) rfl) rfl) rfl) rfl) rfl) rfl) rfl) rfl) rfl) rfl) rfl) rfl) rfl) rfl) rfl) rfl) rfl) rfl) rfl) rfl) rfl) rfl) rfl) rfl) rfl) rfl) rfl) rfl) rfl) rfl) rfl) rfl) rfl) rfl) rfl) rfl) rfl) rfl) rfl) rfl) rfl)
                        ·
                          replace hF := ifF hb33 hF
                          refine go_re 116 (v2 := .bool false) rfl (congrArg Value.bool hb33) ?_
                          refine go_sskip rfl (w_no rfl rfl rfl rfl rfl) ?_
                          refine g_no rfl rfl rfl rfl rfl ?_
                          refine go_nil ?_
                          refine go_sskip rfl (w_no rfl rfl rfl rfl rfl) ?_
                          refine g_no rfl rfl rfl rfl rfl ?_
                          refine go_nil ?_
                          refine go_sskip rfl (w_no rfl rfl rfl rfl rfl) ?_
                          refine g_no rfl rfl rfl rfl rfl ?_
                          refine go_nil ?_
                          refine go_sskip rfl (w_no rfl rfl rfl rfl rfl) ?_
                          refine g_no rfl rfl rfl rfl rfl ?_
                          refine go_nil ?_
                          refine go_sskip rfl (w_no rfl rfl rfl rfl rfl) ?_
                          refine g_no rfl rfl rfl rfl rfl ?_
                          refine go_nil ?_
                          refine go_sop rfl rfl ?_
                          refine gr rfl (r_pkF (ot rfl) (oc rfl)) ?_
                          refine go_nil ?_
                          refine go_sop rfl rfl ?_
                          refine gM rfl rfl ?_
                          refine go_nil ?_
                          refine go_sskip rfl (w_no rfl rfl rfl rfl rfl) ?_
                          refine g_no rfl rfl rfl rfl rfl ?_
                          refine go_nil ?_
                          refine go_sskip rfl (w_no rfl rfl rfl rfl rfl) ?_
                          refine g_no rfl rfl rfl rfl rfl ?_
                          refine go_nil ?_
                          refine go_sskip rfl (w_no rfl rfl rfl rfl rfl) ?_
                          refine g_no rfl rfl rfl rfl rfl ?_
                          refine go_nil ?_
                          refine go_sskip rfl (w_no rfl rfl rfl rfl rfl) ?_
                          refine g_no rfl rfl rfl rfl rfl ?_
                          refine go_nil ?_
                          refine go_sop rfl rfl ?_
                          refine gr rfl (r_pkF (ot rfl) (oc rfl)) ?_
                          refine go_nil ?_
                          refine go_sop rfl rfl ?_
                          refine gM rfl rfl ?_
                          refine go_nil ?_
                          refine go_sskip rfl (w_no rfl rfl rfl rfl rfl) ?_
                          refine g_no rfl rfl rfl rfl rfl ?_
                          refine go_nil ?_
                          refine go_sskip rfl (w_no rfl rfl rfl rfl rfl) ?_
                          refine g_no rfl rfl rfl rfl rfl ?_
                          refine go_nil ?_
                          refine go_sop rfl rfl ?_
                          refine gr rfl (r_pkF (ot rfl) (oc rfl)) ?_
                          refine go_nil ?_
                          refine go_sop rfl rfl ?_
                          refine gA rfl rfl ?_
                          refine go_nil ?_
                          refine go_snil ?_
                          obtain rfl := someI hF
                          exact Goes.weak (J32 (q30_y0_3, t30_y0_3, rw30_y0_2) _ (HExt.refl _) w30 ⟨f30_1, f30_0⟩) (Sub.cons (Sub.cons (Sub.cons (Sub.cons (Sub.cons (Sub.cons (Sub.cons (Sub.cons (Sub.cons (Sub.cons (Sub.cons (Sub.cons (Sub.cons (Sub.cons (Sub.cons (Sub.cons (Sub.cons (Sub.cons (Sub.cons (Sub.cons (Sub.cons (Sub.cons (Sub.cons (Sub.cons (Sub.cons (Sub.cons (Sub.cons (Sub.cons (Sub.cons (Sub.cons (Sub.cons (Sub.cons (Sub.cons (Sub.cons (Sub.cons (Sub.cons (Sub.cons (Sub.cons (Sub.cons (Sub.cons (Sub.cons (Sub.cons (Sub.cons (Sub.cons (Sub.cons (Sub.cons (Sub.cons (Sub.cons (Sub.cons (Sub.cons (Sub.cons (Sub.cons (Sub.cons (Sub.nil _) rfl) rfl) rfl) rfl) rfl) rfl) rfl) rfl) rfl) rfl) rfl) rfl) rfl) rfl) rfl) rfl) rfl) rfl) rfl) rfl) rfl) rfl) rfl) rfl) rfl) rfl) rfl) rfl) rfl) rfl) rfl) rfl) rfl) rfl) rfl) rfl) rfl) rfl) rfl) rfl) rfl) rfl) rfl) rfl) rfl) rfl) rfl) rfl) rfl) rfl) rfl) rfl) rfl)
                    ·
                      replace hF := ifF hc31 hF
                      refine go_skip ?_
                      refine go_seq ?_
                      refine go_region ?_
                      refine gM rfl rfl ?_
                      refine gA rfl rfl ?_
                      refine go_nil ?_
                      refine go_seq ?_
                      refine go_seq ?_
                      refine go_region ?_
                      refine gAc rfl rfl ?_
                      refine go_nil ?_
                      replace hF := obind hF
                      obtain ⟨s38, hF, hK38⟩ := hF
                      refine go_joinc (β := ((List TKV) × Int × Int × Int) × Option Addr × Nat) (fun s h' => s38 = .go s.1 ∧ RL R_TKV h' s.2.1 s.2.2 s.1.1) (fun s => [(1, true, .slice a1_0 p1.length c1_0), (5, true, .pointer (some ⟨b5_1, 0, none⟩)), (6, true, .bool false), (7, true, .bool true), (8, true, .pointer (some ⟨b7_w0, 0, none⟩)), (10, true, .pointer (some ⟨b10_10, 0, none⟩)), (11, true, .slice s.2.1 s.1.1.length s.2.2), (13, true, .int .i64 y14_1), (14, true, .int .i64 (i14 : Int)), (15, true, .pointer (some ⟨b15_28, 0, none⟩)), (16, true, .pointer (some ⟨b16_28, 0, none⟩)), (17, true, .int .i64 s.1.2.1), (18, true, .int .i64 s.1.2.2.1), (60, true, .int .i64 (i14 : Int)), (61, true, .slice a1_0 p1.length c1_0), (62, true, .int .i64 (p1.length : Int)), (63, true, .bool true), (66, true, .slice a1_0 p1.length c1_0), (67, true, .int .i64 (i14 : Int)), (68, true, .pointer (some q18)), (69, true, .pointer (some ⟨q18.block, q18.off + 0, q18.spot⟩)), (70, true, .int .i64 z14.Kind), (71, true, .bool (z14.Kind == 1)), (79, true, .slice a1_0 p1.length c1_0), (80, true, .int .i64 (i14 : Int)), (81, true, .pointer (some q22)), (82, true, .pointer (some ⟨q22.block, q22.off + 0, q22.spot⟩)), (83, true, .int .i64 z14.Kind), (84, true, .bool (z14.Kind == 2)), (95, true, .tuple #[.agg #[.string x30.1.R.From, .string x30.1.R.To, .int .i64 x30.1.Next, .bool x30.1.Once, .bool x30.1.Dead], .agg #[.int .i64 x30.2.1.Err, .int .i64 x30.2.1.Hor, .int .i64 x30.2.1.Upto, .slice a30_0 x30.2.1.Rows.length c30_0]]), (96, true, .agg #[.string y14_6, .string y14_7, .int .i64 y14_8, .bool y14_9, .bool y14_10]), (97, true, .pointer (some ⟨b7_w0, 0, none⟩)), (98, true, .slice a1_0 p1.length c1_0), (99, true, .int .i64 (i14 : Int)), (100, true, .pointer (some q29)), (101, true, .pointer (some ⟨q29.block, q29.off + 2, q29.spot⟩)), (102, true, .int .i64 z14.Rev), (103, true, .tuple #[.agg #[.string x30.1.R.From, .string x30.1.R.To, .int .i64 x30.1.Next, .bool x30.1.Once, .bool x30.1.Dead], .agg #[.int .i64 x30.2.1.Err, .int .i64 x30.2.1.Hor, .int .i64 x30.2.1.Upto, .slice a30_0 x30.2.1.Rows.length c30_0]]), (104, true, .agg #[.string x30.1.R.From, .string x30.1.R.To, .int .i64 x30.1.Next, .bool x30.1.Once, .bool x30.1.Dead]), (105, true, .agg #[.int .i64 x30.2.1.Err, .int .i64 x30.2.1.Hor, .int .i64 x30.2.1.Upto, .slice a30_0 x30.2.1.Rows.length c30_0]), (106, true, .agg #[.string x30.1.R.From, .string x30.1.R.To, .int .i64 x30.1.Next, .bool x30.1.Once, .bool x30.1.Dead]), (107, true, .pointer (some ⟨b16_28, 0, none⟩)), (108, true, .int .i64 x30.2.1.Err), (109, true, .bool (x30.2.1.Err != 0)), (133, true, .int .i64 y14_1), (134, true, .int .i64 s.1.2.2.2), (136, true, .slice a30_0 x30.2.1.Rows.length c30_0), (137, true, .int .i64 (x30.2.1.Rows.length : Int)), (138, true, .bool false)]) (fun s => (List.flatten [[⟨b7_w0, .cells [.int .i64 x30.2.2.bounds_rev, .int .i64 x30.2.2.bounds_hor, .map (some b7_w0m2), .slice q30_y0_3 x30.2.2.rows.length x30.2.2.rows.length] 90⟩], [⟨b7_w0m2, .map (encM kS id rw30_y0_2)⟩], t30_y0_3, [⟨b16_28, .cells [.int .i64 x30.2.1.Err, .int .i64 x30.2.1.Hor, .int .i64 x30.2.1.Upto, .slice a30_0 x30.2.1.Rows.length c30_0] 34⟩], [⟨b15_28, .cells [.string x30.1.R.From, .string x30.1.R.To, .int .i64 x30.1.Next, .bool x30.1.Once, .bool x30.1.Dead] 31⟩], [⟨b10_10, .cells [.string x30.1.R.From, .string x30.1.R.To, .int .i64 x30.1.Next, .bool x30.1.Once, .bool x30.1.Dead] 31⟩], [⟨b5_1, .cells [.string p2.R.From, .string p2.R.To, .int .i64 p2.Next, .bool p2.Once, .bool p2.Dead] 25⟩]] : List Blk)) ?_ (fun J38 => ?_)
                      ·
                        rintro ⟨⟨x38_0, x38_1, x38_2, x38_3⟩, a38_0, a38_1⟩ h38 e38 w38 ⟨hs38, f38_0⟩
                        subst hs38
                        replace hF := lpgo2 hK38
                        refine go_seq ?_
                        refine go_region ?_
                        refine gM rfl rfl ?_
                        refine gr rfl (r_fa (ot rfl) (fa_34_2 _ _)) ?_
                        refine gr rfl (r_load (ot rfl) (lm_s (mem_seg 3 rfl) ag_3 rfl)) ?_
                        refine gr rfl (r_fa (ot rfl) (fa_25_0 _ _)) ?_
                        refine gr rfl (r_load (ot rfl) (lm_a (vs := [_, _]) (mem_seg 6 rfl) ag_23 sz_23 rfl rfl)) ?_
                        replace hF := obind hF
                        obtain ⟨x39, hx39, hF⟩ := hF
                        refine gs_call EE_fr w38 (.cons .z (.cons .z (.cons .z .nil))) (fun _ h => by cases h; rfl) of (os1 (ot rfl) (os1 (ot rfl) (os1 (ot rfl) os0))) hb_33 (by exact s_hist_Hist_At n w38 (⟨x30.2.2.bounds_rev, x30.2.2.bounds_hor, x30.2.2.keys, x30.2.2.rows⟩ : Ohist_Hist) x30.2.1.Upto p2.R (f30_0.ext e38.kn) (f30_1.ext e38.kn) hx39) ?_
                        rintro v39 S39 h39 e39 w39 ⟨rw39_y0_2, q39_y0_3, t39_y0_3, a39_0, c39_0, rfl, rfl, f39_0, f39_1, f39_2⟩
                        simp only [List.cons_append, List.nil_append]
                        refine gM rfl rfl ?_
                        refine gE rfl rfl rfl ?_
                        refine gE rfl rfl rfl ?_
                        refine gA rfl rfl ?_
                        refine gA rfl rfl ?_
                        refine go_nil ?_
                        refine go_seq ?_
                        refine go_seq ?_
                        replace hF := obind hF
                        obtain ⟨s40, hF, hK40⟩ := hF
                        refine go_joinc (β := Option Addr × List Blk × List (ByteArray × Value)) (fun s h' => AccR (Rep.sl R_TEvent 30) 30 h' s.2.1 (.slice s.1 s40.2.2.2.2.2.2.2.2.1.length s40.2.2.2.2.2.2.2.2.1.length) s40.2.2.2.2.2.2.2.2.1 ∧ MR R_TEvent h' s.2.2 s40.2.2.2.2.2.2.2.2.2) (fun s => [(1, true, .slice a1_0 p1.length c1_0), (5, true, .pointer (some ⟨b5_1, 0, none⟩)), (6, true, .bool false), (7, true, .bool true), (8, true, .pointer (some ⟨b7_w0, 0, none⟩)), (10, true, .pointer (some ⟨b10_10, 0, none⟩)), (11, true, .slice a38_0 x38_0.length a38_1), (13, true, .int .i64 y14_1), (14, true, .int .i64 (i14 : Int)), (15, true, .pointer (some ⟨b15_28, 0, none⟩)), (16, true, .pointer (some ⟨b16_28, 0, none⟩)), (17, true, .int .i64 x38_1), (18, true, .int .i64 x38_2), (19, true, .slice a39_0 x39.1.length c39_0), (20, true, .int .i64 x39.2.1), (60, true, .int .i64 (i14 : Int)), (61, true, .slice a1_0 p1.length c1_0), (62, true, .int .i64 (p1.length : Int)), (63, true, .bool true), (66, true, .slice a1_0 p1.length c1_0), (67, true, .int .i64 (i14 : Int)), (68, true, .pointer (some q18)), (69, true, .pointer (some ⟨q18.block, q18.off + 0, q18.spot⟩)), (70, true, .int .i64 z14.Kind), (71, true, .bool (z14.Kind == 1)), (79, true, .slice a1_0 p1.length c1_0), (80, true, .int .i64 (i14 : Int)), (81, true, .pointer (some q22)), (82, true, .pointer (some ⟨q22.block, q22.off + 0, q22.spot⟩)), (83, true, .int .i64 z14.Kind), (84, true, .bool (z14.Kind == 2)), (95, true, .tuple #[.agg #[.string x30.1.R.From, .string x30.1.R.To, .int .i64 x30.1.Next, .bool x30.1.Once, .bool x30.1.Dead], .agg #[.int .i64 x30.2.1.Err, .int .i64 x30.2.1.Hor, .int .i64 x30.2.1.Upto, .slice a30_0 x30.2.1.Rows.length c30_0]]), (96, true, .agg #[.string y14_6, .string y14_7, .int .i64 y14_8, .bool y14_9, .bool y14_10]), (97, true, .pointer (some ⟨b7_w0, 0, none⟩)), (98, true, .slice a1_0 p1.length c1_0), (99, true, .int .i64 (i14 : Int)), (100, true, .pointer (some q29)), (101, true, .pointer (some ⟨q29.block, q29.off + 2, q29.spot⟩)), (102, true, .int .i64 z14.Rev), (103, true, .tuple #[.agg #[.string x30.1.R.From, .string x30.1.R.To, .int .i64 x30.1.Next, .bool x30.1.Once, .bool x30.1.Dead], .agg #[.int .i64 x30.2.1.Err, .int .i64 x30.2.1.Hor, .int .i64 x30.2.1.Upto, .slice a30_0 x30.2.1.Rows.length c30_0]]), (104, true, .agg #[.string x30.1.R.From, .string x30.1.R.To, .int .i64 x30.1.Next, .bool x30.1.Once, .bool x30.1.Dead]), (105, true, .agg #[.int .i64 x30.2.1.Err, .int .i64 x30.2.1.Hor, .int .i64 x30.2.1.Upto, .slice a30_0 x30.2.1.Rows.length c30_0]), (106, true, .agg #[.string x30.1.R.From, .string x30.1.R.To, .int .i64 x30.1.Next, .bool x30.1.Once, .bool x30.1.Dead]), (107, true, .pointer (some ⟨b16_28, 0, none⟩)), (108, true, .int .i64 x30.2.1.Err), (109, true, .bool (x30.2.1.Err != 0)), (133, true, .int .i64 y14_1), (134, true, .int .i64 x38_3), (136, true, .slice a30_0 x30.2.1.Rows.length c30_0), (137, true, .int .i64 (x30.2.1.Rows.length : Int)), (138, true, .bool false), (180, true, .tuple #[.slice a39_0 x39.1.length c39_0, .int .i64 x39.2.1]), (181, true, .pointer (some ⟨b7_w0, 0, none⟩)), (182, true, .pointer (some ⟨b16_28, 2, none⟩)), (183, true, .int .i64 x30.2.1.Upto), (184, true, .pointer (some ⟨b5_1, 0, none⟩)), (185, true, .agg #[.string p2.R.From, .string p2.R.To]), (186, true, .tuple #[.slice a39_0 x39.1.length c39_0, .int .i64 x39.2.1]), (187, true, .slice a39_0 x39.1.length c39_0), (188, true, .int .i64 x39.2.1), (190, true, .int .i64 x30.2.1.Upto), (191, true, .int .i64 y14_1), (192, true, .bool (decide (x30.2.1.Upto < y14_1))), (193, true, .bool s40.1), (199, true, .bool s40.2.1), (200, true, .bool s40.2.2.1), (203, true, .bool s40.2.2.2.1), (204, true, .bool s40.2.2.2.2.1), (209, true, .bool s40.2.2.2.2.2.1)]) (fun s => (List.flatten [[⟨b7_w0, .cells [.int .i64 s40.2.2.2.2.2.2.1, .int .i64 s40.2.2.2.2.2.2.2.1, .map (some b7_w0m2), .slice s.1 s40.2.2.2.2.2.2.2.2.1.length s40.2.2.2.2.2.2.2.2.1.length] 90⟩], [⟨b7_w0m2, .map (encM kS id s.2.2)⟩], s.2.1, [⟨b16_28, .cells [.int .i64 x30.2.1.Err, .int .i64 x30.2.1.Hor, .int .i64 x30.2.1.Upto, .slice a30_0 x30.2.1.Rows.length c30_0] 34⟩], [⟨b15_28, .cells [.string x30.1.R.From, .string x30.1.R.To, .int .i64 x30.1.Next, .bool x30.1.Once, .bool x30.1.Dead] 31⟩], [⟨b10_10, .cells [.string x30.1.R.From, .string x30.1.R.To, .int .i64 x30.1.Next, .bool x30.1.Once, .bool x30.1.Dead] 31⟩], [⟨b5_1, .cells [.string p2.R.From, .string p2.R.To, .int .i64 p2.Next, .bool p2.Once, .bool p2.Dead] 25⟩]] : List Blk)) ?_ (fun J40 => ?_)
                        ·
                          rintro ⟨a40_0, a40_1, a40_2⟩ h40 e40 w40 ⟨f40_8, f40_9⟩
                          replace hF := hK40
                          refine g_cond (b := s40.2.2.2.2.2.1) (ot rfl) (fun hc41 => ?_) (fun hc41 => ?_)
                          ·
                            replace hF := ifT hc41 hF
                            refine go_seq ?_
                            refine go_region ?_
                            refine gAc rfl rfl ?_
                            refine go_nil ?_
                            obtain rfl := someI hF
                            obtain rfl := someI hK17
                            obtain rfl := someI hK13
                            exact g_ret (rst rfl rs0) (fun h1 hf hs => ⟨(e5.trans (e7.trans (e8.trans (e9.trans (e12.trans (e14.trans (e30.trans (e38.trans (e39.trans (e40.trans hs.hext)))))))))), rfl⟩)
                          ·
                            replace hF := ifF hc41 hF
                            refine go_skip ?_
                            refine go_region ?_
                            refine gr rfl (r_fa (ot rfl) (fa_34_2 _ _)) ?_
                            refine gr rfl (r_load (ot rfl) (lm_s (mem_seg 3 rfl) ag_3 rfl)) ?_
                            refine gA rfl rfl ?_
                            refine go_nil ?_
                            refine go_endb ?_
                            obtain rfl := someI hF
                            refine gs_sub (.cons_cons _ (.cons_cons _ (.cons_cons _ (.cons _ (.cons _ (.cons_cons _ (.cons_cons _ (.refl _)))))))) ?_
                            exact Goes.weak (J17 ((x38_0, x30.2.1.Upto, s40.2.2.2.2.2.2.1, s40.2.2.2.2.2.2.2.1, s40.2.2.2.2.2.2.2.2.1, s40.2.2.2.2.2.2.2.2.2, x30.1.R.From, x30.1.R.To, x30.1.Next, x30.1.Once, x30.1.Dead), a38_0, a38_1, a40_0, a40_1, a40_2) _ (e30.trans (e38.trans (e39.trans e40))) w40 ⟨rfl, ((f38_0.ext e39.kn).ext e40.kn), f40_8, f40_9⟩) (Sub.cons (Sub.cons (Sub.cons (Sub.cons (Sub.cons (Sub.cons (Sub.cons (Sub.cons (Sub.cons (Sub.cons (Sub.cons (Sub.cons (Sub.cons (Sub.cons (Sub.cons (Sub.cons (Sub.cons (Sub.nil _) rfl) rfl) rfl) rfl) rfl) rfl) rfl) rfl) rfl) rfl) rfl) rfl) rfl) rfl) rfl) rfl) rfl)
                        ·
                          refine go_regions (L := [(0, []), (1, []), (2, []), (3, []), (4, []), (5, []), (6, []), (7, []), (8, [6]), (9, []), (10, []), (11, []), (12, []), (13, []), (14, []), (15, []), (16, []), (17, []), (18, []), (19, []), (20, [])]) (by kernel_rfl) (by kernel_rfl) (fun _ => rfl) ?_
                          refine go_sop rfl rfl ?_
                          refine gr rfl (r_fa (ot rfl) (fa_34_2 _ _)) ?_
                          refine go_nil ?_
                          refine go_sop rfl rfl ?_
                          refine gr rfl (r_load (ot rfl) (lm_s (mem_seg 3 rfl) ag_3 rfl)) ?_
                          refine go_nil ?_
                          refine go_sop rfl rfl ?_
                          refine gM rfl rfl ?_
                          refine go_nil ?_
                          refine go_sop rfl rfl ?_
                          refine gr rfl (r_bin (ot rfl) (ot rfl) rfl) ?_
                          refine go_nil ?_
                          refine go_sop rfl rfl ?_
                          refine gM rfl rfl ?_
                          refine go_nil ?_
                          rcases Bool.eq_false_or_eq_true (decide (x30.2.1.Upto < y14_1)) with hb42 | hb42
                          ·
                            replace hF := ifT hb42 hF
                            refine go_re 193 (v2 := .bool true) rfl (congrArg Value.bool hb42) ?_
                            refine go_sskip rfl (w_no rfl rfl rfl rfl rfl) ?_
                            refine g_no rfl rfl rfl rfl rfl ?_
                            refine go_nil ?_
                            refine go_sskip rfl (w_no rfl rfl rfl rfl rfl) ?_
                            refine g_no rfl rfl rfl rfl rfl ?_
                            refine go_nil ?_
                            refine go_sskip rfl (w_no rfl rfl rfl rfl rfl) ?_
                            refine g_no rfl rfl rfl rfl rfl ?_
                            refine go_nil ?_
                            refine go_sskip rfl (w_no rfl rfl rfl rfl rfl) ?_
                            refine g_no rfl rfl rfl rfl rfl ?_
                            refine go_nil ?_
                            refine go_sskip rfl (w_no rfl rfl rfl rfl rfl) ?_
                            refine g_no rfl rfl rfl rfl rfl ?_
                            refine go_nil ?_
                            refine go_sop rfl rfl ?_
                            refine gr rfl (r_pkT (ot rfl) (oc rfl)) ?_
                            refine go_nil ?_
                            refine go_sop rfl rfl ?_
                            refine gM rfl rfl ?_
                            refine go_nil ?_
                            refine go_sskip rfl (w_no rfl rfl rfl rfl rfl) ?_
                            refine g_no rfl rfl rfl rfl rfl ?_
                            refine go_nil ?_
                            refine go_sskip rfl (w_no rfl rfl rfl rfl rfl) ?_
                            refine g_no rfl rfl rfl rfl rfl ?_
                            refine go_nil ?_
                            refine go_sop rfl rfl ?_
                            refine gr rfl (r_pkT (ot rfl) (oc rfl)) ?_
                            refine go_nil ?_
                            refine go_sop rfl rfl ?_
                            refine gM rfl rfl ?_
                            refine go_nil ?_
                            refine go_sskip rfl (w_no rfl rfl rfl rfl rfl) ?_
                            refine g_no rfl rfl rfl rfl rfl ?_
                            refine go_nil ?_
                            refine go_sskip rfl (w_no rfl rfl rfl rfl rfl) ?_
                            refine g_no rfl rfl rfl rfl rfl ?_
                            refine go_nil ?_
                            refine go_sskip rfl (w_no rfl rfl rfl rfl rfl) ?_
                            refine g_no rfl rfl rfl rfl rfl ?_
                            refine go_nil ?_
                            refine go_sskip rfl (w_no rfl rfl rfl rfl rfl) ?_
                            refine g_no rfl rfl rfl rfl rfl ?_
                            refine go_nil ?_
                            refine go_sop rfl rfl ?_
                            refine gr rfl (r_pkT (ot rfl) (oc rfl)) ?_
                            refine go_nil ?_
                            refine go_snil ?_
                            obtain rfl := someI hF
                            exact Goes.weak (J40 (q39_y0_3, t39_y0_3, rw39_y0_2) _ (HExt.refl _) w39 ⟨f39_1, f39_0⟩) (Sub.cons (Sub.cons (Sub.cons (Sub.cons (Sub.cons (Sub.cons (Sub.cons (Sub.cons (Sub.cons (Sub.cons (Sub.cons (Sub.cons (Sub.cons (Sub.cons (Sub.cons (Sub.cons (Sub.cons (Sub.cons (Sub.cons (Sub.cons (Sub.cons (Sub.cons (Sub.cons (Sub.cons (Sub.cons (Sub.cons (Sub.cons (Sub.cons (Sub.cons (Sub.cons (Sub.cons (Sub.cons (Sub.cons (Sub.cons (Sub.cons (Sub.cons (Sub.cons (Sub.cons (Sub.cons (Sub.cons (Sub.cons (Sub.cons (Sub.cons (Sub.cons (Sub.cons (Sub.cons (Sub.cons (Sub.cons (Sub.cons (Sub.cons (Sub.cons (Sub.cons (Sub.cons (Sub.cons (Sub.cons (Sub.cons (Sub.cons (Sub.cons (Sub.cons (Sub.cons (Sub.cons (Sub.cons (Sub.cons (Sub.cons (Sub.cons (Sub.cons (Sub.cons (Sub.cons (Sub.cons (Sub.nil _) rfl) rfl) rfl) rfl) rfl) rfl) rfl) rfl) rfl) rfl) rfl) rfl) rfl) rfl) rfl) rfl) rfl) rfl) rfl) rfl) rfl) rfl) rfl) rfl) rfl) rfl) rfl) rfl) rfl) rfl) rfl) rfl) rfl) rfl) rfl) rfl) rfl) rfl) rfl) rfl) rfl) rfl) rfl) rfl) rfl) rfl) rfl) rfl) rfl) rfl) rfl) rfl) rfl) rfl) rfl) rfl) rfl) rfl) rfl) rfl) rfl) rfl) rfl) rfl) rfl) rfl) rfl) rfl) rfl)
                          ·
                            replace hF := ifF hb42 hF
                            refine go_re 193 (v2 := .bool false) rfl (congrArg Value.bool hb42) ?_
                            refine go_sop rfl rfl ?_
                            refine g_do rfl rfl rfl ?_
                            refine gr rfl (r_fa (ot rfl) (fa_34_2 _ _)) ?_
                            refine go_nil ?_
                            refine go_sop rfl rfl ?_
                            refine g_do rfl rfl rfl ?_
                            refine gr rfl (r_load (ot rfl) (lm_s (mem_seg 3 rfl) ag_3 rfl)) ?_
                            refine go_nil ?_
                            refine go_sop rfl rfl ?_
                            refine g_do rfl rfl rfl ?_
                            refine gM rfl rfl ?_
                            refine go_nil ?_
                            refine go_sopc [(6, .int .i64 x30.2.1.Upto)] rfl rfl rfl (rc1 rfl (r_load (ot rfl) (lm_s (mem_seg 3 rfl) ag_3 rfl)) rc0) (vq1 (veq_int _ _ _) vq0) rfl ?_
                            refine g_do rfl rfl rfl ?_
                            replace hF := obind hF
                            obtain ⟨x43, hx43, hF⟩ := hF
                            refine gs_call EE_fr w39 (.cons .z (.cons .z (.cons .z .nil))) (fun _ h => by cases h; rfl) of (os1 (ot rfl) os0) hb_21 (by exact s_hist_Hist_Rev w39 (⟨x39.2.2.bounds_rev, x39.2.2.bounds_hor, x39.2.2.keys, x39.2.2.rows⟩ : Ohist_Hist) f39_0 f39_1 hx43) ?_
                            rintro v43 S43 h43 e43 w43 ⟨rw43_y0_2, q43_y0_3, t43_y0_3, rfl, rfl, f43_0, f43_1⟩
                            simp only [List.cons_append, List.nil_append]
                            refine go_nil ?_
                            refine go_rck (rc1 rfl (r_load (ot rfl) (lm_s (mem_seg 3 rfl) ag_3 rfl)) rc0) ?_
                            refine go_sop rfl rfl ?_
                            refine g_do rfl rfl rfl ?_
                            refine gr rfl (r_bin (ot rfl) (ot rfl) rfl) ?_
                            refine go_nil ?_
                            refine go_sop rfl rfl ?_
                            refine gr rfl (r_pkF (ot rfl) (ot rfl)) ?_
                            refine go_nil ?_
                            refine go_sop rfl rfl ?_
                            refine gM rfl rfl ?_
                            refine go_nil ?_
                            rcases Bool.eq_false_or_eq_true (decide (x30.2.1.Upto > x43.1)) with hb44 | hb44
                            ·
                              replace hF := ifT hb44 hF
                              refine go_re 200 (v2 := .bool true) rfl (congrArg Value.bool hb44) ?_
                              refine go_sskip rfl (w_no rfl rfl rfl rfl rfl) ?_
                              refine g_no rfl rfl rfl rfl rfl ?_
                              refine go_nil ?_
                              refine go_sskip rfl (w_no rfl rfl rfl rfl rfl) ?_
                              refine g_no rfl rfl rfl rfl rfl ?_
                              refine go_nil ?_
                              refine go_sop rfl rfl ?_
                              refine gr rfl (r_pkT (ot rfl) (oc rfl)) ?_
                              refine go_nil ?_
                              refine go_sop rfl rfl ?_
                              refine gM rfl rfl ?_
                              refine go_nil ?_
                              refine go_sskip rfl (w_no rfl rfl rfl rfl rfl) ?_
                              refine g_no rfl rfl rfl rfl rfl ?_
                              refine go_nil ?_
                              refine go_sskip rfl (w_no rfl rfl rfl rfl rfl) ?_
                              refine g_no rfl rfl rfl rfl rfl ?_
                              refine go_nil ?_
                              refine go_sskip rfl (w_no rfl rfl rfl rfl rfl) ?_
                              refine g_no rfl rfl rfl rfl rfl ?_
                              refine go_nil ?_
                              refine go_sskip rfl (w_no rfl rfl rfl rfl rfl) ?_
                              refine g_no rfl rfl rfl rfl rfl ?_
                              refine go_nil ?_
                              refine go_sop rfl rfl ?_
                              refine gr rfl (r_pkT (ot rfl) (oc rfl)) ?_
                              refine go_nil ?_
                              refine go_snil ?_
                              obtain rfl := someI hF
                              exact Goes.weak (J40 (q43_y0_3, t43_y0_3, rw43_y0_2) _ e43 w43 ⟨f43_1, f43_0⟩) (Sub.cons (Sub.cons (Sub.cons (Sub.cons (Sub.cons (Sub.cons (Sub.cons (Sub.cons (Sub.cons (Sub.cons (Sub.cons (Sub.cons (Sub.cons (Sub.cons (Sub.cons (Sub.cons (Sub.cons (Sub.cons (Sub.cons (Sub.cons (Sub.cons (Sub.cons (Sub.cons (Sub.cons (Sub.cons (Sub.cons (Sub.cons (Sub.cons (Sub.cons (Sub.cons (Sub.cons (Sub.cons (Sub.cons (Sub.cons (Sub.cons (Sub.cons (Sub.cons (Sub.cons (Sub.cons (Sub.cons (Sub.cons (Sub.cons (Sub.cons (Sub.cons (Sub.cons (Sub.cons (Sub.cons (Sub.cons (Sub.cons (Sub.cons (Sub.cons (Sub.cons (Sub.cons (Sub.cons (Sub.cons (Sub.cons (Sub.cons (Sub.cons (Sub.cons (Sub.cons (Sub.cons (Sub.cons (Sub.cons (Sub.cons (Sub.cons (Sub.cons (Sub.cons (Sub.cons (Sub.cons (Sub.nil _) rfl) rfl) rfl) rfl) rfl) rfl) rfl) rfl) rfl) rfl) rfl) rfl) rfl) rfl) rfl) rfl) rfl) rfl) rfl) rfl) rfl) rfl) rfl) rfl) rfl) rfl) rfl) rfl) rfl) rfl) rfl) rfl) rfl) rfl) rfl) rfl) rfl) rfl) rfl) rfl) rfl) rfl) rfl) rfl) rfl) rfl) rfl) rfl) rfl) rfl) rfl) rfl) rfl) rfl) rfl) rfl) rfl) rfl) rfl) rfl) rfl) rfl) rfl) rfl) rfl) rfl) rfl) rfl) rfl)
                            ·
                              replace hF := ifF hb44 hF
                              refine go_re 200 (v2 := .bool false) rfl (congrArg Value.bool hb44) ?_
                              refine go_sop rfl rfl ?_
                              refine g_do rfl rfl rfl ?_
                              refine gM rfl rfl ?_
                              refine go_nil ?_
                              refine go_sop rfl rfl ?_
                              refine g_do rfl rfl rfl ?_
                              refine gr rfl (r_bin (ot rfl) (oc rfl) rfl) ?_
                              refine go_nil ?_
                              refine go_sop rfl rfl ?_
                              refine gr rfl (r_pkF (ot rfl) (ot rfl)) ?_
                              refine go_nil ?_
                              refine go_sop rfl rfl ?_
                              refine gM rfl rfl ?_
                              refine go_nil ?_
                              rcases Bool.eq_false_or_eq_true (x39.2.1 != 0) with hb45 | hb45
                              ·
                                replace hF := ifT hb45 hF
                                refine go_re 204 (v2 := .bool true) rfl (congrArg Value.bool hb45) ?_
                                refine go_sskip rfl (w_no rfl rfl rfl rfl rfl) ?_
                                refine g_no rfl rfl rfl rfl rfl ?_
                                refine go_nil ?_
                                refine go_sskip rfl (w_no rfl rfl rfl rfl rfl) ?_
                                refine g_no rfl rfl rfl rfl rfl ?_
                                refine go_nil ?_
                                refine go_sskip rfl (w_no rfl rfl rfl rfl rfl) ?_
                                refine g_no rfl rfl rfl rfl rfl ?_
                                refine go_nil ?_
                                refine go_sskip rfl (w_no rfl rfl rfl rfl rfl) ?_
                                refine g_no rfl rfl rfl rfl rfl ?_
                                refine go_nil ?_
                                refine go_sop rfl rfl ?_
                                refine gr rfl (r_pkT (ot rfl) (oc rfl)) ?_
                                refine go_nil ?_
                                refine go_snil ?_
                                obtain rfl := someI hF
                                exact Goes.weak (J40 (q43_y0_3, t43_y0_3, rw43_y0_2) _ e43 w43 ⟨f43_1, f43_0⟩) (Sub.cons (Sub.cons (Sub.cons (Sub.cons (Sub.cons (Sub.cons (Sub.cons (Sub.cons (Sub.cons (Sub.cons (Sub.cons (Sub.cons (Sub.cons (Sub.cons (Sub.cons (Sub.cons (Sub.cons (Sub.cons (Sub.cons (Sub.cons (Sub.cons (Sub.cons (Sub.cons (Sub.cons (Sub.cons (Sub.cons (Sub.cons (Sub.cons (Sub.cons (Sub.cons (Sub.cons (Sub.cons (Sub.cons (Sub.cons (Sub.cons (Sub.cons (Sub.cons (Sub.cons (Sub.cons (Sub.cons (Sub.cons (Sub.cons (Sub.cons (Sub.cons (Sub.cons (Sub.cons (Sub.cons (Sub.cons (Sub.cons (Sub.cons (Sub.cons (Sub.cons (Sub.cons (Sub.cons (Sub.cons (Sub.cons (Sub.cons (Sub.cons (Sub.cons (Sub.cons (Sub.cons (Sub.cons (Sub.cons (Sub.cons (Sub.cons (Sub.cons (Sub.cons (Sub.cons (Sub.cons (Sub.nil _) rfl) rfl) rfl) rfl) rfl) rfl) rfl) rfl) rfl) rfl) rfl) rfl) rfl) rfl) rfl) rfl) rfl) rfl) rfl) rfl) rfl) rfl) rfl) rfl) rfl) rfl) rfl) rfl) rfl) rfl) rfl) rfl) rfl) rfl) rfl) rfl) rfl) rfl) rfl) rfl) rfl) rfl) rfl) rfl) rfl) rfl) rfl) rfl) rfl) rfl) rfl) rfl) rfl) rfl) rfl) rfl) rfl) rfl) rfl) rfl) rfl) rfl) rfl) rfl) rfl) rfl) rfl) rfl) rfl)
                              ·
                                replace hF := ifF hb45 hF
                                refine go_re 204 (v2 := .bool false) rfl (congrArg Value.bool hb45) ?_
                                refine go_sop rfl rfl ?_
                                refine g_do rfl rfl rfl ?_
                                refine gM rfl rfl ?_
                                refine go_nil ?_
                                refine go_sop rfl rfl ?_
                                refine g_do rfl rfl rfl ?_
                                refine gM rfl rfl ?_
                                refine go_nil ?_
                                refine go_sop rfl rfl ?_
                                refine g_do rfl rfl rfl ?_
                                replace hF := obind hF
                                obtain ⟨x46, hx46, hF⟩ := hF
                                refine g_callp (v := .bool x46) EE_fr rfl of (os1 (ot rfl) (os1 (ot rfl) os0)) hb_27 (fun _ => rfl) (fun hf kn w => by exact s_ref05_KVs w x39.1 x38_0 ((f39_2.ext e43.kn).ext kn) (((f38_0.ext e39.kn).ext e43.kn).ext kn) hx46) ?_
                                refine go_nil ?_
                                refine go_sop rfl rfl ?_
                                refine g_do rfl rfl rfl ?_
                                refine gr rfl (r_un (ot rfl) rfl) ?_
                                refine go_nil ?_
                                refine go_sop rfl rfl ?_
                                refine gr rfl (r_pkF (ot rfl) (ot rfl)) ?_
                                refine go_nil ?_
                                refine go_snil ?_
                                obtain rfl := someI hF
                                exact Goes.weak (J40 (q43_y0_3, t43_y0_3, rw43_y0_2) _ e43 w43 ⟨f43_1, f43_0⟩) (Sub.cons (Sub.cons (Sub.cons (Sub.cons (Sub.cons (Sub.cons (Sub.cons (Sub.cons (Sub.cons (Sub.cons (Sub.cons (Sub.cons (Sub.cons (Sub.cons (Sub.cons (Sub.cons (Sub.cons (Sub.cons (Sub.cons (Sub.cons (Sub.cons (Sub.cons (Sub.cons (Sub.cons (Sub.cons (Sub.cons (Sub.cons (Sub.cons (Sub.cons (Sub.cons (Sub.cons (Sub.cons (Sub.cons (Sub.cons (Sub.cons (Sub.cons (Sub.cons (Sub.cons (Sub.cons (Sub.cons (Sub.cons (Sub.cons (Sub.cons (Sub.cons (Sub.cons (Sub.cons (Sub.cons (Sub.cons (Sub.cons (Sub.cons (Sub.cons (Sub.cons (Sub.cons (Sub.cons (Sub.cons (Sub.cons (Sub.cons (Sub.cons (Sub.cons (Sub.cons (Sub.cons (Sub.cons (Sub.cons (Sub.cons (Sub.cons (Sub.cons (Sub.cons (Sub.cons (Sub.cons (Sub.nil _) rfl) rfl) rfl) rfl) rfl) rfl) rfl) rfl) rfl) rfl) rfl) rfl) rfl) rfl) rfl) rfl) rfl) rfl) rfl) rfl) rfl) rfl) rfl) rfl) rfl) rfl) rfl) rfl) rfl) rfl) rfl) rfl) rfl) rfl) rfl) rfl) rfl) rfl) rfl) rfl) rfl) rfl) rfl) rfl) rfl) rfl) rfl) rfl) rfl) rfl) rfl) rfl) rfl) rfl) rfl) rfl) rfl) rfl) rfl) rfl) rfl) rfl) rfl) rfl) rfl) rfl) rfl) rfl) rfl)
                      ·
                        refine go_block ?_
                        refine go_loop (α := (List (List TEvent)) × Nat × (List TKV) × Int × Option Addr × Nat × Heap) (fun a => a.1 = List.drop a.2.1 x30.2.1.Rows ∧ HExt h30 a.2.2.2.2.2.2 ∧ Wf a.2.2.2.2.2.2 ∧ F_law10_CursorFolds_L2 n p2 a.1 a.2.1 a.2.2.1 a.2.2.2.1 = some s38 ∧ RL R_TKV a.2.2.2.2.2.2 a.2.2.2.2.1 a.2.2.2.2.2.1 a.2.2.1) (fun a => a.1.length) (fun a => [(1, true, .slice a1_0 p1.length c1_0), (5, true, .pointer (some ⟨b5_1, 0, none⟩)), (6, true, .bool false), (7, true, .bool true), (8, true, .pointer (some ⟨b7_w0, 0, none⟩)), (10, true, .pointer (some ⟨b10_10, 0, none⟩)), (11, true, .slice a.2.2.2.2.1 a.2.2.1.length a.2.2.2.2.2.1), (13, true, .int .i64 y14_1), (14, true, .int .i64 (i14 : Int)), (15, true, .pointer (some ⟨b15_28, 0, none⟩)), (16, true, .pointer (some ⟨b16_28, 0, none⟩)), (17, true, .int .i64 a.2.2.2.1), (18, true, .int .i64 (a.2.1 : Int)), (60, true, .int .i64 (i14 : Int)), (61, true, .slice a1_0 p1.length c1_0), (62, true, .int .i64 (p1.length : Int)), (63, true, .bool true), (66, true, .slice a1_0 p1.length c1_0), (67, true, .int .i64 (i14 : Int)), (68, true, .pointer (some q18)), (69, true, .pointer (some ⟨q18.block, q18.off + 0, q18.spot⟩)), (70, true, .int .i64 z14.Kind), (71, true, .bool (z14.Kind == 1)), (79, true, .slice a1_0 p1.length c1_0), (80, true, .int .i64 (i14 : Int)), (81, true, .pointer (some q22)), (82, true, .pointer (some ⟨q22.block, q22.off + 0, q22.spot⟩)), (83, true, .int .i64 z14.Kind), (84, true, .bool (z14.Kind == 2)), (95, true, .tuple #[.agg #[.string x30.1.R.From, .string x30.1.R.To, .int .i64 x30.1.Next, .bool x30.1.Once, .bool x30.1.Dead], .agg #[.int .i64 x30.2.1.Err, .int .i64 x30.2.1.Hor, .int .i64 x30.2.1.Upto, .slice a30_0 x30.2.1.Rows.length c30_0]]), (96, true, .agg #[.string y14_6, .string y14_7, .int .i64 y14_8, .bool y14_9, .bool y14_10]), (97, true, .pointer (some ⟨b7_w0, 0, none⟩)), (98, true, .slice a1_0 p1.length c1_0), (99, true, .int .i64 (i14 : Int)), (100, true, .pointer (some q29)), (101, true, .pointer (some ⟨q29.block, q29.off + 2, q29.spot⟩)), (102, true, .int .i64 z14.Rev), (103, true, .tuple #[.agg #[.string x30.1.R.From, .string x30.1.R.To, .int .i64 x30.1.Next, .bool x30.1.Once, .bool x30.1.Dead], .agg #[.int .i64 x30.2.1.Err, .int .i64 x30.2.1.Hor, .int .i64 x30.2.1.Upto, .slice a30_0 x30.2.1.Rows.length c30_0]]), (104, true, .agg #[.string x30.1.R.From, .string x30.1.R.To, .int .i64 x30.1.Next, .bool x30.1.Once, .bool x30.1.Dead]), (105, true, .agg #[.int .i64 x30.2.1.Err, .int .i64 x30.2.1.Hor, .int .i64 x30.2.1.Upto, .slice a30_0 x30.2.1.Rows.length c30_0]), (106, true, .agg #[.string x30.1.R.From, .string x30.1.R.To, .int .i64 x30.1.Next, .bool x30.1.Once, .bool x30.1.Dead]), (107, true, .pointer (some ⟨b16_28, 0, none⟩)), (108, true, .int .i64 x30.2.1.Err), (109, true, .bool (x30.2.1.Err != 0)), (133, true, .int .i64 y14_1)]) (fun a => (List.flatten [[⟨b7_w0, .cells [.int .i64 x30.2.2.bounds_rev, .int .i64 x30.2.2.bounds_hor, .map (some b7_w0m2), .slice q30_y0_3 x30.2.2.rows.length x30.2.2.rows.length] 90⟩], [⟨b7_w0m2, .map (encM kS id rw30_y0_2)⟩], t30_y0_3, [⟨b16_28, .cells [.int .i64 x30.2.1.Err, .int .i64 x30.2.1.Hor, .int .i64 x30.2.1.Upto, .slice a30_0 x30.2.1.Rows.length c30_0] 34⟩], [⟨b15_28, .cells [.string x30.1.R.From, .string x30.1.R.To, .int .i64 x30.1.Next, .bool x30.1.Once, .bool x30.1.Dead] 31⟩], [⟨b10_10, .cells [.string x30.1.R.From, .string x30.1.R.To, .int .i64 x30.1.Next, .bool x30.1.Once, .bool x30.1.Dead] 31⟩], [⟨b5_1, .cells [.string p2.R.From, .string p2.R.To, .int .i64 p2.Next, .bool p2.Once, .bool p2.Dead] 25⟩]] : List Blk)) (fun a => a.2.2.2.2.2.2) ?_ (x30.2.1.Rows, 0, y14_0, y14_1, a14_0, a14_1, h30) ⟨rfl, HExt.refl _, w30, hF, (f14_0.ext e30.kn)⟩ (Sub.cons (Sub.cons (Sub.cons (Sub.cons (Sub.cons (Sub.cons (Sub.cons (Sub.cons (Sub.cons (Sub.cons (Sub.cons (Sub.cons (Sub.cons (Sub.cons (Sub.cons (Sub.cons (Sub.cons (Sub.cons (Sub.cons (Sub.cons (Sub.cons (Sub.cons (Sub.cons (Sub.cons (Sub.cons (Sub.cons (Sub.cons (Sub.cons (Sub.cons (Sub.cons (Sub.cons (Sub.cons (Sub.cons (Sub.cons (Sub.cons (Sub.cons (Sub.cons (Sub.cons (Sub.cons (Sub.cons (Sub.cons (Sub.cons (Sub.cons (Sub.cons (Sub.cons (Sub.nil _) rfl) rfl) rfl) rfl) rfl) rfl) rfl) rfl) rfl) rfl) rfl) rfl) rfl) rfl) rfl) rfl) rfl) rfl) rfl) rfl) rfl) rfl) rfl) rfl) rfl) rfl) rfl) rfl) rfl) rfl) rfl) rfl) rfl) rfl) rfl) rfl) rfl) rfl) rfl) rfl) rfl) rfl) rfl) rfl) rfl) rfl rfl
                        rintro ⟨r47, i47, y47_0, y47_1, a47_0, a47_1, h47⟩ ⟨hr47, e47, w47, hF, f47_0⟩ ih47
                        rcases r47 with _ | ⟨z47, r47⟩
                        ·
                          have hi47 := drop_nil hr47
                          rw [F_law10_CursorFolds_L2.eq_1] at hF
                          refine go_seq ?_
                          refine go_seq ?_
                          refine go_region ?_
                          refine gM rfl rfl ?_
                          refine gr rfl (r_fa (ot rfl) (fa_34_3 _ _)) ?_
                          refine gr rfl (r_load (ot rfl) (lm_s (mem_seg 3 rfl) ag_28 rfl)) ?_
                          refine gr rfl (r_len rfl (os1 (ot rfl) os0) (fun _ _ => ln_28)) ?_
                          refine gr rfl (r_bin (ot rfl) (ot rfl) rfl) ?_
                          refine go_cast (.bool false) (congrArg Value.bool (decide_eq_false hi47)) ?_
                          refine go_nil ?_
                          refine g_cond (b := false) (ot rfl) (fun hc48 => ?_) (fun hc48 => ?_)
                          · cases hc48
                          refine go_exit rfl ?_
                          obtain rfl := someI hF
                          exact Goes.weak (J38 ((y47_0, y47_1, (i47 : Int), (i47 : Int)), a47_0, a47_1) _ e47 w47 ⟨rfl, f47_0⟩) (Sub.cons (Sub.cons (Sub.cons (Sub.cons (Sub.cons (Sub.cons (Sub.cons (Sub.cons (Sub.cons (Sub.cons (Sub.cons (Sub.cons (Sub.cons (Sub.cons (Sub.cons (Sub.cons (Sub.cons (Sub.cons (Sub.cons (Sub.cons (Sub.cons (Sub.cons (Sub.cons (Sub.cons (Sub.cons (Sub.cons (Sub.cons (Sub.cons (Sub.cons (Sub.cons (Sub.cons (Sub.cons (Sub.cons (Sub.cons (Sub.cons (Sub.cons (Sub.cons (Sub.cons (Sub.cons (Sub.cons (Sub.cons (Sub.cons (Sub.cons (Sub.cons (Sub.cons (Sub.cons (Sub.cons (Sub.cons (Sub.cons (Sub.nil _) rfl) rfl) rfl) rfl) rfl) rfl) rfl) rfl) rfl) rfl) rfl) rfl) rfl) rfl) rfl) rfl) rfl) rfl) rfl) rfl) rfl) rfl) rfl) rfl) rfl) rfl) rfl) rfl) rfl) rfl) rfl) rfl) rfl) rfl) rfl) rfl) rfl) rfl) rfl) rfl) rfl) rfl) rfl) rfl) rfl) rfl) rfl) rfl) rfl)
                        ·
                          obtain ⟨hi47, hx47, hr47⟩ := drop_cons hr47
                          have hb47 := (f30_2.ext e47.kn).1
                          rw [F_law10_CursorFolds_L2.eq_2] at hF
                          refine go_seq ?_
                          refine go_seq ?_
                          refine go_region ?_
                          refine gM rfl rfl ?_
                          refine gr rfl (r_fa (ot rfl) (fa_34_3 _ _)) ?_
                          refine gr rfl (r_load (ot rfl) (lm_s (mem_seg 3 rfl) ag_28 rfl)) ?_
                          refine gr rfl (r_len rfl (os1 (ot rfl) os0) (fun _ _ => ln_28)) ?_
                          refine gr rfl (r_bin (ot rfl) (ot rfl) rfl) ?_
                          refine go_cast (.bool true) (congrArg Value.bool (decide_eq_true (Int.ofNat_lt.mpr hi47))) ?_
                          refine go_nil ?_
                          refine g_cond (b := true) (ot rfl) (fun hc49 => ?_) (fun hc49 => ?_)
                          rotate_left
                          · cases hc49
                          refine go_skip ?_
                          refine go_seq ?_
                          refine go_block ?_
                          refine go_seq ?_
                          refine go_seq ?_
                          refine go_region ?_
                          refine gr rfl (r_fa (ot rfl) (fa_34_3 _ _)) ?_
                          refine gr rfl (r_load (ot rfl) (lm_s (mem_seg 3 rfl) ag_28 rfl)) ?_
                          refine gM rfl rfl ?_
                          obtain ⟨q50, row50, i50, cl50, rc50, sp50⟩ := ix (ik := .i64) (cap := c30_0) (E := EE) (f30_2.ext e47.kn) ((getI_nat _ _).trans hx47) ut_28 sz_30 rfl
                          obtain ⟨a50_0, c50_0, rfl, f50_0⟩ := rc50
                          refine gr rfl (r_ia (ot rfl) (ot rfl) i50) ?_
                          refine gr rfl (r_load (ot rfl) (v := .slice a50_0 z47.length c50_0) (lo_e (fun hf kn => ld_one ag_30 (kn.cellsAt cl50)))) ?_
                          refine gr rfl (r_len rfl (os1 (ot rfl) os0) (fun _ _ => ln_30)) ?_
                          refine gr rfl (r_bin (ot rfl) (oc rfl) rfl) ?_
                          refine gM rfl rfl ?_
                          replace hF := obind hF
                          obtain ⟨s52, hF, hK52⟩ := hF
                          refine go_joinr 16 (β := Unit) (fun s h' => True) (fun s => [(1, true, .slice a1_0 p1.length c1_0), (5, true, .pointer (some ⟨b5_1, 0, none⟩)), (6, true, .bool false), (7, true, .bool true), (8, true, .pointer (some ⟨b7_w0, 0, none⟩)), (10, true, .pointer (some ⟨b10_10, 0, none⟩)), (11, true, .slice a47_0 y47_0.length a47_1), (13, true, .int .i64 y14_1), (14, true, .int .i64 (i14 : Int)), (15, true, .pointer (some ⟨b15_28, 0, none⟩)), (16, true, .pointer (some ⟨b16_28, 0, none⟩)), (17, true, .int .i64 y47_1), (18, true, .int .i64 (i47 : Int)), (60, true, .int .i64 (i14 : Int)), (61, true, .slice a1_0 p1.length c1_0), (62, true, .int .i64 (p1.length : Int)), (63, true, .bool true), (66, true, .slice a1_0 p1.length c1_0), (67, true, .int .i64 (i14 : Int)), (68, true, .pointer (some q18)), (69, true, .pointer (some ⟨q18.block, q18.off + 0, q18.spot⟩)), (70, true, .int .i64 z14.Kind), (71, true, .bool (z14.Kind == 1)), (79, true, .slice a1_0 p1.length c1_0), (80, true, .int .i64 (i14 : Int)), (81, true, .pointer (some q22)), (82, true, .pointer (some ⟨q22.block, q22.off + 0, q22.spot⟩)), (83, true, .int .i64 z14.Kind), (84, true, .bool (z14.Kind == 2)), (95, true, .tuple #[.agg #[.string x30.1.R.From, .string x30.1.R.To, .int .i64 x30.1.Next, .bool x30.1.Once, .bool x30.1.Dead], .agg #[.int .i64 x30.2.1.Err, .int .i64 x30.2.1.Hor, .int .i64 x30.2.1.Upto, .slice a30_0 x30.2.1.Rows.length c30_0]]), (96, true, .agg #[.string y14_6, .string y14_7, .int .i64 y14_8, .bool y14_9, .bool y14_10]), (97, true, .pointer (some ⟨b7_w0, 0, none⟩)), (98, true, .slice a1_0 p1.length c1_0), (99, true, .int .i64 (i14 : Int)), (100, true, .pointer (some q29)), (101, true, .pointer (some ⟨q29.block, q29.off + 2, q29.spot⟩)), (102, true, .int .i64 z14.Rev), (103, true, .tuple #[.agg #[.string x30.1.R.From, .string x30.1.R.To, .int .i64 x30.1.Next, .bool x30.1.Once, .bool x30.1.Dead], .agg #[.int .i64 x30.2.1.Err, .int .i64 x30.2.1.Hor, .int .i64 x30.2.1.Upto, .slice a30_0 x30.2.1.Rows.length c30_0]]), (104, true, .agg #[.string x30.1.R.From, .string x30.1.R.To, .int .i64 x30.1.Next, .bool x30.1.Once, .bool x30.1.Dead]), (105, true, .agg #[.int .i64 x30.2.1.Err, .int .i64 x30.2.1.Hor, .int .i64 x30.2.1.Upto, .slice a30_0 x30.2.1.Rows.length c30_0]), (106, true, .agg #[.string x30.1.R.From, .string x30.1.R.To, .int .i64 x30.1.Next, .bool x30.1.Once, .bool x30.1.Dead]), (107, true, .pointer (some ⟨b16_28, 0, none⟩)), (108, true, .int .i64 x30.2.1.Err), (109, true, .bool (x30.2.1.Err != 0)), (133, true, .int .i64 y14_1), (134, true, .int .i64 (i47 : Int)), (135, true, .pointer (some ⟨b16_28, 3, none⟩)), (136, true, .slice a30_0 x30.2.1.Rows.length c30_0), (137, true, .int .i64 (x30.2.1.Rows.length : Int)), (138, true, .bool true), (141, true, .pointer (some ⟨b16_28, 3, none⟩)), (142, true, .slice a30_0 x30.2.1.Rows.length c30_0), (143, true, .int .i64 (i47 : Int)), (144, true, .pointer (some q50)), (145, true, .slice a50_0 z47.length c50_0), (146, true, .int .i64 (z47.length : Int)), (147, true, .bool ((z47.length : Int) == 0)), (148, true, .bool s52.1), (164, true, .bool s52.2)]) (fun s => (List.flatten [[⟨b7_w0, .cells [.int .i64 x30.2.2.bounds_rev, .int .i64 x30.2.2.bounds_hor, .map (some b7_w0m2), .slice q30_y0_3 x30.2.2.rows.length x30.2.2.rows.length] 90⟩], [⟨b7_w0m2, .map (encM kS id rw30_y0_2)⟩], t30_y0_3, [⟨b16_28, .cells [.int .i64 x30.2.1.Err, .int .i64 x30.2.1.Hor, .int .i64 x30.2.1.Upto, .slice a30_0 x30.2.1.Rows.length c30_0] 34⟩], [⟨b15_28, .cells [.string x30.1.R.From, .string x30.1.R.To, .int .i64 x30.1.Next, .bool x30.1.Once, .bool x30.1.Dead] 31⟩], [⟨b10_10, .cells [.string x30.1.R.From, .string x30.1.R.To, .int .i64 x30.1.Next, .bool x30.1.Once, .bool x30.1.Dead] 31⟩], [⟨b5_1, .cells [.string p2.R.From, .string p2.R.To, .int .i64 p2.Next, .bool p2.Once, .bool p2.Dead] 25⟩]] : List Blk)) ?_ (fun J52 => ?_)
                          ·
                            rintro _ h52 e52 w52 _
                            replace hF := hK52
                            refine go_nil ?_
                            refine g_cond (b := s52.2) (ot rfl) (fun hc53 => ?_) (fun hc53 => ?_)
                            ·
                              replace hF := ifT hc53 hF
                              refine go_seq ?_
                              refine go_region ?_
                              refine gAc rfl rfl ?_
                              refine go_nil ?_
                              obtain rfl := someI hF
                              obtain rfl := someI hK38
                              obtain rfl := someI hK17
                              obtain rfl := someI hK13
                              exact g_ret (rst rfl rs0) (fun h1 hf hs => ⟨(e5.trans (e7.trans (e8.trans (e9.trans (e12.trans (e14.trans (e30.trans (e47.trans (e52.trans hs.hext))))))))), rfl⟩)
                            ·
                              replace hF := ifF hc53 hF
                              refine go_skip ?_
                              refine go_seq ?_
                              refine go_region ?_
                              refine gr rfl (r_fa (ot rfl) (fa_34_3 _ _)) ?_
                              refine gr rfl (r_load (ot rfl) (lm_s (mem_seg 3 rfl) ag_28 rfl)) ?_
                              refine gM rfl rfl ?_
                              obtain ⟨q54, row54, i54, cl54, rc54, sp54⟩ := ix (ik := .i64) (cap := c30_0) (E := EE) ((f30_2.ext e47.kn).ext e52.kn) ((getI_nat _ _).trans hx47) ut_28 sz_30 rfl
                              obtain ⟨a54_0, c54_0, rfl, f54_0⟩ := rc54
                              refine gr rfl (r_ia (ot rfl) (ot rfl) i54) ?_
                              refine gr rfl (r_load (ot rfl) (v := .slice a54_0 z47.length c54_0) (lo_e (fun hf kn => ld_one ag_30 (kn.cellsAt cl54)))) ?_
                              replace hF := obind hF
                              obtain ⟨x55, hx55, hF⟩ := hF
                              obtain ⟨q55, row55, i55, cl55, rc55, sp55⟩ := ix (ik := .i64) (cap := c54_0) (E := EE) f54_0 hx55 ut_30 sz_77 rfl
                              obtain rfl := rc55
                              refine gr rfl (r_ia (ot rfl) (oc rfl) i55) ?_
                              refine gr rfl (r_fa (ot rfl) (fs_77_0 sp55)) ?_
                              refine gr rfl (r_load (ot rfl) (v := .int .i64 x55.Rev) (lo_e (fun hf kn => ld_field (r := [.int .i64 x55.Rev, .string x55.Key, .string x55.Val, .bool x55.Del]) ag_3 (kn.cellsAt cl55) rfl))) ?_
                              refine gA rfl rfl ?_
                              refine go_nil ?_
                              refine go_region ?_
                              refine gM rfl rfl ?_
                              refine gr rfl (r_fa (ot rfl) (fa_34_3 _ _)) ?_
                              refine gr rfl (r_load (ot rfl) (lm_s (mem_seg 3 rfl) ag_28 rfl)) ?_
                              refine gM rfl rfl ?_
                              obtain ⟨q56, row56, i56, cl56, rc56, sp56⟩ := ix (ik := .i64) (cap := c30_0) (E := EE) ((f30_2.ext e47.kn).ext e52.kn) ((getI_nat _ _).trans hx47) ut_28 sz_30 rfl
                              obtain ⟨a56_0, c56_0, rfl, f56_0⟩ := rc56
                              refine gr rfl (r_ia (ot rfl) (ot rfl) i56) ?_
                              refine gr rfl (r_load (ot rfl) (v := .slice a56_0 z47.length c56_0) (lo_e (fun hf kn => ld_one ag_30 (kn.cellsAt cl56)))) ?_
                              replace hF := obind hF
                              obtain ⟨x57, hx57, hF⟩ := hF
                              refine g_call EE_fr (fun _ h => by cases h; rfl) of (os1 (ot rfl) (os1 (ot rfl) os0)) hb_28 (fun hf kn w => by exact s_ref05_Fold n w y47_0 z47 ((f47_0.ext e52.kn).ext kn) (f56_0.ext kn) hx57) ?_
                              rintro v57 h57 e57 w57 ⟨a57_0, c57_0, rfl, f57_0⟩
                              refine gA rfl rfl ?_
                              refine go_nil ?_
                              refine go_endb ?_
                              refine go_region ?_
                              refine gM rfl rfl ?_
                              refine gr rfl (r_bin (ot rfl) (oc rfl) rfl) ?_
                              refine gA rfl rfl ?_
                              refine go_nil ?_
                              refine go_re 18 (v2 := .int .i64 ((i47 + 1 : Nat) : Int)) rfl (wrap_succ hi47 hb47) ?_
                              exact Goes.weak (ih47 (r47, i47 + 1, x57, x55.Rev, a57_0, c57_0, h57) ⟨hr47, (e47.trans (e52.trans e57)), w57, hF, f57_0⟩ (Nat.lt_succ_self _)) (Sub.cons (Sub.cons (Sub.cons (Sub.cons (Sub.cons (Sub.cons (Sub.cons (Sub.cons (Sub.cons (Sub.cons (Sub.cons (Sub.cons (Sub.cons (Sub.cons (Sub.cons (Sub.cons (Sub.cons (Sub.cons (Sub.cons (Sub.cons (Sub.cons (Sub.cons (Sub.cons (Sub.cons (Sub.cons (Sub.cons (Sub.cons (Sub.cons (Sub.cons (Sub.cons (Sub.cons (Sub.cons (Sub.cons (Sub.cons (Sub.cons (Sub.cons (Sub.cons (Sub.cons (Sub.cons (Sub.cons (Sub.cons (Sub.cons (Sub.cons (Sub.cons (Sub.cons (Sub.nil _) rfl) rfl) rfl) rfl) rfl) rfl) rfl) rfl) rfl) rfl) rfl) rfl) rfl) rfl) rfl) rfl) rfl) rfl) rfl) rfl) rfl) rfl) rfl) rfl) rfl) rfl) rfl) rfl) rfl) rfl) rfl) rfl) rfl) rfl) rfl) rfl) rfl) rfl) rfl) rfl) rfl) rfl) rfl) rfl) rfl)
                          ·
                            rcases Bool.eq_false_or_eq_true ((z47.length : Int) == 0) with hb51 | hb51
                            ·
                              replace hF := ifT hb51 hF
                              refine go_re 148 (v2 := .bool true) rfl (congrArg Value.bool hb51) ?_
                              refine g_no rfl rfl rfl rfl rfl ?_
                              refine g_no rfl rfl rfl rfl rfl ?_
                              refine g_no rfl rfl rfl rfl rfl ?_
                              refine g_no rfl rfl rfl rfl rfl ?_
                              refine g_nu rfl rfl rfl rfl ?_
                              refine g_nu rfl rfl rfl rfl ?_
                              refine g_nu rfl rfl rfl rfl ?_
                              refine g_nu rfl rfl rfl rfl ?_
                              refine g_nu rfl rfl rfl rfl ?_
                              refine g_nu rfl rfl rfl rfl ?_
                              refine g_nu rfl rfl rfl rfl ?_
                              refine g_nu rfl rfl rfl rfl ?_
                              refine g_nu rfl rfl rfl rfl ?_
                              refine g_nu rfl rfl rfl rfl ?_
                              refine g_no rfl rfl rfl rfl rfl ?_
                              refine gr rfl (r_pkT (ot rfl) (oc rfl)) ?_
                              obtain rfl := someI hF
                              exact Goes.weak (J52 () _ (HExt.refl _) w47 trivial) (Sub.cons (Sub.cons (Sub.cons (Sub.cons (Sub.cons (Sub.cons (Sub.cons (Sub.cons (Sub.cons (Sub.cons (Sub.cons (Sub.cons (Sub.cons (Sub.cons (Sub.cons (Sub.cons (Sub.cons (Sub.cons (Sub.cons (Sub.cons (Sub.cons (Sub.cons (Sub.cons (Sub.cons (Sub.cons (Sub.cons (Sub.cons (Sub.cons (Sub.cons (Sub.cons (Sub.cons (Sub.cons (Sub.cons (Sub.cons (Sub.cons (Sub.cons (Sub.cons (Sub.cons (Sub.cons (Sub.cons (Sub.cons (Sub.cons (Sub.cons (Sub.cons (Sub.cons (Sub.cons (Sub.cons (Sub.cons (Sub.cons (Sub.cons (Sub.cons (Sub.cons (Sub.cons (Sub.cons (Sub.cons (Sub.cons (Sub.cons (Sub.cons (Sub.cons (Sub.nil _) rfl) rfl) rfl) rfl) rfl) rfl) rfl) rfl) rfl) rfl) rfl) rfl) rfl) rfl) rfl) rfl) rfl) rfl) rfl) rfl) rfl) rfl) rfl) rfl) rfl) rfl) rfl) rfl) rfl) rfl) rfl) rfl) rfl) rfl) rfl) rfl) rfl) rfl) rfl) rfl) rfl) rfl) rfl) rfl) rfl) rfl) rfl) rfl) rfl) rfl) rfl) rfl) rfl) rfl) rfl) rfl) rfl) rfl) rfl)
                            ·
                              replace hF := ifF hb51 hF
                              refine go_re 148 (v2 := .bool false) rfl (congrArg Value.bool hb51) ?_
                              refine g_do rfl rfl rfl ?_
                              refine gr rfl (r_fa (ot rfl) (fa_25_2 _ _)) ?_
                              refine g_do rfl rfl rfl ?_
                              refine gr rfl (r_load (ot rfl) (lm_s (mem_seg 6 rfl) ag_4 rfl)) ?_
                              refine g_do rfl rfl rfl ?_
                              refine gr rfl (r_un (ot rfl) rfl) ?_
                              refine g_do rfl rfl rfl ?_
                              refine gM rfl rfl ?_
                              replace hF := obind hF
                              obtain ⟨s59, hF, hK59⟩ := hF
                              refine go_joinr 11 (β := Unit) (fun s h' => True) (fun s => [(1, true, .slice a1_0 p1.length c1_0), (5, true, .pointer (some ⟨b5_1, 0, none⟩)), (6, true, .bool false), (7, true, .bool true), (8, true, .pointer (some ⟨b7_w0, 0, none⟩)), (10, true, .pointer (some ⟨b10_10, 0, none⟩)), (11, true, .slice a47_0 y47_0.length a47_1), (13, true, .int .i64 y14_1), (14, true, .int .i64 (i14 : Int)), (15, true, .pointer (some ⟨b15_28, 0, none⟩)), (16, true, .pointer (some ⟨b16_28, 0, none⟩)), (17, true, .int .i64 y47_1), (18, true, .int .i64 (i47 : Int)), (60, true, .int .i64 (i14 : Int)), (61, true, .slice a1_0 p1.length c1_0), (62, true, .int .i64 (p1.length : Int)), (63, true, .bool true), (66, true, .slice a1_0 p1.length c1_0), (67, true, .int .i64 (i14 : Int)), (68, true, .pointer (some q18)), (69, true, .pointer (some ⟨q18.block, q18.off + 0, q18.spot⟩)), (70, true, .int .i64 z14.Kind), (71, true, .bool (z14.Kind == 1)), (79, true, .slice a1_0 p1.length c1_0), (80, true, .int .i64 (i14 : Int)), (81, true, .pointer (some q22)), (82, true, .pointer (some ⟨q22.block, q22.off + 0, q22.spot⟩)), (83, true, .int .i64 z14.Kind), (84, true, .bool (z14.Kind == 2)), (95, true, .tuple #[.agg #[.string x30.1.R.From, .string x30.1.R.To, .int .i64 x30.1.Next, .bool x30.1.Once, .bool x30.1.Dead], .agg #[.int .i64 x30.2.1.Err, .int .i64 x30.2.1.Hor, .int .i64 x30.2.1.Upto, .slice a30_0 x30.2.1.Rows.length c30_0]]), (96, true, .agg #[.string y14_6, .string y14_7, .int .i64 y14_8, .bool y14_9, .bool y14_10]), (97, true, .pointer (some ⟨b7_w0, 0, none⟩)), (98, true, .slice a1_0 p1.length c1_0), (99, true, .int .i64 (i14 : Int)), (100, true, .pointer (some q29)), (101, true, .pointer (some ⟨q29.block, q29.off + 2, q29.spot⟩)), (102, true, .int .i64 z14.Rev), (103, true, .tuple #[.agg #[.string x30.1.R.From, .string x30.1.R.To, .int .i64 x30.1.Next, .bool x30.1.Once, .bool x30.1.Dead], .agg #[.int .i64 x30.2.1.Err, .int .i64 x30.2.1.Hor, .int .i64 x30.2.1.Upto, .slice a30_0 x30.2.1.Rows.length c30_0]]), (104, true, .agg #[.string x30.1.R.From, .string x30.1.R.To, .int .i64 x30.1.Next, .bool x30.1.Once, .bool x30.1.Dead]), (105, true, .agg #[.int .i64 x30.2.1.Err, .int .i64 x30.2.1.Hor, .int .i64 x30.2.1.Upto, .slice a30_0 x30.2.1.Rows.length c30_0]), (106, true, .agg #[.string x30.1.R.From, .string x30.1.R.To, .int .i64 x30.1.Next, .bool x30.1.Once, .bool x30.1.Dead]), (107, true, .pointer (some ⟨b16_28, 0, none⟩)), (108, true, .int .i64 x30.2.1.Err), (109, true, .bool (x30.2.1.Err != 0)), (133, true, .int .i64 y14_1), (134, true, .int .i64 (i47 : Int)), (135, true, .pointer (some ⟨b16_28, 3, none⟩)), (136, true, .slice a30_0 x30.2.1.Rows.length c30_0), (137, true, .int .i64 (x30.2.1.Rows.length : Int)), (138, true, .bool true), (141, true, .pointer (some ⟨b16_28, 3, none⟩)), (142, true, .slice a30_0 x30.2.1.Rows.length c30_0), (143, true, .int .i64 (i47 : Int)), (144, true, .pointer (some q50)), (145, true, .slice a50_0 z47.length c50_0), (146, true, .int .i64 (z47.length : Int)), (147, true, .bool ((z47.length : Int) == 0)), (148, true, .bool false), (149, true, .pointer (some ⟨b5_1, 3, none⟩)), (150, true, .bool p2.Once), (151, true, .bool (!p2.Once)), (152, true, .bool s59.1), (163, true, .bool s59.2)]) (fun s => (List.flatten [[⟨b7_w0, .cells [.int .i64 x30.2.2.bounds_rev, .int .i64 x30.2.2.bounds_hor, .map (some b7_w0m2), .slice q30_y0_3 x30.2.2.rows.length x30.2.2.rows.length] 90⟩], [⟨b7_w0m2, .map (encM kS id rw30_y0_2)⟩], t30_y0_3, [⟨b16_28, .cells [.int .i64 x30.2.1.Err, .int .i64 x30.2.1.Hor, .int .i64 x30.2.1.Upto, .slice a30_0 x30.2.1.Rows.length c30_0] 34⟩], [⟨b15_28, .cells [.string x30.1.R.From, .string x30.1.R.To, .int .i64 x30.1.Next, .bool x30.1.Once, .bool x30.1.Dead] 31⟩], [⟨b10_10, .cells [.string x30.1.R.From, .string x30.1.R.To, .int .i64 x30.1.Next, .bool x30.1.Once, .bool x30.1.Dead] 31⟩], [⟨b5_1, .cells [.string p2.R.From, .string p2.R.To, .int .i64 p2.Next, .bool p2.Once, .bool p2.Dead] 25⟩]] : List Blk)) ?_ (fun J59 => ?_)
                              ·
                                rintro _ h59 e59 w59 _
                                replace hF := hK59
                                refine gr rfl (r_pkF (ot rfl) (ot rfl)) ?_
                                obtain rfl := someI hF
                                exact Goes.weak (J52 () _ e59 w59 trivial) (Sub.cons (Sub.cons (Sub.cons (Sub.cons (Sub.cons (Sub.cons (Sub.cons (Sub.cons (Sub.cons (Sub.cons (Sub.cons (Sub.cons (Sub.cons (Sub.cons (Sub.cons (Sub.cons (Sub.cons (Sub.cons (Sub.cons (Sub.cons (Sub.cons (Sub.cons (Sub.cons (Sub.cons (Sub.cons (Sub.cons (Sub.cons (Sub.cons (Sub.cons (Sub.cons (Sub.cons (Sub.cons (Sub.cons (Sub.cons (Sub.cons (Sub.cons (Sub.cons (Sub.cons (Sub.cons (Sub.cons (Sub.cons (Sub.cons (Sub.cons (Sub.cons (Sub.cons (Sub.cons (Sub.cons (Sub.cons (Sub.cons (Sub.cons (Sub.cons (Sub.cons (Sub.cons (Sub.cons (Sub.cons (Sub.cons (Sub.cons (Sub.cons (Sub.cons (Sub.nil _) rfl) rfl) rfl) rfl) rfl) rfl) rfl) rfl) rfl) rfl) rfl) rfl) rfl) rfl) rfl) rfl) rfl) rfl) rfl) rfl) rfl) rfl) rfl) rfl) rfl) rfl) rfl) rfl) rfl) rfl) rfl) rfl) rfl) rfl) rfl) rfl) rfl) rfl) rfl) rfl) rfl) rfl) rfl) rfl) rfl) rfl) rfl) rfl) rfl) rfl) rfl) rfl) rfl) rfl) rfl) rfl) rfl) rfl) rfl)
                              ·
                                rcases Bool.eq_false_or_eq_true (!p2.Once) with hb58 | hb58
                                ·
                                  replace hF := ifT hb58 hF
                                  refine go_re 152 (v2 := .bool true) rfl (congrArg Value.bool hb58) ?_
                                  refine g_do rfl rfl rfl ?_
                                  refine gr rfl (r_fa (ot rfl) (fa_34_3 _ _)) ?_
                                  refine g_do rfl rfl rfl ?_
                                  refine gr rfl (r_load (ot rfl) (lm_s (mem_seg 3 rfl) ag_28 rfl)) ?_
                                  refine g_do rfl rfl rfl ?_
                                  refine gM rfl rfl ?_
                                  refine g_do rfl rfl rfl ?_
                                  obtain ⟨q60, row60, i60, cl60, rc60, sp60⟩ := ix (ik := .i64) (cap := c30_0) (E := EE) (f30_2.ext e47.kn) ((getI_nat _ _).trans hx47) ut_28 sz_30 rfl
                                  obtain ⟨a60_0, c60_0, rfl, f60_0⟩ := rc60
                                  refine gr rfl (r_ia (ot rfl) (ot rfl) i60) ?_
                                  refine g_do rfl rfl rfl ?_
                                  refine gr rfl (r_load (ot rfl) (v := .slice a60_0 z47.length c60_0) (lo_e (fun hf kn => ld_one ag_30 (kn.cellsAt cl60)))) ?_
                                  refine g_do rfl rfl rfl ?_
                                  replace hF := obind hF
                                  obtain ⟨x61, hx61, hF⟩ := hF
                                  obtain ⟨q61, row61, i61, cl61, rc61, sp61⟩ := ix (ik := .i64) (cap := c60_0) (E := EE) f60_0 hx61 ut_30 sz_77 rfl
                                  obtain rfl := rc61
                                  refine gr rfl (r_ia (ot rfl) (oc rfl) i61) ?_
                                  refine g_do rfl rfl rfl ?_
                                  refine gr rfl (r_fa (ot rfl) (fs_77_0 sp61)) ?_
                                  refine g_do rfl rfl rfl ?_
                                  refine gr rfl (r_load (ot rfl) (v := .int .i64 x61.Rev) (lo_e (fun hf kn => ld_field (r := [.int .i64 x61.Rev, .string x61.Key, .string x61.Val, .bool x61.Del]) ag_3 (kn.cellsAt cl61) rfl))) ?_
                                  refine g_do rfl rfl rfl ?_
                                  refine gM rfl rfl ?_
                                  refine g_do rfl rfl rfl ?_
                                  refine gr rfl (r_bin (ot rfl) (ot rfl) rfl) ?_
                                  refine g_do rfl rfl rfl ?_
                                  refine gr rfl (r_pkT (ot rfl) (ot rfl)) ?_
                                  obtain rfl := someI hF
                                  exact Goes.weak (J59 () _ (HExt.refl _) w47 trivial) (Sub.cons (Sub.cons (Sub.cons (Sub.cons (Sub.cons (Sub.cons (Sub.cons (Sub.cons (Sub.cons (Sub.cons (Sub.cons (Sub.cons (Sub.cons (Sub.cons (Sub.cons (Sub.cons (Sub.cons (Sub.cons (Sub.cons (Sub.cons (Sub.cons (Sub.cons (Sub.cons (Sub.cons (Sub.cons (Sub.cons (Sub.cons (Sub.cons (Sub.cons (Sub.cons (Sub.cons (Sub.cons (Sub.cons (Sub.cons (Sub.cons (Sub.cons (Sub.cons (Sub.cons (Sub.cons (Sub.cons (Sub.cons (Sub.cons (Sub.cons (Sub.cons (Sub.cons (Sub.cons (Sub.cons (Sub.cons (Sub.cons (Sub.cons (Sub.cons (Sub.cons (Sub.cons (Sub.cons (Sub.cons (Sub.cons (Sub.cons (Sub.cons (Sub.cons (Sub.cons (Sub.cons (Sub.cons (Sub.cons (Sub.nil _) rfl) rfl) rfl) rfl) rfl) rfl) rfl) rfl) rfl) rfl) rfl) rfl) rfl) rfl) rfl) rfl) rfl) rfl) rfl) rfl) rfl) rfl) rfl) rfl) rfl) rfl) rfl) rfl) rfl) rfl) rfl) rfl) rfl) rfl) rfl) rfl) rfl) rfl) rfl) rfl) rfl) rfl) rfl) rfl) rfl) rfl) rfl) rfl) rfl) rfl) rfl) rfl) rfl) rfl) rfl) rfl) rfl) rfl) rfl) rfl) rfl) rfl) rfl)
                                ·
                                  replace hF := ifF hb58 hF
                                  refine go_re 152 (v2 := .bool false) rfl (congrArg Value.bool hb58) ?_
                                  refine g_no rfl rfl rfl rfl rfl ?_
                                  refine g_no rfl rfl rfl rfl rfl ?_
                                  refine g_no rfl rfl rfl rfl rfl ?_
                                  refine g_no rfl rfl rfl rfl rfl ?_
                                  refine g_no rfl rfl rfl rfl rfl ?_
                                  refine g_no rfl rfl rfl rfl rfl ?_
                                  refine g_no rfl rfl rfl rfl rfl ?_
                                  refine g_no rfl rfl rfl rfl rfl ?_
                                  refine g_no rfl rfl rfl rfl rfl ?_
                                  refine g_no rfl rfl rfl rfl rfl ?_
                                  refine g_do rfl rfl rfl ?_
                                  refine gr rfl (r_pkF (ot rfl) (oc rfl)) ?_
                                  obtain rfl := someI hF
                                  exact Goes.weak (J59 () _ (HExt.refl _) w47 trivial) (Sub.cons (Sub.cons (Sub.cons (Sub.cons (Sub.cons (Sub.cons (Sub.cons (Sub.cons (Sub.cons (Sub.cons (Sub.cons (Sub.cons (Sub.cons (Sub.cons (Sub.cons (Sub.cons (Sub.cons (Sub.cons (Sub.cons (Sub.cons (Sub.cons (Sub.cons (Sub.cons (Sub.cons (Sub.cons (Sub.cons (Sub.cons (Sub.cons (Sub.cons (Sub.cons (Sub.cons (Sub.cons (Sub.cons (Sub.cons (Sub.cons (Sub.cons (Sub.cons (Sub.cons (Sub.cons (Sub.cons (Sub.cons (Sub.cons (Sub.cons (Sub.cons (Sub.cons (Sub.cons (Sub.cons (Sub.cons (Sub.cons (Sub.cons (Sub.cons (Sub.cons (Sub.cons (Sub.cons (Sub.cons (Sub.cons (Sub.cons (Sub.cons (Sub.cons (Sub.cons (Sub.cons (Sub.cons (Sub.cons (Sub.nil _) rfl) rfl) rfl) rfl) rfl) rfl) rfl) rfl) rfl) rfl) rfl) rfl) rfl) rfl) rfl) rfl) rfl) rfl) rfl) rfl) rfl) rfl) rfl) rfl) rfl) rfl) rfl) rfl) rfl) rfl) rfl) rfl) rfl) rfl) rfl) rfl) rfl) rfl) rfl) rfl) rfl) rfl) rfl) rfl) rfl) rfl) rfl) rfl) rfl) rfl) rfl) rfl) rfl) rfl) rfl) rfl) rfl) rfl) rfl) rfl) rfl) rfl) rfl)
      ·
        refine go_block ?_
        refine go_loop (α := (List Timpostlaw10_Deed) × Nat × Int × Int × (List (List TEvent)) × (List (ByteArray × (List TEvent))) × Option Addr × List Blk × List (ByteArray × Value) × Heap) (fun a => a.1 = List.drop a.2.1 p0 ∧ HExt h7 a.2.2.2.2.2.2.2.2.2 ∧ Wf a.2.2.2.2.2.2.2.2.2 ∧ F_law10_CursorFolds_L3 a.1 a.2.1 a.2.2.1 a.2.2.2.1 a.2.2.2.2.1 a.2.2.2.2.2.1 = some s8 ∧ AccR (Rep.sl R_TEvent 30) 30 a.2.2.2.2.2.2.2.2.2 a.2.2.2.2.2.2.2.1 (.slice a.2.2.2.2.2.2.1 a.2.2.2.2.1.length a.2.2.2.2.1.length) a.2.2.2.2.1 ∧ MR R_TEvent a.2.2.2.2.2.2.2.2.2 a.2.2.2.2.2.2.2.2.1 a.2.2.2.2.2.1) (fun a => a.1.length) (fun a => [(0, true, .slice a0_0 p0.length c0_0), (1, true, .slice a1_0 p1.length c1_0), (5, true, .pointer (some ⟨b5_1, 0, none⟩)), (6, true, .bool false), (7, true, .bool true), (8, true, .pointer (some ⟨b7_w0, 0, none⟩)), (9, true, .int .i64 (a.2.1 : Int))]) (fun a => (List.flatten [[⟨b7_w0, .cells [.int .i64 a.2.2.1, .int .i64 a.2.2.2.1, .map (some b7_w0m2), .slice a.2.2.2.2.2.2.1 a.2.2.2.2.1.length a.2.2.2.2.1.length] 90⟩], [⟨b7_w0m2, .map (encM kS id a.2.2.2.2.2.2.2.2.1)⟩], a.2.2.2.2.2.2.2.1, [⟨b5_1, .cells [.string p2.R.From, .string p2.R.To, .int .i64 p2.Next, .bool p2.Once, .bool p2.Dead] 25⟩]] : List Blk)) (fun a => a.2.2.2.2.2.2.2.2.2) ?_ (p0, 0, x7.bounds_rev, x7.bounds_hor, x7.rows, x7.keys, q7_w0_3, t7_w0_3, rw7_w0_2, h7) ⟨rfl, HExt.refl _, w7, hF, f7_1, f7_0⟩ (Sub.cons (Sub.cons (Sub.cons (Sub.cons (Sub.cons (Sub.cons (Sub.cons (Sub.nil _) rfl) rfl) rfl) rfl) rfl) rfl) rfl) rfl rfl
        rintro ⟨r62, i62, y62_0, y62_1, y62_2, y62_3, a62_0, a62_1, a62_2, h62⟩ ⟨hr62, e62, w62, hF, f62_2, f62_3⟩ ih62
        rcases r62 with _ | ⟨z62, r62⟩
        ·
          have hi62 := drop_nil hr62
          rw [F_law10_CursorFolds_L3.eq_1] at hF
          refine go_seq ?_
          refine go_seq ?_
          refine go_region ?_
          refine gM rfl rfl ?_
          refine gM rfl rfl ?_
          refine gr rfl (r_len rfl (os1 (ot rfl) os0) (fun _ _ => ln_48)) ?_
          refine gr rfl (r_bin (ot rfl) (ot rfl) rfl) ?_
          refine go_cast (.bool false) (congrArg Value.bool (decide_eq_false hi62)) ?_
          refine go_nil ?_
          refine g_cond (b := false) (ot rfl) (fun hc63 => ?_) (fun hc63 => ?_)
          · cases hc63
          refine go_exit rfl ?_
          obtain rfl := someI hF
          exact Goes.weak (J8 (a62_0, a62_1, a62_2) _ e62 w62 ⟨f62_2, f62_3⟩) (Sub.cons (Sub.cons (Sub.cons (Sub.cons (Sub.cons (Sub.nil _) rfl) rfl) rfl) rfl) rfl)
        ·
          obtain ⟨hi62, hx62, hr62⟩ := drop_cons hr62
          have hb62 := (((f0_0.ext e5.kn).ext e7.kn).ext e62.kn).1
          rw [F_law10_CursorFolds_L3.eq_2] at hF
          refine go_seq ?_
          refine go_seq ?_
          refine go_region ?_
          refine gM rfl rfl ?_
          refine gM rfl rfl ?_
          refine gr rfl (r_len rfl (os1 (ot rfl) os0) (fun _ _ => ln_48)) ?_
          refine gr rfl (r_bin (ot rfl) (ot rfl) rfl) ?_
          refine go_cast (.bool true) (congrArg Value.bool (decide_eq_true (Int.ofNat_lt.mpr hi62))) ?_
          refine go_nil ?_
          refine g_cond (b := true) (ot rfl) (fun hc64 => ?_) (fun hc64 => ?_)
          rotate_left
          · cases hc64
          refine go_skip ?_
          refine go_seq ?_
          refine go_block ?_
          refine go_region ?_
          refine gM rfl rfl ?_
          refine gM rfl rfl ?_
          refine gM rfl rfl ?_
          obtain ⟨q65, row65, i65, cl65, rc65, sp65⟩ := ix (ik := .i64) (cap := c0_0) (E := EE) (((f0_0.ext e5.kn).ext e7.kn).ext e62.kn) ((getI_nat _ _).trans hx62) ut_48 sz_56 rfl
          obtain ⟨a65_0, c65_0, rfl, f65_0⟩ := rc65
          refine gr rfl (r_ia (ot rfl) (ot rfl) i65) ?_
          refine gr rfl (r_fa (ot rfl) (fs_56_1 sp65)) ?_
          refine gr rfl (r_load (ot rfl) (v := .slice a65_0 z62.Ops.length c65_0) (lo_e (fun hf kn => ld_field (r := [.int .i64 z62.Kind, .slice a65_0 z62.Ops.length c65_0, .int .i64 z62.Rev]) ag_54 (kn.cellsAt cl65) rfl))) ?_
          replace hF := obind hF
          obtain ⟨x66, hx66, hF⟩ := hF
          refine gs_call EE_fr w62 (.cons .z (.cons .z (.cons .z .nil))) (fun _ h => by cases h; rfl) of (os1 (ot rfl) (os1 (ot rfl) os0)) hb_19 (by exact s_hist_Hist_Apply w62 (⟨y62_0, y62_1, y62_3, y62_2⟩ : Ohist_Hist) z62.Ops f62_3 f62_2 f65_0 hx66) ?_
          rintro v66 S66 h66 e66 w66 ⟨rw66_y0_2, q66_y0_3, t66_y0_3, a66_0, c66_0, rfl, rfl, f66_0, f66_1, f66_2⟩
          simp only [List.cons_append, List.nil_append]
          refine go_nil ?_
          refine go_endb ?_
          refine go_region ?_
          refine gM rfl rfl ?_
          refine gr rfl (r_bin (ot rfl) (oc rfl) rfl) ?_
          refine gA rfl rfl ?_
          refine go_nil ?_
          refine go_re 9 (v2 := .int .i64 ((i62 + 1 : Nat) : Int)) rfl (wrap_succ hi62 hb62) ?_
          exact Goes.weak (ih62 (r62, i62 + 1, x66.2.bounds_rev, x66.2.bounds_hor, x66.2.rows, x66.2.keys, q66_y0_3, t66_y0_3, rw66_y0_2, h66) ⟨hr62, (e62.trans e66), w66, hF, f66_1, f66_0⟩ (Nat.lt_succ_self _)) (Sub.cons (Sub.cons (Sub.cons (Sub.cons (Sub.cons (Sub.cons (Sub.cons (Sub.nil _) rfl) rfl) rfl) rfl) rfl) rfl) rfl)
  ·
    rcases Bool.eq_false_or_eq_true (!x3) with hb4 | hb4
    ·
      replace hF := ifT hb4 hF
      refine go_re 25 (v2 := .bool true) rfl (congrArg Value.bool hb4) ?_
      refine g_no rfl rfl rfl rfl rfl ?_
      refine g_no rfl rfl rfl rfl rfl ?_
      refine g_no rfl rfl rfl rfl rfl ?_
      refine gr rfl (r_pkT (ot rfl) (oc rfl)) ?_
      obtain rfl := someI hF
      exact Goes.weak (J5 () _ (HExt.refl _) hw trivial) (Sub.cons (Sub.cons (Sub.cons (Sub.cons (Sub.cons (Sub.cons (Sub.nil _) rfl) rfl) rfl) rfl) rfl) rfl)
    ·
      replace hF := ifF hb4 hF
      refine go_re 25 (v2 := .bool false) rfl (congrArg Value.bool hb4) ?_
      refine g_do rfl rfl rfl ?_
      refine gM rfl rfl ?_
      refine g_do rfl rfl rfl ?_
      replace hF := obind hF
      obtain ⟨x67, hx67, hF⟩ := hF
      refine g_callp (v := .bool x67) EE_fr rfl of (os1 (ot rfl) os0) hb_17 (fun _ => rfl) (fun hf kn w => by exact s_law10_few w p1 (f1_0.ext kn) hx67) ?_
      refine g_do rfl rfl rfl ?_
      refine gr rfl (r_un (ot rfl) rfl) ?_
      refine gr rfl (r_pkF (ot rfl) (ot rfl)) ?_
      obtain rfl := someI hF
      exact Goes.weak (J5 () _ (HExt.refl _) hw trivial) (Sub.cons (Sub.cons (Sub.cons (Sub.cons (Sub.cons (Sub.cons (Sub.nil _) rfl) rfl) rfl) rfl) rfl) rfl)
end Go.Proofs.Ytfgoccdjbgecfaa.V
