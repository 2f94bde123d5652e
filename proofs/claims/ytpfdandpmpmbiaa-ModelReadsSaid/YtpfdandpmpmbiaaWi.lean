/- Walks.
   No condition: these are laws of the clean machine and of this program. -/
import Derived.Test.YtpfdandpmpmbiaaPT
import Derived.Test.YtpfdandpmpmbiaaWs
import Derived.Test.YtpfdandpmpmbiaaWm
import Derived.Test.YtpfdandpmpmbiaaWy
namespace Go.Proofs.Ytpfdandpmpmbiaa.V
open Go
set_option linter.unusedVariables false
set_option linter.unusedSimpArgs false
set_option maxRecDepth 100000
set_option maxHeartbeats 4000000
theorem s_law08_ModelReads (n : Nat) {h : Heap} (hw : Wf h) (p0 : (List TReq)) (p1 : (List TReq)) (p2 : Int) {a0_0 : Option Addr} {c0_0 : Nat} {a1_0 : Option Addr} {c1_0 : Nat} (f0_0 : RL R_TReq h a0_0 c0_0 p0) (f1_0 : RL R_TReq h a1_0 c1_0 p1) {r : Bool} (hF : F_law08_ModelReads n p0 p1 p2 = some r) :
    Ev EE 10 [.slice a0_0 p0.length c0_0, .slice a1_0 p1.length c1_0, .int .u8 p2] h (fun v _ => v = .bool r) := by
  unfold F_law08_ModelReads at hF
  refine ev_of hw rfl at_10 rfl rfl (go_seg0 ?_)
  refine go_seq ?_
  refine go_region ?_
  refine gAc rfl rfl ?_
  refine go_nil ?_
  refine go_seq ?_
  refine go_region ?_
  refine g_callp EE_fr rfl of os0 hb_31 (fun _ => rfl) (fun hf kn w => by exact known_evp rfl hf w) ?_
  refine gA rfl rfl ?_
  refine go_nil ?_
  refine go_seq ?_
  refine go_seq ?_
  refine go_region ?_
  refine gM rfl rfl ?_
  replace hF := obind hF
  obtain ⟨x2, hx2, hF⟩ := hF
  refine g_callp (v := .bool x2) EE_fr rfl of (os1 (ot rfl) os0) hb_33 (fun _ => rfl) (fun hf kn w => by exact s_law08_few w p0 (f0_0.ext kn) hx2) ?_
  refine gr rfl (r_un (ot rfl) rfl) ?_
  refine gM rfl rfl ?_
  replace hF := obind hF
  obtain ⟨s4, hF, hK4⟩ := hF
  refine go_joinr 4 (β := Unit) (fun s h' => True) (fun s => [(0, true, .slice a0_0 p0.length c0_0), (1, true, .slice a1_0 p1.length c1_0), (2, true, .int .u8 p2), (6, true, .bool false), (7, true, .bool true), (25, true, .bool s4)]) (fun s => (List.flatten [] : List Blk)) ?_ (fun J4 => ?_)
  ·
    rintro _ h4 e4 w4 _
    replace hF := hK4
    refine go_nil ?_
    refine g_cond (b := s4) (ot rfl) (fun hc5 => ?_) (fun hc5 => ?_)
    ·
      replace hF := ifT hc5 hF
      refine go_seq ?_
      refine go_region ?_
      refine gM rfl rfl ?_
      refine gA rfl rfl ?_
      refine go_nil ?_
      obtain rfl := someI hF
      exact g_ret (rst rfl rs0) (fun h1 hf hs => ⟨(e4.trans hs.hext), rfl⟩)
    ·
      replace hF := ifF hc5 hF
      refine go_skip ?_
      refine go_seq ?_
      refine go_region ?_
      refine gM rfl rfl ?_
      replace hF := obind hF
      obtain ⟨x6, hx6, hF⟩ := hF
      refine gs_call EE_fr w4 .nil (fun _ h => by cases h; rfl) of (os1 (ot rfl) os0) hb_36 (by exact s_law08_ran n w4 p0 (f0_0.ext e4.kn) hx6) ?_
      rintro v6 S6 h6 e6 w6 ⟨b6_w0, b6_w0o0, b6_w0o0m2, rw6_w0o0_2, q6_w0o0_3, t6_w0o0_3, rfl, rfl, f6_0, f6_1⟩
      simp only [List.cons_append, List.nil_append]
      refine gA rfl rfl ?_
      refine go_nil ?_
      refine go_seq ?_
      refine go_region ?_
      refine gM rfl rfl ?_
      refine gr rfl (r_bin (ot rfl) (oc rfl) rfl) ?_
      refine gr rfl (r_conv (ot rfl) rfl) ?_
      refine gA rfl rfl ?_
      refine go_nil ?_
      refine go_seq ?_
      refine go_region ?_
      refine gM rfl rfl ?_
      refine gr rfl (r_build (op1 (oc rfl) (op1 (ot rfl) op0)) rfl) ?_
      refine gs_alloc rfl zo_61 rfl ?_; intro b10_7
      refine gs_store (ot rfl) (ot rfl) sz_61 rfl rfl rfl rfl rfl .z ?_
      refine go_nil ?_
      refine go_seq ?_
      refine go_region ?_
      refine gM rfl rfl ?_
      refine gr rfl (r_load (ot rfl) (lm_w (mem_seg 0 rfl) ag_61 sz_61 rfl)) ?_
      replace hF := obind hF
      obtain ⟨x8, hx8, hF⟩ := hF
      refine gs_call EE_fr w6 (.cons (.s (.z)) (.cons (.s (.z)) (.cons (.s (.z)) (.cons (.s (.z)) .nil)))) (fun _ h => by cases h; rfl) of (os1 (ot rfl) (os1 (ot rfl) os0)) hb_34 (by exact s_model_Model_Serve n w6 (⟨x6.1.seq⟩ : Omodel_Model) (⟨x6.2.bounds_rev, x6.2.bounds_hor, x6.2.keys, x6.2.rows⟩ : Ohist_Hist) (⟨2, (⟨ByteArray.empty, ByteArray.empty⟩ : TRange), (IntKind.i64.wrap (Int.tmod p2 20)), ([] : List TCmp), ([] : List TOp), ([] : List TOp)⟩ : TReq) f6_0 f6_1 (RL.nil _ _ _) (RL.nil _ _ _) (RL.nil _ _ _) hx8) ?_
      rintro v8 S8 h8 e8 w8 ⟨rw8_y0o0_2, q8_y0o0_3, t8_y0o0_3, a8_0, c8_0, rfl, rfl, f8_0, f8_1, f8_2⟩
      simp only [List.cons_append, List.nil_append]
      refine gs_alloc rfl zo_73 rfl ?_; intro b11_9
      refine gs_store (ot rfl) (ot rfl) sz_73 rfl rfl rfl rfl rfl .z ?_
      refine go_nil ?_
      refine go_seq ?_
      refine go_seq ?_
      refine go_region ?_
      refine gAc rfl rfl ?_
      refine go_nil ?_
      replace hF := obind hF
      obtain ⟨s10, hF, hK10⟩ := hF
      refine go_joinc (β := (Int × Int × Int × (List (List TEvent)) × (List (ByteArray × (List TEvent)))) × Option Addr × List Blk × List (ByteArray × Value)) (fun s h' => s10 = .go s.1 ∧ AccR (Rep.sl R_TEvent 50) 50 h' s.2.2.1 (.slice s.2.1 s.1.2.2.2.1.length s.1.2.2.2.1.length) s.1.2.2.2.1 ∧ MR R_TEvent h' s.2.2.2 s.1.2.2.2.2) (fun s => [(6, true, .bool false), (7, true, .bool true)]) (fun s => (List.flatten [[⟨b11_9, .cells [.int .i64 x8.1.H.Seq, .int .i64 x8.1.H.Rev, .int .i64 x8.1.H.Hor, .int .i64 x8.1.Err, .bool x8.1.Ok, .slice a8_0 x8.1.L.length c8_0] 73⟩], [⟨b6_w0, .cells [.pointer (some ⟨b6_w0o0, 0, none⟩), .int .i64 s.1.1] 130⟩], [⟨b6_w0o0, .cells [.int .i64 s.1.2.1, .int .i64 s.1.2.2.1, .map (some b6_w0o0m2), .slice s.2.1 s.1.2.2.2.1.length s.1.2.2.2.1.length] 100⟩], [⟨b6_w0o0m2, .map (encM kS id s.2.2.2)⟩], s.2.2.1, [⟨b10_7, .cells [.int .i64 2, .string ByteArray.empty, .string ByteArray.empty, .int .i64 (IntKind.i64.wrap (Int.tmod p2 20)), .slice none 0 0, .slice none 0 0, .slice none 0 0] 61⟩]] : List Blk)) ?_ (fun J10 => ?_)
      ·
        rintro ⟨⟨x10_0, x10_1, x10_2, x10_3, x10_4⟩, a10_0, a10_1, a10_2⟩ h10 e10 w10 ⟨hs10, f10_3, f10_4⟩
        subst hs10
        replace hF := lpgo hK10
        refine go_seq ?_
        refine go_region ?_
        refine gM rfl rfl ?_
        refine gA rfl rfl ?_
        refine go_nil ?_
        obtain rfl := someI hF
        exact g_ret (rst rfl rs0) (fun h1 hf hs => ⟨(e4.trans (e6.trans (e8.trans (e10.trans hs.hext)))), rfl⟩)
      ·
        refine go_block ?_
        refine go_loop (α := (List TReq) × Nat × Int × Int × Int × (List (List TEvent)) × (List (ByteArray × (List TEvent))) × Option Addr × List Blk × List (ByteArray × Value) × Heap) (fun a => a.1 = List.drop a.2.1 p1 ∧ HExt h8 a.2.2.2.2.2.2.2.2.2.2 ∧ Wf a.2.2.2.2.2.2.2.2.2.2 ∧ F_law08_ModelReads_L1 n p2 x8 a.1 a.2.1 a.2.2.1 a.2.2.2.1 a.2.2.2.2.1 a.2.2.2.2.2.1 a.2.2.2.2.2.2.1 = some s10 ∧ AccR (Rep.sl R_TEvent 50) 50 a.2.2.2.2.2.2.2.2.2.2 a.2.2.2.2.2.2.2.2.1 (.slice a.2.2.2.2.2.2.2.1 a.2.2.2.2.2.1.length a.2.2.2.2.2.1.length) a.2.2.2.2.2.1 ∧ MR R_TEvent a.2.2.2.2.2.2.2.2.2.2 a.2.2.2.2.2.2.2.2.2.1 a.2.2.2.2.2.2.1) (fun a => a.1.length) (fun a => [(1, true, .slice a1_0 p1.length c1_0), (6, true, .bool false), (7, true, .bool true), (8, true, .pointer (some ⟨b6_w0, 0, none⟩)), (9, true, .int .i64 (IntKind.i64.wrap (Int.tmod p2 20))), (10, true, .pointer (some ⟨b10_7, 0, none⟩)), (11, true, .pointer (some ⟨b11_9, 0, none⟩)), (12, true, .int .i64 (a.2.1 : Int))]) (fun a => (List.flatten [[⟨b11_9, .cells [.int .i64 x8.1.H.Seq, .int .i64 x8.1.H.Rev, .int .i64 x8.1.H.Hor, .int .i64 x8.1.Err, .bool x8.1.Ok, .slice a8_0 x8.1.L.length c8_0] 73⟩], [⟨b6_w0, .cells [.pointer (some ⟨b6_w0o0, 0, none⟩), .int .i64 a.2.2.1] 130⟩], [⟨b6_w0o0, .cells [.int .i64 a.2.2.2.1, .int .i64 a.2.2.2.2.1, .map (some b6_w0o0m2), .slice a.2.2.2.2.2.2.2.1 a.2.2.2.2.2.1.length a.2.2.2.2.2.1.length] 100⟩], [⟨b6_w0o0m2, .map (encM kS id a.2.2.2.2.2.2.2.2.2.1)⟩], a.2.2.2.2.2.2.2.2.1, [⟨b10_7, .cells [.int .i64 2, .string ByteArray.empty, .string ByteArray.empty, .int .i64 (IntKind.i64.wrap (Int.tmod p2 20)), .slice none 0 0, .slice none 0 0, .slice none 0 0] 61⟩]] : List Blk)) (fun a => a.2.2.2.2.2.2.2.2.2.2) ?_ (p1, 0, x8.2.1.seq, x8.2.2.bounds_rev, x8.2.2.bounds_hor, x8.2.2.rows, x8.2.2.keys, q8_y0o0_3, t8_y0o0_3, rw8_y0o0_2, h8) ⟨rfl, HExt.refl _, w8, hF, f8_1, f8_0⟩ (Sub.cons (Sub.cons (Sub.cons (Sub.cons (Sub.cons (Sub.cons (Sub.cons (Sub.cons (Sub.nil _) rfl) rfl) rfl) rfl) rfl) rfl) rfl) rfl) rfl rfl
        rintro ⟨r11, i11, y11_0, y11_1, y11_2, y11_3, y11_4, a11_0, a11_1, a11_2, h11⟩ ⟨hr11, e11, w11, hF, f11_3, f11_4⟩ ih11
        rcases r11 with _ | ⟨z11, r11⟩
        ·
          have hi11 := drop_nil hr11
          rw [F_law08_ModelReads_L1.eq_1] at hF
          refine go_seq ?_
          refine go_seq ?_
          refine go_region ?_
          refine gM rfl rfl ?_
          refine gM rfl rfl ?_
          refine gr rfl (r_len rfl (os1 (ot rfl) os0) (fun _ _ => ln_66)) ?_
          refine gr rfl (r_bin (ot rfl) (ot rfl) rfl) ?_
          refine go_cast (.bool false) (congrArg Value.bool (decide_eq_false hi11)) ?_
          refine go_nil ?_
          refine g_cond (b := false) (ot rfl) (fun hc12 => ?_) (fun hc12 => ?_)
          · cases hc12
          refine go_exit rfl ?_
          obtain rfl := someI hF
          exact Goes.weak (J10 ((y11_0, y11_1, y11_2, y11_3, y11_4), a11_0, a11_1, a11_2) _ e11 w11 ⟨rfl, f11_3, f11_4⟩) (Sub.cons (Sub.cons (Sub.nil _) rfl) rfl)
        ·
          obtain ⟨hi11, hx11, hr11⟩ := drop_cons hr11
          have hb11 := ((((f1_0.ext e4.kn).ext e6.kn).ext e8.kn).ext e11.kn).1
          rw [F_law08_ModelReads_L1.eq_2] at hF
          refine go_seq ?_
          refine go_seq ?_
          refine go_region ?_
          refine gM rfl rfl ?_
          refine gM rfl rfl ?_
          refine gr rfl (r_len rfl (os1 (ot rfl) os0) (fun _ _ => ln_66)) ?_
          refine gr rfl (r_bin (ot rfl) (ot rfl) rfl) ?_
          refine go_cast (.bool true) (congrArg Value.bool (decide_eq_true (Int.ofNat_lt.mpr hi11))) ?_
          refine go_nil ?_
          refine g_cond (b := true) (ot rfl) (fun hc13 => ?_) (fun hc13 => ?_)
          rotate_left
          · cases hc13
          refine go_skip ?_
          refine go_seq ?_
          refine go_block ?_
          refine go_seq ?_
          refine go_region ?_
          refine gM rfl rfl ?_
          refine gM rfl rfl ?_
          refine gM rfl rfl ?_
          obtain ⟨q14, row14, i14, cl14, rc14, sp14⟩ := ix (ik := .i64) (cap := c1_0) (E := EE) ((((f1_0.ext e4.kn).ext e6.kn).ext e8.kn).ext e11.kn) ((getI_nat _ _).trans hx11) ut_66 sz_61 rfl
          obtain ⟨a14_0, c14_0, a14_1, c14_1, a14_2, c14_2, rfl, f14_0, f14_1, f14_2⟩ := rc14
          refine gr rfl (r_ia (ot rfl) (ot rfl) i14) ?_
          refine gr rfl (r_load (ot rfl) (v := .agg #[.int .i64 z11.Kind, .string z11.R.From, .string z11.R.To, .int .i64 z11.Rev, .slice a14_0 z11.Cmps.length c14_0, .slice a14_1 z11.Then.length c14_1, .slice a14_2 z11.Else.length c14_2]) (lo_e (fun hf kn => ld_of (r := [.int .i64 z11.Kind, .string z11.R.From, .string z11.R.To, .int .i64 z11.Rev, .slice a14_0 z11.Cmps.length c14_0, .slice a14_1 z11.Then.length c14_1, .slice a14_2 z11.Else.length c14_2]) ag_61 sz_61 (kn.cellsAt cl14)))) ?_
          replace hF := obind hF
          obtain ⟨x15, hx15, hF⟩ := hF
          refine gs_call EE_fr w11 (.cons (.s (.z)) (.cons (.s (.z)) (.cons (.s (.z)) (.cons (.s (.z)) .nil)))) (fun _ h => by cases h; rfl) of (os1 (ot rfl) (os1 (ot rfl) os0)) hb_34 (by exact s_model_Model_Serve n w11 (⟨y11_0⟩ : Omodel_Model) (⟨y11_1, y11_2, y11_4, y11_3⟩ : Ohist_Hist) z11 f11_4 f11_3 f14_0 f14_1 f14_2 hx15) ?_
          rintro v15 S15 h15 e15 w15 ⟨rw15_y0o0_2, q15_y0o0_3, t15_y0o0_3, a15_0, c15_0, rfl, rfl, f15_0, f15_1, f15_2⟩
          simp only [List.cons_append, List.nil_append]
          refine go_nil ?_
          refine go_seq ?_
          refine go_region ?_
          refine gM rfl rfl ?_
          refine gr rfl (r_load (ot rfl) (lm_w (mem_seg 5 rfl) ag_61 sz_61 rfl)) ?_
          replace hF := obind hF
          obtain ⟨x16, hx16, hF⟩ := hF
          refine gs_call EE_fr w15 (.cons .z (.cons .z (.cons .z (.cons .z .nil)))) (fun _ h => by cases h; rfl) of (os1 (ot rfl) (os1 (ot rfl) os0)) hb_34 (by exact s_model_Model_Serve n w15 (⟨x15.2.1.seq⟩ : Omodel_Model) (⟨x15.2.2.bounds_rev, x15.2.2.bounds_hor, x15.2.2.keys, x15.2.2.rows⟩ : Ohist_Hist) (⟨2, (⟨ByteArray.empty, ByteArray.empty⟩ : TRange), (IntKind.i64.wrap (Int.tmod p2 20)), ([] : List TCmp), ([] : List TOp), ([] : List TOp)⟩ : TReq) f15_0 f15_1 (RL.nil _ _ _) (RL.nil _ _ _) (RL.nil _ _ _) hx16) ?_
          rintro v16 S16 h16 e16 w16 ⟨rw16_y0o0_2, q16_y0o0_3, t16_y0o0_3, a16_0, c16_0, rfl, rfl, f16_0, f16_1, f16_2⟩
          simp only [List.cons_append, List.nil_append]
          refine gs_alloc rfl zo_73 rfl ?_; intro b13_17
          refine gs_store (ot rfl) (ot rfl) sz_73 rfl rfl rfl rfl rfl .z ?_
          refine go_nil ?_
          refine go_seq ?_
          refine go_region ?_
          refine gM rfl rfl ?_
          replace hF := obind hF
          obtain ⟨x18, hx18, hF⟩ := hF
          refine gs_call EE_fr w16 (.cons (.s (.z)) (.cons (.s (.z)) (.cons (.s (.z)) (.cons (.s (.z)) .nil)))) (fun _ h => by cases h; rfl) of (os1 (ot rfl) os0) hb_35 (by exact s_model_Model_Head w16 (⟨x16.2.1.seq⟩ : Omodel_Model) (⟨x16.2.2.bounds_rev, x16.2.2.bounds_hor, x16.2.2.keys, x16.2.2.rows⟩ : Ohist_Hist) f16_0 f16_1 hx18) ?_
          rintro v18 S18 h18 e18 w18 ⟨rw18_y0o0_2, q18_y0o0_3, t18_y0o0_3, rfl, rfl, f18_0, f18_1⟩
          simp only [List.cons_append, List.nil_append]
          refine gs_alloc rfl zo_71 rfl ?_; intro b14_19
          refine gs_store (ot rfl) (ot rfl) sz_71 rfl rfl rfl rfl rfl .z ?_
          refine go_nil ?_
          refine go_seq ?_
          refine go_region ?_
          refine gM rfl rfl ?_
          refine gr rfl (r_bin (ot rfl) (oc rfl) rfl) ?_
          refine gM rfl rfl ?_
          refine grt rfl rfl rfl rfl (r_move (ot rfl)) ?_
          refine grt rfl rfl rfl rfl (r_fa (ot rfl) (fa_71_2 _ _)) ?_
          refine grt rfl rfl rfl rfl (r_load (og rfl id) (lm_s (mem_seg 0 rfl) ag_3 rfl)) ?_
          refine grt rfl rfl rfl rfl (r_bin (og rfl id) (og rfl id) rfl) ?_
          refine gr rfl (r_pickb (ot rfl) (og rfl id) (oc rfl)) ?_
          refine gA rfl rfl ?_
          refine go_nil ?_
          refine go_seq ?_
          refine go_region ?_
          refine gM rfl rfl ?_
          refine gr rfl (r_fa (ot rfl) (fa_71_1 _ _)) ?_
          refine gr rfl (r_load (ot rfl) (lm_s (mem_seg 0 rfl) ag_3 rfl)) ?_
          refine gr rfl (r_bin (ot rfl) (ot rfl) rfl) ?_
          refine gA rfl rfl ?_
          refine go_nil ?_
          refine go_seq ?_
          refine go_region ?_
          refine gr rfl (r_fa (ot rfl) (fa_73_1 _ _)) ?_
          refine gr rfl (r_load (ot rfl) (lm_s (mem_seg 5 rfl) ag_29 rfl)) ?_
          refine gr rfl (r_bin (ot rfl) (oc rfl) rfl) ?_
          refine gM rfl rfl ?_
          refine gr rfl (r_bin (ot rfl) (ot rfl) bu_4) ?_
          refine gM rfl rfl ?_
          refine grf rfl rfl rfl rfl (r_fa (ot rfl) (fa_73_1 _ _)) ?_
          refine grf rfl rfl rfl rfl (r_load (og rfl id) (lm_s (mem_seg 5 rfl) ag_29 rfl)) ?_
          refine grf rfl rfl rfl rfl (r_bin (og rfl id) (oc rfl) rfl) ?_
          refine grf rfl rfl rfl rfl (r_move (ot rfl)) ?_
          refine grf rfl rfl rfl rfl (r_bin (og rfl id) (og rfl id) bu_4) ?_
          refine gr rfl (r_pickb (ot rfl) (oc rfl) (og rfl id)) ?_
          refine gM rfl rfl ?_
          replace hF := obind hF
          obtain ⟨s21, hF, hK21⟩ := hF
          refine go_joinr 20 (β := Unit) (fun s h' => True) (fun s => [(1, true, .slice a1_0 p1.length c1_0), (6, true, .bool false), (7, true, .bool true), (8, true, .pointer (some ⟨b6_w0, 0, none⟩)), (9, true, .int .i64 (IntKind.i64.wrap (Int.tmod p2 20))), (10, true, .pointer (some ⟨b10_7, 0, none⟩)), (11, true, .pointer (some ⟨b11_9, 0, none⟩)), (12, true, .int .i64 (i11 : Int)), (13, true, .pointer (some ⟨b13_17, 0, none⟩)), (14, true, .pointer (some ⟨b14_19, 0, none⟩)), (15, true, .bool (bif (decide ((IntKind.i64.wrap (Int.tmod p2 20)) > 0)) then (decide ((IntKind.i64.wrap (Int.tmod p2 20)) < x18.1.Hor)) else false)), (16, true, .bool (decide ((IntKind.i64.wrap (Int.tmod p2 20)) > x18.1.Rev))), (37, true, .int .i64 (i11 : Int)), (38, true, .slice a1_0 p1.length c1_0), (39, true, .int .i64 (p1.length : Int)), (40, true, .bool true), (43, true, .pointer (some ⟨b6_w0, 0, none⟩)), (44, true, .slice a1_0 p1.length c1_0), (45, true, .int .i64 (i11 : Int)), (46, true, .pointer (some q14)), (47, true, .agg #[.int .i64 z11.Kind, .string z11.R.From, .string z11.R.To, .int .i64 z11.Rev, .slice a14_0 z11.Cmps.length c14_0, .slice a14_1 z11.Then.length c14_1, .slice a14_2 z11.Else.length c14_2]), (49, true, .pointer (some ⟨b6_w0, 0, none⟩)), (50, true, .agg #[.int .i64 2, .string ByteArray.empty, .string ByteArray.empty, .int .i64 (IntKind.i64.wrap (Int.tmod p2 20)), .slice none 0 0, .slice none 0 0, .slice none 0 0]), (51, true, .agg #[.int .i64 x16.1.H.Seq, .int .i64 x16.1.H.Rev, .int .i64 x16.1.H.Hor, .int .i64 x16.1.Err, .bool x16.1.Ok, .slice a16_0 x16.1.L.length c16_0]), (52, true, .pointer (some ⟨b6_w0, 0, none⟩)), (53, true, .agg #[.int .i64 x18.1.Seq, .int .i64 x18.1.Rev, .int .i64 x18.1.Hor]), (54, true, .int .i64 (IntKind.i64.wrap (Int.tmod p2 20))), (55, true, .bool (decide ((IntKind.i64.wrap (Int.tmod p2 20)) > 0))), (56, true, .bool (decide ((IntKind.i64.wrap (Int.tmod p2 20)) > 0))), (61, true, .bool (bif (decide ((IntKind.i64.wrap (Int.tmod p2 20)) > 0)) then (decide ((IntKind.i64.wrap (Int.tmod p2 20)) < x18.1.Hor)) else false)), (62, true, .int .i64 (IntKind.i64.wrap (Int.tmod p2 20))), (63, true, .pointer (some ⟨b14_19, 1, none⟩)), (64, true, .int .i64 x18.1.Rev), (65, true, .bool (decide ((IntKind.i64.wrap (Int.tmod p2 20)) > x18.1.Rev))), (66, true, .pointer (some ⟨b13_17, 3, none⟩)), (67, true, .int .i64 x16.1.Err), (68, true, .bool (x16.1.Err == 5)), (69, true, .bool (bif (decide ((IntKind.i64.wrap (Int.tmod p2 20)) > 0)) then (decide ((IntKind.i64.wrap (Int.tmod p2 20)) < x18.1.Hor)) else false)), (70, true, .bool (!((x16.1.Err == 5) == (bif (decide ((IntKind.i64.wrap (Int.tmod p2 20)) > 0)) then (decide ((IntKind.i64.wrap (Int.tmod p2 20)) < x18.1.Hor)) else false)))), (71, true, .bool (!((x16.1.Err == 5) == (bif (decide ((IntKind.i64.wrap (Int.tmod p2 20)) > 0)) then (decide ((IntKind.i64.wrap (Int.tmod p2 20)) < x18.1.Hor)) else false)))), (77, true, .bool (bif (!((x16.1.Err == 5) == (bif (decide ((IntKind.i64.wrap (Int.tmod p2 20)) > 0)) then (decide ((IntKind.i64.wrap (Int.tmod p2 20)) < x18.1.Hor)) else false))) then true else (!((x16.1.Err == 6) == (decide ((IntKind.i64.wrap (Int.tmod p2 20)) > x18.1.Rev)))))), (78, true, .bool s21.1), (98, true, .bool s21.2)]) (fun s => (List.flatten [[⟨b14_19, .cells [.int .i64 x18.1.Seq, .int .i64 x18.1.Rev, .int .i64 x18.1.Hor] 71⟩], [⟨b6_w0, .cells [.pointer (some ⟨b6_w0o0, 0, none⟩), .int .i64 x18.2.1.seq] 130⟩], [⟨b6_w0o0, .cells [.int .i64 x18.2.2.bounds_rev, .int .i64 x18.2.2.bounds_hor, .map (some b6_w0o0m2), .slice q18_y0o0_3 x18.2.2.rows.length x18.2.2.rows.length] 100⟩], [⟨b6_w0o0m2, .map (encM kS id rw18_y0o0_2)⟩], t18_y0o0_3, [⟨b13_17, .cells [.int .i64 x16.1.H.Seq, .int .i64 x16.1.H.Rev, .int .i64 x16.1.H.Hor, .int .i64 x16.1.Err, .bool x16.1.Ok, .slice a16_0 x16.1.L.length c16_0] 73⟩], [⟨b11_9, .cells [.int .i64 x8.1.H.Seq, .int .i64 x8.1.H.Rev, .int .i64 x8.1.H.Hor, .int .i64 x8.1.Err, .bool x8.1.Ok, .slice a8_0 x8.1.L.length c8_0] 73⟩], [⟨b10_7, .cells [.int .i64 2, .string ByteArray.empty, .string ByteArray.empty, .int .i64 (IntKind.i64.wrap (Int.tmod p2 20)), .slice none 0 0, .slice none 0 0, .slice none 0 0] 61⟩]] : List Blk)) ?_ (fun J21 => ?_)
          ·
            rintro _ h21 e21 w21 _
            replace hF := hK21
            refine go_nil ?_
            refine g_cond (b := s21.2) (ot rfl) (fun hc22 => ?_) (fun hc22 => ?_)
            ·
              replace hF := ifT hc22 hF
              refine go_seq ?_
              refine go_region ?_
              refine gAc rfl rfl ?_
              refine go_nil ?_
              obtain rfl := someI hF
              obtain rfl := someI hK10
              exact g_ret (rst rfl rs0) (fun h1 hf hs => ⟨(e4.trans (e6.trans (e8.trans (e11.trans (e15.trans (e16.trans (e18.trans (e21.trans hs.hext)))))))), rfl⟩)
            ·
              replace hF := ifF hc22 hF
              refine go_skip ?_
              refine go_endb ?_
              refine go_region ?_
              refine gM rfl rfl ?_
              refine gr rfl (r_bin (ot rfl) (oc rfl) rfl) ?_
              refine gA rfl rfl ?_
              refine go_nil ?_
              refine gs_sub (.cons _ (.cons_cons _ (.cons_cons _ (.cons_cons _ (.cons_cons _ (.cons _ (.cons_cons _ (.cons_cons _ (.refl _))))))))) ?_
              refine gs_perm (perm_of (d := []) _ [4, 0, 1, 2, 3, 5] rfl) ?_
              refine go_re 12 (v2 := .int .i64 ((i11 + 1 : Nat) : Int)) rfl (wrap_succ hi11 hb11) ?_
              exact Goes.weak (ih11 (r11, i11 + 1, x18.2.1.seq, x18.2.2.bounds_rev, x18.2.2.bounds_hor, x18.2.2.rows, x18.2.2.keys, q18_y0o0_3, t18_y0o0_3, rw18_y0o0_2, h21) ⟨hr11, (e11.trans (e15.trans (e16.trans (e18.trans e21)))), w21, hF, (f18_1.ext e21.kn), (f18_0.ext e21.kn)⟩ (Nat.lt_succ_self _)) (Sub.cons (Sub.cons (Sub.cons (Sub.cons (Sub.cons (Sub.cons (Sub.cons (Sub.cons (Sub.nil _) rfl) rfl) rfl) rfl) rfl) rfl) rfl) rfl)
          ·
            rcases Bool.eq_false_or_eq_true (bif (!((x16.1.Err == 5) == (bif (decide ((IntKind.i64.wrap (Int.tmod p2 20)) > 0)) then (decide ((IntKind.i64.wrap (Int.tmod p2 20)) < x18.1.Hor)) else false))) then true else (!((x16.1.Err == 6) == (decide ((IntKind.i64.wrap (Int.tmod p2 20)) > x18.1.Rev))))) with hb20 | hb20
            ·
              replace hF := ifT hb20 hF
              refine go_re 78 (v2 := .bool true) rfl (congrArg Value.bool hb20) ?_
              refine g_no rfl rfl rfl rfl rfl ?_
              refine g_no rfl rfl rfl rfl rfl ?_
              refine g_no rfl rfl rfl rfl rfl ?_
              refine g_nu rfl rfl rfl rfl ?_
              refine g_nu rfl rfl rfl rfl ?_
              refine g_nu rfl rfl rfl rfl ?_
              refine g_no rfl rfl rfl rfl rfl ?_
              refine g_no rfl rfl rfl rfl rfl ?_
              refine g_nu rfl rfl rfl rfl ?_
              refine g_nu rfl rfl rfl rfl ?_
              refine g_no rfl rfl rfl rfl rfl ?_
              refine g_no rfl rfl rfl rfl rfl ?_
              refine g_nu rfl rfl rfl rfl ?_
              refine g_nu rfl rfl rfl rfl ?_
              refine g_nu rfl rfl rfl rfl ?_
              refine g_nu rfl rfl rfl rfl ?_
              refine g_nu rfl rfl rfl rfl ?_
              refine g_nu rfl rfl rfl rfl ?_
              refine g_no rfl rfl rfl rfl rfl ?_
              refine gr rfl (r_pkT (ot rfl) (oc rfl)) ?_
              obtain rfl := someI hF
              exact Goes.weak (J21 () _ (HExt.refl _) w18 trivial) (Sub.cons (Sub.cons (Sub.cons (Sub.cons (Sub.cons (Sub.cons (Sub.cons (Sub.cons (Sub.cons (Sub.cons (Sub.cons (Sub.cons (Sub.cons (Sub.cons (Sub.cons (Sub.cons (Sub.cons (Sub.cons (Sub.cons (Sub.cons (Sub.cons (Sub.cons (Sub.cons (Sub.cons (Sub.cons (Sub.cons (Sub.cons (Sub.cons (Sub.cons (Sub.cons (Sub.cons (Sub.cons (Sub.cons (Sub.cons (Sub.cons (Sub.cons (Sub.cons (Sub.cons (Sub.cons (Sub.cons (Sub.cons (Sub.cons (Sub.cons (Sub.nil _) rfl) rfl) rfl) rfl) rfl) rfl) rfl) rfl) rfl) rfl) rfl) rfl) rfl) rfl) rfl) rfl) rfl) rfl) rfl) rfl) rfl) rfl) rfl) rfl) rfl) rfl) rfl) rfl) rfl) rfl) rfl) rfl) rfl) rfl) rfl) rfl) rfl) rfl) rfl) rfl) rfl) rfl) rfl)
            ·
              replace hF := ifF hb20 hF
              refine go_re 78 (v2 := .bool false) rfl (congrArg Value.bool hb20) ?_
              refine g_do rfl rfl rfl ?_
              refine gM rfl rfl ?_
              refine g_do rfl rfl rfl ?_
              refine gr rfl (r_bin (ot rfl) (oc rfl) rfl) ?_
              refine g_do rfl rfl rfl ?_
              refine gM rfl rfl ?_
              refine grt rfl rfl rfl rfl (r_fa (ot rfl) (fa_73_1 _ _)) ?_
              refine grt rfl rfl rfl rfl (r_load (og rfl id) (lm_s (mem_seg 6 rfl) ag_29 rfl)) ?_
              refine grt rfl rfl rfl rfl (r_bin (og rfl id) (oc rfl) rfl) ?_
              refine g_do rfl rfl rfl ?_
              refine gr rfl (r_pickb (ot rfl) (og rfl id) (oc rfl)) ?_
              refine g_do rfl rfl rfl ?_
              refine gM rfl rfl ?_
              refine grt rfl rfl rfl rfl (r_move (ot rfl)) ?_
              refine grt rfl rfl rfl rfl (r_un (og rfl id) rfl) ?_
              refine g_do rfl rfl rfl ?_
              refine gr rfl (r_pickb (ot rfl) (og rfl id) (oc rfl)) ?_
              refine g_do rfl rfl rfl ?_
              refine gM rfl rfl ?_
              replace hF := obind hF
              obtain ⟨s24, hF, hK24⟩ := hF
              refine go_joinr 7 (β := Unit) (fun s h' => True) (fun s => [(1, true, .slice a1_0 p1.length c1_0), (6, true, .bool false), (7, true, .bool true), (8, true, .pointer (some ⟨b6_w0, 0, none⟩)), (9, true, .int .i64 (IntKind.i64.wrap (Int.tmod p2 20))), (10, true, .pointer (some ⟨b10_7, 0, none⟩)), (11, true, .pointer (some ⟨b11_9, 0, none⟩)), (12, true, .int .i64 (i11 : Int)), (13, true, .pointer (some ⟨b13_17, 0, none⟩)), (14, true, .pointer (some ⟨b14_19, 0, none⟩)), (15, true, .bool (bif (decide ((IntKind.i64.wrap (Int.tmod p2 20)) > 0)) then (decide ((IntKind.i64.wrap (Int.tmod p2 20)) < x18.1.Hor)) else false)), (16, true, .bool (decide ((IntKind.i64.wrap (Int.tmod p2 20)) > x18.1.Rev))), (37, true, .int .i64 (i11 : Int)), (38, true, .slice a1_0 p1.length c1_0), (39, true, .int .i64 (p1.length : Int)), (40, true, .bool true), (43, true, .pointer (some ⟨b6_w0, 0, none⟩)), (44, true, .slice a1_0 p1.length c1_0), (45, true, .int .i64 (i11 : Int)), (46, true, .pointer (some q14)), (47, true, .agg #[.int .i64 z11.Kind, .string z11.R.From, .string z11.R.To, .int .i64 z11.Rev, .slice a14_0 z11.Cmps.length c14_0, .slice a14_1 z11.Then.length c14_1, .slice a14_2 z11.Else.length c14_2]), (49, true, .pointer (some ⟨b6_w0, 0, none⟩)), (50, true, .agg #[.int .i64 2, .string ByteArray.empty, .string ByteArray.empty, .int .i64 (IntKind.i64.wrap (Int.tmod p2 20)), .slice none 0 0, .slice none 0 0, .slice none 0 0]), (51, true, .agg #[.int .i64 x16.1.H.Seq, .int .i64 x16.1.H.Rev, .int .i64 x16.1.H.Hor, .int .i64 x16.1.Err, .bool x16.1.Ok, .slice a16_0 x16.1.L.length c16_0]), (52, true, .pointer (some ⟨b6_w0, 0, none⟩)), (53, true, .agg #[.int .i64 x18.1.Seq, .int .i64 x18.1.Rev, .int .i64 x18.1.Hor]), (54, true, .int .i64 (IntKind.i64.wrap (Int.tmod p2 20))), (55, true, .bool (decide ((IntKind.i64.wrap (Int.tmod p2 20)) > 0))), (56, true, .bool (decide ((IntKind.i64.wrap (Int.tmod p2 20)) > 0))), (61, true, .bool (bif (decide ((IntKind.i64.wrap (Int.tmod p2 20)) > 0)) then (decide ((IntKind.i64.wrap (Int.tmod p2 20)) < x18.1.Hor)) else false)), (62, true, .int .i64 (IntKind.i64.wrap (Int.tmod p2 20))), (63, true, .pointer (some ⟨b14_19, 1, none⟩)), (64, true, .int .i64 x18.1.Rev), (65, true, .bool (decide ((IntKind.i64.wrap (Int.tmod p2 20)) > x18.1.Rev))), (66, true, .pointer (some ⟨b13_17, 3, none⟩)), (67, true, .int .i64 x16.1.Err), (68, true, .bool (x16.1.Err == 5)), (69, true, .bool (bif (decide ((IntKind.i64.wrap (Int.tmod p2 20)) > 0)) then (decide ((IntKind.i64.wrap (Int.tmod p2 20)) < x18.1.Hor)) else false)), (70, true, .bool (!((x16.1.Err == 5) == (bif (decide ((IntKind.i64.wrap (Int.tmod p2 20)) > 0)) then (decide ((IntKind.i64.wrap (Int.tmod p2 20)) < x18.1.Hor)) else false)))), (71, true, .bool (!((x16.1.Err == 5) == (bif (decide ((IntKind.i64.wrap (Int.tmod p2 20)) > 0)) then (decide ((IntKind.i64.wrap (Int.tmod p2 20)) < x18.1.Hor)) else false)))), (77, true, .bool (bif (!((x16.1.Err == 5) == (bif (decide ((IntKind.i64.wrap (Int.tmod p2 20)) > 0)) then (decide ((IntKind.i64.wrap (Int.tmod p2 20)) < x18.1.Hor)) else false))) then true else (!((x16.1.Err == 6) == (decide ((IntKind.i64.wrap (Int.tmod p2 20)) > x18.1.Rev)))))), (78, true, .bool false), (79, true, .int .i64 (IntKind.i64.wrap (Int.tmod p2 20))), (80, true, .bool (decide ((IntKind.i64.wrap (Int.tmod p2 20)) > 0))), (81, true, .bool (decide ((IntKind.i64.wrap (Int.tmod p2 20)) > 0))), (85, true, .bool (bif (decide ((IntKind.i64.wrap (Int.tmod p2 20)) > 0)) then (x8.1.Err == 0) else false)), (86, true, .bool (bif (decide ((IntKind.i64.wrap (Int.tmod p2 20)) > 0)) then (x8.1.Err == 0) else false)), (89, true, .bool (bif (bif (decide ((IntKind.i64.wrap (Int.tmod p2 20)) > 0)) then (x8.1.Err == 0) else false) then (!(bif (decide ((IntKind.i64.wrap (Int.tmod p2 20)) > 0)) then (decide ((IntKind.i64.wrap (Int.tmod p2 20)) < x18.1.Hor)) else false)) else false)), (90, true, .bool s24.1), (97, true, .bool s24.2)]) (fun s => (List.flatten [[⟨b14_19, .cells [.int .i64 x18.1.Seq, .int .i64 x18.1.Rev, .int .i64 x18.1.Hor] 71⟩], [⟨b6_w0, .cells [.pointer (some ⟨b6_w0o0, 0, none⟩), .int .i64 x18.2.1.seq] 130⟩], [⟨b6_w0o0, .cells [.int .i64 x18.2.2.bounds_rev, .int .i64 x18.2.2.bounds_hor, .map (some b6_w0o0m2), .slice q18_y0o0_3 x18.2.2.rows.length x18.2.2.rows.length] 100⟩], [⟨b6_w0o0m2, .map (encM kS id rw18_y0o0_2)⟩], t18_y0o0_3, [⟨b13_17, .cells [.int .i64 x16.1.H.Seq, .int .i64 x16.1.H.Rev, .int .i64 x16.1.H.Hor, .int .i64 x16.1.Err, .bool x16.1.Ok, .slice a16_0 x16.1.L.length c16_0] 73⟩], [⟨b11_9, .cells [.int .i64 x8.1.H.Seq, .int .i64 x8.1.H.Rev, .int .i64 x8.1.H.Hor, .int .i64 x8.1.Err, .bool x8.1.Ok, .slice a8_0 x8.1.L.length c8_0] 73⟩], [⟨b10_7, .cells [.int .i64 2, .string ByteArray.empty, .string ByteArray.empty, .int .i64 (IntKind.i64.wrap (Int.tmod p2 20)), .slice none 0 0, .slice none 0 0, .slice none 0 0] 61⟩]] : List Blk)) ?_ (fun J24 => ?_)
              ·
                rintro _ h24 e24 w24 _
                replace hF := hK24
                refine gr rfl (r_pkF (ot rfl) (ot rfl)) ?_
                obtain rfl := someI hF
                exact Goes.weak (J21 () _ e24 w24 trivial) (Sub.cons (Sub.cons (Sub.cons (Sub.cons (Sub.cons (Sub.cons (Sub.cons (Sub.cons (Sub.cons (Sub.cons (Sub.cons (Sub.cons (Sub.cons (Sub.cons (Sub.cons (Sub.cons (Sub.cons (Sub.cons (Sub.cons (Sub.cons (Sub.cons (Sub.cons (Sub.cons (Sub.cons (Sub.cons (Sub.cons (Sub.cons (Sub.cons (Sub.cons (Sub.cons (Sub.cons (Sub.cons (Sub.cons (Sub.cons (Sub.cons (Sub.cons (Sub.cons (Sub.cons (Sub.cons (Sub.cons (Sub.cons (Sub.cons (Sub.cons (Sub.nil _) rfl) rfl) rfl) rfl) rfl) rfl) rfl) rfl) rfl) rfl) rfl) rfl) rfl) rfl) rfl) rfl) rfl) rfl) rfl) rfl) rfl) rfl) rfl) rfl) rfl) rfl) rfl) rfl) rfl) rfl) rfl) rfl) rfl) rfl) rfl) rfl) rfl) rfl) rfl) rfl) rfl) rfl) rfl)
              ·
                rcases Bool.eq_false_or_eq_true (bif (bif (decide ((IntKind.i64.wrap (Int.tmod p2 20)) > 0)) then (x8.1.Err == 0) else false) then (!(bif (decide ((IntKind.i64.wrap (Int.tmod p2 20)) > 0)) then (decide ((IntKind.i64.wrap (Int.tmod p2 20)) < x18.1.Hor)) else false)) else false) with hb23 | hb23
                ·
                  replace hF := ifT hb23 hF
                  refine go_re 90 (v2 := .bool true) rfl (congrArg Value.bool hb23) ?_
                  refine g_do rfl rfl rfl ?_
                  refine gr rfl (r_fa (ot rfl) (fa_73_3 _ _)) ?_
                  refine g_do rfl rfl rfl ?_
                  refine gr rfl (r_load (ot rfl) (lm_s (mem_seg 5 rfl) ag_28 rfl)) ?_
                  refine g_do rfl rfl rfl ?_
                  refine gr rfl (r_fa (ot rfl) (fa_73_3 _ _)) ?_
                  refine g_do rfl rfl rfl ?_
                  refine gr rfl (r_load (ot rfl) (lm_s (mem_seg 6 rfl) ag_28 rfl)) ?_
                  refine g_do rfl rfl rfl ?_
                  replace hF := obind hF
                  obtain ⟨x25, hx25, hF⟩ := hF
                  refine g_callp (v := .bool x25) EE_fr rfl of (os1 (ot rfl) (os1 (ot rfl) os0)) hb_21 (fun _ => rfl) (fun hf kn w => by exact s_ref05_KVs w x16.1.L x8.1.L ((f16_2.ext e18.kn).ext kn) (((((f8_2.ext e11.kn).ext e15.kn).ext e16.kn).ext e18.kn).ext kn) hx25) ?_
                  refine g_do rfl rfl rfl ?_
                  refine gr rfl (r_un (ot rfl) rfl) ?_
                  refine g_do rfl rfl rfl ?_
                  refine gr rfl (r_pkT (ot rfl) (ot rfl)) ?_
                  obtain rfl := someI hF
                  exact Goes.weak (J24 () _ (HExt.refl _) w18 trivial) (Sub.cons (Sub.cons (Sub.cons (Sub.cons (Sub.cons (Sub.cons (Sub.cons (Sub.cons (Sub.cons (Sub.cons (Sub.cons (Sub.cons (Sub.cons (Sub.cons (Sub.cons (Sub.cons (Sub.cons (Sub.cons (Sub.cons (Sub.cons (Sub.cons (Sub.cons (Sub.cons (Sub.cons (Sub.cons (Sub.cons (Sub.cons (Sub.cons (Sub.cons (Sub.cons (Sub.cons (Sub.cons (Sub.cons (Sub.cons (Sub.cons (Sub.cons (Sub.cons (Sub.cons (Sub.cons (Sub.cons (Sub.cons (Sub.cons (Sub.cons (Sub.cons (Sub.cons (Sub.cons (Sub.cons (Sub.cons (Sub.cons (Sub.cons (Sub.nil _) rfl) rfl) rfl) rfl) rfl) rfl) rfl) rfl) rfl) rfl) rfl) rfl) rfl) rfl) rfl) rfl) rfl) rfl) rfl) rfl) rfl) rfl) rfl) rfl) rfl) rfl) rfl) rfl) rfl) rfl) rfl) rfl) rfl) rfl) rfl) rfl) rfl) rfl) rfl) rfl) rfl) rfl) rfl) rfl) rfl) rfl) rfl) rfl) rfl) rfl)
                ·
                  replace hF := ifF hb23 hF
                  refine go_re 90 (v2 := .bool false) rfl (congrArg Value.bool hb23) ?_
                  refine g_no rfl rfl rfl rfl rfl ?_
                  refine g_no rfl rfl rfl rfl rfl ?_
                  refine g_no rfl rfl rfl rfl rfl ?_
                  refine g_no rfl rfl rfl rfl rfl ?_
                  refine g_no rfl rfl rfl rfl rfl ?_
                  refine g_no rfl rfl rfl rfl rfl ?_
                  refine g_do rfl rfl rfl ?_
                  refine gr rfl (r_pkF (ot rfl) (oc rfl)) ?_
                  obtain rfl := someI hF
                  exact Goes.weak (J24 () _ (HExt.refl _) w18 trivial) (Sub.cons (Sub.cons (Sub.cons (Sub.cons (Sub.cons (Sub.cons (Sub.cons (Sub.cons (Sub.cons (Sub.cons (Sub.cons (Sub.cons (Sub.cons (Sub.cons (Sub.cons (Sub.cons (Sub.cons (Sub.cons (Sub.cons (Sub.cons (Sub.cons (Sub.cons (Sub.cons (Sub.cons (Sub.cons (Sub.cons (Sub.cons (Sub.cons (Sub.cons (Sub.cons (Sub.cons (Sub.cons (Sub.cons (Sub.cons (Sub.cons (Sub.cons (Sub.cons (Sub.cons (Sub.cons (Sub.cons (Sub.cons (Sub.cons (Sub.cons (Sub.cons (Sub.cons (Sub.cons (Sub.cons (Sub.cons (Sub.cons (Sub.cons (Sub.nil _) rfl) rfl) rfl) rfl) rfl) rfl) rfl) rfl) rfl) rfl) rfl) rfl) rfl) rfl) rfl) rfl) rfl) rfl) rfl) rfl) rfl) rfl) rfl) rfl) rfl) rfl) rfl) rfl) rfl) rfl) rfl) rfl) rfl) rfl) rfl) rfl) rfl) rfl) rfl) rfl) rfl) rfl) rfl) rfl) rfl) rfl) rfl) rfl) rfl) rfl)
  ·
    rcases Bool.eq_false_or_eq_true (!x2) with hb3 | hb3
    ·
      replace hF := ifT hb3 hF
      refine go_re 21 (v2 := .bool true) rfl (congrArg Value.bool hb3) ?_
      refine g_no rfl rfl rfl rfl rfl ?_
      refine g_no rfl rfl rfl rfl rfl ?_
      refine g_no rfl rfl rfl rfl rfl ?_
      refine gr rfl (r_pkT (ot rfl) (oc rfl)) ?_
      obtain rfl := someI hF
      exact Goes.weak (J4 () _ (HExt.refl _) hw trivial) (Sub.cons (Sub.cons (Sub.cons (Sub.cons (Sub.cons (Sub.cons (Sub.nil _) rfl) rfl) rfl) rfl) rfl) rfl)
    ·
      replace hF := ifF hb3 hF
      refine go_re 21 (v2 := .bool false) rfl (congrArg Value.bool hb3) ?_
      refine g_do rfl rfl rfl ?_
      refine gM rfl rfl ?_
      refine g_do rfl rfl rfl ?_
      replace hF := obind hF
      obtain ⟨x26, hx26, hF⟩ := hF
      refine g_callp (v := .bool x26) EE_fr rfl of (os1 (ot rfl) os0) hb_33 (fun _ => rfl) (fun hf kn w => by exact s_law08_few w p1 (f1_0.ext kn) hx26) ?_
      refine g_do rfl rfl rfl ?_
      refine gr rfl (r_un (ot rfl) rfl) ?_
      refine gr rfl (r_pkF (ot rfl) (ot rfl)) ?_
      obtain rfl := someI hF
      exact Goes.weak (J4 () _ (HExt.refl _) hw trivial) (Sub.cons (Sub.cons (Sub.cons (Sub.cons (Sub.cons (Sub.cons (Sub.nil _) rfl) rfl) rfl) rfl) rfl) rfl)
end Go.Proofs.Ytpfdandpmpmbiaa.V
