/- Walks.
   No condition: these are laws of the clean machine and of this program. -/
import Derived.Test.YtpfdandpmpmbiaaPT
import Derived.Test.YtpfdandpmpmbiaaFg
import Derived.Test.YtpfdandpmpmbiaaWt
import Derived.Test.YtpfdandpmpmbiaaWm
import Derived.Test.YtpfdandpmpmbiaaWy
namespace Go.Proofs.Ytpfdandpmpmbiaa.V
open Go
set_option linter.unusedVariables false
set_option linter.unusedSimpArgs false
set_option maxRecDepth 100000
set_option maxHeartbeats 4000000
theorem s_law08_ModelHeads (n : Nat) {h : Heap} (hw : Wf h) (p0 : (List TReq)) {a0_0 : Option Addr} {c0_0 : Nat} (f0_0 : RL R_TReq h a0_0 c0_0 p0) {r : Bool} (hF : F_law08_ModelHeads n p0 = some r) :
    Ev EE 8 [.slice a0_0 p0.length c0_0] h (fun v _ => v = .bool r) := by
  unfold F_law08_ModelHeads at hF
  refine ev_of hw rfl at_8 rfl rfl (go_seg0 ?_)
  refine go_seq ?_
  refine go_region ?_
  refine gAc rfl rfl ?_
  refine go_nil ?_
  refine go_seq ?_
  refine go_region ?_
  refine g_callp EE_fr rfl of os0 hb_31 (fun _ => rfl) (fun hf kn w => by exact known_evp rfl hf w) ?_
  refine gA rfl rfl ?_
  refine go_nil ?_
  refine go_seq ?_
  refine go_region ?_
  replace hF := obind hF
  obtain ⟨x2, hx2, hF⟩ := hF
  refine gs_call EE_fr hw .nil (fun _ h => by cases h; rfl) of os0 hb_32 (by exact s_model_New hw   hx2) ?_
  rintro v2 S2 h2 e2 w2 ⟨b2_w0, b2_w0o0, b2_w0o0m2, rw2_w0o0_2, q2_w0o0_3, t2_w0o0_3, rfl, rfl, f2_0, f2_1⟩
  simp only [List.cons_append, List.nil_append]
  refine gA rfl rfl ?_
  refine go_nil ?_
  refine go_seq ?_
  refine go_seq ?_
  refine go_region ?_
  refine gM rfl rfl ?_
  replace hF := obind hF
  obtain ⟨x3, hx3, hF⟩ := hF
  refine g_callp (v := .bool x3) EE_fr rfl of (os1 (ot rfl) os0) hb_33 (fun _ => rfl) (fun hf kn w => by exact s_law08_few w p0 ((f0_0.ext e2.kn).ext kn) hx3) ?_
  refine gr rfl (r_un (ot rfl) rfl) ?_
  refine go_nil ?_
  refine g_cond (b := (!x3)) (ot rfl) (fun hc4 => ?_) (fun hc4 => ?_)
  ·
    replace hF := ifT hc4 hF
    refine go_seq ?_
    refine go_region ?_
    refine gM rfl rfl ?_
    refine gA rfl rfl ?_
    refine go_nil ?_
    obtain rfl := someI hF
    exact g_ret (rst rfl rs0) (fun h1 hf hs => ⟨(e2.trans hs.hext), rfl⟩)
  ·
    replace hF := ifF hc4 hF
    refine go_skip ?_
    refine go_seq ?_
    refine go_region ?_
    refine gr rfl (r_build op0 rfl) ?_
    refine gs_alloc rfl zo_71 rfl ?_; intro b5_5
    refine gs_store (ot rfl) (ot rfl) sz_71 rfl rfl rfl rfl rfl .z ?_
    refine go_nil ?_
    refine go_seq ?_
    refine go_seq ?_
    refine go_region ?_
    refine gAc rfl rfl ?_
    refine go_nil ?_
    replace hF := obind hF
    obtain ⟨s6, hF, hK6⟩ := hF
    refine go_joinc (β := (Int × Int × Int × Int × Int × Int × (List (List TEvent)) × (List (ByteArray × (List TEvent)))) × Option Addr × List Blk × List (ByteArray × Value)) (fun s h' => s6 = .go s.1 ∧ AccR (Rep.sl R_TEvent 50) 50 h' s.2.2.1 (.slice s.2.1 s.1.2.2.2.2.2.2.1.length s.1.2.2.2.2.2.2.1.length) s.1.2.2.2.2.2.2.1 ∧ MR R_TEvent h' s.2.2.2 s.1.2.2.2.2.2.2.2) (fun s => [(2, true, .bool false), (3, true, .bool true)]) (fun s => (List.flatten [[⟨b5_5, .cells [.int .i64 s.1.1, .int .i64 s.1.2.1, .int .i64 s.1.2.2.1] 71⟩], [⟨b2_w0, .cells [.pointer (some ⟨b2_w0o0, 0, none⟩), .int .i64 s.1.2.2.2.1] 130⟩], [⟨b2_w0o0, .cells [.int .i64 s.1.2.2.2.2.1, .int .i64 s.1.2.2.2.2.2.1, .map (some b2_w0o0m2), .slice s.2.1 s.1.2.2.2.2.2.2.1.length s.1.2.2.2.2.2.2.1.length] 100⟩], [⟨b2_w0o0m2, .map (encM kS id s.2.2.2)⟩], s.2.2.1] : List Blk)) ?_ (fun J6 => ?_)
    ·
      rintro ⟨⟨x6_0, x6_1, x6_2, x6_3, x6_4, x6_5, x6_6, x6_7⟩, a6_0, a6_1, a6_2⟩ h6 e6 w6 ⟨hs6, f6_6, f6_7⟩
      subst hs6
      replace hF := lpgo hK6
      refine go_seq ?_
      refine go_region ?_
      refine gM rfl rfl ?_
      refine gA rfl rfl ?_
      refine go_nil ?_
      obtain rfl := someI hF
      exact g_ret (rst rfl rs0) (fun h1 hf hs => ⟨(e2.trans (e6.trans hs.hext)), rfl⟩)
    ·
      refine go_block ?_
      refine go_loop (α := (List TReq) × Nat × Int × Int × Int × Int × Int × Int × (List (List TEvent)) × (List (ByteArray × (List TEvent))) × Option Addr × List Blk × List (ByteArray × Value) × Heap) (fun a => a.1 = List.drop a.2.1 p0 ∧ HExt h2 a.2.2.2.2.2.2.2.2.2.2.2.2.2 ∧ Wf a.2.2.2.2.2.2.2.2.2.2.2.2.2 ∧ F_law08_ModelHeads_L1 n a.1 a.2.1 a.2.2.1 a.2.2.2.1 a.2.2.2.2.1 a.2.2.2.2.2.1 a.2.2.2.2.2.2.1 a.2.2.2.2.2.2.2.1 a.2.2.2.2.2.2.2.2.1 a.2.2.2.2.2.2.2.2.2.1 = some s6 ∧ AccR (Rep.sl R_TEvent 50) 50 a.2.2.2.2.2.2.2.2.2.2.2.2.2 a.2.2.2.2.2.2.2.2.2.2.2.1 (.slice a.2.2.2.2.2.2.2.2.2.2.1 a.2.2.2.2.2.2.2.2.1.length a.2.2.2.2.2.2.2.2.1.length) a.2.2.2.2.2.2.2.2.1 ∧ MR R_TEvent a.2.2.2.2.2.2.2.2.2.2.2.2.2 a.2.2.2.2.2.2.2.2.2.2.2.2.1 a.2.2.2.2.2.2.2.2.2.1) (fun a => a.1.length) (fun a => [(0, true, .slice a0_0 p0.length c0_0), (2, true, .bool false), (3, true, .bool true), (4, true, .pointer (some ⟨b2_w0, 0, none⟩)), (5, true, .pointer (some ⟨b5_5, 0, none⟩)), (6, true, .int .i64 (a.2.1 : Int))]) (fun a => (List.flatten [[⟨b5_5, .cells [.int .i64 a.2.2.1, .int .i64 a.2.2.2.1, .int .i64 a.2.2.2.2.1] 71⟩], [⟨b2_w0, .cells [.pointer (some ⟨b2_w0o0, 0, none⟩), .int .i64 a.2.2.2.2.2.1] 130⟩], [⟨b2_w0o0, .cells [.int .i64 a.2.2.2.2.2.2.1, .int .i64 a.2.2.2.2.2.2.2.1, .map (some b2_w0o0m2), .slice a.2.2.2.2.2.2.2.2.2.2.1 a.2.2.2.2.2.2.2.2.1.length a.2.2.2.2.2.2.2.2.1.length] 100⟩], [⟨b2_w0o0m2, .map (encM kS id a.2.2.2.2.2.2.2.2.2.2.2.2.1)⟩], a.2.2.2.2.2.2.2.2.2.2.2.1] : List Blk)) (fun a => a.2.2.2.2.2.2.2.2.2.2.2.2.2) ?_ (p0, 0, 0, 0, 0, x2.1.seq, x2.2.bounds_rev, x2.2.bounds_hor, x2.2.rows, x2.2.keys, q2_w0o0_3, t2_w0o0_3, rw2_w0o0_2, h2) ⟨rfl, HExt.refl _, w2, hF, f2_1, f2_0⟩ (Sub.cons (Sub.cons (Sub.cons (Sub.cons (Sub.cons (Sub.cons (Sub.nil _) rfl) rfl) rfl) rfl) rfl) rfl) rfl rfl
      rintro ⟨r7, i7, y7_0, y7_1, y7_2, y7_3, y7_4, y7_5, y7_6, y7_7, a7_0, a7_1, a7_2, h7⟩ ⟨hr7, e7, w7, hF, f7_6, f7_7⟩ ih7
      rcases r7 with _ | ⟨z7, r7⟩
      ·
        have hi7 := drop_nil hr7
        rw [F_law08_ModelHeads_L1.eq_1] at hF
        refine go_seq ?_
        refine go_seq ?_
        refine go_region ?_
        refine gM rfl rfl ?_
        refine gM rfl rfl ?_
        refine gr rfl (r_len rfl (os1 (ot rfl) os0) (fun _ _ => ln_66)) ?_
        refine gr rfl (r_bin (ot rfl) (ot rfl) rfl) ?_
        refine go_cast (.bool false) (congrArg Value.bool (decide_eq_false hi7)) ?_
        refine go_nil ?_
        refine g_cond (b := false) (ot rfl) (fun hc8 => ?_) (fun hc8 => ?_)
        · cases hc8
        refine go_exit rfl ?_
        obtain rfl := someI hF
        exact Goes.weak (J6 ((y7_0, y7_1, y7_2, y7_3, y7_4, y7_5, y7_6, y7_7), a7_0, a7_1, a7_2) _ e7 w7 ⟨rfl, f7_6, f7_7⟩) (Sub.cons (Sub.cons (Sub.nil _) rfl) rfl)
      ·
        obtain ⟨hi7, hx7, hr7⟩ := drop_cons hr7
        have hb7 := ((f0_0.ext e2.kn).ext e7.kn).1
        rw [F_law08_ModelHeads_L1.eq_2] at hF
        refine go_seq ?_
        refine go_seq ?_
        refine go_region ?_
        refine gM rfl rfl ?_
        refine gM rfl rfl ?_
        refine gr rfl (r_len rfl (os1 (ot rfl) os0) (fun _ _ => ln_66)) ?_
        refine gr rfl (r_bin (ot rfl) (ot rfl) rfl) ?_
        refine go_cast (.bool true) (congrArg Value.bool (decide_eq_true (Int.ofNat_lt.mpr hi7))) ?_
        refine go_nil ?_
        refine g_cond (b := true) (ot rfl) (fun hc9 => ?_) (fun hc9 => ?_)
        rotate_left
        · cases hc9
        refine go_skip ?_
        refine go_seq ?_
        refine go_block ?_
        refine go_seq ?_
        refine go_region ?_
        refine gM rfl rfl ?_
        refine gM rfl rfl ?_
        refine gM rfl rfl ?_
        obtain ⟨q10, row10, i10, cl10, rc10, sp10⟩ := ix (ik := .i64) (cap := c0_0) (E := EE) ((f0_0.ext e2.kn).ext e7.kn) ((getI_nat _ _).trans hx7) ut_66 sz_61 rfl
        obtain ⟨a10_0, c10_0, a10_1, c10_1, a10_2, c10_2, rfl, f10_0, f10_1, f10_2⟩ := rc10
        refine gr rfl (r_ia (ot rfl) (ot rfl) i10) ?_
        refine gr rfl (r_load (ot rfl) (v := .agg #[.int .i64 z7.Kind, .string z7.R.From, .string z7.R.To, .int .i64 z7.Rev, .slice a10_0 z7.Cmps.length c10_0, .slice a10_1 z7.Then.length c10_1, .slice a10_2 z7.Else.length c10_2]) (lo_e (fun hf kn => ld_of (r := [.int .i64 z7.Kind, .string z7.R.From, .string z7.R.To, .int .i64 z7.Rev, .slice a10_0 z7.Cmps.length c10_0, .slice a10_1 z7.Then.length c10_1, .slice a10_2 z7.Else.length c10_2]) ag_61 sz_61 (kn.cellsAt cl10)))) ?_
        replace hF := obind hF
        obtain ⟨x11, hx11, hF⟩ := hF
        refine gs_call EE_fr w7 (.cons (.s (.z)) (.cons (.s (.z)) (.cons (.s (.z)) (.cons (.s (.z)) .nil)))) (fun _ h => by cases h; rfl) of (os1 (ot rfl) (os1 (ot rfl) os0)) hb_34 (by exact s_model_Model_Serve n w7 (⟨y7_3⟩ : Omodel_Model) (⟨y7_4, y7_5, y7_7, y7_6⟩ : Ohist_Hist) z7 f7_7 f7_6 f10_0 f10_1 f10_2 hx11) ?_
        rintro v11 S11 h11 e11 w11 ⟨rw11_y0o0_2, q11_y0o0_3, t11_y0o0_3, a11_0, c11_0, rfl, rfl, f11_0, f11_1, f11_2⟩
        simp only [List.cons_append, List.nil_append]
        refine gs_alloc rfl zo_73 rfl ?_; intro b7_12
        refine gs_store (ot rfl) (ot rfl) sz_73 rfl rfl rfl rfl rfl .z ?_
        refine go_nil ?_
        refine go_seq ?_
        refine go_region ?_
        refine gM rfl rfl ?_
        refine gM rfl rfl ?_
        obtain ⟨q13, row13, i13, cl13, rc13, sp13⟩ := ix (ik := .i64) (cap := c0_0) (E := EE) (((f0_0.ext e2.kn).ext e7.kn).ext e11.kn) ((getI_nat _ _).trans hx7) ut_66 sz_61 rfl
        obtain ⟨a13_0, c13_0, a13_1, c13_1, a13_2, c13_2, rfl, f13_0, f13_1, f13_2⟩ := rc13
        refine gr rfl (r_ia (ot rfl) (ot rfl) i13) ?_
        refine gr rfl (r_load (ot rfl) (v := .agg #[.int .i64 z7.Kind, .string z7.R.From, .string z7.R.To, .int .i64 z7.Rev, .slice a13_0 z7.Cmps.length c13_0, .slice a13_1 z7.Then.length c13_1, .slice a13_2 z7.Else.length c13_2]) (lo_e (fun hf kn => ld_of (r := [.int .i64 z7.Kind, .string z7.R.From, .string z7.R.To, .int .i64 z7.Rev, .slice a13_0 z7.Cmps.length c13_0, .slice a13_1 z7.Then.length c13_1, .slice a13_2 z7.Else.length c13_2]) ag_61 sz_61 (kn.cellsAt cl13)))) ?_
        replace hF := obind hF
        obtain ⟨x14, hx14, hF⟩ := hF
        refine g_callp (v := .int .i64 x14) EE_fr rfl of (os1 (ot rfl) os0) hb_28 (fun _ => rfl) (fun hf kn w => by exact s_txn_May w z7 (f13_0.ext kn) (f13_1.ext kn) (f13_2.ext kn) hx14) ?_
        refine gr rfl (r_bin (ot rfl) (oc rfl) rfl) ?_
        refine gM rfl rfl ?_
        replace hF := obind hF
        obtain ⟨s16, hF, hK16⟩ := hF
        refine go_joinr 7 (β := Unit) (fun s h' => True) (fun s => [(0, true, .slice a0_0 p0.length c0_0), (2, true, .bool false), (3, true, .bool true), (4, true, .pointer (some ⟨b2_w0, 0, none⟩)), (5, true, .pointer (some ⟨b5_5, 0, none⟩)), (6, true, .int .i64 (i7 : Int)), (7, true, .pointer (some ⟨b7_12, 0, none⟩)), (17, true, .int .i64 (i7 : Int)), (18, true, .slice a0_0 p0.length c0_0), (19, true, .int .i64 (p0.length : Int)), (20, true, .bool true), (23, true, .pointer (some ⟨b2_w0, 0, none⟩)), (24, true, .slice a0_0 p0.length c0_0), (25, true, .int .i64 (i7 : Int)), (26, true, .pointer (some q10)), (27, true, .agg #[.int .i64 z7.Kind, .string z7.R.From, .string z7.R.To, .int .i64 z7.Rev, .slice a10_0 z7.Cmps.length c10_0, .slice a10_1 z7.Then.length c10_1, .slice a10_2 z7.Else.length c10_2]), (28, true, .agg #[.int .i64 x11.1.H.Seq, .int .i64 x11.1.H.Rev, .int .i64 x11.1.H.Hor, .int .i64 x11.1.Err, .bool x11.1.Ok, .slice a11_0 x11.1.L.length c11_0]), (29, true, .slice a0_0 p0.length c0_0), (30, true, .int .i64 (i7 : Int)), (31, true, .pointer (some q13)), (32, true, .agg #[.int .i64 z7.Kind, .string z7.R.From, .string z7.R.To, .int .i64 z7.Rev, .slice a13_0 z7.Cmps.length c13_0, .slice a13_1 z7.Then.length c13_1, .slice a13_2 z7.Else.length c13_2]), (33, true, .int .i64 x14), (34, true, .bool (x14 == 0)), (35, true, .bool s16.1), (42, true, .bool s16.2)]) (fun s => (List.flatten [[⟨b7_12, .cells [.int .i64 x11.1.H.Seq, .int .i64 x11.1.H.Rev, .int .i64 x11.1.H.Hor, .int .i64 x11.1.Err, .bool x11.1.Ok, .slice a11_0 x11.1.L.length c11_0] 73⟩], [⟨b2_w0, .cells [.pointer (some ⟨b2_w0o0, 0, none⟩), .int .i64 x11.2.1.seq] 130⟩], [⟨b2_w0o0, .cells [.int .i64 x11.2.2.bounds_rev, .int .i64 x11.2.2.bounds_hor, .map (some b2_w0o0m2), .slice q11_y0o0_3 x11.2.2.rows.length x11.2.2.rows.length] 100⟩], [⟨b2_w0o0m2, .map (encM kS id rw11_y0o0_2)⟩], t11_y0o0_3, [⟨b5_5, .cells [.int .i64 y7_0, .int .i64 y7_1, .int .i64 y7_2] 71⟩]] : List Blk)) ?_ (fun J16 => ?_)
        ·
          rintro _ h16 e16 w16 _
          replace hF := hK16
          refine gA rfl rfl ?_
          refine go_nil ?_
          refine go_seq ?_
          refine go_region ?_
          refine gr rfl (r_fa (ot rfl) (fa_73_0 _ _)) ?_
          refine gr rfl (r_load (ot rfl) (lm_a (vs := [_, _, _]) (mem_seg 0 rfl) ag_71 sz_71 rfl rfl)) ?_
          refine gs_alloc rfl zo_71 rfl ?_; intro b9_17
          refine gs_store (ot rfl) (ot rfl) sz_71 rfl rfl rfl rfl rfl .z ?_
          refine go_nil ?_
          refine go_seq ?_
          refine go_seq ?_
          replace hF := obind hF
          obtain ⟨s18, hF, hK18⟩ := hF
          refine go_joinc (β := Option Addr × List Blk × List (ByteArray × Value)) (fun s h' => AccR (Rep.sl R_TEvent 50) 50 h' s.2.1 (.slice s.1 s18.2.2.2.2.2.2.2.2.2.2.2.2.2.2.2.2.2.2.2.2.2.1.length s18.2.2.2.2.2.2.2.2.2.2.2.2.2.2.2.2.2.2.2.2.2.1.length) s18.2.2.2.2.2.2.2.2.2.2.2.2.2.2.2.2.2.2.2.2.2.1 ∧ MR R_TEvent h' s.2.2 s18.2.2.2.2.2.2.2.2.2.2.2.2.2.2.2.2.2.2.2.2.2.2) (fun s => [(0, true, .slice a0_0 p0.length c0_0), (2, true, .bool false), (3, true, .bool true), (4, true, .pointer (some ⟨b2_w0, 0, none⟩)), (5, true, .pointer (some ⟨b5_5, 0, none⟩)), (6, true, .int .i64 (i7 : Int)), (7, true, .pointer (some ⟨b7_12, 0, none⟩)), (8, true, .bool s16.2), (9, true, .pointer (some ⟨b9_17, 0, none⟩)), (17, true, .int .i64 (i7 : Int)), (18, true, .slice a0_0 p0.length c0_0), (19, true, .int .i64 (p0.length : Int)), (20, true, .bool true), (23, true, .pointer (some ⟨b2_w0, 0, none⟩)), (24, true, .slice a0_0 p0.length c0_0), (25, true, .int .i64 (i7 : Int)), (26, true, .pointer (some q10)), (27, true, .agg #[.int .i64 z7.Kind, .string z7.R.From, .string z7.R.To, .int .i64 z7.Rev, .slice a10_0 z7.Cmps.length c10_0, .slice a10_1 z7.Then.length c10_1, .slice a10_2 z7.Else.length c10_2]), (28, true, .agg #[.int .i64 x11.1.H.Seq, .int .i64 x11.1.H.Rev, .int .i64 x11.1.H.Hor, .int .i64 x11.1.Err, .bool x11.1.Ok, .slice a11_0 x11.1.L.length c11_0]), (29, true, .slice a0_0 p0.length c0_0), (30, true, .int .i64 (i7 : Int)), (31, true, .pointer (some q13)), (32, true, .agg #[.int .i64 z7.Kind, .string z7.R.From, .string z7.R.To, .int .i64 z7.Rev, .slice a13_0 z7.Cmps.length c13_0, .slice a13_1 z7.Then.length c13_1, .slice a13_2 z7.Else.length c13_2]), (33, true, .int .i64 x14), (34, true, .bool (x14 == 0)), (35, true, .bool s16.1), (42, true, .bool s16.2), (43, true, .pointer (some ⟨b7_12, 0, none⟩)), (44, true, .agg #[.int .i64 x11.1.H.Seq, .int .i64 x11.1.H.Rev, .int .i64 x11.1.H.Hor]), (45, true, .agg #[.int .i64 x11.1.H.Seq, .int .i64 x11.1.H.Rev, .int .i64 x11.1.H.Hor]), (47, true, .agg #[.int .i64 s18.1, .int .i64 s18.2.1, .int .i64 s18.2.2.1]), (48, true, .bool s18.2.2.2.1), (49, true, .bool s18.2.2.2.2.1), (58, true, .bool s18.2.2.2.2.2.1), (59, true, .bool s18.2.2.2.2.2.2.1), (67, true, .bool s18.2.2.2.2.2.2.2.1), (68, true, .bool s18.2.2.2.2.2.2.2.2.1), (74, true, .bool s18.2.2.2.2.2.2.2.2.2.1), (75, true, .bool s18.2.2.2.2.2.2.2.2.2.2.1), (81, true, .bool s18.2.2.2.2.2.2.2.2.2.2.2.1), (82, true, .bool s18.2.2.2.2.2.2.2.2.2.2.2.2.1), (88, true, .bool s18.2.2.2.2.2.2.2.2.2.2.2.2.2.1), (89, true, .bool s18.2.2.2.2.2.2.2.2.2.2.2.2.2.2.1), (96, true, .bool s18.2.2.2.2.2.2.2.2.2.2.2.2.2.2.2.1), (97, true, .bool s18.2.2.2.2.2.2.2.2.2.2.2.2.2.2.2.2.1), (104, true, .bool s18.2.2.2.2.2.2.2.2.2.2.2.2.2.2.2.2.2.1)]) (fun s => (List.flatten [[⟨b9_17, .cells [.int .i64 x11.1.H.Seq, .int .i64 x11.1.H.Rev, .int .i64 x11.1.H.Hor] 71⟩], [⟨b7_12, .cells [.int .i64 x11.1.H.Seq, .int .i64 x11.1.H.Rev, .int .i64 x11.1.H.Hor, .int .i64 x11.1.Err, .bool x11.1.Ok, .slice a11_0 x11.1.L.length c11_0] 73⟩], [⟨b2_w0, .cells [.pointer (some ⟨b2_w0o0, 0, none⟩), .int .i64 s18.2.2.2.2.2.2.2.2.2.2.2.2.2.2.2.2.2.2.1] 130⟩], [⟨b2_w0o0, .cells [.int .i64 s18.2.2.2.2.2.2.2.2.2.2.2.2.2.2.2.2.2.2.2.1, .int .i64 s18.2.2.2.2.2.2.2.2.2.2.2.2.2.2.2.2.2.2.2.2.1, .map (some b2_w0o0m2), .slice s.1 s18.2.2.2.2.2.2.2.2.2.2.2.2.2.2.2.2.2.2.2.2.2.1.length s18.2.2.2.2.2.2.2.2.2.2.2.2.2.2.2.2.2.2.2.2.2.1.length] 100⟩], [⟨b2_w0o0m2, .map (encM kS id s.2.2)⟩], s.2.1, [⟨b5_5, .cells [.int .i64 y7_0, .int .i64 y7_1, .int .i64 y7_2] 71⟩]] : List Blk)) ?_ (fun J18 => ?_)
          ·
            rintro ⟨a18_0, a18_1, a18_2⟩ h18 e18 w18 ⟨f18_21, f18_22⟩
            replace hF := hK18
            refine g_cond (b := s18.2.2.2.2.2.2.2.2.2.2.2.2.2.2.2.2.2.1) (ot rfl) (fun hc19 => ?_) (fun hc19 => ?_)
            ·
              replace hF := ifT hc19 hF
              refine go_seq ?_
              refine go_region ?_
              refine gAc rfl rfl ?_
              refine go_nil ?_
              obtain rfl := someI hF
              obtain rfl := someI hK6
              exact g_ret (rst rfl rs0) (fun h1 hf hs => ⟨(e2.trans (e7.trans (e11.trans (e16.trans (e18.trans hs.hext))))), rfl⟩)
            ·
              replace hF := ifF hc19 hF
              refine go_skip ?_
              refine go_region ?_
              refine gr rfl (r_load (ot rfl) (lm_w (mem_seg 0 rfl) ag_71 sz_71 rfl)) ?_
              refine gs_store (ot rfl) (ot rfl) sz_71 rfl rfl rfl rfl rfl (.s (.s (.s (.s (.s (.s (.z))))))) ?_
              refine go_nil ?_
              refine go_endb ?_
              refine go_region ?_
              refine gM rfl rfl ?_
              refine gr rfl (r_bin (ot rfl) (oc rfl) rfl) ?_
              refine gA rfl rfl ?_
              refine go_nil ?_
              refine gs_sub (.cons _ (.cons _ (.cons_cons _ (.cons_cons _ (.cons_cons _ (.cons_cons _ (.cons_cons _ (.refl _)))))))) ?_
              refine gs_perm (perm_of (d := []) _ [4, 0, 1, 2, 3] rfl) ?_
              refine go_re 6 (v2 := .int .i64 ((i7 + 1 : Nat) : Int)) rfl (wrap_succ hi7 hb7) ?_
              exact Goes.weak (ih7 (r7, i7 + 1, x11.1.H.Seq, x11.1.H.Rev, x11.1.H.Hor, s18.2.2.2.2.2.2.2.2.2.2.2.2.2.2.2.2.2.2.1, s18.2.2.2.2.2.2.2.2.2.2.2.2.2.2.2.2.2.2.2.1, s18.2.2.2.2.2.2.2.2.2.2.2.2.2.2.2.2.2.2.2.2.1, s18.2.2.2.2.2.2.2.2.2.2.2.2.2.2.2.2.2.2.2.2.2.1, s18.2.2.2.2.2.2.2.2.2.2.2.2.2.2.2.2.2.2.2.2.2.2, a18_0, a18_1, a18_2, h18) ⟨hr7, (e7.trans (e11.trans (e16.trans e18))), w18, hF, f18_21, f18_22⟩ (Nat.lt_succ_self _)) (Sub.cons (Sub.cons (Sub.cons (Sub.cons (Sub.cons (Sub.cons (Sub.nil _) rfl) rfl) rfl) rfl) rfl) rfl)
          ·
            refine go_regions (L := [(0, []), (1, []), (2, [0]), (3, []), (4, []), (5, []), (6, []), (7, []), (8, []), (9, []), (10, []), (11, []), (12, []), (13, []), (14, []), (15, []), (16, []), (17, []), (18, []), (19, []), (20, []), (21, []), (22, []), (23, []), (24, []), (25, []), (26, []), (27, []), (28, []), (29, []), (30, []), (31, []), (32, []), (33, []), (34, []), (35, []), (36, []), (37, []), (38, []), (39, []), (40, []), (41, []), (42, []), (43, []), (44, []), (45, []), (46, []), (47, []), (48, []), (49, []), (50, []), (51, []), (52, []), (53, []), (54, []), (55, []), (56, []), (57, []), (58, []), (59, [])]) (by kernel_rfl) (by kernel_rfl) (fun _ => rfl) ?_
            refine go_sop rfl rfl ?_
            refine gr rfl (r_load (ot rfl) (lm_w (mem_seg 0 rfl) ag_71 sz_71 rfl)) ?_
            refine go_nil ?_
            refine go_sop rfl rfl ?_
            refine gM rfl rfl ?_
            refine go_nil ?_
            refine go_sopc [(0, .agg #[.int .i64 x11.1.H.Seq, .int .i64 x11.1.H.Rev, .int .i64 x11.1.H.Hor])] rfl rfl rfl (rc1 rfl (r_load (ot rfl) (lm_w (mem_seg 0 rfl) ag_71 sz_71 rfl)) rc0) (vq1 (veq_agg _ _ (va1 (veq_int _ _ _) (va1 (veq_int _ _ _) (va1 (veq_int _ _ _) (va0 _))))) vq0) rfl ?_
            replace hF := obind hF
            obtain ⟨x20, hx20, hF⟩ := hF
            refine gs_call EE_fr w16 (.cons (.s (.s (.z))) (.cons (.s (.s (.z))) (.cons (.s (.s (.z))) (.cons (.s (.s (.z))) .nil)))) (fun _ h => by cases h; rfl) of (os1 (ot rfl) os0) hb_35 (by exact s_model_Model_Head w16 (⟨x11.2.1.seq⟩ : Omodel_Model) (⟨x11.2.2.bounds_rev, x11.2.2.bounds_hor, x11.2.2.keys, x11.2.2.rows⟩ : Ohist_Hist) (f11_0.ext e16.kn) (f11_1.ext e16.kn) hx20) ?_
            rintro v20 S20 h20 e20 w20 ⟨rw20_y0o0_2, q20_y0o0_3, t20_y0o0_3, rfl, rfl, f20_0, f20_1⟩
            simp only [List.cons_append, List.nil_append]
            refine go_nil ?_
            refine go_rck (rc1 rfl (r_load (ot rfl) (lm_w (mem_seg 4 rfl) ag_71 sz_71 rfl)) rc0) ?_
            refine go_sop rfl rfl ?_
            refine gr rfl (r_bin (ot rfl) (ot rfl) bn_71) ?_
            refine go_nil ?_
            refine go_sop rfl rfl ?_
            refine gM rfl rfl ?_
            refine go_nil ?_
            rcases Bool.eq_false_or_eq_true (!(eq_THead x11.1.H x20.1)) with hb21 | hb21
            ·
              replace hF := ifT hb21 hF
              refine go_re 49 (v2 := .bool true) rfl (congrArg Value.bool hb21) ?_
              refine go_sskip rfl (w_no rfl rfl rfl rfl rfl) ?_
              refine g_no rfl rfl rfl rfl rfl ?_
              refine go_nil ?_
              refine go_sskip rfl (w_no rfl rfl rfl rfl rfl) ?_
              refine g_no rfl rfl rfl rfl rfl ?_
              refine go_nil ?_
              refine go_sskip rfl (w_no rfl rfl rfl rfl rfl) ?_
              refine g_no rfl rfl rfl rfl rfl ?_
              refine go_nil ?_
              refine go_sskip rfl (w_no rfl rfl rfl rfl rfl) ?_
              refine g_no rfl rfl rfl rfl rfl ?_
              refine go_nil ?_
              refine go_sskip rfl (w_no rfl rfl rfl rfl rfl) ?_
              refine g_no rfl rfl rfl rfl rfl ?_
              refine go_nil ?_
              refine go_sskip rfl (w_no rfl rfl rfl rfl rfl) ?_
              refine g_no rfl rfl rfl rfl rfl ?_
              refine go_nil ?_
              refine go_sskip rfl (w_no rfl rfl rfl rfl rfl) ?_
              refine g_no rfl rfl rfl rfl rfl ?_
              refine go_nil ?_
              refine go_sskip rfl (w_no rfl rfl rfl rfl rfl) ?_
              refine g_no rfl rfl rfl rfl rfl ?_
              refine go_nil ?_
              refine go_sop rfl rfl ?_
              refine gr rfl (r_pkT (ot rfl) (oc rfl)) ?_
              refine go_nil ?_
              refine go_sop rfl rfl ?_
              refine gM rfl rfl ?_
              refine go_nil ?_
              refine go_sskip rfl (w_no rfl rfl rfl rfl rfl) ?_
              refine g_no rfl rfl rfl rfl rfl ?_
              refine go_nil ?_
              refine go_sskip rfl (w_no rfl rfl rfl rfl rfl) ?_
              refine g_no rfl rfl rfl rfl rfl ?_
              refine go_nil ?_
              refine go_sskip rfl (w_no rfl rfl rfl rfl rfl) ?_
              refine g_no rfl rfl rfl rfl rfl ?_
              refine go_nil ?_
              refine go_sskip rfl (w_nu rfl rfl rfl rfl) ?_
              refine g_nu rfl rfl rfl rfl ?_
              refine go_nil ?_
              refine go_sskip rfl (w_nu rfl rfl rfl rfl) ?_
              refine g_nu rfl rfl rfl rfl ?_
              refine go_nil ?_
              refine go_sskip rfl (w_nu rfl rfl rfl rfl) ?_
              refine g_nu rfl rfl rfl rfl ?_
              refine go_nil ?_
              refine go_sskip rfl (w_no rfl rfl rfl rfl rfl) ?_
              refine g_no rfl rfl rfl rfl rfl ?_
              refine go_nil ?_
              refine go_sop rfl rfl ?_
              refine gr rfl (r_pkT (ot rfl) (oc rfl)) ?_
              refine go_nil ?_
              refine go_sop rfl rfl ?_
              refine gM rfl rfl ?_
              refine go_nil ?_
              refine go_sskip rfl (w_no rfl rfl rfl rfl rfl) ?_
              refine g_no rfl rfl rfl rfl rfl ?_
              refine go_nil ?_
              refine go_sskip rfl (w_no rfl rfl rfl rfl rfl) ?_
              refine g_no rfl rfl rfl rfl rfl ?_
              refine go_nil ?_
              refine go_sskip rfl (w_no rfl rfl rfl rfl rfl) ?_
              refine g_no rfl rfl rfl rfl rfl ?_
              refine go_nil ?_
              refine go_sskip rfl (w_no rfl rfl rfl rfl rfl) ?_
              refine g_no rfl rfl rfl rfl rfl ?_
              refine go_nil ?_
              refine go_sskip rfl (w_no rfl rfl rfl rfl rfl) ?_
              refine g_no rfl rfl rfl rfl rfl ?_
              refine go_nil ?_
              refine go_sop rfl rfl ?_
              refine gr rfl (r_pkT (ot rfl) (oc rfl)) ?_
              refine go_nil ?_
              refine go_sop rfl rfl ?_
              refine gM rfl rfl ?_
              refine go_nil ?_
              refine go_sskip rfl (w_no rfl rfl rfl rfl rfl) ?_
              refine g_no rfl rfl rfl rfl rfl ?_
              refine go_nil ?_
              refine go_sskip rfl (w_no rfl rfl rfl rfl rfl) ?_
              refine g_no rfl rfl rfl rfl rfl ?_
              refine go_nil ?_
              refine go_sskip rfl (w_no rfl rfl rfl rfl rfl) ?_
              refine g_no rfl rfl rfl rfl rfl ?_
              refine go_nil ?_
              refine go_sskip rfl (w_no rfl rfl rfl rfl rfl) ?_
              refine g_no rfl rfl rfl rfl rfl ?_
              refine go_nil ?_
              refine go_sskip rfl (w_no rfl rfl rfl rfl rfl) ?_
              refine g_no rfl rfl rfl rfl rfl ?_
              refine go_nil ?_
              refine go_sop rfl rfl ?_
              refine gr rfl (r_pkT (ot rfl) (oc rfl)) ?_
              refine go_nil ?_
              refine go_sop rfl rfl ?_
              refine gM rfl rfl ?_
              refine go_nil ?_
              refine go_sskip rfl (w_no rfl rfl rfl rfl rfl) ?_
              refine g_no rfl rfl rfl rfl rfl ?_
              refine go_nil ?_
              refine go_sskip rfl (w_no rfl rfl rfl rfl rfl) ?_
              refine g_no rfl rfl rfl rfl rfl ?_
              refine go_nil ?_
              refine go_sskip rfl (w_no rfl rfl rfl rfl rfl) ?_
              refine g_no rfl rfl rfl rfl rfl ?_
              refine go_nil ?_
              refine go_sskip rfl (w_no rfl rfl rfl rfl rfl) ?_
              refine g_no rfl rfl rfl rfl rfl ?_
              refine go_nil ?_
              refine go_sskip rfl (w_no rfl rfl rfl rfl rfl) ?_
              refine g_no rfl rfl rfl rfl rfl ?_
              refine go_nil ?_
              refine go_sop rfl rfl ?_
              refine gr rfl (r_pkT (ot rfl) (oc rfl)) ?_
              refine go_nil ?_
              refine go_sop rfl rfl ?_
              refine gM rfl rfl ?_
              refine go_nil ?_
              refine go_sskip rfl (w_no rfl rfl rfl rfl rfl) ?_
              refine g_no rfl rfl rfl rfl rfl ?_
              refine go_nil ?_
              refine go_sskip rfl (w_no rfl rfl rfl rfl rfl) ?_
              refine g_no rfl rfl rfl rfl rfl ?_
              refine go_nil ?_
              refine go_sskip rfl (w_no rfl rfl rfl rfl rfl) ?_
              refine g_no rfl rfl rfl rfl rfl ?_
              refine go_nil ?_
              refine go_sskip rfl (w_no rfl rfl rfl rfl rfl) ?_
              refine g_no rfl rfl rfl rfl rfl ?_
              refine go_nil ?_
              refine go_sskip rfl (w_no rfl rfl rfl rfl rfl) ?_
              refine g_no rfl rfl rfl rfl rfl ?_
              refine go_nil ?_
              refine go_sskip rfl (w_no rfl rfl rfl rfl rfl) ?_
              refine g_no rfl rfl rfl rfl rfl ?_
              refine go_nil ?_
              refine go_sop rfl rfl ?_
              refine gr rfl (r_pkT (ot rfl) (oc rfl)) ?_
              refine go_nil ?_
              refine go_sop rfl rfl ?_
              refine gM rfl rfl ?_
              refine go_nil ?_
              refine go_sskip rfl (w_no rfl rfl rfl rfl rfl) ?_
              refine g_no rfl rfl rfl rfl rfl ?_
              refine go_nil ?_
              refine go_sskip rfl (w_no rfl rfl rfl rfl rfl) ?_
              refine g_no rfl rfl rfl rfl rfl ?_
              refine go_nil ?_
              refine go_sskip rfl (w_no rfl rfl rfl rfl rfl) ?_
              refine g_no rfl rfl rfl rfl rfl ?_
              refine go_nil ?_
              refine go_sskip rfl (w_no rfl rfl rfl rfl rfl) ?_
              refine g_no rfl rfl rfl rfl rfl ?_
              refine go_nil ?_
              refine go_sskip rfl (w_no rfl rfl rfl rfl rfl) ?_
              refine g_no rfl rfl rfl rfl rfl ?_
              refine go_nil ?_
              refine go_sskip rfl (w_no rfl rfl rfl rfl rfl) ?_
              refine g_no rfl rfl rfl rfl rfl ?_
              refine go_nil ?_
              refine go_sop rfl rfl ?_
              refine gr rfl (r_pkT (ot rfl) (oc rfl)) ?_
              refine go_nil ?_
              refine go_snil ?_
              obtain rfl := someI hF
              refine gs_perm (perm_of (d := []) _ [4, 5, 0, 1, 2, 3, 6] rfl) ?_
              exact Goes.weak (J18 (q20_y0o0_3, t20_y0o0_3, rw20_y0o0_2) _ e20 w20 ⟨f20_1, f20_0⟩) (Sub.cons (Sub.cons (Sub.cons (Sub.cons (Sub.cons (Sub.cons (Sub.cons (Sub.cons (Sub.cons (Sub.cons (Sub.cons (Sub.cons (Sub.cons (Sub.cons (Sub.cons (Sub.cons (Sub.cons (Sub.cons (Sub.cons (Sub.cons (Sub.cons (Sub.cons (Sub.cons (Sub.cons (Sub.cons (Sub.cons (Sub.cons (Sub.cons (Sub.cons (Sub.cons (Sub.cons (Sub.cons (Sub.cons (Sub.cons (Sub.cons (Sub.cons (Sub.cons (Sub.cons (Sub.cons (Sub.cons (Sub.cons (Sub.cons (Sub.cons (Sub.cons (Sub.cons (Sub.cons (Sub.nil _) rfl) rfl) rfl) rfl) rfl) rfl) rfl) rfl) rfl) rfl) rfl) rfl) rfl) rfl) rfl) rfl) rfl) rfl) rfl) rfl) rfl) rfl) rfl) rfl) rfl) rfl) rfl) rfl) rfl) rfl) rfl) rfl) rfl) rfl) rfl) rfl) rfl) rfl) rfl) rfl) rfl) rfl) rfl) rfl) rfl) rfl)
            ·
              replace hF := ifF hb21 hF
              refine go_re 49 (v2 := .bool false) rfl (congrArg Value.bool hb21) ?_
              refine go_sop rfl rfl ?_
              refine g_do rfl rfl rfl ?_
              refine gM rfl rfl ?_
              refine go_nil ?_
              refine go_sop rfl rfl ?_
              refine g_do rfl rfl rfl ?_
              refine gr rfl (r_fa (ot rfl) (fa_71_0 _ _)) ?_
              refine go_nil ?_
              refine go_sop rfl rfl ?_
              refine g_do rfl rfl rfl ?_
              refine gr rfl (r_load (ot rfl) (lm_s (mem_seg 4 rfl) ag_3 rfl)) ?_
              refine go_nil ?_
              refine go_sop rfl rfl ?_
              refine g_do rfl rfl rfl ?_
              refine gr rfl (r_fa (ot rfl) (fa_71_0 _ _)) ?_
              refine go_nil ?_
              refine go_sop rfl rfl ?_
              refine g_do rfl rfl rfl ?_
              refine gr rfl (r_load (ot rfl) (lm_s (mem_seg 6 rfl) ag_3 rfl)) ?_
              refine go_nil ?_
              refine go_sop rfl rfl ?_
              refine g_do rfl rfl rfl ?_
              refine gr rfl (r_bin (ot rfl) (oc rfl) rfl) ?_
              refine go_nil ?_
              refine go_sop rfl rfl ?_
              refine g_do rfl rfl rfl ?_
              refine gr rfl (r_bin (ot rfl) (ot rfl) rfl) ?_
              refine go_nil ?_
              refine go_sop rfl rfl ?_
              refine g_do rfl rfl rfl ?_
              refine gr rfl (r_bin (ot rfl) (ot rfl) bu_4) ?_
              refine go_nil ?_
              refine go_sop rfl rfl ?_
              refine gr rfl (r_pkF (ot rfl) (ot rfl)) ?_
              refine go_nil ?_
              refine go_sop rfl rfl ?_
              refine gM rfl rfl ?_
              refine go_nil ?_
              rcases Bool.eq_false_or_eq_true (!(s16.2 == (x11.1.H.Seq == (IntKind.i64.wrap (y7_0 + 1))))) with hb22 | hb22
              ·
                replace hF := ifT hb22 hF
                refine go_re 59 (v2 := .bool true) rfl (congrArg Value.bool hb22) ?_
                refine go_sskip rfl (w_no rfl rfl rfl rfl rfl) ?_
                refine g_no rfl rfl rfl rfl rfl ?_
                refine go_nil ?_
                refine go_sskip rfl (w_no rfl rfl rfl rfl rfl) ?_
                refine g_no rfl rfl rfl rfl rfl ?_
                refine go_nil ?_
                refine go_sskip rfl (w_no rfl rfl rfl rfl rfl) ?_
                refine g_no rfl rfl rfl rfl rfl ?_
                refine go_nil ?_
                refine go_sskip rfl (w_nu rfl rfl rfl rfl) ?_
                refine g_nu rfl rfl rfl rfl ?_
                refine go_nil ?_
                refine go_sskip rfl (w_nu rfl rfl rfl rfl) ?_
                refine g_nu rfl rfl rfl rfl ?_
                refine go_nil ?_
                refine go_sskip rfl (w_nu rfl rfl rfl rfl) ?_
                refine g_nu rfl rfl rfl rfl ?_
                refine go_nil ?_
                refine go_sskip rfl (w_no rfl rfl rfl rfl rfl) ?_
                refine g_no rfl rfl rfl rfl rfl ?_
                refine go_nil ?_
                refine go_sop rfl rfl ?_
                refine gr rfl (r_pkT (ot rfl) (oc rfl)) ?_
                refine go_nil ?_
                refine go_sop rfl rfl ?_
                refine gM rfl rfl ?_
                refine go_nil ?_
                refine go_sskip rfl (w_no rfl rfl rfl rfl rfl) ?_
                refine g_no rfl rfl rfl rfl rfl ?_
                refine go_nil ?_
                refine go_sskip rfl (w_no rfl rfl rfl rfl rfl) ?_
                refine g_no rfl rfl rfl rfl rfl ?_
                refine go_nil ?_
                refine go_sskip rfl (w_no rfl rfl rfl rfl rfl) ?_
                refine g_no rfl rfl rfl rfl rfl ?_
                refine go_nil ?_
                refine go_sskip rfl (w_no rfl rfl rfl rfl rfl) ?_
                refine g_no rfl rfl rfl rfl rfl ?_
                refine go_nil ?_
                refine go_sskip rfl (w_no rfl rfl rfl rfl rfl) ?_
                refine g_no rfl rfl rfl rfl rfl ?_
                refine go_nil ?_
                refine go_sop rfl rfl ?_
                refine gr rfl (r_pkT (ot rfl) (oc rfl)) ?_
                refine go_nil ?_
                refine go_sop rfl rfl ?_
                refine gM rfl rfl ?_
                refine go_nil ?_
                refine go_sskip rfl (w_no rfl rfl rfl rfl rfl) ?_
                refine g_no rfl rfl rfl rfl rfl ?_
                refine go_nil ?_
                refine go_sskip rfl (w_no rfl rfl rfl rfl rfl) ?_
                refine g_no rfl rfl rfl rfl rfl ?_
                refine go_nil ?_
                refine go_sskip rfl (w_no rfl rfl rfl rfl rfl) ?_
                refine g_no rfl rfl rfl rfl rfl ?_
                refine go_nil ?_
                refine go_sskip rfl (w_no rfl rfl rfl rfl rfl) ?_
                refine g_no rfl rfl rfl rfl rfl ?_
                refine go_nil ?_
                refine go_sskip rfl (w_no rfl rfl rfl rfl rfl) ?_
                refine g_no rfl rfl rfl rfl rfl ?_
                refine go_nil ?_
                refine go_sop rfl rfl ?_
                refine gr rfl (r_pkT (ot rfl) (oc rfl)) ?_
                refine go_nil ?_
                refine go_sop rfl rfl ?_
                refine gM rfl rfl ?_
                refine go_nil ?_
                refine go_sskip rfl (w_no rfl rfl rfl rfl rfl) ?_
                refine g_no rfl rfl rfl rfl rfl ?_
                refine go_nil ?_
                refine go_sskip rfl (w_no rfl rfl rfl rfl rfl) ?_
                refine g_no rfl rfl rfl rfl rfl ?_
                refine go_nil ?_
                refine go_sskip rfl (w_no rfl rfl rfl rfl rfl) ?_
                refine g_no rfl rfl rfl rfl rfl ?_
                refine go_nil ?_
                refine go_sskip rfl (w_no rfl rfl rfl rfl rfl) ?_
                refine g_no rfl rfl rfl rfl rfl ?_
                refine go_nil ?_
                refine go_sskip rfl (w_no rfl rfl rfl rfl rfl) ?_
                refine g_no rfl rfl rfl rfl rfl ?_
                refine go_nil ?_
                refine go_sop rfl rfl ?_
                refine gr rfl (r_pkT (ot rfl) (oc rfl)) ?_
                refine go_nil ?_
                refine go_sop rfl rfl ?_
                refine gM rfl rfl ?_
                refine go_nil ?_
                refine go_sskip rfl (w_no rfl rfl rfl rfl rfl) ?_
                refine g_no rfl rfl rfl rfl rfl ?_
                refine go_nil ?_
                refine go_sskip rfl (w_no rfl rfl rfl rfl rfl) ?_
                refine g_no rfl rfl rfl rfl rfl ?_
                refine go_nil ?_
                refine go_sskip rfl (w_no rfl rfl rfl rfl rfl) ?_
                refine g_no rfl rfl rfl rfl rfl ?_
                refine go_nil ?_
                refine go_sskip rfl (w_no rfl rfl rfl rfl rfl) ?_
                refine g_no rfl rfl rfl rfl rfl ?_
                refine go_nil ?_
                refine go_sskip rfl (w_no rfl rfl rfl rfl rfl) ?_
                refine g_no rfl rfl rfl rfl rfl ?_
                refine go_nil ?_
                refine go_sskip rfl (w_no rfl rfl rfl rfl rfl) ?_
                refine g_no rfl rfl rfl rfl rfl ?_
                refine go_nil ?_
                refine go_sop rfl rfl ?_
                refine gr rfl (r_pkT (ot rfl) (oc rfl)) ?_
                refine go_nil ?_
                refine go_sop rfl rfl ?_
                refine gM rfl rfl ?_
                refine go_nil ?_
                refine go_sskip rfl (w_no rfl rfl rfl rfl rfl) ?_
                refine g_no rfl rfl rfl rfl rfl ?_
                refine go_nil ?_
                refine go_sskip rfl (w_no rfl rfl rfl rfl rfl) ?_
                refine g_no rfl rfl rfl rfl rfl ?_
                refine go_nil ?_
                refine go_sskip rfl (w_no rfl rfl rfl rfl rfl) ?_
                refine g_no rfl rfl rfl rfl rfl ?_
                refine go_nil ?_
                refine go_sskip rfl (w_no rfl rfl rfl rfl rfl) ?_
                refine g_no rfl rfl rfl rfl rfl ?_
                refine go_nil ?_
                refine go_sskip rfl (w_no rfl rfl rfl rfl rfl) ?_
                refine g_no rfl rfl rfl rfl rfl ?_
                refine go_nil ?_
                refine go_sskip rfl (w_no rfl rfl rfl rfl rfl) ?_
                refine g_no rfl rfl rfl rfl rfl ?_
                refine go_nil ?_
                refine go_sop rfl rfl ?_
                refine gr rfl (r_pkT (ot rfl) (oc rfl)) ?_
                refine go_nil ?_
                refine go_snil ?_
                obtain rfl := someI hF
                refine gs_perm (perm_of (d := []) _ [4, 5, 0, 1, 2, 3, 6] rfl) ?_
                exact Goes.weak (J18 (q20_y0o0_3, t20_y0o0_3, rw20_y0o0_2) _ e20 w20 ⟨f20_1, f20_0⟩) (Sub.cons (Sub.cons (Sub.cons (Sub.cons (Sub.cons (Sub.cons (Sub.cons (Sub.cons (Sub.cons (Sub.cons (Sub.cons (Sub.cons (Sub.cons (Sub.cons (Sub.cons (Sub.cons (Sub.cons (Sub.cons (Sub.cons (Sub.cons (Sub.cons (Sub.cons (Sub.cons (Sub.cons (Sub.cons (Sub.cons (Sub.cons (Sub.cons (Sub.cons (Sub.cons (Sub.cons (Sub.cons (Sub.cons (Sub.cons (Sub.cons (Sub.cons (Sub.cons (Sub.cons (Sub.cons (Sub.cons (Sub.cons (Sub.cons (Sub.cons (Sub.cons (Sub.cons (Sub.cons (Sub.nil _) rfl) rfl) rfl) rfl) rfl) rfl) rfl) rfl) rfl) rfl) rfl) rfl) rfl) rfl) rfl) rfl) rfl) rfl) rfl) rfl) rfl) rfl) rfl) rfl) rfl) rfl) rfl) rfl) rfl) rfl) rfl) rfl) rfl) rfl) rfl) rfl) rfl) rfl) rfl) rfl) rfl) rfl) rfl) rfl) rfl) rfl)
              ·
                replace hF := ifF hb22 hF
                refine go_re 59 (v2 := .bool false) rfl (congrArg Value.bool hb22) ?_
                refine go_sop rfl rfl ?_
                refine g_do rfl rfl rfl ?_
                refine gM rfl rfl ?_
                refine go_nil ?_
                refine go_sop rfl rfl ?_
                refine g_do rfl rfl rfl ?_
                refine gr rfl (r_un (ot rfl) rfl) ?_
                refine go_nil ?_
                refine go_sop rfl rfl ?_
                refine g_do rfl rfl rfl ?_
                refine gM rfl rfl ?_
                refine go_nil ?_
                rcases Bool.eq_false_or_eq_true (!s16.2) with hb23 | hb23
                ·
                  replace hF := ifT hb23 hF
                  refine go_re 62 (v2 := .bool true) rfl (congrArg Value.bool hb23) ?_
                  refine go_sop rfl rfl ?_
                  refine g_do rfl rfl rfl ?_
                  refine gr rfl (r_load (ot rfl) (lm_w (mem_seg 4 rfl) ag_71 sz_71 rfl)) ?_
                  refine go_nil ?_
                  refine go_sop rfl rfl ?_
                  refine g_do rfl rfl rfl ?_
                  refine gr rfl (r_load (ot rfl) (lm_w (mem_seg 6 rfl) ag_71 sz_71 rfl)) ?_
                  refine go_nil ?_
                  refine go_sop rfl rfl ?_
                  refine g_do rfl rfl rfl ?_
                  refine gr rfl (r_bin (ot rfl) (ot rfl) bn_71) ?_
                  refine go_nil ?_
                  refine go_sop rfl rfl ?_
                  refine g_do rfl rfl rfl ?_
                  refine gr rfl (r_pkT (ot rfl) (ot rfl)) ?_
                  refine go_nil ?_
                  refine go_sop rfl rfl ?_
                  refine gr rfl (r_pkF (ot rfl) (ot rfl)) ?_
                  refine go_nil ?_
                  refine go_sop rfl rfl ?_
                  refine gM rfl rfl ?_
                  refine go_nil ?_
                  rcases Bool.eq_false_or_eq_true (!(eq_THead x11.1.H (⟨y7_0, y7_1, y7_2⟩ : THead))) with hb24 | hb24
                  ·
                    replace hF := ifT hb24 hF
                    refine go_re 68 (v2 := .bool true) rfl (congrArg Value.bool hb24) ?_
                    refine go_sskip rfl (w_no rfl rfl rfl rfl rfl) ?_
                    refine g_no rfl rfl rfl rfl rfl ?_
                    refine go_nil ?_
                    refine go_sskip rfl (w_no rfl rfl rfl rfl rfl) ?_
                    refine g_no rfl rfl rfl rfl rfl ?_
                    refine go_nil ?_
                    refine go_sskip rfl (w_no rfl rfl rfl rfl rfl) ?_
                    refine g_no rfl rfl rfl rfl rfl ?_
                    refine go_nil ?_
                    refine go_sskip rfl (w_no rfl rfl rfl rfl rfl) ?_
                    refine g_no rfl rfl rfl rfl rfl ?_
                    refine go_nil ?_
                    refine go_sskip rfl (w_no rfl rfl rfl rfl rfl) ?_
                    refine g_no rfl rfl rfl rfl rfl ?_
                    refine go_nil ?_
                    refine go_sop rfl rfl ?_
                    refine gr rfl (r_pkT (ot rfl) (oc rfl)) ?_
                    refine go_nil ?_
                    refine go_sop rfl rfl ?_
                    refine gM rfl rfl ?_
                    refine go_nil ?_
                    refine go_sskip rfl (w_no rfl rfl rfl rfl rfl) ?_
                    refine g_no rfl rfl rfl rfl rfl ?_
                    refine go_nil ?_
                    refine go_sskip rfl (w_no rfl rfl rfl rfl rfl) ?_
                    refine g_no rfl rfl rfl rfl rfl ?_
                    refine go_nil ?_
                    refine go_sskip rfl (w_no rfl rfl rfl rfl rfl) ?_
                    refine g_no rfl rfl rfl rfl rfl ?_
                    refine go_nil ?_
                    refine go_sskip rfl (w_no rfl rfl rfl rfl rfl) ?_
                    refine g_no rfl rfl rfl rfl rfl ?_
                    refine go_nil ?_
                    refine go_sskip rfl (w_no rfl rfl rfl rfl rfl) ?_
                    refine g_no rfl rfl rfl rfl rfl ?_
                    refine go_nil ?_
                    refine go_sop rfl rfl ?_
                    refine gr rfl (r_pkT (ot rfl) (oc rfl)) ?_
                    refine go_nil ?_
                    refine go_sop rfl rfl ?_
                    refine gM rfl rfl ?_
                    refine go_nil ?_
                    refine go_sskip rfl (w_no rfl rfl rfl rfl rfl) ?_
                    refine g_no rfl rfl rfl rfl rfl ?_
                    refine go_nil ?_
                    refine go_sskip rfl (w_no rfl rfl rfl rfl rfl) ?_
                    refine g_no rfl rfl rfl rfl rfl ?_
                    refine go_nil ?_
                    refine go_sskip rfl (w_no rfl rfl rfl rfl rfl) ?_
                    refine g_no rfl rfl rfl rfl rfl ?_
                    refine go_nil ?_
                    refine go_sskip rfl (w_no rfl rfl rfl rfl rfl) ?_
                    refine g_no rfl rfl rfl rfl rfl ?_
                    refine go_nil ?_
                    refine go_sskip rfl (w_no rfl rfl rfl rfl rfl) ?_
                    refine g_no rfl rfl rfl rfl rfl ?_
                    refine go_nil ?_
                    refine go_sop rfl rfl ?_
                    refine gr rfl (r_pkT (ot rfl) (oc rfl)) ?_
                    refine go_nil ?_
                    refine go_sop rfl rfl ?_
                    refine gM rfl rfl ?_
                    refine go_nil ?_
                    refine go_sskip rfl (w_no rfl rfl rfl rfl rfl) ?_
                    refine g_no rfl rfl rfl rfl rfl ?_
                    refine go_nil ?_
                    refine go_sskip rfl (w_no rfl rfl rfl rfl rfl) ?_
                    refine g_no rfl rfl rfl rfl rfl ?_
                    refine go_nil ?_
                    refine go_sskip rfl (w_no rfl rfl rfl rfl rfl) ?_
                    refine g_no rfl rfl rfl rfl rfl ?_
                    refine go_nil ?_
                    refine go_sskip rfl (w_no rfl rfl rfl rfl rfl) ?_
                    refine g_no rfl rfl rfl rfl rfl ?_
                    refine go_nil ?_
                    refine go_sskip rfl (w_no rfl rfl rfl rfl rfl) ?_
                    refine g_no rfl rfl rfl rfl rfl ?_
                    refine go_nil ?_
                    refine go_sskip rfl (w_no rfl rfl rfl rfl rfl) ?_
                    refine g_no rfl rfl rfl rfl rfl ?_
                    refine go_nil ?_
                    refine go_sop rfl rfl ?_
                    refine gr rfl (r_pkT (ot rfl) (oc rfl)) ?_
                    refine go_nil ?_
                    refine go_sop rfl rfl ?_
                    refine gM rfl rfl ?_
                    refine go_nil ?_
                    refine go_sskip rfl (w_no rfl rfl rfl rfl rfl) ?_
                    refine g_no rfl rfl rfl rfl rfl ?_
                    refine go_nil ?_
                    refine go_sskip rfl (w_no rfl rfl rfl rfl rfl) ?_
                    refine g_no rfl rfl rfl rfl rfl ?_
                    refine go_nil ?_
                    refine go_sskip rfl (w_no rfl rfl rfl rfl rfl) ?_
                    refine g_no rfl rfl rfl rfl rfl ?_
                    refine go_nil ?_
                    refine go_sskip rfl (w_no rfl rfl rfl rfl rfl) ?_
                    refine g_no rfl rfl rfl rfl rfl ?_
                    refine go_nil ?_
                    refine go_sskip rfl (w_no rfl rfl rfl rfl rfl) ?_
                    refine g_no rfl rfl rfl rfl rfl ?_
                    refine go_nil ?_
                    refine go_sskip rfl (w_no rfl rfl rfl rfl rfl) ?_
                    refine g_no rfl rfl rfl rfl rfl ?_
                    refine go_nil ?_
                    refine go_sop rfl rfl ?_
                    refine gr rfl (r_pkT (ot rfl) (oc rfl)) ?_
                    refine go_nil ?_
                    refine go_snil ?_
                    obtain rfl := someI hF
                    refine gs_perm (perm_of (d := []) _ [4, 5, 0, 1, 2, 3, 6] rfl) ?_
                    exact Goes.weak (J18 (q20_y0o0_3, t20_y0o0_3, rw20_y0o0_2) _ e20 w20 ⟨f20_1, f20_0⟩) (Sub.cons (Sub.cons (Sub.cons (Sub.cons (Sub.cons (Sub.cons (Sub.cons (Sub.cons (Sub.cons (Sub.cons (Sub.cons (Sub.cons (Sub.cons (Sub.cons (Sub.cons (Sub.cons (Sub.cons (Sub.cons (Sub.cons (Sub.cons (Sub.cons (Sub.cons (Sub.cons (Sub.cons (Sub.cons (Sub.cons (Sub.cons (Sub.cons (Sub.cons (Sub.cons (Sub.cons (Sub.cons (Sub.cons (Sub.cons (Sub.cons (Sub.cons (Sub.cons (Sub.cons (Sub.cons (Sub.cons (Sub.cons (Sub.cons (Sub.cons (Sub.cons (Sub.cons (Sub.cons (Sub.nil _) rfl) rfl) rfl) rfl) rfl) rfl) rfl) rfl) rfl) rfl) rfl) rfl) rfl) rfl) rfl) rfl) rfl) rfl) rfl) rfl) rfl) rfl) rfl) rfl) rfl) rfl) rfl) rfl) rfl) rfl) rfl) rfl) rfl) rfl) rfl) rfl) rfl) rfl) rfl) rfl) rfl) rfl) rfl) rfl) rfl) rfl)
                  ·
                    replace hF := ifF hb24 hF
                    refine go_re 68 (v2 := .bool false) rfl (congrArg Value.bool hb24) ?_
                    refine go_sop rfl rfl ?_
                    refine g_do rfl rfl rfl ?_
                    refine gr rfl (r_fa (ot rfl) (fa_71_1 _ _)) ?_
                    refine go_nil ?_
                    refine go_sop rfl rfl ?_
                    refine g_do rfl rfl rfl ?_
                    refine gr rfl (r_load (ot rfl) (lm_s (mem_seg 4 rfl) ag_3 rfl)) ?_
                    refine go_nil ?_
                    refine go_sop rfl rfl ?_
                    refine g_do rfl rfl rfl ?_
                    refine gr rfl (r_fa (ot rfl) (fa_71_1 _ _)) ?_
                    refine go_nil ?_
                    refine go_sop rfl rfl ?_
                    refine g_do rfl rfl rfl ?_
                    refine gr rfl (r_load (ot rfl) (lm_s (mem_seg 6 rfl) ag_3 rfl)) ?_
                    refine go_nil ?_
                    refine go_sop rfl rfl ?_
                    refine g_do rfl rfl rfl ?_
                    refine gr rfl (r_bin (ot rfl) (ot rfl) rfl) ?_
                    refine go_nil ?_
                    refine go_sop rfl rfl ?_
                    refine gr rfl (r_pkF (ot rfl) (ot rfl)) ?_
                    refine go_nil ?_
                    refine go_sop rfl rfl ?_
                    refine gM rfl rfl ?_
                    refine go_nil ?_
                    rcases Bool.eq_false_or_eq_true (decide (x11.1.H.Rev < y7_1)) with hb25 | hb25
                    ·
                      replace hF := ifT hb25 hF
                      refine go_re 75 (v2 := .bool true) rfl (congrArg Value.bool hb25) ?_
                      refine go_sskip rfl (w_no rfl rfl rfl rfl rfl) ?_
                      refine g_no rfl rfl rfl rfl rfl ?_
                      refine go_nil ?_
                      refine go_sskip rfl (w_no rfl rfl rfl rfl rfl) ?_
                      refine g_no rfl rfl rfl rfl rfl ?_
                      refine go_nil ?_
                      refine go_sskip rfl (w_no rfl rfl rfl rfl rfl) ?_
                      refine g_no rfl rfl rfl rfl rfl ?_
                      refine go_nil ?_
                      refine go_sskip rfl (w_no rfl rfl rfl rfl rfl) ?_
                      refine g_no rfl rfl rfl rfl rfl ?_
                      refine go_nil ?_
                      refine go_sskip rfl (w_no rfl rfl rfl rfl rfl) ?_
                      refine g_no rfl rfl rfl rfl rfl ?_
                      refine go_nil ?_
                      refine go_sop rfl rfl ?_
                      refine gr rfl (r_pkT (ot rfl) (oc rfl)) ?_
                      refine go_nil ?_
                      refine go_sop rfl rfl ?_
                      refine gM rfl rfl ?_
                      refine go_nil ?_
                      refine go_sskip rfl (w_no rfl rfl rfl rfl rfl) ?_
                      refine g_no rfl rfl rfl rfl rfl ?_
                      refine go_nil ?_
                      refine go_sskip rfl (w_no rfl rfl rfl rfl rfl) ?_
                      refine g_no rfl rfl rfl rfl rfl ?_
                      refine go_nil ?_
                      refine go_sskip rfl (w_no rfl rfl rfl rfl rfl) ?_
                      refine g_no rfl rfl rfl rfl rfl ?_
                      refine go_nil ?_
                      refine go_sskip rfl (w_no rfl rfl rfl rfl rfl) ?_
                      refine g_no rfl rfl rfl rfl rfl ?_
                      refine go_nil ?_
                      refine go_sskip rfl (w_no rfl rfl rfl rfl rfl) ?_
                      refine g_no rfl rfl rfl rfl rfl ?_
                      refine go_nil ?_
                      refine go_sop rfl rfl ?_
                      refine gr rfl (r_pkT (ot rfl) (oc rfl)) ?_
                      refine go_nil ?_
                      refine go_sop rfl rfl ?_
                      refine gM rfl rfl ?_
                      refine go_nil ?_
                      refine go_sskip rfl (w_no rfl rfl rfl rfl rfl) ?_
                      refine g_no rfl rfl rfl rfl rfl ?_
                      refine go_nil ?_
                      refine go_sskip rfl (w_no rfl rfl rfl rfl rfl) ?_
                      refine g_no rfl rfl rfl rfl rfl ?_
                      refine go_nil ?_
                      refine go_sskip rfl (w_no rfl rfl rfl rfl rfl) ?_
                      refine g_no rfl rfl rfl rfl rfl ?_
                      refine go_nil ?_
                      refine go_sskip rfl (w_no rfl rfl rfl rfl rfl) ?_
                      refine g_no rfl rfl rfl rfl rfl ?_
                      refine go_nil ?_
                      refine go_sskip rfl (w_no rfl rfl rfl rfl rfl) ?_
                      refine g_no rfl rfl rfl rfl rfl ?_
                      refine go_nil ?_
                      refine go_sskip rfl (w_no rfl rfl rfl rfl rfl) ?_
                      refine g_no rfl rfl rfl rfl rfl ?_
                      refine go_nil ?_
                      refine go_sop rfl rfl ?_
                      refine gr rfl (r_pkT (ot rfl) (oc rfl)) ?_
                      refine go_nil ?_
                      refine go_sop rfl rfl ?_
                      refine gM rfl rfl ?_
                      refine go_nil ?_
                      refine go_sskip rfl (w_no rfl rfl rfl rfl rfl) ?_
                      refine g_no rfl rfl rfl rfl rfl ?_
                      refine go_nil ?_
                      refine go_sskip rfl (w_no rfl rfl rfl rfl rfl) ?_
                      refine g_no rfl rfl rfl rfl rfl ?_
                      refine go_nil ?_
                      refine go_sskip rfl (w_no rfl rfl rfl rfl rfl) ?_
                      refine g_no rfl rfl rfl rfl rfl ?_
                      refine go_nil ?_
                      refine go_sskip rfl (w_no rfl rfl rfl rfl rfl) ?_
                      refine g_no rfl rfl rfl rfl rfl ?_
                      refine go_nil ?_
                      refine go_sskip rfl (w_no rfl rfl rfl rfl rfl) ?_
                      refine g_no rfl rfl rfl rfl rfl ?_
                      refine go_nil ?_
                      refine go_sskip rfl (w_no rfl rfl rfl rfl rfl) ?_
                      refine g_no rfl rfl rfl rfl rfl ?_
                      refine go_nil ?_
                      refine go_sop rfl rfl ?_
                      refine gr rfl (r_pkT (ot rfl) (oc rfl)) ?_
                      refine go_nil ?_
                      refine go_snil ?_
                      obtain rfl := someI hF
                      refine gs_perm (perm_of (d := []) _ [4, 5, 0, 1, 2, 3, 6] rfl) ?_
                      exact Goes.weak (J18 (q20_y0o0_3, t20_y0o0_3, rw20_y0o0_2) _ e20 w20 ⟨f20_1, f20_0⟩) (Sub.cons (Sub.cons (Sub.cons (Sub.cons (Sub.cons (Sub.cons (Sub.cons (Sub.cons (Sub.cons (Sub.cons (Sub.cons (Sub.cons (Sub.cons (Sub.cons (Sub.cons (Sub.cons (Sub.cons (Sub.cons (Sub.cons (Sub.cons (Sub.cons (Sub.cons (Sub.cons (Sub.cons (Sub.cons (Sub.cons (Sub.cons (Sub.cons (Sub.cons (Sub.cons (Sub.cons (Sub.cons (Sub.cons (Sub.cons (Sub.cons (Sub.cons (Sub.cons (Sub.cons (Sub.cons (Sub.cons (Sub.cons (Sub.cons (Sub.cons (Sub.cons (Sub.cons (Sub.cons (Sub.nil _) rfl) rfl) rfl) rfl) rfl) rfl) rfl) rfl) rfl) rfl) rfl) rfl) rfl) rfl) rfl) rfl) rfl) rfl) rfl) rfl) rfl) rfl) rfl) rfl) rfl) rfl) rfl) rfl) rfl) rfl) rfl) rfl) rfl) rfl) rfl) rfl) rfl) rfl) rfl) rfl) rfl) rfl) rfl) rfl) rfl) rfl)
                    ·
                      replace hF := ifF hb25 hF
                      refine go_re 75 (v2 := .bool false) rfl (congrArg Value.bool hb25) ?_
                      refine go_sop rfl rfl ?_
                      refine g_do rfl rfl rfl ?_
                      refine gr rfl (r_fa (ot rfl) (fa_71_2 _ _)) ?_
                      refine go_nil ?_
                      refine go_sop rfl rfl ?_
                      refine g_do rfl rfl rfl ?_
                      refine gr rfl (r_load (ot rfl) (lm_s (mem_seg 4 rfl) ag_3 rfl)) ?_
                      refine go_nil ?_
                      refine go_sop rfl rfl ?_
                      refine g_do rfl rfl rfl ?_
                      refine gr rfl (r_fa (ot rfl) (fa_71_2 _ _)) ?_
                      refine go_nil ?_
                      refine go_sop rfl rfl ?_
                      refine g_do rfl rfl rfl ?_
                      refine gr rfl (r_load (ot rfl) (lm_s (mem_seg 6 rfl) ag_3 rfl)) ?_
                      refine go_nil ?_
                      refine go_sop rfl rfl ?_
                      refine g_do rfl rfl rfl ?_
                      refine gr rfl (r_bin (ot rfl) (ot rfl) rfl) ?_
                      refine go_nil ?_
                      refine go_sop rfl rfl ?_
                      refine gr rfl (r_pkF (ot rfl) (ot rfl)) ?_
                      refine go_nil ?_
                      refine go_sop rfl rfl ?_
                      refine gM rfl rfl ?_
                      refine go_nil ?_
                      rcases Bool.eq_false_or_eq_true (decide (x11.1.H.Hor < y7_2)) with hb26 | hb26
                      ·
                        replace hF := ifT hb26 hF
                        refine go_re 82 (v2 := .bool true) rfl (congrArg Value.bool hb26) ?_
                        refine go_sskip rfl (w_no rfl rfl rfl rfl rfl) ?_
                        refine g_no rfl rfl rfl rfl rfl ?_
                        refine go_nil ?_
                        refine go_sskip rfl (w_no rfl rfl rfl rfl rfl) ?_
                        refine g_no rfl rfl rfl rfl rfl ?_
                        refine go_nil ?_
                        refine go_sskip rfl (w_no rfl rfl rfl rfl rfl) ?_
                        refine g_no rfl rfl rfl rfl rfl ?_
                        refine go_nil ?_
                        refine go_sskip rfl (w_no rfl rfl rfl rfl rfl) ?_
                        refine g_no rfl rfl rfl rfl rfl ?_
                        refine go_nil ?_
                        refine go_sskip rfl (w_no rfl rfl rfl rfl rfl) ?_
                        refine g_no rfl rfl rfl rfl rfl ?_
                        refine go_nil ?_
                        refine go_sop rfl rfl ?_
                        refine gr rfl (r_pkT (ot rfl) (oc rfl)) ?_
                        refine go_nil ?_
                        refine go_sop rfl rfl ?_
                        refine gM rfl rfl ?_
                        refine go_nil ?_
                        refine go_sskip rfl (w_no rfl rfl rfl rfl rfl) ?_
                        refine g_no rfl rfl rfl rfl rfl ?_
                        refine go_nil ?_
                        refine go_sskip rfl (w_no rfl rfl rfl rfl rfl) ?_
                        refine g_no rfl rfl rfl rfl rfl ?_
                        refine go_nil ?_
                        refine go_sskip rfl (w_no rfl rfl rfl rfl rfl) ?_
                        refine g_no rfl rfl rfl rfl rfl ?_
                        refine go_nil ?_
                        refine go_sskip rfl (w_no rfl rfl rfl rfl rfl) ?_
                        refine g_no rfl rfl rfl rfl rfl ?_
                        refine go_nil ?_
                        refine go_sskip rfl (w_no rfl rfl rfl rfl rfl) ?_
                        refine g_no rfl rfl rfl rfl rfl ?_
                        refine go_nil ?_
                        refine go_sskip rfl (w_no rfl rfl rfl rfl rfl) ?_
                        refine g_no rfl rfl rfl rfl rfl ?_
                        refine go_nil ?_
                        refine go_sop rfl rfl ?_
                        refine gr rfl (r_pkT (ot rfl) (oc rfl)) ?_
                        refine go_nil ?_
                        refine go_sop rfl rfl ?_
                        refine gM rfl rfl ?_
                        refine go_nil ?_
                        refine go_sskip rfl (w_no rfl rfl rfl rfl rfl) ?_
                        refine g_no rfl rfl rfl rfl rfl ?_
                        refine go_nil ?_
                        refine go_sskip rfl (w_no rfl rfl rfl rfl rfl) ?_
                        refine g_no rfl rfl rfl rfl rfl ?_
                        refine go_nil ?_
                        refine go_sskip rfl (w_no rfl rfl rfl rfl rfl) ?_
                        refine g_no rfl rfl rfl rfl rfl ?_
                        refine go_nil ?_
                        refine go_sskip rfl (w_no rfl rfl rfl rfl rfl) ?_
                        refine g_no rfl rfl rfl rfl rfl ?_
                        refine go_nil ?_
                        refine go_sskip rfl (w_no rfl rfl rfl rfl rfl) ?_
                        refine g_no rfl rfl rfl rfl rfl ?_
                        refine go_nil ?_
                        refine go_sskip rfl (w_no rfl rfl rfl rfl rfl) ?_
                        refine g_no rfl rfl rfl rfl rfl ?_
                        refine go_nil ?_
                        refine go_sop rfl rfl ?_
                        refine gr rfl (r_pkT (ot rfl) (oc rfl)) ?_
                        refine go_nil ?_
                        refine go_snil ?_
                        obtain rfl := someI hF
                        refine gs_perm (perm_of (d := []) _ [4, 5, 0, 1, 2, 3, 6] rfl) ?_
                        exact Goes.weak (J18 (q20_y0o0_3, t20_y0o0_3, rw20_y0o0_2) _ e20 w20 ⟨f20_1, f20_0⟩) (Sub.cons (Sub.cons (Sub.cons (Sub.cons (Sub.cons (Sub.cons (Sub.cons (Sub.cons (Sub.cons (Sub.cons (Sub.cons (Sub.cons (Sub.cons (Sub.cons (Sub.cons (Sub.cons (Sub.cons (Sub.cons (Sub.cons (Sub.cons (Sub.cons (Sub.cons (Sub.cons (Sub.cons (Sub.cons (Sub.cons (Sub.cons (Sub.cons (Sub.cons (Sub.cons (Sub.cons (Sub.cons (Sub.cons (Sub.cons (Sub.cons (Sub.cons (Sub.cons (Sub.cons (Sub.cons (Sub.cons (Sub.cons (Sub.cons (Sub.cons (Sub.cons (Sub.cons (Sub.cons (Sub.nil _) rfl) rfl) rfl) rfl) rfl) rfl) rfl) rfl) rfl) rfl) rfl) rfl) rfl) rfl) rfl) rfl) rfl) rfl) rfl) rfl) rfl) rfl) rfl) rfl) rfl) rfl) rfl) rfl) rfl) rfl) rfl) rfl) rfl) rfl) rfl) rfl) rfl) rfl) rfl) rfl) rfl) rfl) rfl) rfl) rfl) rfl)
                      ·
                        replace hF := ifF hb26 hF
                        refine go_re 82 (v2 := .bool false) rfl (congrArg Value.bool hb26) ?_
                        refine go_sop rfl rfl ?_
                        refine g_do rfl rfl rfl ?_
                        refine gr rfl (r_fa (ot rfl) (fa_71_2 _ _)) ?_
                        refine go_nil ?_
                        refine go_sop rfl rfl ?_
                        refine g_do rfl rfl rfl ?_
                        refine gr rfl (r_load (ot rfl) (lm_s (mem_seg 4 rfl) ag_3 rfl)) ?_
                        refine go_nil ?_
                        refine go_sop rfl rfl ?_
                        refine g_do rfl rfl rfl ?_
                        refine gr rfl (r_fa (ot rfl) (fa_71_1 _ _)) ?_
                        refine go_nil ?_
                        refine go_sop rfl rfl ?_
                        refine g_do rfl rfl rfl ?_
                        refine gr rfl (r_load (ot rfl) (lm_s (mem_seg 4 rfl) ag_3 rfl)) ?_
                        refine go_nil ?_
                        refine go_sop rfl rfl ?_
                        refine g_do rfl rfl rfl ?_
                        refine gr rfl (r_bin (ot rfl) (ot rfl) rfl) ?_
                        refine go_nil ?_
                        refine go_sop rfl rfl ?_
                        refine gr rfl (r_pkF (ot rfl) (ot rfl)) ?_
                        refine go_nil ?_
                        refine go_sop rfl rfl ?_
                        refine gM rfl rfl ?_
                        refine go_nil ?_
                        rcases Bool.eq_false_or_eq_true (decide (x11.1.H.Hor > x11.1.H.Rev)) with hb27 | hb27
                        ·
                          replace hF := ifT hb27 hF
                          refine go_re 89 (v2 := .bool true) rfl (congrArg Value.bool hb27) ?_
                          refine go_sskip rfl (w_no rfl rfl rfl rfl rfl) ?_
                          refine g_no rfl rfl rfl rfl rfl ?_
                          refine go_nil ?_
                          refine go_sskip rfl (w_no rfl rfl rfl rfl rfl) ?_
                          refine g_no rfl rfl rfl rfl rfl ?_
                          refine go_nil ?_
                          refine go_sskip rfl (w_no rfl rfl rfl rfl rfl) ?_
                          refine g_no rfl rfl rfl rfl rfl ?_
                          refine go_nil ?_
                          refine go_sskip rfl (w_no rfl rfl rfl rfl rfl) ?_
                          refine g_no rfl rfl rfl rfl rfl ?_
                          refine go_nil ?_
                          refine go_sskip rfl (w_no rfl rfl rfl rfl rfl) ?_
                          refine g_no rfl rfl rfl rfl rfl ?_
                          refine go_nil ?_
                          refine go_sskip rfl (w_no rfl rfl rfl rfl rfl) ?_
                          refine g_no rfl rfl rfl rfl rfl ?_
                          refine go_nil ?_
                          refine go_sop rfl rfl ?_
                          refine gr rfl (r_pkT (ot rfl) (oc rfl)) ?_
                          refine go_nil ?_
                          refine go_sop rfl rfl ?_
                          refine gM rfl rfl ?_
                          refine go_nil ?_
                          refine go_sskip rfl (w_no rfl rfl rfl rfl rfl) ?_
                          refine g_no rfl rfl rfl rfl rfl ?_
                          refine go_nil ?_
                          refine go_sskip rfl (w_no rfl rfl rfl rfl rfl) ?_
                          refine g_no rfl rfl rfl rfl rfl ?_
                          refine go_nil ?_
                          refine go_sskip rfl (w_no rfl rfl rfl rfl rfl) ?_
                          refine g_no rfl rfl rfl rfl rfl ?_
                          refine go_nil ?_
                          refine go_sskip rfl (w_no rfl rfl rfl rfl rfl) ?_
                          refine g_no rfl rfl rfl rfl rfl ?_
                          refine go_nil ?_
                          refine go_sskip rfl (w_no rfl rfl rfl rfl rfl) ?_
                          refine g_no rfl rfl rfl rfl rfl ?_
                          refine go_nil ?_
                          refine go_sskip rfl (w_no rfl rfl rfl rfl rfl) ?_
                          refine g_no rfl rfl rfl rfl rfl ?_
                          refine go_nil ?_
                          refine go_sop rfl rfl ?_
                          refine gr rfl (r_pkT (ot rfl) (oc rfl)) ?_
                          refine go_nil ?_
                          refine go_snil ?_
                          obtain rfl := someI hF
                          refine gs_perm (perm_of (d := []) _ [4, 5, 0, 1, 2, 3, 6] rfl) ?_
                          exact Goes.weak (J18 (q20_y0o0_3, t20_y0o0_3, rw20_y0o0_2) _ e20 w20 ⟨f20_1, f20_0⟩) (Sub.cons (Sub.cons (Sub.cons (Sub.cons (Sub.cons (Sub.cons (Sub.cons (Sub.cons (Sub.cons (Sub.cons (Sub.cons (Sub.cons (Sub.cons (Sub.cons (Sub.cons (Sub.cons (Sub.cons (Sub.cons (Sub.cons (Sub.cons (Sub.cons (Sub.cons (Sub.cons (Sub.cons (Sub.cons (Sub.cons (Sub.cons (Sub.cons (Sub.cons (Sub.cons (Sub.cons (Sub.cons (Sub.cons (Sub.cons (Sub.cons (Sub.cons (Sub.cons (Sub.cons (Sub.cons (Sub.cons (Sub.cons (Sub.cons (Sub.cons (Sub.cons (Sub.cons (Sub.cons (Sub.nil _) rfl) rfl) rfl) rfl) rfl) rfl) rfl) rfl) rfl) rfl) rfl) rfl) rfl) rfl) rfl) rfl) rfl) rfl) rfl) rfl) rfl) rfl) rfl) rfl) rfl) rfl) rfl) rfl) rfl) rfl) rfl) rfl) rfl) rfl) rfl) rfl) rfl) rfl) rfl) rfl) rfl) rfl) rfl) rfl) rfl) rfl)
                        ·
                          replace hF := ifF hb27 hF
                          refine go_re 89 (v2 := .bool false) rfl (congrArg Value.bool hb27) ?_
                          refine go_sop rfl rfl ?_
                          refine g_do rfl rfl rfl ?_
                          refine gr rfl (r_fa (ot rfl) (fa_71_1 _ _)) ?_
                          refine go_nil ?_
                          refine go_sop rfl rfl ?_
                          refine g_do rfl rfl rfl ?_
                          refine gr rfl (r_load (ot rfl) (lm_s (mem_seg 4 rfl) ag_3 rfl)) ?_
                          refine go_nil ?_
                          refine go_sop rfl rfl ?_
                          refine g_do rfl rfl rfl ?_
                          refine gr rfl (r_fa (ot rfl) (fa_71_2 _ _)) ?_
                          refine go_nil ?_
                          refine go_sop rfl rfl ?_
                          refine g_do rfl rfl rfl ?_
                          refine gr rfl (r_load (ot rfl) (lm_s (mem_seg 4 rfl) ag_3 rfl)) ?_
                          refine go_nil ?_
                          refine go_sop rfl rfl ?_
                          refine g_do rfl rfl rfl ?_
                          refine gr rfl (r_bin (ot rfl) (oc rfl) rfl) ?_
                          refine go_nil ?_
                          refine go_sop rfl rfl ?_
                          refine g_do rfl rfl rfl ?_
                          refine gr rfl (r_bin (ot rfl) (ot rfl) rfl) ?_
                          refine go_nil ?_
                          refine go_sop rfl rfl ?_
                          refine gr rfl (r_pkF (ot rfl) (ot rfl)) ?_
                          refine go_nil ?_
                          refine go_sop rfl rfl ?_
                          refine gM rfl rfl ?_
                          refine go_nil ?_
                          rcases Bool.eq_false_or_eq_true (decide (x11.1.H.Rev > (IntKind.i64.wrap (x11.1.H.Hor + 16)))) with hb28 | hb28
                          ·
                            replace hF := ifT hb28 hF
                            refine go_re 97 (v2 := .bool true) rfl (congrArg Value.bool hb28) ?_
                            refine go_sskip rfl (w_no rfl rfl rfl rfl rfl) ?_
                            refine g_no rfl rfl rfl rfl rfl ?_
                            refine go_nil ?_
                            refine go_sskip rfl (w_no rfl rfl rfl rfl rfl) ?_
                            refine g_no rfl rfl rfl rfl rfl ?_
                            refine go_nil ?_
                            refine go_sskip rfl (w_no rfl rfl rfl rfl rfl) ?_
                            refine g_no rfl rfl rfl rfl rfl ?_
                            refine go_nil ?_
                            refine go_sskip rfl (w_no rfl rfl rfl rfl rfl) ?_
                            refine g_no rfl rfl rfl rfl rfl ?_
                            refine go_nil ?_
                            refine go_sskip rfl (w_no rfl rfl rfl rfl rfl) ?_
                            refine g_no rfl rfl rfl rfl rfl ?_
                            refine go_nil ?_
                            refine go_sskip rfl (w_no rfl rfl rfl rfl rfl) ?_
                            refine g_no rfl rfl rfl rfl rfl ?_
                            refine go_nil ?_
                            refine go_sop rfl rfl ?_
                            refine gr rfl (r_pkT (ot rfl) (oc rfl)) ?_
                            refine go_nil ?_
                            refine go_snil ?_
                            obtain rfl := someI hF
                            refine gs_perm (perm_of (d := []) _ [4, 5, 0, 1, 2, 3, 6] rfl) ?_
                            exact Goes.weak (J18 (q20_y0o0_3, t20_y0o0_3, rw20_y0o0_2) _ e20 w20 ⟨f20_1, f20_0⟩) (Sub.cons (Sub.cons (Sub.cons (Sub.cons (Sub.cons (Sub.cons (Sub.cons (Sub.cons (Sub.cons (Sub.cons (Sub.cons (Sub.cons (Sub.cons (Sub.cons (Sub.cons (Sub.cons (Sub.cons (Sub.cons (Sub.cons (Sub.cons (Sub.cons (Sub.cons (Sub.cons (Sub.cons (Sub.cons (Sub.cons (Sub.cons (Sub.cons (Sub.cons (Sub.cons (Sub.cons (Sub.cons (Sub.cons (Sub.cons (Sub.cons (Sub.cons (Sub.cons (Sub.cons (Sub.cons (Sub.cons (Sub.cons (Sub.cons (Sub.cons (Sub.cons (Sub.cons (Sub.cons (Sub.nil _) rfl) rfl) rfl) rfl) rfl) rfl) rfl) rfl) rfl) rfl) rfl) rfl) rfl) rfl) rfl) rfl) rfl) rfl) rfl) rfl) rfl) rfl) rfl) rfl) rfl) rfl) rfl) rfl) rfl) rfl) rfl) rfl) rfl) rfl) rfl) rfl) rfl) rfl) rfl) rfl) rfl) rfl) rfl) rfl) rfl) rfl)
                          ·
                            replace hF := ifF hb28 hF
                            refine go_re 97 (v2 := .bool false) rfl (congrArg Value.bool hb28) ?_
                            refine go_sop rfl rfl ?_
                            refine g_do rfl rfl rfl ?_
                            refine gr rfl (r_fa (ot rfl) (fa_71_1 _ _)) ?_
                            refine go_nil ?_
                            refine go_sop rfl rfl ?_
                            refine g_do rfl rfl rfl ?_
                            refine gr rfl (r_load (ot rfl) (lm_s (mem_seg 4 rfl) ag_3 rfl)) ?_
                            refine go_nil ?_
                            refine go_sop rfl rfl ?_
                            refine g_do rfl rfl rfl ?_
                            refine gr rfl (r_fa (ot rfl) (fa_71_1 _ _)) ?_
                            refine go_nil ?_
                            refine go_sop rfl rfl ?_
                            refine g_do rfl rfl rfl ?_
                            refine gr rfl (r_load (ot rfl) (lm_s (mem_seg 6 rfl) ag_3 rfl)) ?_
                            refine go_nil ?_
                            refine go_sop rfl rfl ?_
                            refine g_do rfl rfl rfl ?_
                            refine gr rfl (r_bin (ot rfl) (oc rfl) rfl) ?_
                            refine go_nil ?_
                            refine go_sop rfl rfl ?_
                            refine g_do rfl rfl rfl ?_
                            refine gr rfl (r_bin (ot rfl) (ot rfl) rfl) ?_
                            refine go_nil ?_
                            refine go_sop rfl rfl ?_
                            refine gr rfl (r_pkF (ot rfl) (ot rfl)) ?_
                            refine go_nil ?_
                            refine go_snil ?_
                            obtain rfl := someI hF
                            refine gs_perm (perm_of (d := []) _ [4, 5, 0, 1, 2, 3, 6] rfl) ?_
                            exact Goes.weak (J18 (q20_y0o0_3, t20_y0o0_3, rw20_y0o0_2) _ e20 w20 ⟨f20_1, f20_0⟩) (Sub.cons (Sub.cons (Sub.cons (Sub.cons (Sub.cons (Sub.cons (Sub.cons (Sub.cons (Sub.cons (Sub.cons (Sub.cons (Sub.cons (Sub.cons (Sub.cons (Sub.cons (Sub.cons (Sub.cons (Sub.cons (Sub.cons (Sub.cons (Sub.cons (Sub.cons (Sub.cons (Sub.cons (Sub.cons (Sub.cons (Sub.cons (Sub.cons (Sub.cons (Sub.cons (Sub.cons (Sub.cons (Sub.cons (Sub.cons (Sub.cons (Sub.cons (Sub.cons (Sub.cons (Sub.cons (Sub.cons (Sub.cons (Sub.cons (Sub.cons (Sub.cons (Sub.cons (Sub.cons (Sub.nil _) rfl) rfl) rfl) rfl) rfl) rfl) rfl) rfl) rfl) rfl) rfl) rfl) rfl) rfl) rfl) rfl) rfl) rfl) rfl) rfl) rfl) rfl) rfl) rfl) rfl) rfl) rfl) rfl) rfl) rfl) rfl) rfl) rfl) rfl) rfl) rfl) rfl) rfl) rfl) rfl) rfl) rfl) rfl) rfl) rfl) rfl)
                ·
                  replace hF := ifF hb23 hF
                  refine go_re 62 (v2 := .bool false) rfl (congrArg Value.bool hb23) ?_
                  refine go_sskip rfl (w_no rfl rfl rfl rfl rfl) ?_
                  refine g_no rfl rfl rfl rfl rfl ?_
                  refine go_nil ?_
                  refine go_sskip rfl (w_no rfl rfl rfl rfl rfl) ?_
                  refine g_no rfl rfl rfl rfl rfl ?_
                  refine go_nil ?_
                  refine go_sskip rfl (w_no rfl rfl rfl rfl rfl) ?_
                  refine g_no rfl rfl rfl rfl rfl ?_
                  refine go_nil ?_
                  refine go_sop rfl rfl ?_
                  refine g_do rfl rfl rfl ?_
                  refine gr rfl (r_pkF (ot rfl) (oc rfl)) ?_
                  refine go_nil ?_
                  refine go_sop rfl rfl ?_
                  refine gr rfl (r_pkF (ot rfl) (ot rfl)) ?_
                  refine go_nil ?_
                  refine go_sop rfl rfl ?_
                  refine gM rfl rfl ?_
                  refine go_nil ?_
                  refine go_sop rfl rfl ?_
                  refine g_do rfl rfl rfl ?_
                  refine gr rfl (r_fa (ot rfl) (fa_71_1 _ _)) ?_
                  refine go_nil ?_
                  refine go_sop rfl rfl ?_
                  refine g_do rfl rfl rfl ?_
                  refine gr rfl (r_load (ot rfl) (lm_s (mem_seg 4 rfl) ag_3 rfl)) ?_
                  refine go_nil ?_
                  refine go_sop rfl rfl ?_
                  refine g_do rfl rfl rfl ?_
                  refine gr rfl (r_fa (ot rfl) (fa_71_1 _ _)) ?_
                  refine go_nil ?_
                  refine go_sop rfl rfl ?_
                  refine g_do rfl rfl rfl ?_
                  refine gr rfl (r_load (ot rfl) (lm_s (mem_seg 6 rfl) ag_3 rfl)) ?_
                  refine go_nil ?_
                  refine go_sop rfl rfl ?_
                  refine g_do rfl rfl rfl ?_
                  refine gr rfl (r_bin (ot rfl) (ot rfl) rfl) ?_
                  refine go_nil ?_
                  refine go_sop rfl rfl ?_
                  refine gr rfl (r_pkF (ot rfl) (ot rfl)) ?_
                  refine go_nil ?_
                  refine go_sop rfl rfl ?_
                  refine gM rfl rfl ?_
                  refine go_nil ?_
                  rcases Bool.eq_false_or_eq_true (decide (x11.1.H.Rev < y7_1)) with hb29 | hb29
                  ·
                    replace hF := ifT hb29 hF
                    refine go_re 75 (v2 := .bool true) rfl (congrArg Value.bool hb29) ?_
                    refine go_sskip rfl (w_no rfl rfl rfl rfl rfl) ?_
                    refine g_no rfl rfl rfl rfl rfl ?_
                    refine go_nil ?_
                    refine go_sskip rfl (w_no rfl rfl rfl rfl rfl) ?_
                    refine g_no rfl rfl rfl rfl rfl ?_
                    refine go_nil ?_
                    refine go_sskip rfl (w_no rfl rfl rfl rfl rfl) ?_
                    refine g_no rfl rfl rfl rfl rfl ?_
                    refine go_nil ?_
                    refine go_sskip rfl (w_no rfl rfl rfl rfl rfl) ?_
                    refine g_no rfl rfl rfl rfl rfl ?_
                    refine go_nil ?_
                    refine go_sskip rfl (w_no rfl rfl rfl rfl rfl) ?_
                    refine g_no rfl rfl rfl rfl rfl ?_
                    refine go_nil ?_
                    refine go_sop rfl rfl ?_
                    refine gr rfl (r_pkT (ot rfl) (oc rfl)) ?_
                    refine go_nil ?_
                    refine go_sop rfl rfl ?_
                    refine gM rfl rfl ?_
                    refine go_nil ?_
                    refine go_sskip rfl (w_no rfl rfl rfl rfl rfl) ?_
                    refine g_no rfl rfl rfl rfl rfl ?_
                    refine go_nil ?_
                    refine go_sskip rfl (w_no rfl rfl rfl rfl rfl) ?_
                    refine g_no rfl rfl rfl rfl rfl ?_
                    refine go_nil ?_
                    refine go_sskip rfl (w_no rfl rfl rfl rfl rfl) ?_
                    refine g_no rfl rfl rfl rfl rfl ?_
                    refine go_nil ?_
                    refine go_sskip rfl (w_no rfl rfl rfl rfl rfl) ?_
                    refine g_no rfl rfl rfl rfl rfl ?_
                    refine go_nil ?_
                    refine go_sskip rfl (w_no rfl rfl rfl rfl rfl) ?_
                    refine g_no rfl rfl rfl rfl rfl ?_
                    refine go_nil ?_
                    refine go_sop rfl rfl ?_
                    refine gr rfl (r_pkT (ot rfl) (oc rfl)) ?_
                    refine go_nil ?_
                    refine go_sop rfl rfl ?_
                    refine gM rfl rfl ?_
                    refine go_nil ?_
                    refine go_sskip rfl (w_no rfl rfl rfl rfl rfl) ?_
                    refine g_no rfl rfl rfl rfl rfl ?_
                    refine go_nil ?_
                    refine go_sskip rfl (w_no rfl rfl rfl rfl rfl) ?_
                    refine g_no rfl rfl rfl rfl rfl ?_
                    refine go_nil ?_
                    refine go_sskip rfl (w_no rfl rfl rfl rfl rfl) ?_
                    refine g_no rfl rfl rfl rfl rfl ?_
                    refine go_nil ?_
                    refine go_sskip rfl (w_no rfl rfl rfl rfl rfl) ?_
                    refine g_no rfl rfl rfl rfl rfl ?_
                    refine go_nil ?_
                    refine go_sskip rfl (w_no rfl rfl rfl rfl rfl) ?_
                    refine g_no rfl rfl rfl rfl rfl ?_
                    refine go_nil ?_
                    refine go_sskip rfl (w_no rfl rfl rfl rfl rfl) ?_
                    refine g_no rfl rfl rfl rfl rfl ?_
                    refine go_nil ?_
                    refine go_sop rfl rfl ?_
                    refine gr rfl (r_pkT (ot rfl) (oc rfl)) ?_
                    refine go_nil ?_
                    refine go_sop rfl rfl ?_
                    refine gM rfl rfl ?_
                    refine go_nil ?_
                    refine go_sskip rfl (w_no rfl rfl rfl rfl rfl) ?_
                    refine g_no rfl rfl rfl rfl rfl ?_
                    refine go_nil ?_
                    refine go_sskip rfl (w_no rfl rfl rfl rfl rfl) ?_
                    refine g_no rfl rfl rfl rfl rfl ?_
                    refine go_nil ?_
                    refine go_sskip rfl (w_no rfl rfl rfl rfl rfl) ?_
                    refine g_no rfl rfl rfl rfl rfl ?_
                    refine go_nil ?_
                    refine go_sskip rfl (w_no rfl rfl rfl rfl rfl) ?_
                    refine g_no rfl rfl rfl rfl rfl ?_
                    refine go_nil ?_
                    refine go_sskip rfl (w_no rfl rfl rfl rfl rfl) ?_
                    refine g_no rfl rfl rfl rfl rfl ?_
                    refine go_nil ?_
                    refine go_sskip rfl (w_no rfl rfl rfl rfl rfl) ?_
                    refine g_no rfl rfl rfl rfl rfl ?_
                    refine go_nil ?_
                    refine go_sop rfl rfl ?_
                    refine gr rfl (r_pkT (ot rfl) (oc rfl)) ?_
                    refine go_nil ?_
                    refine go_snil ?_
                    obtain rfl := someI hF
                    refine gs_perm (perm_of (d := []) _ [4, 5, 0, 1, 2, 3, 6] rfl) ?_
                    exact Goes.weak (J18 (q20_y0o0_3, t20_y0o0_3, rw20_y0o0_2) _ e20 w20 ⟨f20_1, f20_0⟩) (Sub.cons (Sub.cons (Sub.cons (Sub.cons (Sub.cons (Sub.cons (Sub.cons (Sub.cons (Sub.cons (Sub.cons (Sub.cons (Sub.cons (Sub.cons (Sub.cons (Sub.cons (Sub.cons (Sub.cons (Sub.cons (Sub.cons (Sub.cons (Sub.cons (Sub.cons (Sub.cons (Sub.cons (Sub.cons (Sub.cons (Sub.cons (Sub.cons (Sub.cons (Sub.cons (Sub.cons (Sub.cons (Sub.cons (Sub.cons (Sub.cons (Sub.cons (Sub.cons (Sub.cons (Sub.cons (Sub.cons (Sub.cons (Sub.cons (Sub.cons (Sub.cons (Sub.cons (Sub.cons (Sub.nil _) rfl) rfl) rfl) rfl) rfl) rfl) rfl) rfl) rfl) rfl) rfl) rfl) rfl) rfl) rfl) rfl) rfl) rfl) rfl) rfl) rfl) rfl) rfl) rfl) rfl) rfl) rfl) rfl) rfl) rfl) rfl) rfl) rfl) rfl) rfl) rfl) rfl) rfl) rfl) rfl) rfl) rfl) rfl) rfl) rfl) rfl)
                  ·
                    replace hF := ifF hb29 hF
                    refine go_re 75 (v2 := .bool false) rfl (congrArg Value.bool hb29) ?_
                    refine go_sop rfl rfl ?_
                    refine g_do rfl rfl rfl ?_
                    refine gr rfl (r_fa (ot rfl) (fa_71_2 _ _)) ?_
                    refine go_nil ?_
                    refine go_sop rfl rfl ?_
                    refine g_do rfl rfl rfl ?_
                    refine gr rfl (r_load (ot rfl) (lm_s (mem_seg 4 rfl) ag_3 rfl)) ?_
                    refine go_nil ?_
                    refine go_sop rfl rfl ?_
                    refine g_do rfl rfl rfl ?_
                    refine gr rfl (r_fa (ot rfl) (fa_71_2 _ _)) ?_
                    refine go_nil ?_
                    refine go_sop rfl rfl ?_
                    refine g_do rfl rfl rfl ?_
                    refine gr rfl (r_load (ot rfl) (lm_s (mem_seg 6 rfl) ag_3 rfl)) ?_
                    refine go_nil ?_
                    refine go_sop rfl rfl ?_
                    refine g_do rfl rfl rfl ?_
                    refine gr rfl (r_bin (ot rfl) (ot rfl) rfl) ?_
                    refine go_nil ?_
                    refine go_sop rfl rfl ?_
                    refine gr rfl (r_pkF (ot rfl) (ot rfl)) ?_
                    refine go_nil ?_
                    refine go_sop rfl rfl ?_
                    refine gM rfl rfl ?_
                    refine go_nil ?_
                    rcases Bool.eq_false_or_eq_true (decide (x11.1.H.Hor < y7_2)) with hb30 | hb30
                    ·
                      replace hF := ifT hb30 hF
                      refine go_re 82 (v2 := .bool true) rfl (congrArg Value.bool hb30) ?_
                      refine go_sskip rfl (w_no rfl rfl rfl rfl rfl) ?_
                      refine g_no rfl rfl rfl rfl rfl ?_
                      refine go_nil ?_
                      refine go_sskip rfl (w_no rfl rfl rfl rfl rfl) ?_
                      refine g_no rfl rfl rfl rfl rfl ?_
                      refine go_nil ?_
                      refine go_sskip rfl (w_no rfl rfl rfl rfl rfl) ?_
                      refine g_no rfl rfl rfl rfl rfl ?_
                      refine go_nil ?_
                      refine go_sskip rfl (w_no rfl rfl rfl rfl rfl) ?_
                      refine g_no rfl rfl rfl rfl rfl ?_
                      refine go_nil ?_
                      refine go_sskip rfl (w_no rfl rfl rfl rfl rfl) ?_
                      refine g_no rfl rfl rfl rfl rfl ?_
                      refine go_nil ?_
                      refine go_sop rfl rfl ?_
                      refine gr rfl (r_pkT (ot rfl) (oc rfl)) ?_
                      refine go_nil ?_
                      refine go_sop rfl rfl ?_
                      refine gM rfl rfl ?_
                      refine go_nil ?_
                      refine go_sskip rfl (w_no rfl rfl rfl rfl rfl) ?_
                      refine g_no rfl rfl rfl rfl rfl ?_
                      refine go_nil ?_
                      refine go_sskip rfl (w_no rfl rfl rfl rfl rfl) ?_
                      refine g_no rfl rfl rfl rfl rfl ?_
                      refine go_nil ?_
                      refine go_sskip rfl (w_no rfl rfl rfl rfl rfl) ?_
                      refine g_no rfl rfl rfl rfl rfl ?_
                      refine go_nil ?_
                      refine go_sskip rfl (w_no rfl rfl rfl rfl rfl) ?_
                      refine g_no rfl rfl rfl rfl rfl ?_
                      refine go_nil ?_
                      refine go_sskip rfl (w_no rfl rfl rfl rfl rfl) ?_
                      refine g_no rfl rfl rfl rfl rfl ?_
                      refine go_nil ?_
                      refine go_sskip rfl (w_no rfl rfl rfl rfl rfl) ?_
                      refine g_no rfl rfl rfl rfl rfl ?_
                      refine go_nil ?_
                      refine go_sop rfl rfl ?_
                      refine gr rfl (r_pkT (ot rfl) (oc rfl)) ?_
                      refine go_nil ?_
                      refine go_sop rfl rfl ?_
                      refine gM rfl rfl ?_
                      refine go_nil ?_
                      refine go_sskip rfl (w_no rfl rfl rfl rfl rfl) ?_
                      refine g_no rfl rfl rfl rfl rfl ?_
                      refine go_nil ?_
                      refine go_sskip rfl (w_no rfl rfl rfl rfl rfl) ?_
                      refine g_no rfl rfl rfl rfl rfl ?_
                      refine go_nil ?_
                      refine go_sskip rfl (w_no rfl rfl rfl rfl rfl) ?_
                      refine g_no rfl rfl rfl rfl rfl ?_
                      refine go_nil ?_
                      refine go_sskip rfl (w_no rfl rfl rfl rfl rfl) ?_
                      refine g_no rfl rfl rfl rfl rfl ?_
                      refine go_nil ?_
                      refine go_sskip rfl (w_no rfl rfl rfl rfl rfl) ?_
                      refine g_no rfl rfl rfl rfl rfl ?_
                      refine go_nil ?_
                      refine go_sskip rfl (w_no rfl rfl rfl rfl rfl) ?_
                      refine g_no rfl rfl rfl rfl rfl ?_
                      refine go_nil ?_
                      refine go_sop rfl rfl ?_
                      refine gr rfl (r_pkT (ot rfl) (oc rfl)) ?_
                      refine go_nil ?_
                      refine go_snil ?_
                      obtain rfl := someI hF
                      refine gs_perm (perm_of (d := []) _ [4, 5, 0, 1, 2, 3, 6] rfl) ?_
                      exact Goes.weak (J18 (q20_y0o0_3, t20_y0o0_3, rw20_y0o0_2) _ e20 w20 ⟨f20_1, f20_0⟩) (Sub.cons (Sub.cons (Sub.cons (Sub.cons (Sub.cons (Sub.cons (Sub.cons (Sub.cons (Sub.cons (Sub.cons (Sub.cons (Sub.cons (Sub.cons (Sub.cons (Sub.cons (Sub.cons (Sub.cons (Sub.cons (Sub.cons (Sub.cons (Sub.cons (Sub.cons (Sub.cons (Sub.cons (Sub.cons (Sub.cons (Sub.cons (Sub.cons (Sub.cons (Sub.cons (Sub.cons (Sub.cons (Sub.cons (Sub.cons (Sub.cons (Sub.cons (Sub.cons (Sub.cons (Sub.cons (Sub.cons (Sub.cons (Sub.cons (Sub.cons (Sub.cons (Sub.cons (Sub.cons (Sub.nil _) rfl) rfl) rfl) rfl) rfl) rfl) rfl) rfl) rfl) rfl) rfl) rfl) rfl) rfl) rfl) rfl) rfl) rfl) rfl) rfl) rfl) rfl) rfl) rfl) rfl) rfl) rfl) rfl) rfl) rfl) rfl) rfl) rfl) rfl) rfl) rfl) rfl) rfl) rfl) rfl) rfl) rfl) rfl) rfl) rfl) rfl)
                    ·
                      replace hF := ifF hb30 hF
                      refine go_re 82 (v2 := .bool false) rfl (congrArg Value.bool hb30) ?_
                      refine go_sop rfl rfl ?_
                      refine g_do rfl rfl rfl ?_
                      refine gr rfl (r_fa (ot rfl) (fa_71_2 _ _)) ?_
                      refine go_nil ?_
                      refine go_sop rfl rfl ?_
                      refine g_do rfl rfl rfl ?_
                      refine gr rfl (r_load (ot rfl) (lm_s (mem_seg 4 rfl) ag_3 rfl)) ?_
                      refine go_nil ?_
                      refine go_sop rfl rfl ?_
                      refine g_do rfl rfl rfl ?_
                      refine gr rfl (r_fa (ot rfl) (fa_71_1 _ _)) ?_
                      refine go_nil ?_
                      refine go_sop rfl rfl ?_
                      refine g_do rfl rfl rfl ?_
                      refine gr rfl (r_load (ot rfl) (lm_s (mem_seg 4 rfl) ag_3 rfl)) ?_
                      refine go_nil ?_
                      refine go_sop rfl rfl ?_
                      refine g_do rfl rfl rfl ?_
                      refine gr rfl (r_bin (ot rfl) (ot rfl) rfl) ?_
                      refine go_nil ?_
                      refine go_sop rfl rfl ?_
                      refine gr rfl (r_pkF (ot rfl) (ot rfl)) ?_
                      refine go_nil ?_
                      refine go_sop rfl rfl ?_
                      refine gM rfl rfl ?_
                      refine go_nil ?_
                      rcases Bool.eq_false_or_eq_true (decide (x11.1.H.Hor > x11.1.H.Rev)) with hb31 | hb31
                      ·
                        replace hF := ifT hb31 hF
                        refine go_re 89 (v2 := .bool true) rfl (congrArg Value.bool hb31) ?_
                        refine go_sskip rfl (w_no rfl rfl rfl rfl rfl) ?_
                        refine g_no rfl rfl rfl rfl rfl ?_
                        refine go_nil ?_
                        refine go_sskip rfl (w_no rfl rfl rfl rfl rfl) ?_
                        refine g_no rfl rfl rfl rfl rfl ?_
                        refine go_nil ?_
                        refine go_sskip rfl (w_no rfl rfl rfl rfl rfl) ?_
                        refine g_no rfl rfl rfl rfl rfl ?_
                        refine go_nil ?_
                        refine go_sskip rfl (w_no rfl rfl rfl rfl rfl) ?_
                        refine g_no rfl rfl rfl rfl rfl ?_
                        refine go_nil ?_
                        refine go_sskip rfl (w_no rfl rfl rfl rfl rfl) ?_
                        refine g_no rfl rfl rfl rfl rfl ?_
                        refine go_nil ?_
                        refine go_sskip rfl (w_no rfl rfl rfl rfl rfl) ?_
                        refine g_no rfl rfl rfl rfl rfl ?_
                        refine go_nil ?_
                        refine go_sop rfl rfl ?_
                        refine gr rfl (r_pkT (ot rfl) (oc rfl)) ?_
                        refine go_nil ?_
                        refine go_sop rfl rfl ?_
                        refine gM rfl rfl ?_
                        refine go_nil ?_
                        refine go_sskip rfl (w_no rfl rfl rfl rfl rfl) ?_
                        refine g_no rfl rfl rfl rfl rfl ?_
                        refine go_nil ?_
                        refine go_sskip rfl (w_no rfl rfl rfl rfl rfl) ?_
                        refine g_no rfl rfl rfl rfl rfl ?_
                        refine go_nil ?_
                        refine go_sskip rfl (w_no rfl rfl rfl rfl rfl) ?_
                        refine g_no rfl rfl rfl rfl rfl ?_
                        refine go_nil ?_
                        refine go_sskip rfl (w_no rfl rfl rfl rfl rfl) ?_
                        refine g_no rfl rfl rfl rfl rfl ?_
                        refine go_nil ?_
                        refine go_sskip rfl (w_no rfl rfl rfl rfl rfl) ?_
                        refine g_no rfl rfl rfl rfl rfl ?_
                        refine go_nil ?_
                        refine go_sskip rfl (w_no rfl rfl rfl rfl rfl) ?_
                        refine g_no rfl rfl rfl rfl rfl ?_
                        refine go_nil ?_
                        refine go_sop rfl rfl ?_
                        refine gr rfl (r_pkT (ot rfl) (oc rfl)) ?_
                        refine go_nil ?_
                        refine go_snil ?_
                        obtain rfl := someI hF
                        refine gs_perm (perm_of (d := []) _ [4, 5, 0, 1, 2, 3, 6] rfl) ?_
                        exact Goes.weak (J18 (q20_y0o0_3, t20_y0o0_3, rw20_y0o0_2) _ e20 w20 ⟨f20_1, f20_0⟩) (Sub.cons (Sub.cons (Sub.cons (Sub.cons (Sub.cons (Sub.cons (Sub.cons (Sub.cons (Sub.cons (Sub.cons (Sub.cons (Sub.cons (Sub.cons (Sub.cons (Sub.cons (Sub.cons (Sub.cons (Sub.cons (Sub.cons (Sub.cons (Sub.cons (Sub.cons (Sub.cons (Sub.cons (Sub.cons (Sub.cons (Sub.cons (Sub.cons (Sub.cons (Sub.cons (Sub.cons (Sub.cons (Sub.cons (Sub.cons (Sub.cons (Sub.cons (Sub.cons (Sub.cons (Sub.cons (Sub.cons (Sub.cons (Sub.cons (Sub.cons (Sub.cons (Sub.cons (Sub.cons (Sub.nil _) rfl) rfl) rfl) rfl) rfl) rfl) rfl) rfl) rfl) rfl) rfl) rfl) rfl) rfl) rfl) rfl) rfl) rfl) rfl) rfl) rfl) rfl) rfl) rfl) rfl) rfl) rfl) rfl) rfl) rfl) rfl) rfl) rfl) rfl) rfl) rfl) rfl) rfl) rfl) rfl) rfl) rfl) rfl) rfl) rfl) rfl)
                      ·
                        replace hF := ifF hb31 hF
                        refine go_re 89 (v2 := .bool false) rfl (congrArg Value.bool hb31) ?_
                        refine go_sop rfl rfl ?_
                        refine g_do rfl rfl rfl ?_
                        refine gr rfl (r_fa (ot rfl) (fa_71_1 _ _)) ?_
                        refine go_nil ?_
                        refine go_sop rfl rfl ?_
                        refine g_do rfl rfl rfl ?_
                        refine gr rfl (r_load (ot rfl) (lm_s (mem_seg 4 rfl) ag_3 rfl)) ?_
                        refine go_nil ?_
                        refine go_sop rfl rfl ?_
                        refine g_do rfl rfl rfl ?_
                        refine gr rfl (r_fa (ot rfl) (fa_71_2 _ _)) ?_
                        refine go_nil ?_
                        refine go_sop rfl rfl ?_
                        refine g_do rfl rfl rfl ?_
                        refine gr rfl (r_load (ot rfl) (lm_s (mem_seg 4 rfl) ag_3 rfl)) ?_
                        refine go_nil ?_
                        refine go_sop rfl rfl ?_
                        refine g_do rfl rfl rfl ?_
                        refine gr rfl (r_bin (ot rfl) (oc rfl) rfl) ?_
                        refine go_nil ?_
                        refine go_sop rfl rfl ?_
                        refine g_do rfl rfl rfl ?_
                        refine gr rfl (r_bin (ot rfl) (ot rfl) rfl) ?_
                        refine go_nil ?_
                        refine go_sop rfl rfl ?_
                        refine gr rfl (r_pkF (ot rfl) (ot rfl)) ?_
                        refine go_nil ?_
                        refine go_sop rfl rfl ?_
                        refine gM rfl rfl ?_
                        refine go_nil ?_
                        rcases Bool.eq_false_or_eq_true (decide (x11.1.H.Rev > (IntKind.i64.wrap (x11.1.H.Hor + 16)))) with hb32 | hb32
                        ·
                          replace hF := ifT hb32 hF
                          refine go_re 97 (v2 := .bool true) rfl (congrArg Value.bool hb32) ?_
                          refine go_sskip rfl (w_no rfl rfl rfl rfl rfl) ?_
                          refine g_no rfl rfl rfl rfl rfl ?_
                          refine go_nil ?_
                          refine go_sskip rfl (w_no rfl rfl rfl rfl rfl) ?_
                          refine g_no rfl rfl rfl rfl rfl ?_
                          refine go_nil ?_
                          refine go_sskip rfl (w_no rfl rfl rfl rfl rfl) ?_
                          refine g_no rfl rfl rfl rfl rfl ?_
                          refine go_nil ?_
                          refine go_sskip rfl (w_no rfl rfl rfl rfl rfl) ?_
                          refine g_no rfl rfl rfl rfl rfl ?_
                          refine go_nil ?_
                          refine go_sskip rfl (w_no rfl rfl rfl rfl rfl) ?_
                          refine g_no rfl rfl rfl rfl rfl ?_
                          refine go_nil ?_
                          refine go_sskip rfl (w_no rfl rfl rfl rfl rfl) ?_
                          refine g_no rfl rfl rfl rfl rfl ?_
                          refine go_nil ?_
                          refine go_sop rfl rfl ?_
                          refine gr rfl (r_pkT (ot rfl) (oc rfl)) ?_
                          refine go_nil ?_
                          refine go_snil ?_
                          obtain rfl := someI hF
                          refine gs_perm (perm_of (d := []) _ [4, 5, 0, 1, 2, 3, 6] rfl) ?_
                          exact Goes.weak (J18 (q20_y0o0_3, t20_y0o0_3, rw20_y0o0_2) _ e20 w20 ⟨f20_1, f20_0⟩) (Sub.cons (Sub.cons (Sub.cons (Sub.cons (Sub.cons (Sub.cons (Sub.cons (Sub.cons (Sub.cons (Sub.cons (Sub.cons (Sub.cons (Sub.cons (Sub.cons (Sub.cons (Sub.cons (Sub.cons (Sub.cons (Sub.cons (Sub.cons (Sub.cons (Sub.cons (Sub.cons (Sub.cons (Sub.cons (Sub.cons (Sub.cons (Sub.cons (Sub.cons (Sub.cons (Sub.cons (Sub.cons (Sub.cons (Sub.cons (Sub.cons (Sub.cons (Sub.cons (Sub.cons (Sub.cons (Sub.cons (Sub.cons (Sub.cons (Sub.cons (Sub.cons (Sub.cons (Sub.cons (Sub.nil _) rfl) rfl) rfl) rfl) rfl) rfl) rfl) rfl) rfl) rfl) rfl) rfl) rfl) rfl) rfl) rfl) rfl) rfl) rfl) rfl) rfl) rfl) rfl) rfl) rfl) rfl) rfl) rfl) rfl) rfl) rfl) rfl) rfl) rfl) rfl) rfl) rfl) rfl) rfl) rfl) rfl) rfl) rfl) rfl) rfl) rfl)
                        ·
                          replace hF := ifF hb32 hF
                          refine go_re 97 (v2 := .bool false) rfl (congrArg Value.bool hb32) ?_
                          refine go_sop rfl rfl ?_
                          refine g_do rfl rfl rfl ?_
                          refine gr rfl (r_fa (ot rfl) (fa_71_1 _ _)) ?_
                          refine go_nil ?_
                          refine go_sop rfl rfl ?_
                          refine g_do rfl rfl rfl ?_
                          refine gr rfl (r_load (ot rfl) (lm_s (mem_seg 4 rfl) ag_3 rfl)) ?_
                          refine go_nil ?_
                          refine go_sop rfl rfl ?_
                          refine g_do rfl rfl rfl ?_
                          refine gr rfl (r_fa (ot rfl) (fa_71_1 _ _)) ?_
                          refine go_nil ?_
                          refine go_sop rfl rfl ?_
                          refine g_do rfl rfl rfl ?_
                          refine gr rfl (r_load (ot rfl) (lm_s (mem_seg 6 rfl) ag_3 rfl)) ?_
                          refine go_nil ?_
                          refine go_sop rfl rfl ?_
                          refine g_do rfl rfl rfl ?_
                          refine gr rfl (r_bin (ot rfl) (oc rfl) rfl) ?_
                          refine go_nil ?_
                          refine go_sop rfl rfl ?_
                          refine g_do rfl rfl rfl ?_
                          refine gr rfl (r_bin (ot rfl) (ot rfl) rfl) ?_
                          refine go_nil ?_
                          refine go_sop rfl rfl ?_
                          refine gr rfl (r_pkF (ot rfl) (ot rfl)) ?_
                          refine go_nil ?_
                          refine go_snil ?_
                          obtain rfl := someI hF
                          refine gs_perm (perm_of (d := []) _ [4, 5, 0, 1, 2, 3, 6] rfl) ?_
                          exact Goes.weak (J18 (q20_y0o0_3, t20_y0o0_3, rw20_y0o0_2) _ e20 w20 ⟨f20_1, f20_0⟩) (Sub.cons (Sub.cons (Sub.cons (Sub.cons (Sub.cons (Sub.cons (Sub.cons (Sub.cons (Sub.cons (Sub.cons (Sub.cons (Sub.cons (Sub.cons (Sub.cons (Sub.cons (Sub.cons (Sub.cons (Sub.cons (Sub.cons (Sub.cons (Sub.cons (Sub.cons (Sub.cons (Sub.cons (Sub.cons (Sub.cons (Sub.cons (Sub.cons (Sub.cons (Sub.cons (Sub.cons (Sub.cons (Sub.cons (Sub.cons (Sub.cons (Sub.cons (Sub.cons (Sub.cons (Sub.cons (Sub.cons (Sub.cons (Sub.cons (Sub.cons (Sub.cons (Sub.cons (Sub.cons (Sub.nil _) rfl) rfl) rfl) rfl) rfl) rfl) rfl) rfl) rfl) rfl) rfl) rfl) rfl) rfl) rfl) rfl) rfl) rfl) rfl) rfl) rfl) rfl) rfl) rfl) rfl) rfl) rfl) rfl) rfl) rfl) rfl) rfl) rfl) rfl) rfl) rfl) rfl) rfl) rfl) rfl) rfl) rfl) rfl) rfl) rfl) rfl)
        ·
          rcases Bool.eq_false_or_eq_true (x14 == 0) with hb15 | hb15
          ·
            replace hF := ifT hb15 hF
            refine go_re 35 (v2 := .bool true) rfl (congrArg Value.bool hb15) ?_
            refine g_do rfl rfl rfl ?_
            refine gM rfl rfl ?_
            refine g_do rfl rfl rfl ?_
            refine gM rfl rfl ?_
            refine g_do rfl rfl rfl ?_
            obtain ⟨q33, row33, i33, cl33, rc33, sp33⟩ := ix (ik := .i64) (cap := c0_0) (E := EE) (((f0_0.ext e2.kn).ext e7.kn).ext e11.kn) ((getI_nat _ _).trans hx7) ut_66 sz_61 rfl
            obtain ⟨a33_0, c33_0, a33_1, c33_1, a33_2, c33_2, rfl, f33_0, f33_1, f33_2⟩ := rc33
            refine gr rfl (r_ia (ot rfl) (ot rfl) i33) ?_
            refine g_do rfl rfl rfl ?_
            refine gr rfl (r_fa (ot rfl) (fs_61_0 sp33)) ?_
            refine g_do rfl rfl rfl ?_
            refine gr rfl (r_load (ot rfl) (v := .int .i64 z7.Kind) (lo_e (fun hf kn => ld_field (r := [.int .i64 z7.Kind, .string z7.R.From, .string z7.R.To, .int .i64 z7.Rev, .slice a33_0 z7.Cmps.length c33_0, .slice a33_1 z7.Then.length c33_1, .slice a33_2 z7.Else.length c33_2]) ag_3 (kn.cellsAt cl33) rfl))) ?_
            refine g_do rfl rfl rfl ?_
            refine gr rfl (r_bin (ot rfl) (oc rfl) rfl) ?_
            refine gr rfl (r_pkT (ot rfl) (ot rfl)) ?_
            obtain rfl := someI hF
            exact Goes.weak (J16 () _ (HExt.refl _) w11 trivial) (Sub.cons (Sub.cons (Sub.cons (Sub.cons (Sub.cons (Sub.cons (Sub.cons (Sub.cons (Sub.cons (Sub.cons (Sub.cons (Sub.cons (Sub.cons (Sub.cons (Sub.cons (Sub.cons (Sub.cons (Sub.cons (Sub.cons (Sub.cons (Sub.cons (Sub.cons (Sub.cons (Sub.cons (Sub.cons (Sub.nil _) rfl) rfl) rfl) rfl) rfl) rfl) rfl) rfl) rfl) rfl) rfl) rfl) rfl) rfl) rfl) rfl) rfl) rfl) rfl) rfl) rfl) rfl) rfl) rfl) rfl)
          ·
            replace hF := ifF hb15 hF
            refine go_re 35 (v2 := .bool false) rfl (congrArg Value.bool hb15) ?_
            refine g_no rfl rfl rfl rfl rfl ?_
            refine g_no rfl rfl rfl rfl rfl ?_
            refine g_no rfl rfl rfl rfl rfl ?_
            refine g_no rfl rfl rfl rfl rfl ?_
            refine g_no rfl rfl rfl rfl rfl ?_
            refine g_no rfl rfl rfl rfl rfl ?_
            refine gr rfl (r_pkF (ot rfl) (oc rfl)) ?_
            obtain rfl := someI hF
            exact Goes.weak (J16 () _ (HExt.refl _) w11 trivial) (Sub.cons (Sub.cons (Sub.cons (Sub.cons (Sub.cons (Sub.cons (Sub.cons (Sub.cons (Sub.cons (Sub.cons (Sub.cons (Sub.cons (Sub.cons (Sub.cons (Sub.cons (Sub.cons (Sub.cons (Sub.cons (Sub.cons (Sub.cons (Sub.cons (Sub.cons (Sub.cons (Sub.cons (Sub.cons (Sub.nil _) rfl) rfl) rfl) rfl) rfl) rfl) rfl) rfl) rfl) rfl) rfl) rfl) rfl) rfl) rfl) rfl) rfl) rfl) rfl) rfl) rfl) rfl) rfl) rfl) rfl)
end Go.Proofs.Ytpfdandpmpmbiaa.V
