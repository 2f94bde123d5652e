/- Walks.
   No condition: these are laws of the clean machine and of this program. -/
import Derived.Test.YtpfdandpmpmbiaaPT
import Derived.Test.YtpfdandpmpmbiaaWs
import Derived.Test.YtpfdandpmpmbiaaWt
import Derived.Test.YtpfdandpmpmbiaaWo
namespace Go.Proofs.Ytpfdandpmpmbiaa.V
open Go
set_option linter.unusedVariables false
set_option linter.unusedSimpArgs false
set_option maxRecDepth 100000
set_option maxHeartbeats 4000000
theorem s_law07_TxnChanges (n : Nat) {h : Heap} (hw : Wf h) (p0 : TReq) (p1 : (List TOp)) {a0_4 : Option Addr} {c0_4 : Nat} {a0_5 : Option Addr} {c0_5 : Nat} {a0_6 : Option Addr} {c0_6 : Nat} {a1_0 : Option Addr} {c1_0 : Nat} (f0_4 : RL R_TCmp h a0_4 c0_4 p0.Cmps) (f0_5 : RL R_TOp h a0_5 c0_5 p0.Then) (f0_6 : RL R_TOp h a0_6 c0_6 p0.Else) (f1_0 : RL R_TOp h a1_0 c1_0 p1) {r : Bool} (hF : F_law07_TxnChanges n p0 p1 = some r) :
    Ev EE 7 [.agg #[.int .i64 p0.Kind, .string p0.R.From, .string p0.R.To, .int .i64 p0.Rev, .slice a0_4 p0.Cmps.length c0_4, .slice a0_5 p0.Then.length c0_5, .slice a0_6 p0.Else.length c0_6], .slice a1_0 p1.length c1_0] h (fun v _ => v = .bool r) := by
  unfold F_law07_TxnChanges at hF
  refine ev_of hw rfl at_7 rfl rfl (go_seg0 ?_)
  refine go_seq ?_
  refine go_region ?_
  refine gs_box rfl (ot rfl) rfl ?_; intro b2_1
  refine gAc rfl rfl ?_
  refine go_nil ?_
  refine go_seq ?_
  refine go_region ?_
  refine g_callp EE_fr rfl of os0 hb_27 (fun _ => rfl) (fun hf kn w => by exact known_evp rfl hf w) ?_
  refine gA rfl rfl ?_
  refine go_nil ?_
  refine go_seq ?_
  refine go_seq ?_
  refine go_region ?_
  refine gr rfl (r_load (ot rfl) (lm_w (mem_seg 0 rfl) ag_61 sz_61 rfl)) ?_
  replace hF := obind hF
  obtain ⟨x3, hx3, hF⟩ := hF
  refine g_callp (v := .int .i64 x3) EE_fr rfl of (os1 (ot rfl) os0) hb_28 (fun _ => rfl) (fun hf kn w => by exact s_txn_May w p0 (f0_4.ext kn) (f0_5.ext kn) (f0_6.ext kn) hx3) ?_
  refine gr rfl (r_bin (ot rfl) (oc rfl) rfl) ?_
  refine gM rfl rfl ?_
  refine grf rfl rfl rfl rfl (r_fa (ot rfl) (fa_61_0 _ _)) ?_
  refine grf rfl rfl rfl rfl (r_load (og rfl id) (lm_s (mem_seg 0 rfl) ag_3 rfl)) ?_
  refine grf rfl rfl rfl rfl (r_bin (og rfl id) (oc rfl) rfl) ?_
  refine gr rfl (r_pickb (ot rfl) (oc rfl) (og rfl id)) ?_
  refine gM rfl rfl ?_
  refine grf rfl rfl rfl rfl (r_move (ot rfl)) ?_
  refine grf rfl rfl rfl rfl (r_len rfl (os1 (og rfl id) os0) (fun _ _ => ln_39)) ?_
  refine grf rfl rfl rfl rfl (r_bin (og rfl id) (oc rfl) rfl) ?_
  refine gr rfl (r_pickb (ot rfl) (oc rfl) (og rfl id)) ?_
  refine go_nil ?_
  refine g_cond (b := (bif (bif (x3 != 0) then true else (p0.Kind != 1)) then true else (decide ((p1.length : Int) > 20)))) (ot rfl) (fun hc4 => ?_) (fun hc4 => ?_)
  ·
    replace hF := ifT hc4 hF
    refine go_seq ?_
    refine go_region ?_
    refine gM rfl rfl ?_
    refine gA rfl rfl ?_
    refine go_nil ?_
    obtain rfl := someI hF
    exact g_ret (rst rfl rs0) (fun h1 hf hs => ⟨hs.hext, rfl⟩)
  ·
    replace hF := ifF hc4 hF
    refine go_skip ?_
    refine go_seq ?_
    refine go_region ?_
    replace hF := obind hF
    obtain ⟨x5, hx5, hF⟩ := hF
    refine gs_call EE_fr hw .nil (fun _ h => by cases h; rfl) of os0 hb_29 (by exact s_hist_New hw   hx5) ?_
    rintro v5 S5 h5 e5 w5 ⟨b5_w0, b5_w0m2, rw5_w0_2, q5_w0_3, t5_w0_3, rfl, rfl, f5_0, f5_1⟩
    simp only [List.cons_append, List.nil_append]
    refine gA rfl rfl ?_
    refine go_nil ?_
    refine go_seq ?_
    refine go_region ?_
    refine gM rfl rfl ?_
    refine gM rfl rfl ?_
    replace hF := obind hF
    obtain ⟨x6, hx6, hF⟩ := hF
    refine gs_call EE_fr w5 (.cons .z (.cons .z (.cons .z .nil))) (fun _ h => by cases h; rfl) of (os1 (ot rfl) (os1 (ot rfl) os0)) hb_23 (by exact s_hist_Hist_Apply w5 x5 p1 f5_0 f5_1 (f1_0.ext e5.kn) hx6) ?_
    rintro v6 S6 h6 e6 w6 ⟨rw6_y0_2, q6_y0_3, t6_y0_3, a6_0, c6_0, rfl, rfl, f6_0, f6_1, f6_2⟩
    simp only [List.cons_append, List.nil_append]
    refine go_nil ?_
    refine go_seq ?_
    refine go_region ?_
    refine gM rfl rfl ?_
    refine gM rfl rfl ?_
    replace hF := obind hF
    obtain ⟨x7, hx7, hF⟩ := hF
    refine gs_call EE_fr w6 (.cons .z (.cons .z (.cons .z .nil))) (fun _ h => by cases h; rfl) of (os1 (ot rfl) os0) hb_17 (by exact s_hist_Hist_Rev w6 (⟨x6.2.bounds_rev, x6.2.bounds_hor, x6.2.keys, x6.2.rows⟩ : Ohist_Hist) f6_0 f6_1 hx7) ?_
    rintro v7 S7 h7 e7 w7 ⟨rw7_y0_2, q7_y0_3, t7_y0_3, rfl, rfl, f7_0, f7_1⟩
    simp only [List.cons_append, List.nil_append]
    refine gr rfl (r_build op0 rfl) ?_
    replace hF := obind hF
    obtain ⟨x8, hx8, hF⟩ := hF
    refine gs_call EE_fr w7 (.cons .z (.cons .z (.cons .z .nil))) (fun _ h => by cases h; rfl) of (os1 (ot rfl) (os1 (ot rfl) (os1 (ot rfl) os0))) hb_18 (by exact s_hist_Hist_At n w7 (⟨x7.2.bounds_rev, x7.2.bounds_hor, x7.2.keys, x7.2.rows⟩ : Ohist_Hist) x7.1 (⟨ByteArray.empty, ByteArray.empty⟩ : TRange) f7_0 f7_1 hx8) ?_
    rintro v8 S8 h8 e8 w8 ⟨rw8_y0_2, q8_y0_3, t8_y0_3, a8_0, c8_0, rfl, rfl, f8_0, f8_1, f8_2⟩
    simp only [List.cons_append, List.nil_append]
    refine gM rfl rfl ?_
    refine gE rfl rfl rfl ?_
    refine gE rfl rfl rfl ?_
    refine gA rfl rfl ?_
    refine gA rfl rfl ?_
    refine go_nil ?_
    refine go_seq ?_
    refine go_region ?_
    refine gM rfl rfl ?_
    refine gr rfl (r_load (ot rfl) (lm_w (mem_seg 3 rfl) ag_61 sz_61 rfl)) ?_
    replace hF := obind hF
    obtain ⟨x9, hx9, hF⟩ := hF
    refine g_call EE_fr (fun _ h => by cases h; rfl) of (os1 (ot rfl) (os1 (ot rfl) os0)) hb_30 (fun hf kn w => by exact s_txn_Plan n w x8.1 p0 (f8_2.ext kn) (((((f0_4.ext e5.kn).ext e6.kn).ext e7.kn).ext e8.kn).ext kn) (((((f0_5.ext e5.kn).ext e6.kn).ext e7.kn).ext e8.kn).ext kn) (((((f0_6.ext e5.kn).ext e6.kn).ext e7.kn).ext e8.kn).ext kn) hx9) ?_
    rintro v9 h9 e9 w9 ⟨a9_0, c9_0, rfl, f9_0⟩
    refine gM rfl rfl ?_
    refine gE rfl rfl rfl ?_
    refine gE rfl rfl rfl ?_
    refine gA rfl rfl ?_
    refine gA rfl rfl ?_
    refine go_nil ?_
    refine go_seq ?_
    refine go_seq ?_
    refine go_region ?_
    refine gAc rfl rfl ?_
    refine go_nil ?_
    replace hF := obind hF
    obtain ⟨s10, hF, hK10⟩ := hF
    refine go_joinc (β := (Unit)) (fun s h' => s10 = .go s) (fun s => [(4, true, .bool false), (5, true, .bool true), (6, true, .pointer (some ⟨b5_w0, 0, none⟩)), (10, true, .slice a9_0 x9.2.length c9_0)]) (fun s => (List.flatten [[⟨b5_w0, .cells [.int .i64 x8.2.2.bounds_rev, .int .i64 x8.2.2.bounds_hor, .map (some b5_w0m2), .slice q8_y0_3 x8.2.2.rows.length x8.2.2.rows.length] 100⟩], [⟨b5_w0m2, .map (encM kS id rw8_y0_2)⟩], t8_y0_3, [⟨b2_1, .cells [.int .i64 p0.Kind, .string p0.R.From, .string p0.R.To, .int .i64 p0.Rev, .slice a0_4 p0.Cmps.length c0_4, .slice a0_5 p0.Then.length c0_5, .slice a0_6 p0.Else.length c0_6] 61⟩]] : List Blk)) ?_ (fun J10 => ?_)
    ·
      rintro _ h10 e10 w10 hs10
      subst hs10
      replace hF := lpgo hK10
      refine go_seq ?_
      refine go_region ?_
      refine gM rfl rfl ?_
      refine gM rfl rfl ?_
      replace hF := obind hF
      obtain ⟨x11, hx11, hF⟩ := hF
      refine gs_call EE_fr w10 (.cons .z (.cons .z (.cons .z .nil))) (fun _ h => by cases h; rfl) of (os1 (ot rfl) (os1 (ot rfl) os0)) hb_23 (by exact s_hist_Hist_Apply w10 (⟨x8.2.2.bounds_rev, x8.2.2.bounds_hor, x8.2.2.keys, x8.2.2.rows⟩ : Ohist_Hist) x9.2 ((f8_0.ext e9.kn).ext e10.kn) ((f8_1.ext e9.kn).ext e10.kn) (f9_0.ext e10.kn) hx11) ?_
      rintro v11 S11 h11 e11 w11 ⟨rw11_y0_2, q11_y0_3, t11_y0_3, a11_0, c11_0, rfl, rfl, f11_0, f11_1, f11_2⟩
      simp only [List.cons_append, List.nil_append]
      refine gA rfl rfl ?_
      refine go_nil ?_
      refine go_seq ?_
      refine go_region ?_
      refine gM rfl rfl ?_
      refine gM rfl rfl ?_
      refine g_do rfl rfl rfl ?_
      refine gM rfl rfl ?_
      refine g_do rfl rfl rfl ?_
      refine gr rfl (r_len rfl (os1 (ot rfl) os0) (fun _ _ => ln_50)) ?_
      refine g_do rfl rfl rfl ?_
      refine gM rfl rfl ?_
      refine g_do rfl rfl rfl ?_
      refine gr rfl (r_len rfl (os1 (ot rfl) os0) (fun _ _ => ln_39)) ?_
      refine g_do rfl rfl rfl ?_
      refine gr rfl (r_bin (ot rfl) (ot rfl) rfl) ?_
      refine gr rfl (r_pkT (ot rfl) (ot rfl)) ?_
      refine gA rfl rfl ?_
      refine go_nil ?_
      obtain rfl := someI hF
      exact g_ret (rst rfl rs0) (fun h1 hf hs => ⟨(e5.trans (e6.trans (e7.trans (e8.trans (e9.trans (e10.trans (e11.trans hs.hext))))))), rfl⟩)
    ·
      refine go_block ?_
      refine go_loop (α := (List TOp) × Nat × Heap) (fun a => a.1 = List.drop a.2.1 x9.2 ∧ HExt h9 a.2.2 ∧ Wf a.2.2 ∧ F_law07_TxnChanges_L1 x8 a.1 a.2.1 = some s10) (fun a => a.1.length) (fun a => [(4, true, .bool false), (5, true, .bool true), (6, true, .pointer (some ⟨b5_w0, 0, none⟩)), (7, true, .slice a8_0 x8.1.length c8_0), (10, true, .slice a9_0 x9.2.length c9_0), (11, true, .int .i64 (a.2.1 : Int))]) (fun a => (List.flatten [[⟨b5_w0, .cells [.int .i64 x8.2.2.bounds_rev, .int .i64 x8.2.2.bounds_hor, .map (some b5_w0m2), .slice q8_y0_3 x8.2.2.rows.length x8.2.2.rows.length] 100⟩], [⟨b5_w0m2, .map (encM kS id rw8_y0_2)⟩], t8_y0_3, [⟨b2_1, .cells [.int .i64 p0.Kind, .string p0.R.From, .string p0.R.To, .int .i64 p0.Rev, .slice a0_4 p0.Cmps.length c0_4, .slice a0_5 p0.Then.length c0_5, .slice a0_6 p0.Else.length c0_6] 61⟩]] : List Blk)) (fun a => a.2.2) ?_ (x9.2, 0, h9) ⟨rfl, HExt.refl _, w9, hF⟩ (Sub.cons (Sub.cons (Sub.cons (Sub.cons (Sub.cons (Sub.cons (Sub.nil _) rfl) rfl) rfl) rfl) rfl) rfl) rfl rfl
      rintro ⟨r12, i12, h12⟩ ⟨hr12, e12, w12, hF⟩ ih12
      rcases r12 with _ | ⟨z12, r12⟩
      ·
        have hi12 := drop_nil hr12
        rw [F_law07_TxnChanges_L1.eq_1] at hF
        refine go_seq ?_
        refine go_seq ?_
        refine go_region ?_
        refine gM rfl rfl ?_
        refine gM rfl rfl ?_
        refine gr rfl (r_len rfl (os1 (ot rfl) os0) (fun _ _ => ln_39)) ?_
        refine gr rfl (r_bin (ot rfl) (ot rfl) rfl) ?_
        refine go_cast (.bool false) (congrArg Value.bool (decide_eq_false hi12)) ?_
        refine go_nil ?_
        refine g_cond (b := false) (ot rfl) (fun hc13 => ?_) (fun hc13 => ?_)
        · cases hc13
        refine go_exit rfl ?_
        obtain rfl := someI hF
        exact Goes.weak (J10 () _ e12 w12 rfl) (Sub.cons (Sub.cons (Sub.cons (Sub.cons (Sub.nil _) rfl) rfl) rfl) rfl)
      ·
        obtain ⟨hi12, hx12, hr12⟩ := drop_cons hr12
        have hb12 := (f9_0.ext e12.kn).1
        rw [F_law07_TxnChanges_L1.eq_2] at hF
        refine go_seq ?_
        refine go_seq ?_
        refine go_region ?_
        refine gM rfl rfl ?_
        refine gM rfl rfl ?_
        refine gr rfl (r_len rfl (os1 (ot rfl) os0) (fun _ _ => ln_39)) ?_
        refine gr rfl (r_bin (ot rfl) (ot rfl) rfl) ?_
        refine go_cast (.bool true) (congrArg Value.bool (decide_eq_true (Int.ofNat_lt.mpr hi12))) ?_
        refine go_nil ?_
        refine g_cond (b := true) (ot rfl) (fun hc14 => ?_) (fun hc14 => ?_)
        rotate_left
        · cases hc14
        refine go_skip ?_
        refine go_seq ?_
        refine go_block ?_
        refine go_seq ?_
        refine go_region ?_
        refine gM rfl rfl ?_
        refine gM rfl rfl ?_
        refine gM rfl rfl ?_
        obtain ⟨q15, row15, i15, cl15, rc15, sp15⟩ := ix (ik := .i64) (cap := c9_0) (E := EE) (f9_0.ext e12.kn) ((getI_nat _ _).trans hx12) ut_39 sz_45 rfl
        obtain rfl := rc15
        refine gr rfl (r_ia (ot rfl) (ot rfl) i15) ?_
        refine gr rfl (r_fa (ot rfl) (fs_45_0 sp15)) ?_
        refine gr rfl (r_load (ot rfl) (v := .string z12.Key) (lo_e (fun hf kn => ld_field (r := [.string z12.Key, .string z12.Val, .bool z12.Del]) ag_9 (kn.cellsAt cl15) rfl))) ?_
        replace hF := obind hF
        obtain ⟨x16, hx16, hF⟩ := hF
        refine g_callp (v := .tuple #[.agg #[.string x16.1.Key, .string x16.1.Val, .int .i64 x16.1.Rev], .bool x16.2]) EE_fr rfl of (os1 (ot rfl) (os1 (ot rfl) os0)) hb_22 (fun _ => rfl) (fun hf kn w => by exact s_ref06_Get w x8.1 z12.Key (((f8_2.ext e9.kn).ext e12.kn).ext kn) hx16) ?_
        refine gM rfl rfl ?_
        refine gE rfl rfl rfl ?_
        refine gE rfl rfl rfl ?_
        refine gs_alloc rfl zo_47 rfl ?_; intro b12_17
        refine gs_store (ot rfl) (ot rfl) sz_47 rfl rfl rfl rfl rfl .z ?_
        refine gA rfl rfl ?_
        refine go_nil ?_
        refine go_seq ?_
        refine go_region ?_
        refine gM rfl rfl ?_
        refine gM rfl rfl ?_
        obtain ⟨q18, row18, i18, cl18, rc18, sp18⟩ := ix (ik := .i64) (cap := c9_0) (E := EE) (f9_0.ext e12.kn) ((getI_nat _ _).trans hx12) ut_39 sz_45 rfl
        obtain rfl := rc18
        refine gr rfl (r_ia (ot rfl) (ot rfl) i18) ?_
        refine gr rfl (r_fa (ot rfl) (fs_45_2 sp18)) ?_
        refine gr rfl (r_load (ot rfl) (v := .bool z12.Del) (lo_e (fun hf kn => ld_field (r := [.string z12.Key, .string z12.Val, .bool z12.Del]) ag_4 (kn.cellsAt cl18) rfl))) ?_
        refine gM rfl rfl ?_
        refine grt rfl rfl rfl rfl (r_move (ot rfl)) ?_
        refine grt rfl rfl rfl rfl (r_un (og rfl id) rfl) ?_
        refine gr rfl (r_pickb (ot rfl) (og rfl id) (oc rfl)) ?_
        refine go_nil ?_
        refine g_cond (b := (bif z12.Del then (!x16.2) else false)) (ot rfl) (fun hc19 => ?_) (fun hc19 => ?_)
        ·
          replace hF := ifT hc19 hF
          refine go_seq ?_
          refine go_region ?_
          refine gAc rfl rfl ?_
          refine go_nil ?_
          obtain rfl := someI hF
          obtain rfl := someI hK10
          exact g_ret (rst rfl rs0) (fun h1 hf hs => ⟨(e5.trans (e6.trans (e7.trans (e8.trans (e9.trans (e12.trans hs.hext)))))), rfl⟩)
        ·
          replace hF := ifF hc19 hF
          refine go_skip ?_
          refine go_endb ?_
          refine go_region ?_
          refine gM rfl rfl ?_
          refine gr rfl (r_bin (ot rfl) (oc rfl) rfl) ?_
          refine gA rfl rfl ?_
          refine go_nil ?_
          refine gs_sub (.cons _ (.cons_cons _ (.cons_cons _ (.cons_cons _ (.cons_cons _ (.refl _)))))) ?_
          refine go_re 11 (v2 := .int .i64 ((i12 + 1 : Nat) : Int)) rfl (wrap_succ hi12 hb12) ?_
          exact Goes.weak (ih12 (r12, i12 + 1, h12) ⟨hr12, e12, w12, hF⟩ (Nat.lt_succ_self _)) (Sub.cons (Sub.cons (Sub.cons (Sub.cons (Sub.cons (Sub.cons (Sub.nil _) rfl) rfl) rfl) rfl) rfl) rfl)
end Go.Proofs.Ytpfdandpmpmbiaa.V
