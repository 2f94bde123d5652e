/- Walks.
   No condition: these are laws of the clean machine and of this program. -/
import Derived.Test.YtcjcbcmapjcfnaaWa
namespace Go.Proofs.Ytcjcbcmapjcfnaa.V
open Go
set_option linter.unusedVariables false
set_option linter.unusedSimpArgs false
set_option maxRecDepth 100000
set_option maxHeartbeats 4000000
theorem s_law05_few {h : Heap} (hw : Wf h) (p0 : (List TEvent)) {a0_0 : Option Addr} {c0_0 : Nat} (f0_0 : RL R_TEvent h a0_0 c0_0 p0) {r : Bool} (hF : F_law05_few p0 = some r) :
    Ev EE 10 [.slice a0_0 p0.length c0_0] h (fun v _ => v = .bool r) := by
  unfold F_law05_few at hF
  refine ev_of hw rfl at_10 rfl rfl (go_seg0 ?_)
  refine go_seq ?_
  refine go_region ?_
  refine gAc rfl rfl ?_
  refine go_nil ?_
  refine go_seq ?_
  refine go_region ?_
  refine gM rfl rfl ?_
  refine gr rfl (r_len rfl (os1 (ot rfl) os0) (fun _ _ => ln_22)) ?_
  refine gr rfl (r_bin (ot rfl) (oc rfl) rfl) ?_
  refine gA rfl rfl ?_
  refine go_nil ?_
  obtain rfl := someI hF
  exact g_ret (rst rfl rs0) (fun h1 hf hs => ⟨hs.hext, rfl⟩)
theorem s_law05_EventFolds (n : Nat) {h : Heap} (hw : Wf h) (p0 : (List TKV)) (p1 : (List TEvent)) (p2 : TRange) {a0_0 : Option Addr} {c0_0 : Nat} {a1_0 : Option Addr} {c1_0 : Nat} (f0_0 : RL R_TKV h a0_0 c0_0 p0) (f1_0 : RL R_TEvent h a1_0 c1_0 p1) {r : Bool} (hF : F_law05_EventFolds n p0 p1 p2 = some r) :
    Ev EE 4 [.slice a0_0 p0.length c0_0, .slice a1_0 p1.length c1_0, .agg #[.string p2.From, .string p2.To]] h (fun v _ => v = .bool r) := by
  unfold F_law05_EventFolds at hF
  refine ev_of hw rfl at_4 rfl rfl (go_seg0 ?_)
  refine go_seq ?_
  refine go_region ?_
  refine gs_box rfl (ot rfl) rfl ?_; intro b5_1
  refine gAc rfl rfl ?_
  refine go_nil ?_
  refine go_seq ?_
  refine go_region ?_
  refine g_callp EE_fr rfl of os0 hb_9 (fun _ => rfl) (fun hf kn w => by exact known_evp rfl hf w) ?_
  refine gA rfl rfl ?_
  refine go_nil ?_
  refine go_seq ?_
  refine go_seq ?_
  refine go_region ?_
  refine gM rfl rfl ?_
  replace hF := obind hF
  obtain ⟨x3, hx3, hF⟩ := hF
  refine g_callp (v := .bool x3) EE_fr rfl of (os1 (ot rfl) os0) hb_10 (fun _ => rfl) (fun hf kn w => by exact s_law05_few w p1 (f1_0.ext kn) hx3) ?_
  refine gr rfl (r_un (ot rfl) rfl) ?_
  refine gM rfl rfl ?_
  refine grf rfl rfl rfl rfl (r_move (ot rfl)) ?_
  refine grf rfl rfl rfl rfl (r_len rfl (os1 (og rfl id) os0) (fun _ _ => ln_33)) ?_
  refine grf rfl rfl rfl rfl (r_bin (og rfl id) (oc rfl) rfl) ?_
  refine gr rfl (r_pickb (ot rfl) (oc rfl) (og rfl id)) ?_
  refine gM rfl rfl ?_
  replace hF := obind hF
  obtain ⟨s5, hF, hK5⟩ := hF
  refine go_joinr 4 (β := Unit) (fun s h' => True) (fun s => [(0, true, .slice a0_0 p0.length c0_0), (1, true, .slice a1_0 p1.length c1_0), (5, true, .pointer (some ⟨b5_1, 0, none⟩)), (6, true, .bool false), (7, true, .bool true), (23, true, .bool s5)]) (fun s => (List.flatten [[⟨b5_1, .cells [.string p2.From, .string p2.To] 24⟩]] : List Blk)) ?_ (fun J5 => ?_)
  ·
    rintro _ h5 e5 w5 _
    replace hF := hK5
    refine go_nil ?_
    refine g_cond (b := s5) (ot rfl) (fun hc6 => ?_) (fun hc6 => ?_)
    ·
      replace hF := ifT hc6 hF
      refine go_seq ?_
      refine go_region ?_
      refine gM rfl rfl ?_
      refine gA rfl rfl ?_
      refine go_nil ?_
      obtain rfl := someI hF
      exact g_ret (rst rfl rs0) (fun h1 hf hs => ⟨(e5.trans hs.hext), rfl⟩)
    ·
      replace hF := ifF hc6 hF
      refine go_skip ?_
      refine go_seq ?_
      refine go_region ?_
      refine gs_bslice (cs := []) rfl op0 ut_33 sz_44 zo_44 rfl rfl ?_; intro b25_7
      refine gM rfl rfl ?_
      replace hF := obind hF
      obtain ⟨x8, hx8, hF⟩ := hF
      obtain ⟨hr8, hz8_⟩ := appL_some hx8; subst x8
      obtain ⟨rw8, hw8, hq8⟩ := RL.first (f0_0.ext e5.kn) (by decide)
      refine gs_app0 (rows2 := rw8) (R := R_TKV) rfl (os1 (ot rfl) (os1 (ot rfl) os0)) rfl ut_33 sz_44 rfl (by decide) by_44 zo_44 rfl zs_33_33 rfl rfl (first_e hq8 (fun h' kn => kn.firstV hq8)) hw8 (AccR.lit _ _ _ _) hr8 (fun p8_ tl8 f8_ => ?_)
      refine gA rfl rfl ?_
      refine go_nil ?_
      refine go_seq ?_
      refine go_region ?_
      refine gM rfl rfl ?_
      refine gM rfl rfl ?_
      replace hF := obind hF
      obtain ⟨x9, hx9, hF⟩ := hF
      refine g_call EE_fr (fun _ h => by cases h; rfl) of (os1 (ot rfl) (os1 (ot rfl) os0)) hb_19 (fun hf kn w => by exact s_event_Fold n w p0 p1 ((f0_0.ext e5.kn).ext kn) ((f1_0.ext e5.kn).ext kn) hx9) ?_
      rintro v9 h9 e9 w9 ⟨a9_0, c9_0, rfl, f9_0⟩
      refine gA rfl rfl ?_
      refine go_nil ?_
      refine go_seq ?_
      refine go_regions (L := [(0, []), (1, []), (2, []), (3, []), (4, []), (5, []), (6, []), (7, []), (8, []), (9, []), (10, []), (12, []), (13, []), (11, [13]), (14, []), (15, []), (16, []), (17, []), (18, []), (19, []), (20, []), (21, []), (22, [])]) (by kernel_rfl) (by kernel_rfl) (fun _ => rfl) ?_
      refine go_sop rfl rfl ?_
      refine gM rfl rfl ?_
      refine go_nil ?_
      refine go_sop rfl rfl ?_
      refine gM rfl rfl ?_
      refine go_nil ?_
      refine go_sop rfl rfl ?_
      refine g_do rfl rfl rfl ?_
      refine gM rfl rfl ?_
      refine go_nil ?_
      refine go_sop rfl rfl ?_
      refine g_do rfl rfl rfl ?_
      refine gM rfl rfl ?_
      refine go_nil ?_
      refine go_sop rfl rfl ?_
      refine g_do rfl rfl rfl ?_
      refine gM rfl rfl ?_
      refine go_nil ?_
      refine go_sop rfl rfl ?_
      refine g_do rfl rfl rfl ?_
      replace hF := obind hF
      obtain ⟨x10, hx10, hF⟩ := hF
      refine g_call EE_fr (fun _ h => by cases h; rfl) of (os1 (ot rfl) (os1 (ot rfl) os0)) hb_21 (fun hf kn w => by exact s_ref05_Fold n w p0 p1 (((f0_0.ext e5.kn).ext e9.kn).ext kn) (((f1_0.ext e5.kn).ext e9.kn).ext kn) hx10) ?_
      rintro v10 h10 e10 w10 ⟨a10_0, c10_0, rfl, f10_0⟩
      refine go_nil ?_
      refine go_sop rfl rfl ?_
      refine g_do rfl rfl rfl ?_
      replace hF := obind hF
      obtain ⟨x11, hx11, hF⟩ := hF
      refine g_callp (v := .bool x11) EE_fr rfl of (os1 (ot rfl) (os1 (ot rfl) os0)) hb_20 (fun _ => rfl) (fun hf kn w => by exact s_ref05_KVs w x9 x10 ((f9_0.ext e10.kn).ext kn) (f10_0.ext kn) hx11) ?_
      refine go_nil ?_
      refine go_sop rfl rfl ?_
      refine gr rfl (r_pkT (ot rfl) (ot rfl)) ?_
      refine go_nil ?_
      refine go_sop rfl rfl ?_
      refine gM rfl rfl ?_
      refine go_nil ?_
      rcases Bool.eq_false_or_eq_true x11 with hb12 | hb12
      ·
        replace hF := ifT hb12 hF
        refine go_re 39 (v2 := .bool true) rfl (congrArg Value.bool hb12) ?_
        refine go_sop rfl rfl ?_
        refine g_do rfl rfl rfl ?_
        refine gM rfl rfl ?_
        refine go_nil ?_
        refine go_sop rfl rfl ?_
        refine g_do rfl rfl rfl ?_
        refine gr rfl (r_load (ot rfl) (lm_w (mem_seg 2 rfl) ag_24 sz_24 rfl)) ?_
        refine go_nil ?_
        refine go_sop rfl rfl ?_
        refine g_do rfl rfl rfl ?_
        refine gM rfl rfl ?_
        refine go_nil ?_
        refine go_sop rfl rfl ?_
        refine g_do rfl rfl rfl ?_
        refine gr rfl (r_load (ot rfl) (lm_w (mem_seg 2 rfl) ag_24 sz_24 rfl)) ?_
        refine go_nil ?_
        refine go_sopc [(13, .agg #[.string p2.From, .string p2.To])] rfl rfl rfl (rc1 rfl (r_load (ot rfl) (lm_w (mem_seg 2 rfl) ag_24 sz_24 rfl)) rc0) (vq1 (veq_agg _ _ (va1 (veq_str _ _) (va1 (veq_str _ _) (va0 _)))) vq0) rfl ?_
        refine g_do rfl rfl rfl ?_
        replace hF := obind hF
        obtain ⟨x13, hx13, hF⟩ := hF
        refine g_call EE_fr (fun _ h => by cases h; rfl) of (os1 (ot rfl) (os1 (ot rfl) os0)) hb_22 (fun hf kn w => by exact s_event_Restrict n w x9 p2 ((f9_0.ext e10.kn).ext kn) hx13) ?_
        rintro v13 h13 e13 w13 ⟨a13_0, c13_0, rfl, f13_0⟩
        refine go_nil ?_
        refine go_rck (rc1 rfl (r_load (ot rfl) (lm_w (mem_seg 2 rfl) ag_24 sz_24 rfl)) rc0) ?_
        refine go_sop rfl rfl ?_
        refine g_do rfl rfl rfl ?_
        replace hF := obind hF
        obtain ⟨x14, hx14, hF⟩ := hF
        refine g_call EE_fr (fun _ h => by cases h; rfl) of (os1 (ot rfl) (os1 (ot rfl) os0)) hb_23 (fun hf kn w => by exact s_ref05_Restrict w x9 p2 (((f9_0.ext e10.kn).ext e13.kn).ext kn) hx14) ?_
        rintro v14 h14 e14 w14 ⟨a14_0, c14_0, rfl, f14_0⟩
        refine go_nil ?_
        refine go_sop rfl rfl ?_
        refine g_do rfl rfl rfl ?_
        replace hF := obind hF
        obtain ⟨x15, hx15, hF⟩ := hF
        refine g_callp (v := .bool x15) EE_fr rfl of (os1 (ot rfl) (os1 (ot rfl) os0)) hb_20 (fun _ => rfl) (fun hf kn w => by exact s_ref05_KVs w x13 x14 ((f13_0.ext e14.kn).ext kn) (f14_0.ext kn) hx15) ?_
        refine go_nil ?_
        refine go_sop rfl rfl ?_
        refine gr rfl (r_pkT (ot rfl) (ot rfl)) ?_
        refine go_nil ?_
        refine go_sop rfl rfl ?_
        refine gM rfl rfl ?_
        refine go_nil ?_
        rcases Bool.eq_false_or_eq_true x15 with hb16 | hb16
        ·
          replace hF := ifT hb16 hF
          refine go_re 48 (v2 := .bool true) rfl (congrArg Value.bool hb16) ?_
          refine go_sop rfl rfl ?_
          refine g_do rfl rfl rfl ?_
          refine gM rfl rfl ?_
          refine go_nil ?_
          refine go_sop rfl rfl ?_
          refine g_do rfl rfl rfl ?_
          refine gM rfl rfl ?_
          refine go_nil ?_
          refine go_sop rfl rfl ?_
          refine g_do rfl rfl rfl ?_
          replace hF := obind hF
          obtain ⟨x17, hx17, hF⟩ := hF
          refine gs_callb (v := .bool x17) EE_fr rfl .z ((((f8_.ext e9.kn).ext e10.kn).ext e13.kn).ext e14.kn) rfl of (os1 (ot rfl) (os1 (ot rfl) os0)) hb_20 (fun hf kn w fb17 => by exact s_ref05_KVs w p0 (([] : List TKV) ++ p0) ((((((f0_0.ext e5.kn).ext e9.kn).ext e10.kn).ext e13.kn).ext e14.kn).ext kn) fb17 hx17) ?_
          refine go_nil ?_
          refine go_sop rfl rfl ?_
          refine gr rfl (r_pkT (ot rfl) (ot rfl)) ?_
          refine go_nil ?_
          refine go_sop rfl rfl ?_
          refine gA rfl rfl ?_
          refine go_nil ?_
          refine go_snil ?_
          obtain rfl := someI hF
          exact g_ret (rst rfl rs0) (fun h1 hf hs => ⟨(e5.trans (e9.trans (e10.trans (e13.trans (e14.trans hs.hext))))), rfl⟩)
        ·
          replace hF := ifF hb16 hF
          refine go_re 48 (v2 := .bool false) rfl (congrArg Value.bool hb16) ?_
          refine go_sskip rfl (w_no rfl rfl rfl rfl rfl) ?_
          refine g_no rfl rfl rfl rfl rfl ?_
          refine go_nil ?_
          refine go_sskip rfl (w_no rfl rfl rfl rfl rfl) ?_
          refine g_no rfl rfl rfl rfl rfl ?_
          refine go_nil ?_
          refine go_sskip rfl (w_no rfl rfl rfl rfl rfl) ?_
          refine g_no rfl rfl rfl rfl rfl ?_
          refine go_nil ?_
          refine go_sop rfl rfl ?_
          refine gr rfl (r_pkF (ot rfl) (oc rfl)) ?_
          refine go_nil ?_
          refine go_sop rfl rfl ?_
          refine gA rfl rfl ?_
          refine go_nil ?_
          refine go_snil ?_
          obtain rfl := someI hF
          exact g_ret (rst rfl rs0) (fun h1 hf hs => ⟨(e5.trans (e9.trans (e10.trans (e13.trans (e14.trans hs.hext))))), rfl⟩)
      ·
        replace hF := ifF hb12 hF
        refine go_re 39 (v2 := .bool false) rfl (congrArg Value.bool hb12) ?_
        refine go_sskip rfl (w_no rfl rfl rfl rfl rfl) ?_
        refine g_no rfl rfl rfl rfl rfl ?_
        refine go_nil ?_
        refine go_sskip rfl (w_no rfl rfl rfl rfl rfl) ?_
        refine g_no rfl rfl rfl rfl rfl ?_
        refine go_nil ?_
        refine go_sskip rfl (w_no rfl rfl rfl rfl rfl) ?_
        refine g_no rfl rfl rfl rfl rfl ?_
        refine go_nil ?_
        refine go_sskip rfl (w_no rfl rfl rfl rfl rfl) ?_
        refine g_no rfl rfl rfl rfl rfl ?_
        refine go_nil ?_
        refine go_sskip rfl (w_no rfl rfl rfl rfl rfl) ?_
        refine g_no rfl rfl rfl rfl rfl ?_
        refine go_nil ?_
        refine go_sskip rfl (w_no rfl rfl rfl rfl rfl) ?_
        refine g_no rfl rfl rfl rfl rfl ?_
        refine go_nil ?_
        refine go_sskip rfl (w_no rfl rfl rfl rfl rfl) ?_
        refine g_no rfl rfl rfl rfl rfl ?_
        refine go_nil ?_
        refine go_sop rfl rfl ?_
        refine gr rfl (r_pkF (ot rfl) (oc rfl)) ?_
        refine go_nil ?_
        refine go_sop rfl rfl ?_
        refine gM rfl rfl ?_
        refine go_nil ?_
        refine go_sskip rfl (w_no rfl rfl rfl rfl rfl) ?_
        refine g_no rfl rfl rfl rfl rfl ?_
        refine go_nil ?_
        refine go_sskip rfl (w_no rfl rfl rfl rfl rfl) ?_
        refine g_no rfl rfl rfl rfl rfl ?_
        refine go_nil ?_
        refine go_sskip rfl (w_no rfl rfl rfl rfl rfl) ?_
        refine g_no rfl rfl rfl rfl rfl ?_
        refine go_nil ?_
        refine go_sop rfl rfl ?_
        refine gr rfl (r_pkF (ot rfl) (oc rfl)) ?_
        refine go_nil ?_
        refine go_sop rfl rfl ?_
        refine gA rfl rfl ?_
        refine go_nil ?_
        refine go_snil ?_
        obtain rfl := someI hF
        exact g_ret (rst rfl rs0) (fun h1 hf hs => ⟨(e5.trans (e9.trans (e10.trans hs.hext))), rfl⟩)
  ·
    rcases Bool.eq_false_or_eq_true (bif (!x3) then true else (decide ((p0.length : Int) > 60))) with hb4 | hb4
    ·
      replace hF := ifT hb4 hF
      refine go_re 19 (v2 := .bool true) rfl (congrArg Value.bool hb4) ?_
      refine g_no rfl rfl rfl rfl rfl ?_
      refine g_no rfl rfl rfl rfl rfl ?_
      refine g_no rfl rfl rfl rfl rfl ?_
      refine gr rfl (r_pkT (ot rfl) (oc rfl)) ?_
      obtain rfl := someI hF
      exact Goes.weak (J5 () _ (HExt.refl _) hw trivial) (Sub.cons (Sub.cons (Sub.cons (Sub.cons (Sub.cons (Sub.cons (Sub.nil _) rfl) rfl) rfl) rfl) rfl) rfl)
    ·
      replace hF := ifF hb4 hF
      refine go_re 19 (v2 := .bool false) rfl (congrArg Value.bool hb4) ?_
      refine g_do rfl rfl rfl ?_
      refine gM rfl rfl ?_
      refine g_do rfl rfl rfl ?_
      replace hF := obind hF
      obtain ⟨x18, hx18, hF⟩ := hF
      refine g_callp (v := .bool x18) EE_fr rfl of (os1 (ot rfl) os0) hb_18 (fun _ => rfl) (fun hf kn w => by exact s_ref05_Map w p0 (f0_0.ext kn) hx18) ?_
      refine g_do rfl rfl rfl ?_
      refine gr rfl (r_un (ot rfl) rfl) ?_
      refine gr rfl (r_pkF (ot rfl) (ot rfl)) ?_
      obtain rfl := someI hF
      exact Goes.weak (J5 () _ (HExt.refl _) hw trivial) (Sub.cons (Sub.cons (Sub.cons (Sub.cons (Sub.cons (Sub.cons (Sub.nil _) rfl) rfl) rfl) rfl) rfl) rfl)
end Go.Proofs.Ytcjcbcmapjcfnaa.V
