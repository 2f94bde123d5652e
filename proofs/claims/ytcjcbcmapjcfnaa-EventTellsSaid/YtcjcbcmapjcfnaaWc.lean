/- Walks.
   No condition: these are laws of the clean machine and of this program. -/
import Derived.Test.YtcjcbcmapjcfnaaWb
namespace Go.Proofs.Ytcjcbcmapjcfnaa.V
open Go
set_option linter.unusedVariables false
set_option linter.unusedSimpArgs false
set_option maxRecDepth 100000
set_option maxHeartbeats 4000000
theorem s_law05_EventRange (n : Nat) {h : Heap} (hw : Wf h) (p0 : (List TKV)) (p1 : (List TEvent)) (p2 : TRange) {a0_0 : Option Addr} {c0_0 : Nat} {a1_0 : Option Addr} {c1_0 : Nat} (f0_0 : RL R_TKV h a0_0 c0_0 p0) (f1_0 : RL R_TEvent h a1_0 c1_0 p1) {r : Bool} (hF : F_law05_EventRange n p0 p1 p2 = some r) :
    Ev EE 6 [.slice a0_0 p0.length c0_0, .slice a1_0 p1.length c1_0, .agg #[.string p2.From, .string p2.To]] h (fun v _ => v = .bool r) := by
  unfold F_law05_EventRange at hF
  refine ev_of hw rfl at_6 rfl rfl (go_seg0 ?_)
  refine go_seq ?_
  refine go_region ?_
  refine gs_box rfl (ot rfl) rfl ?_; intro b5_1
  refine gAc rfl rfl ?_
  refine go_nil ?_
  refine go_seq ?_
  refine go_region ?_
  refine g_callp EE_fr rfl of os0 hb_9 (fun _ => rfl) (fun hf kn w => by exact known_evp rfl hf w) ?_
  refine gA rfl rfl ?_
  refine go_nil ?_
  refine go_seq ?_
  refine go_seq ?_
  refine go_region ?_
  refine gM rfl rfl ?_
  replace hF := obind hF
  obtain ⟨x3, hx3, hF⟩ := hF
  refine g_callp (v := .bool x3) EE_fr rfl of (os1 (ot rfl) os0) hb_10 (fun _ => rfl) (fun hf kn w => by exact s_law05_few w p1 (f1_0.ext kn) hx3) ?_
  refine gr rfl (r_un (ot rfl) rfl) ?_
  refine gM rfl rfl ?_
  refine grf rfl rfl rfl rfl (r_move (ot rfl)) ?_
  refine grf rfl rfl rfl rfl (r_len rfl (os1 (og rfl id) os0) (fun _ _ => ln_33)) ?_
  refine grf rfl rfl rfl rfl (r_bin (og rfl id) (oc rfl) rfl) ?_
  refine gr rfl (r_pickb (ot rfl) (oc rfl) (og rfl id)) ?_
  refine gM rfl rfl ?_
  replace hF := obind hF
  obtain ⟨s5, hF, hK5⟩ := hF
  refine go_joinr 4 (β := Unit) (fun s h' => True) (fun s => [(0, true, .slice a0_0 p0.length c0_0), (1, true, .slice a1_0 p1.length c1_0), (5, true, .pointer (some ⟨b5_1, 0, none⟩)), (6, true, .bool false), (7, true, .bool true), (23, true, .bool s5)]) (fun s => (List.flatten [[⟨b5_1, .cells [.string p2.From, .string p2.To] 24⟩]] : List Blk)) ?_ (fun J5 => ?_)
  ·
    rintro _ h5 e5 w5 _
    replace hF := hK5
    refine go_nil ?_
    refine g_cond (b := s5) (ot rfl) (fun hc6 => ?_) (fun hc6 => ?_)
    ·
      replace hF := ifT hc6 hF
      refine go_seq ?_
      refine go_region ?_
      refine gM rfl rfl ?_
      refine gA rfl rfl ?_
      refine go_nil ?_
      obtain rfl := someI hF
      exact g_ret (rst rfl rs0) (fun h1 hf hs => ⟨(e5.trans hs.hext), rfl⟩)
    ·
      replace hF := ifF hc6 hF
      refine go_skip ?_
      refine go_seq ?_
      refine go_regions (L := [(0, []), (1, []), (3, []), (2, [3]), (4, []), (5, [])]) (by kernel_rfl) (by kernel_rfl) (fun _ => rfl) ?_
      refine go_sop rfl rfl ?_
      refine gM rfl rfl ?_
      refine go_nil ?_
      refine go_sop rfl rfl ?_
      refine gM rfl rfl ?_
      refine go_nil ?_
      refine go_sop rfl rfl ?_
      refine gr rfl (r_load (ot rfl) (lm_w (mem_seg 0 rfl) ag_24 sz_24 rfl)) ?_
      refine go_nil ?_
      refine go_sopc [(3, .agg #[.string p2.From, .string p2.To])] rfl rfl rfl (rc1 rfl (r_load (ot rfl) (lm_w (mem_seg 0 rfl) ag_24 sz_24 rfl)) rc0) (vq1 (veq_agg _ _ (va1 (veq_str _ _) (va1 (veq_str _ _) (va0 _)))) vq0) rfl ?_
      replace hF := obind hF
      obtain ⟨x7, hx7, hF⟩ := hF
      refine g_call EE_fr (fun _ h => by cases h; rfl) of (os1 (ot rfl) (os1 (ot rfl) os0)) hb_19 (fun hf kn w => by exact s_event_Fold n w p0 p1 ((f0_0.ext e5.kn).ext kn) ((f1_0.ext e5.kn).ext kn) hx7) ?_
      rintro v7 h7 e7 w7 ⟨a7_0, c7_0, rfl, f7_0⟩
      refine go_nil ?_
      refine go_rck (rc1 rfl (r_load (ot rfl) (lm_w (mem_seg 0 rfl) ag_24 sz_24 rfl)) rc0) ?_
      refine go_sop rfl rfl ?_
      replace hF := obind hF
      obtain ⟨x8, hx8, hF⟩ := hF
      refine g_call EE_fr (fun _ h => by cases h; rfl) of (os1 (ot rfl) (os1 (ot rfl) os0)) hb_22 (fun hf kn w => by exact s_event_Restrict n w x7 p2 (f7_0.ext kn) hx8) ?_
      rintro v8 h8 e8 w8 ⟨a8_0, c8_0, rfl, f8_0⟩
      refine go_nil ?_
      refine go_sop rfl rfl ?_
      refine gA rfl rfl ?_
      refine go_nil ?_
      refine go_snil ?_
      refine go_seq ?_
      refine go_regions (L := [(0, []), (1, []), (3, []), (4, []), (2, [4]), (5, []), (6, []), (7, [])]) (by kernel_rfl) (by kernel_rfl) (fun _ => rfl) ?_
      refine go_sop rfl rfl ?_
      refine gM rfl rfl ?_
      refine go_nil ?_
      refine go_sop rfl rfl ?_
      refine gr rfl (r_load (ot rfl) (lm_w (mem_seg 0 rfl) ag_24 sz_24 rfl)) ?_
      refine go_nil ?_
      refine go_sop rfl rfl ?_
      refine gM rfl rfl ?_
      refine go_nil ?_
      refine go_sop rfl rfl ?_
      refine gr rfl (r_load (ot rfl) (lm_w (mem_seg 0 rfl) ag_24 sz_24 rfl)) ?_
      refine go_nil ?_
      refine go_sopc [(4, .agg #[.string p2.From, .string p2.To])] rfl rfl rfl (rc1 rfl (r_load (ot rfl) (lm_w (mem_seg 0 rfl) ag_24 sz_24 rfl)) rc0) (vq1 (veq_agg _ _ (va1 (veq_str _ _) (va1 (veq_str _ _) (va0 _)))) vq0) rfl ?_
      replace hF := obind hF
      obtain ⟨x9, hx9, hF⟩ := hF
      refine g_call EE_fr (fun _ h => by cases h; rfl) of (os1 (ot rfl) (os1 (ot rfl) os0)) hb_22 (fun hf kn w => by exact s_event_Restrict n w p0 p2 ((((f0_0.ext e5.kn).ext e7.kn).ext e8.kn).ext kn) hx9) ?_
      rintro v9 h9 e9 w9 ⟨a9_0, c9_0, rfl, f9_0⟩
      refine go_nil ?_
      refine go_rck (rc1 rfl (r_load (ot rfl) (lm_w (mem_seg 0 rfl) ag_24 sz_24 rfl)) rc0) ?_
      refine go_sop rfl rfl ?_
      replace hF := obind hF
      obtain ⟨x10, hx10, hF⟩ := hF
      refine g_call EE_fr (fun _ h => by cases h; rfl) of (os1 (ot rfl) (os1 (ot rfl) os0)) hb_14 (fun hf kn w => by exact s_event_Filter n w p1 p2 (((((f1_0.ext e5.kn).ext e7.kn).ext e8.kn).ext e9.kn).ext kn) hx10) ?_
      rintro v10 h10 e10 w10 ⟨a10_0, c10_0, rfl, f10_0⟩
      refine go_nil ?_
      refine go_sop rfl rfl ?_
      replace hF := obind hF
      obtain ⟨x11, hx11, hF⟩ := hF
      refine g_call EE_fr (fun _ h => by cases h; rfl) of (os1 (ot rfl) (os1 (ot rfl) os0)) hb_19 (fun hf kn w => by exact s_event_Fold n w x9 x10 ((f9_0.ext e10.kn).ext kn) (f10_0.ext kn) hx11) ?_
      rintro v11 h11 e11 w11 ⟨a11_0, c11_0, rfl, f11_0⟩
      refine go_nil ?_
      refine go_sop rfl rfl ?_
      refine gA rfl rfl ?_
      refine go_nil ?_
      refine go_snil ?_
      refine go_seq ?_
      refine go_region ?_
      refine gM rfl rfl ?_
      refine gM rfl rfl ?_
      refine g_do rfl rfl rfl ?_
      refine gM rfl rfl ?_
      refine g_do rfl rfl rfl ?_
      refine gM rfl rfl ?_
      refine g_do rfl rfl rfl ?_
      replace hF := obind hF
      obtain ⟨x12, hx12, hF⟩ := hF
      refine g_callp (v := .bool x12) EE_fr rfl of (os1 (ot rfl) (os1 (ot rfl) os0)) hb_20 (fun _ => rfl) (fun hf kn w => by exact s_ref05_KVs w x8 x11 ((((f8_0.ext e9.kn).ext e10.kn).ext e11.kn).ext kn) (f11_0.ext kn) hx12) ?_
      refine gr rfl (r_pkT (ot rfl) (ot rfl)) ?_
      refine gM rfl rfl ?_
      replace hF := obind hF
      obtain ⟨s14, hF, hK14⟩ := hF
      refine go_joinr 3 (β := Unit) (fun s h' => True) (fun s => [(6, true, .bool false), (46, true, .bool s14)]) (fun s => (List.flatten [[⟨b5_1, .cells [.string p2.From, .string p2.To] 24⟩]] : List Blk)) ?_ (fun J14 => ?_)
      ·
        rintro _ h14 e14 w14 _
        replace hF := hK14
        refine gA rfl rfl ?_
        refine go_nil ?_
        obtain rfl := someI hF
        exact g_ret (rst rfl rs0) (fun h1 hf hs => ⟨(e5.trans (e7.trans (e8.trans (e9.trans (e10.trans (e11.trans (e14.trans hs.hext))))))), rfl⟩)
      ·
        rcases Bool.eq_false_or_eq_true x12 with hb13 | hb13
        ·
          replace hF := ifT hb13 hF
          refine go_re 43 (v2 := .bool true) rfl (congrArg Value.bool hb13) ?_
          refine g_do rfl rfl rfl ?_
          refine gM rfl rfl ?_
          refine g_do rfl rfl rfl ?_
          replace hF := obind hF
          obtain ⟨x15, hx15, hF⟩ := hF
          refine g_callp (v := .bool x15) EE_fr rfl of (os1 (ot rfl) os0) hb_18 (fun _ => rfl) (fun hf kn w => by exact s_ref05_Map w x8 ((((f8_0.ext e9.kn).ext e10.kn).ext e11.kn).ext kn) hx15) ?_
          refine gr rfl (r_pkT (ot rfl) (ot rfl)) ?_
          obtain rfl := someI hF
          exact Goes.weak (J14 () _ (HExt.refl _) w11 trivial) (Sub.cons (Sub.cons (Sub.nil _) rfl) rfl)
        ·
          replace hF := ifF hb13 hF
          refine go_re 43 (v2 := .bool false) rfl (congrArg Value.bool hb13) ?_
          refine g_no rfl rfl rfl rfl rfl ?_
          refine g_no rfl rfl rfl rfl rfl ?_
          refine gr rfl (r_pkF (ot rfl) (oc rfl)) ?_
          obtain rfl := someI hF
          exact Goes.weak (J14 () _ (HExt.refl _) w11 trivial) (Sub.cons (Sub.cons (Sub.nil _) rfl) rfl)
  ·
    rcases Bool.eq_false_or_eq_true (bif (!x3) then true else (decide ((p0.length : Int) > 60))) with hb4 | hb4
    ·
      replace hF := ifT hb4 hF
      refine go_re 19 (v2 := .bool true) rfl (congrArg Value.bool hb4) ?_
      refine g_no rfl rfl rfl rfl rfl ?_
      refine g_no rfl rfl rfl rfl rfl ?_
      refine g_no rfl rfl rfl rfl rfl ?_
      refine gr rfl (r_pkT (ot rfl) (oc rfl)) ?_
      obtain rfl := someI hF
      exact Goes.weak (J5 () _ (HExt.refl _) hw trivial) (Sub.cons (Sub.cons (Sub.cons (Sub.cons (Sub.cons (Sub.cons (Sub.nil _) rfl) rfl) rfl) rfl) rfl) rfl)
    ·
      replace hF := ifF hb4 hF
      refine go_re 19 (v2 := .bool false) rfl (congrArg Value.bool hb4) ?_
      refine g_do rfl rfl rfl ?_
      refine gM rfl rfl ?_
      refine g_do rfl rfl rfl ?_
      replace hF := obind hF
      obtain ⟨x16, hx16, hF⟩ := hF
      refine g_callp (v := .bool x16) EE_fr rfl of (os1 (ot rfl) os0) hb_18 (fun _ => rfl) (fun hf kn w => by exact s_ref05_Map w p0 (f0_0.ext kn) hx16) ?_
      refine g_do rfl rfl rfl ?_
      refine gr rfl (r_un (ot rfl) rfl) ?_
      refine gr rfl (r_pkF (ot rfl) (ot rfl)) ?_
      obtain rfl := someI hF
      exact Goes.weak (J5 () _ (HExt.refl _) hw trivial) (Sub.cons (Sub.cons (Sub.cons (Sub.cons (Sub.cons (Sub.cons (Sub.nil _) rfl) rfl) rfl) rfl) rfl) rfl)
end Go.Proofs.Ytcjcbcmapjcfnaa.V
