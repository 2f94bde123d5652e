/- Walks.
   No condition: these are laws of the clean machine and of this program. -/
import Derived.Test.YtcjcbcmapjcfnaaWd
namespace Go.Proofs.Ytcjcbcmapjcfnaa.V
open Go
set_option linter.unusedVariables false
set_option linter.unusedSimpArgs false
set_option maxRecDepth 100000
set_option maxHeartbeats 4000000
theorem s_law05_EventLast (n : Nat) {h : Heap} (hw : Wf h) (p0 : (List TKV)) (p1 : (List TEvent)) {a0_0 : Option Addr} {c0_0 : Nat} {a1_0 : Option Addr} {c1_0 : Nat} (f0_0 : RL R_TKV h a0_0 c0_0 p0) (f1_0 : RL R_TEvent h a1_0 c1_0 p1) {r : Bool} (hF : F_law05_EventLast n p0 p1 = some r) :
    Ev EE 5 [.slice a0_0 p0.length c0_0, .slice a1_0 p1.length c1_0] h (fun v _ => v = .bool r) := by
  unfold F_law05_EventLast at hF
  refine ev_of hw rfl at_5 rfl rfl (go_seg0 ?_)
  refine go_seq ?_
  refine go_region ?_
  refine gAc rfl rfl ?_
  refine go_nil ?_
  refine go_seq ?_
  refine go_region ?_
  refine g_callp EE_fr rfl of os0 hb_9 (fun _ => rfl) (fun hf kn w => by exact known_evp rfl hf w) ?_
  refine gA rfl rfl ?_
  refine go_nil ?_
  refine go_seq ?_
  refine go_seq ?_
  refine go_region ?_
  refine gM rfl rfl ?_
  replace hF := obind hF
  obtain ⟨x2, hx2, hF⟩ := hF
  refine g_callp (v := .bool x2) EE_fr rfl of (os1 (ot rfl) os0) hb_10 (fun _ => rfl) (fun hf kn w => by exact s_law05_few w p1 (f1_0.ext kn) hx2) ?_
  refine gr rfl (r_un (ot rfl) rfl) ?_
  refine gM rfl rfl ?_
  refine grf rfl rfl rfl rfl (r_move (ot rfl)) ?_
  refine grf rfl rfl rfl rfl (r_len rfl (os1 (og rfl id) os0) (fun _ _ => ln_33)) ?_
  refine grf rfl rfl rfl rfl (r_bin (og rfl id) (oc rfl) rfl) ?_
  refine gr rfl (r_pickb (ot rfl) (oc rfl) (og rfl id)) ?_
  refine gM rfl rfl ?_
  replace hF := obind hF
  obtain ⟨s4, hF, hK4⟩ := hF
  refine go_joinr 4 (β := Unit) (fun s h' => True) (fun s => [(0, true, .slice a0_0 p0.length c0_0), (1, true, .slice a1_0 p1.length c1_0), (4, true, .bool false), (5, true, .bool true), (21, true, .bool s4)]) (fun s => (List.flatten [] : List Blk)) ?_ (fun J4 => ?_)
  ·
    rintro _ h4 e4 w4 _
    replace hF := hK4
    refine go_nil ?_
    refine g_cond (b := s4) (ot rfl) (fun hc5 => ?_) (fun hc5 => ?_)
    ·
      replace hF := ifT hc5 hF
      refine go_seq ?_
      refine go_region ?_
      refine gM rfl rfl ?_
      refine gA rfl rfl ?_
      refine go_nil ?_
      obtain rfl := someI hF
      exact g_ret (rst rfl rs0) (fun h1 hf hs => ⟨(e4.trans hs.hext), rfl⟩)
    ·
      replace hF := ifF hc5 hF
      refine go_skip ?_
      refine go_seq ?_
      refine go_region ?_
      refine gM rfl rfl ?_
      replace hF := obind hF
      obtain ⟨x6, hx6, hF⟩ := hF
      refine g_call EE_fr (fun _ h => by cases h; rfl) of (os1 (ot rfl) os0) hb_16 (fun hf kn w => by exact s_event_Last w p1 ((f1_0.ext e4.kn).ext kn) hx6) ?_
      rintro v6 h6 e6 w6 ⟨a6_0, c6_0, rfl, f6_0⟩
      refine gA rfl rfl ?_
      refine go_nil ?_
      refine go_seq ?_
      refine go_seq ?_
      refine go_region ?_
      refine gAc rfl rfl ?_
      refine go_nil ?_
      replace hF := obind hF
      obtain ⟨s7, hF, hK7⟩ := hF
      refine go_joinc (β := (Unit)) (fun s h' => s7 = .go s) (fun s => [(0, true, .slice a0_0 p0.length c0_0), (1, true, .slice a1_0 p1.length c1_0), (4, true, .bool false), (5, true, .bool true), (6, true, .slice a6_0 x6.length c6_0)]) (fun s => (List.flatten [] : List Blk)) ?_ (fun J7 => ?_)
      ·
        rintro _ h7 e7 w7 hs7
        subst hs7
        replace hF := lpgo hK7
        refine go_seq ?_
        refine go_region ?_
        refine gM rfl rfl ?_
        refine gM rfl rfl ?_
        refine g_do rfl rfl rfl ?_
        refine gM rfl rfl ?_
        refine g_do rfl rfl rfl ?_
        refine gM rfl rfl ?_
        refine g_do rfl rfl rfl ?_
        replace hF := obind hF
        obtain ⟨x8, hx8, hF⟩ := hF
        refine g_call EE_fr (fun _ h => by cases h; rfl) of (os1 (ot rfl) (os1 (ot rfl) os0)) hb_19 (fun hf kn w => by exact s_event_Fold n w p0 p1 ((((f0_0.ext e4.kn).ext e6.kn).ext e7.kn).ext kn) ((((f1_0.ext e4.kn).ext e6.kn).ext e7.kn).ext kn) hx8) ?_
        rintro v8 h8 e8 w8 ⟨a8_0, c8_0, rfl, f8_0⟩
        refine g_do rfl rfl rfl ?_
        refine gM rfl rfl ?_
        refine g_do rfl rfl rfl ?_
        refine gM rfl rfl ?_
        refine g_do rfl rfl rfl ?_
        replace hF := obind hF
        obtain ⟨x9, hx9, hF⟩ := hF
        refine g_call EE_fr (fun _ h => by cases h; rfl) of (os1 (ot rfl) (os1 (ot rfl) os0)) hb_19 (fun hf kn w => by exact s_event_Fold n w p0 x6 (((((f0_0.ext e4.kn).ext e6.kn).ext e7.kn).ext e8.kn).ext kn) (((f6_0.ext e7.kn).ext e8.kn).ext kn) hx9) ?_
        rintro v9 h9 e9 w9 ⟨a9_0, c9_0, rfl, f9_0⟩
        refine g_do rfl rfl rfl ?_
        replace hF := obind hF
        obtain ⟨x10, hx10, hF⟩ := hF
        refine g_callp (v := .bool x10) EE_fr rfl of (os1 (ot rfl) (os1 (ot rfl) os0)) hb_20 (fun _ => rfl) (fun hf kn w => by exact s_ref05_KVs w x8 x9 ((f8_0.ext e9.kn).ext kn) (f9_0.ext kn) hx10) ?_
        refine gr rfl (r_pkT (ot rfl) (ot rfl)) ?_
        refine gM rfl rfl ?_
        replace hF := obind hF
        obtain ⟨s12, hF, hK12⟩ := hF
        refine go_joinr 5 (β := Unit) (fun s h' => True) (fun s => [(4, true, .bool false), (58, true, .bool s12)]) (fun s => (List.flatten [] : List Blk)) ?_ (fun J12 => ?_)
        ·
          rintro _ h12 e12 w12 _
          replace hF := hK12
          refine gA rfl rfl ?_
          refine go_nil ?_
          obtain rfl := someI hF
          exact g_ret (rst rfl rs0) (fun h1 hf hs => ⟨(e4.trans (e6.trans (e7.trans (e8.trans (e9.trans (e12.trans hs.hext)))))), rfl⟩)
        ·
          rcases Bool.eq_false_or_eq_true x10 with hb11 | hb11
          ·
            replace hF := ifT hb11 hF
            refine go_re 53 (v2 := .bool true) rfl (congrArg Value.bool hb11) ?_
            refine g_do rfl rfl rfl ?_
            refine gM rfl rfl ?_
            refine g_do rfl rfl rfl ?_
            replace hF := obind hF
            obtain ⟨x13, hx13, hF⟩ := hF
            refine g_call EE_fr (fun _ h => by cases h; rfl) of (os1 (ot rfl) os0) hb_16 (fun hf kn w => by exact s_event_Last w x6 ((((f6_0.ext e7.kn).ext e8.kn).ext e9.kn).ext kn) hx13) ?_
            rintro v13 h13 e13 w13 ⟨a13_0, c13_0, rfl, f13_0⟩
            refine g_do rfl rfl rfl ?_
            refine gM rfl rfl ?_
            refine g_do rfl rfl rfl ?_
            replace hF := obind hF
            obtain ⟨x14, hx14, hF⟩ := hF
            refine g_callp (v := .bool x14) EE_fr rfl of (os1 (ot rfl) (os1 (ot rfl) os0)) hb_13 (fun _ => rfl) (fun hf kn w => by exact s_ref05_Events w x13 x6 (f13_0.ext kn) (((((f6_0.ext e7.kn).ext e8.kn).ext e9.kn).ext e13.kn).ext kn) hx14) ?_
            refine gr rfl (r_pkT (ot rfl) (ot rfl)) ?_
            obtain rfl := someI hF
            exact Goes.weak (J12 () _ e13 w13 trivial) (Sub.cons (Sub.cons (Sub.nil _) rfl) rfl)
          ·
            replace hF := ifF hb11 hF
            refine go_re 53 (v2 := .bool false) rfl (congrArg Value.bool hb11) ?_
            refine g_no rfl rfl rfl rfl rfl ?_
            refine g_no rfl rfl rfl rfl rfl ?_
            refine g_no rfl rfl rfl rfl rfl ?_
            refine g_no rfl rfl rfl rfl rfl ?_
            refine gr rfl (r_pkF (ot rfl) (oc rfl)) ?_
            obtain rfl := someI hF
            exact Goes.weak (J12 () _ (HExt.refl _) w9 trivial) (Sub.cons (Sub.cons (Sub.nil _) rfl) rfl)
      ·
        refine go_block ?_
        refine go_loop (α := (List TEvent) × Nat × Heap) (fun a => a.1 = List.drop a.2.1 x6 ∧ HExt h6 a.2.2 ∧ Wf a.2.2 ∧ F_law05_EventLast_L1 x6 a.1 a.2.1 = some s7) (fun a => a.1.length) (fun a => [(0, true, .slice a0_0 p0.length c0_0), (1, true, .slice a1_0 p1.length c1_0), (4, true, .bool false), (5, true, .bool true), (6, true, .slice a6_0 x6.length c6_0), (7, true, .int .i64 (a.2.1 : Int))]) (fun a => (List.flatten [] : List Blk)) (fun a => a.2.2) ?_ ((List.drop 1 x6), 1, h6) ⟨rfl, HExt.refl _, w6, hF⟩ (Sub.cons (Sub.cons (Sub.cons (Sub.cons (Sub.cons (Sub.cons (Sub.nil _) rfl) rfl) rfl) rfl) rfl) rfl) rfl rfl
        rintro ⟨r15, i15, h15⟩ ⟨hr15, e15, w15, hF⟩ ih15
        rcases r15 with _ | ⟨z15, r15⟩
        ·
          have hi15 := drop_nil hr15
          rw [F_law05_EventLast_L1.eq_1] at hF
          refine go_seq ?_
          refine go_seq ?_
          refine go_region ?_
          refine gM rfl rfl ?_
          refine gM rfl rfl ?_
          refine gr rfl (r_len rfl (os1 (ot rfl) os0) (fun _ _ => ln_22)) ?_
          refine gr rfl (r_bin (ot rfl) (ot rfl) rfl) ?_
          refine go_cast (.bool false) (congrArg Value.bool (decide_eq_false hi15)) ?_
          refine go_nil ?_
          refine g_cond (b := false) (ot rfl) (fun hc16 => ?_) (fun hc16 => ?_)
          · cases hc16
          refine go_exit rfl ?_
          obtain rfl := someI hF
          exact Goes.weak (J7 () _ e15 w15 rfl) (Sub.cons (Sub.cons (Sub.cons (Sub.cons (Sub.cons (Sub.nil _) rfl) rfl) rfl) rfl) rfl)
        ·
          obtain ⟨hi15, hx15, hr15⟩ := drop_cons hr15
          have hb15 := (f6_0.ext e15.kn).1
          rw [F_law05_EventLast_L1.eq_2] at hF
          refine go_seq ?_
          refine go_seq ?_
          refine go_region ?_
          refine gM rfl rfl ?_
          refine gM rfl rfl ?_
          refine gr rfl (r_len rfl (os1 (ot rfl) os0) (fun _ _ => ln_22)) ?_
          refine gr rfl (r_bin (ot rfl) (ot rfl) rfl) ?_
          refine go_cast (.bool true) (congrArg Value.bool (decide_eq_true (Int.ofNat_lt.mpr hi15))) ?_
          refine go_nil ?_
          refine g_cond (b := true) (ot rfl) (fun hc17 => ?_) (fun hc17 => ?_)
          rotate_left
          · cases hc17
          refine go_skip ?_
          refine go_seq ?_
          refine go_block ?_
          refine go_seq ?_
          refine go_regionq (by kernel_rfl) ?_
          refine gM rfl rfl ?_
          refine gM rfl rfl ?_
          refine gr rfl (r_bin (ot rfl) (oc rfl) rfl) ?_
          replace hF := obind hF
          obtain ⟨x18, hx18, hF⟩ := hF
          obtain ⟨q18, row18, i18, cl18, rc18, sp18⟩ := ix (ik := .i64) (cap := c6_0) (E := EE) (f6_0.ext e15.kn) hx18 ut_22 sz_40 rfl
          obtain rfl := rc18
          refine gr rfl (r_ia (ot rfl) (ot rfl) i18) ?_
          refine gr rfl (r_fa (ot rfl) (fs_40_1 sp18)) ?_
          refine gr rfl (r_load (ot rfl) (v := .string x18.Key) (lo_e (fun hf kn => ld_field (r := [.int .i64 x18.Rev, .string x18.Key, .string x18.Val, .bool x18.Del]) ag_9 (kn.cellsAt cl18) rfl))) ?_
          refine gM rfl rfl ?_
          refine gM rfl rfl ?_
          obtain ⟨q19, row19, i19, cl19, rc19, sp19⟩ := ix (ik := .i64) (cap := c6_0) (E := EE) (f6_0.ext e15.kn) ((getI_nat _ _).trans hx15) ut_22 sz_40 rfl
          obtain rfl := rc19
          refine gr rfl (r_ia (ot rfl) (ot rfl) i19) ?_
          refine gr rfl (r_fa (ot rfl) (fs_40_1 sp19)) ?_
          refine gr rfl (r_load (ot rfl) (v := .string z15.Key) (lo_e (fun hf kn => ld_field (r := [.int .i64 z15.Rev, .string z15.Key, .string z15.Val, .bool z15.Del]) ag_9 (kn.cellsAt cl19) rfl))) ?_
          refine gr rfl (r_bin (ot rfl) (ot rfl) rfl) ?_
          refine go_nil ?_
          refine g_cond (b := (!lessB x18.Key z15.Key)) (ot rfl) (fun hc20 => ?_) (fun hc20 => ?_)
          ·
            replace hF := ifT hc20 hF
            refine go_seq ?_
            refine go_region ?_
            refine gAc rfl rfl ?_
            refine go_nil ?_
            obtain rfl := someI hF
            obtain rfl := someI hK7
            exact g_ret (rst rfl rs0) (fun h1 hf hs => ⟨(e4.trans (e6.trans (e15.trans hs.hext))), rfl⟩)
          ·
            replace hF := ifF hc20 hF
            refine go_skip ?_
            refine go_endb ?_
            refine go_region ?_
            refine gM rfl rfl ?_
            refine gr rfl (r_bin (ot rfl) (oc rfl) rfl) ?_
            refine gA rfl rfl ?_
            refine go_nil ?_
            refine go_re 7 (v2 := .int .i64 ((i15 + 1 : Nat) : Int)) rfl (wrap_succ hi15 hb15) ?_
            exact Goes.weak (ih15 (r15, i15 + 1, h15) ⟨hr15, e15, w15, hF⟩ (Nat.lt_succ_self _)) (Sub.cons (Sub.cons (Sub.cons (Sub.cons (Sub.cons (Sub.cons (Sub.nil _) rfl) rfl) rfl) rfl) rfl) rfl)
  ·
    rcases Bool.eq_false_or_eq_true (bif (!x2) then true else (decide ((p0.length : Int) > 60))) with hb3 | hb3
    ·
      replace hF := ifT hb3 hF
      refine go_re 17 (v2 := .bool true) rfl (congrArg Value.bool hb3) ?_
      refine g_no rfl rfl rfl rfl rfl ?_
      refine g_no rfl rfl rfl rfl rfl ?_
      refine g_no rfl rfl rfl rfl rfl ?_
      refine gr rfl (r_pkT (ot rfl) (oc rfl)) ?_
      obtain rfl := someI hF
      exact Goes.weak (J4 () _ (HExt.refl _) hw trivial) (Sub.cons (Sub.cons (Sub.cons (Sub.cons (Sub.cons (Sub.nil _) rfl) rfl) rfl) rfl) rfl)
    ·
      replace hF := ifF hb3 hF
      refine go_re 17 (v2 := .bool false) rfl (congrArg Value.bool hb3) ?_
      refine g_do rfl rfl rfl ?_
      refine gM rfl rfl ?_
      refine g_do rfl rfl rfl ?_
      replace hF := obind hF
      obtain ⟨x21, hx21, hF⟩ := hF
      refine g_callp (v := .bool x21) EE_fr rfl of (os1 (ot rfl) os0) hb_18 (fun _ => rfl) (fun hf kn w => by exact s_ref05_Map w p0 (f0_0.ext kn) hx21) ?_
      refine g_do rfl rfl rfl ?_
      refine gr rfl (r_un (ot rfl) rfl) ?_
      refine gr rfl (r_pkF (ot rfl) (ot rfl)) ?_
      obtain rfl := someI hF
      exact Goes.weak (J4 () _ (HExt.refl _) hw trivial) (Sub.cons (Sub.cons (Sub.cons (Sub.cons (Sub.cons (Sub.nil _) rfl) rfl) rfl) rfl) rfl)
end Go.Proofs.Ytcjcbcmapjcfnaa.V
