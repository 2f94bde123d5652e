/- Walks.
   No condition: these are laws of the clean machine and of this program. -/
import Derived.Test.YtcjcbcmapjcfnaaWc
namespace Go.Proofs.Ytcjcbcmapjcfnaa.V
open Go
set_option linter.unusedVariables false
set_option linter.unusedSimpArgs false
set_option maxRecDepth 100000
set_option maxHeartbeats 4000000
theorem s_law05_EventKeys (n : Nat) {h : Heap} (hw : Wf h) (p0 : (List TKV)) (p1 : (List TEvent)) (p2 : ByteArray) {a0_0 : Option Addr} {c0_0 : Nat} {a1_0 : Option Addr} {c1_0 : Nat} (f0_0 : RL R_TKV h a0_0 c0_0 p0) (f1_0 : RL R_TEvent h a1_0 c1_0 p1) {r : Bool} (hF : F_law05_EventKeys n p0 p1 p2 = some r) :
    Ev EE 8 [.slice a0_0 p0.length c0_0, .slice a1_0 p1.length c1_0, .string p2] h (fun v _ => v = .bool r) := by
  unfold F_law05_EventKeys at hF
  refine ev_of hw rfl at_8 rfl rfl (go_seg0 ?_)
  refine go_seq ?_
  refine go_region ?_
  refine gAc rfl rfl ?_
  refine go_nil ?_
  refine go_seq ?_
  refine go_region ?_
  refine g_callp EE_fr rfl of os0 hb_9 (fun _ => rfl) (fun hf kn w => by exact known_evp rfl hf w) ?_
  refine gA rfl rfl ?_
  refine go_nil ?_
  refine go_seq ?_
  refine go_seq ?_
  refine go_region ?_
  refine gM rfl rfl ?_
  replace hF := obind hF
  obtain ⟨x2, hx2, hF⟩ := hF
  refine g_callp (v := .bool x2) EE_fr rfl of (os1 (ot rfl) os0) hb_10 (fun _ => rfl) (fun hf kn w => by exact s_law05_few w p1 (f1_0.ext kn) hx2) ?_
  refine gr rfl (r_un (ot rfl) rfl) ?_
  refine gM rfl rfl ?_
  refine grf rfl rfl rfl rfl (r_move (ot rfl)) ?_
  refine grf rfl rfl rfl rfl (r_len rfl (os1 (og rfl id) os0) (fun _ _ => ln_33)) ?_
  refine grf rfl rfl rfl rfl (r_bin (og rfl id) (oc rfl) rfl) ?_
  refine gr rfl (r_pickb (ot rfl) (oc rfl) (og rfl id)) ?_
  refine gM rfl rfl ?_
  replace hF := obind hF
  obtain ⟨s4, hF, hK4⟩ := hF
  refine go_joinr 4 (β := Unit) (fun s h' => True) (fun s => [(0, true, .slice a0_0 p0.length c0_0), (1, true, .slice a1_0 p1.length c1_0), (2, true, .string p2), (6, true, .bool false), (7, true, .bool true), (26, true, .bool s4)]) (fun s => (List.flatten [] : List Blk)) ?_ (fun J4 => ?_)
  ·
    rintro _ h4 e4 w4 _
    replace hF := hK4
    refine go_nil ?_
    refine g_cond (b := s4) (ot rfl) (fun hc5 => ?_) (fun hc5 => ?_)
    ·
      replace hF := ifT hc5 hF
      refine go_seq ?_
      refine go_region ?_
      refine gM rfl rfl ?_
      refine gA rfl rfl ?_
      refine go_nil ?_
      obtain rfl := someI hF
      exact g_ret (rst rfl rs0) (fun h1 hf hs => ⟨(e4.trans hs.hext), rfl⟩)
    ·
      replace hF := ifF hc5 hF
      refine go_skip ?_
      refine go_seq ?_
      refine go_region ?_
      refine gr rfl (r_build op0 rfl) ?_
      refine gs_alloc rfl zo_44 rfl ?_; intro b8_6
      refine gs_store (ot rfl) (ot rfl) sz_44 rfl rfl rfl rfl rfl .z ?_
      refine go_nil ?_
      refine go_seq ?_
      refine go_region ?_
      refine gAc rfl rfl ?_
      refine go_nil ?_
      refine go_seq ?_
      refine go_seq ?_
      refine go_region ?_
      refine gAc rfl rfl ?_
      refine go_nil ?_
      replace hF := obind hF
      obtain ⟨s7, hF, hK7⟩ := hF
      refine go_joinc (β := Unit) (fun s h' => True) (fun s => [(0, true, .slice a0_0 p0.length c0_0), (1, true, .slice a1_0 p1.length c1_0), (2, true, .string p2), (6, true, .bool false), (7, true, .bool true), (8, true, .pointer (some ⟨b8_6, 0, none⟩)), (9, true, .bool s7.1)]) (fun s => (List.flatten [[⟨b8_6, .cells [.string s7.2.1, .string s7.2.2.1, .int .i64 s7.2.2.2] 44⟩]] : List Blk)) ?_ (fun J7 => ?_)
      ·
        rintro _ h7 e7 w7 _
        replace hF := hK7
        refine go_seq ?_
        refine go_seq ?_
        refine go_region ?_
        refine gAc rfl rfl ?_
        refine go_nil ?_
        replace hF := obind hF
        obtain ⟨s8, hF, hK8⟩ := hF
        refine go_joinc (β := Unit) (fun s h' => True) (fun s => [(0, true, .slice a0_0 p0.length c0_0), (1, true, .slice a1_0 p1.length c1_0), (2, true, .string p2), (6, true, .bool false), (7, true, .bool true), (8, true, .pointer (some ⟨b8_6, 0, none⟩)), (9, true, .bool s8.1)]) (fun s => (List.flatten [[⟨b8_6, .cells [.string s8.2.1, .string s8.2.2.1, .int .i64 s8.2.2.2] 44⟩]] : List Blk)) ?_ (fun J8 => ?_)
        ·
          rintro _ h8 e8 w8 _
          replace hF := hK8
          refine go_seq ?_
          refine go_region ?_
          refine gM rfl rfl ?_
          refine gM rfl rfl ?_
          replace hF := obind hF
          obtain ⟨x9, hx9, hF⟩ := hF
          refine g_call EE_fr (fun _ h => by cases h; rfl) of (os1 (ot rfl) (os1 (ot rfl) os0)) hb_19 (fun hf kn w => by exact s_event_Fold n w p0 p1 ((((f0_0.ext e4.kn).ext e7.kn).ext e8.kn).ext kn) ((((f1_0.ext e4.kn).ext e7.kn).ext e8.kn).ext kn) hx9) ?_
          rintro v9 h9 e9 w9 ⟨a9_0, c9_0, rfl, f9_0⟩
          refine gM rfl rfl ?_
          refine gM rfl rfl ?_
          replace hF := obind hF
          obtain ⟨x10, hx10, hF⟩ := hF
          obtain ⟨hz10, rfl⟩ := addS_some hx10
          refine gr rfl (r_bin (ot rfl) (oc rfl) (addS_bin hz10)) ?_
          refine gr rfl (r_build (op1 (ot rfl) (op1 (ot rfl) op0)) rfl) ?_
          replace hF := obind hF
          obtain ⟨x11, hx11, hF⟩ := hF
          refine g_call EE_fr (fun _ h => by cases h; rfl) of (os1 (ot rfl) (os1 (ot rfl) os0)) hb_22 (fun hf kn w => by exact s_event_Restrict n w x9 (⟨p2, (p2 ++ (⟨#[0]⟩ : ByteArray))⟩ : TRange) (f9_0.ext kn) hx11) ?_
          rintro v11 h11 e11 w11 ⟨a11_0, c11_0, rfl, f11_0⟩
          refine gA rfl rfl ?_
          refine go_nil ?_
          refine go_seq ?_
          refine go_regionq (by kernel_rfl) ?_
          refine gM rfl rfl ?_
          refine gM rfl rfl ?_
          refine g_do rfl rfl rfl ?_
          refine gM rfl rfl ?_
          refine g_do rfl rfl rfl ?_
          refine gr rfl (r_len rfl (os1 (ot rfl) os0) (fun _ _ => ln_33)) ?_
          refine g_do rfl rfl rfl ?_
          refine gr rfl (r_bin (ot rfl) (oc rfl) rfl) ?_
          refine gr rfl (r_pkT (ot rfl) (ot rfl)) ?_
          refine gM rfl rfl ?_
          refine grt rfl rfl rfl rfl (r_move (ot rfl)) ?_
          refine grt rfl rfl rfl rfl (r_len rfl (os1 (og rfl id) os0) (fun _ _ => ln_33)) ?_
          refine grt rfl rfl rfl rfl (r_bin (og rfl id) (oc rfl) rfl) ?_
          refine grt rfl rfl rfl rfl (r_move (ot rfl)) ?_
          refine grt rfl rfl rfl rfl (r_bin (og rfl id) (og rfl id) be_4) ?_
          refine gr rfl (r_pickb (ot rfl) (og rfl id) (oc rfl)) ?_
          refine gM rfl rfl ?_
          replace hF := obind hF
          obtain ⟨s13, hF, hK13⟩ := hF
          refine go_joinr 10 (β := Unit) (fun s h' => True) (fun s => [(6, true, .bool false), (108, true, .bool s13)]) (fun s => (List.flatten [[⟨b8_6, .cells [.string s8.2.1, .string s8.2.2.1, .int .i64 s8.2.2.2] 44⟩]] : List Blk)) ?_ (fun J13 => ?_)
          ·
            rintro _ h13 e13 w13 _
            replace hF := hK13
            refine gA rfl rfl ?_
            refine go_nil ?_
            obtain rfl := someI hF
            exact g_ret (rst rfl rs0) (fun h1 hf hs => ⟨(e4.trans (e7.trans (e8.trans (e9.trans (e11.trans (e13.trans hs.hext)))))), rfl⟩)
          ·
            rcases Bool.eq_false_or_eq_true (bif (decide ((x11.length : Int) ≤ 1)) then (((x11.length : Int) == 1) == s8.1) else false) with hb12 | hb12
            ·
              replace hF := ifT hb12 hF
              refine go_re 98 (v2 := .bool true) rfl (congrArg Value.bool hb12) ?_
              refine g_do rfl rfl rfl ?_
              refine gM rfl rfl ?_
              refine g_do rfl rfl rfl ?_
              refine gr rfl (r_un (ot rfl) rfl) ?_
              refine g_do rfl rfl rfl ?_
              refine gM rfl rfl ?_
              replace hF := obind hF
              obtain ⟨s15, hF, hK15⟩ := hF
              refine go_joinr 6 (β := Unit) (fun s h' => True) (fun s => [(6, true, .bool false), (98, true, .bool true), (107, true, .bool s15)]) (fun s => (List.flatten [[⟨b8_6, .cells [.string s8.2.1, .string s8.2.2.1, .int .i64 s8.2.2.2] 44⟩]] : List Blk)) ?_ (fun J15 => ?_)
              ·
                rintro _ h15 e15 w15 _
                replace hF := hK15
                refine gr rfl (r_pkT (ot rfl) (ot rfl)) ?_
                obtain rfl := someI hF
                exact Goes.weak (J13 () _ e15 w15 trivial) (Sub.cons (Sub.cons (Sub.nil _) rfl) rfl)
              ·
                rcases Bool.eq_false_or_eq_true (!s8.1) with hb14 | hb14
                ·
                  replace hF := ifT hb14 hF
                  refine go_re 101 (v2 := .bool true) rfl (congrArg Value.bool hb14) ?_
                  refine g_no rfl rfl rfl rfl rfl ?_
                  refine g_no rfl rfl rfl rfl rfl ?_
                  refine g_no rfl rfl rfl rfl rfl ?_
                  refine g_no rfl rfl rfl rfl rfl ?_
                  refine g_no rfl rfl rfl rfl rfl ?_
                  refine g_do rfl rfl rfl ?_
                  refine gr rfl (r_pkT (ot rfl) (oc rfl)) ?_
                  obtain rfl := someI hF
                  exact Goes.weak (J15 () _ (HExt.refl _) w11 trivial) (Sub.cons (Sub.cons (Sub.cons (Sub.nil _) rfl) rfl) rfl)
                ·
                  replace hF := ifF hb14 hF
                  refine go_re 101 (v2 := .bool false) rfl (congrArg Value.bool hb14) ?_
                  refine g_do rfl rfl rfl ?_
                  refine gM rfl rfl ?_
                  refine g_do rfl rfl rfl ?_
                  replace hF := obind hF
                  obtain ⟨x16, hx16, hF⟩ := hF
                  obtain ⟨q16, row16, i16, cl16, rc16, sp16⟩ := ix (ik := .i64) (cap := c11_0) (E := EE) f11_0 hx16 ut_33 sz_44 rfl
                  obtain rfl := rc16
                  refine gr rfl (r_ia (ot rfl) (oc rfl) i16) ?_
                  refine g_do rfl rfl rfl ?_
                  refine gr rfl (r_load (ot rfl) (v := .agg #[.string x16.Key, .string x16.Val, .int .i64 x16.Rev]) (lo_e (fun hf kn => ld_of (r := [.string x16.Key, .string x16.Val, .int .i64 x16.Rev]) ag_44 sz_44 (kn.cellsAt cl16)))) ?_
                  refine g_do rfl rfl rfl ?_
                  refine gr rfl (r_load (ot rfl) (lm_w (mem_seg 0 rfl) ag_44 sz_44 rfl)) ?_
                  refine g_do rfl rfl rfl ?_
                  refine gr rfl (r_bin (ot rfl) (ot rfl) bq_44) ?_
                  refine g_do rfl rfl rfl ?_
                  refine gr rfl (r_pkF (ot rfl) (ot rfl)) ?_
                  obtain rfl := someI hF
                  exact Goes.weak (J15 () _ (HExt.refl _) w11 trivial) (Sub.cons (Sub.cons (Sub.cons (Sub.nil _) rfl) rfl) rfl)
            ·
              replace hF := ifF hb12 hF
              refine go_re 98 (v2 := .bool false) rfl (congrArg Value.bool hb12) ?_
              refine g_no rfl rfl rfl rfl rfl ?_
              refine g_no rfl rfl rfl rfl rfl ?_
              refine g_no rfl rfl rfl rfl rfl ?_
              refine g_nu rfl rfl rfl rfl ?_
              refine g_nu rfl rfl rfl rfl ?_
              refine g_nu rfl rfl rfl rfl ?_
              refine g_nu rfl rfl rfl rfl ?_
              refine g_nu rfl rfl rfl rfl ?_
              refine g_no rfl rfl rfl rfl rfl ?_
              refine gr rfl (r_pkF (ot rfl) (oc rfl)) ?_
              obtain rfl := someI hF
              exact Goes.weak (J13 () _ (HExt.refl _) w11 trivial) (Sub.cons (Sub.cons (Sub.nil _) rfl) rfl)
        ·
          refine go_block ?_
          refine go_loop (α := (List TEvent) × Nat × Bool × ByteArray × ByteArray × Int × Heap) (fun a => a.1 = List.drop a.2.1 p1 ∧ HExt h7 a.2.2.2.2.2.2 ∧ Wf a.2.2.2.2.2.2 ∧ F_law05_EventKeys_L1 p2 a.1 a.2.1 a.2.2.1 a.2.2.2.1 a.2.2.2.2.1 a.2.2.2.2.2.1 = some s8) (fun a => a.1.length) (fun a => [(0, true, .slice a0_0 p0.length c0_0), (1, true, .slice a1_0 p1.length c1_0), (2, true, .string p2), (6, true, .bool false), (7, true, .bool true), (8, true, .pointer (some ⟨b8_6, 0, none⟩)), (9, true, .bool a.2.2.1), (11, true, .int .i64 (a.2.1 : Int))]) (fun a => (List.flatten [[⟨b8_6, .cells [.string a.2.2.2.1, .string a.2.2.2.2.1, .int .i64 a.2.2.2.2.2.1] 44⟩]] : List Blk)) (fun a => a.2.2.2.2.2.2) ?_ (p1, 0, s7.1, s7.2.1, s7.2.2.1, s7.2.2.2, h7) ⟨rfl, HExt.refl _, w7, hF⟩ (Sub.cons (Sub.cons (Sub.cons (Sub.cons (Sub.cons (Sub.cons (Sub.cons (Sub.cons (Sub.nil _) rfl) rfl) rfl) rfl) rfl) rfl) rfl) rfl) rfl rfl
          rintro ⟨r17, i17, y17_0, y17_1, y17_2, y17_3, h17⟩ ⟨hr17, e17, w17, hF⟩ ih17
          rcases r17 with _ | ⟨z17, r17⟩
          ·
            have hi17 := drop_nil hr17
            rw [F_law05_EventKeys_L1.eq_1] at hF
            refine go_seq ?_
            refine go_seq ?_
            refine go_region ?_
            refine gM rfl rfl ?_
            refine gM rfl rfl ?_
            refine gr rfl (r_len rfl (os1 (ot rfl) os0) (fun _ _ => ln_22)) ?_
            refine gr rfl (r_bin (ot rfl) (ot rfl) rfl) ?_
            refine go_cast (.bool false) (congrArg Value.bool (decide_eq_false hi17)) ?_
            refine go_nil ?_
            refine g_cond (b := false) (ot rfl) (fun hc18 => ?_) (fun hc18 => ?_)
            · cases hc18
            refine go_exit rfl ?_
            obtain rfl := someI hF
            exact Goes.weak (J8 () _ e17 w17 trivial) (Sub.cons (Sub.cons (Sub.cons (Sub.cons (Sub.cons (Sub.cons (Sub.cons (Sub.nil _) rfl) rfl) rfl) rfl) rfl) rfl) rfl)
          ·
            obtain ⟨hi17, hx17, hr17⟩ := drop_cons hr17
            have hb17 := (((f1_0.ext e4.kn).ext e7.kn).ext e17.kn).1
            rw [F_law05_EventKeys_L1.eq_2] at hF
            refine go_seq ?_
            refine go_seq ?_
            refine go_region ?_
            refine gM rfl rfl ?_
            refine gM rfl rfl ?_
            refine gr rfl (r_len rfl (os1 (ot rfl) os0) (fun _ _ => ln_22)) ?_
            refine gr rfl (r_bin (ot rfl) (ot rfl) rfl) ?_
            refine go_cast (.bool true) (congrArg Value.bool (decide_eq_true (Int.ofNat_lt.mpr hi17))) ?_
            refine go_nil ?_
            refine g_cond (b := true) (ot rfl) (fun hc19 => ?_) (fun hc19 => ?_)
            rotate_left
            · cases hc19
            refine go_skip ?_
            refine go_seq ?_
            refine go_block ?_
            refine go_seq ?_
            refine go_region ?_
            refine gM rfl rfl ?_
            refine gM rfl rfl ?_
            obtain ⟨q20, row20, i20, cl20, rc20, sp20⟩ := ix (ik := .i64) (cap := c1_0) (E := EE) (((f1_0.ext e4.kn).ext e7.kn).ext e17.kn) ((getI_nat _ _).trans hx17) ut_22 sz_40 rfl
            obtain rfl := rc20
            refine gr rfl (r_ia (ot rfl) (ot rfl) i20) ?_
            refine gr rfl (r_fa (ot rfl) (fs_40_1 sp20)) ?_
            refine gr rfl (r_load (ot rfl) (v := .string z17.Key) (lo_e (fun hf kn => ld_field (r := [.int .i64 z17.Rev, .string z17.Key, .string z17.Val, .bool z17.Del]) ag_9 (kn.cellsAt cl20) rfl))) ?_
            refine gM rfl rfl ?_
            refine gr rfl (r_bin (ot rfl) (ot rfl) rfl) ?_
            refine go_nil ?_
            replace hF := obind hF
            obtain ⟨s22, hF, hK22⟩ := hF
            refine go_joinc (β := Unit) (fun s h' => True) (fun s => [(0, true, .slice a0_0 p0.length c0_0), (1, true, .slice a1_0 p1.length c1_0), (2, true, .string p2), (6, true, .bool false), (7, true, .bool true), (8, true, .pointer (some ⟨b8_6, 0, none⟩)), (9, true, .bool s22.1), (11, true, .int .i64 (i17 : Int)), (46, true, .int .i64 (i17 : Int)), (47, true, .slice a1_0 p1.length c1_0), (48, true, .int .i64 (p1.length : Int)), (49, true, .bool true), (52, true, .slice a1_0 p1.length c1_0), (53, true, .int .i64 (i17 : Int)), (54, true, .pointer (some q20)), (55, true, .pointer (some ⟨q20.block, q20.off + 1, q20.spot⟩)), (56, true, .string z17.Key), (57, true, .string p2), (58, true, .bool (eqB z17.Key p2))]) (fun s => (List.flatten [[⟨b8_6, .cells [.string s22.2.1, .string s22.2.2.1, .int .i64 s22.2.2.2] 44⟩]] : List Blk)) ?_ (fun J22 => ?_)
            ·
              rintro _ h22 e22 w22 _
              replace hF := hK22
              refine go_endb ?_
              refine go_region ?_
              refine gM rfl rfl ?_
              refine gr rfl (r_bin (ot rfl) (oc rfl) rfl) ?_
              refine gA rfl rfl ?_
              refine go_nil ?_
              refine go_re 11 (v2 := .int .i64 ((i17 + 1 : Nat) : Int)) rfl (wrap_succ hi17 hb17) ?_
              exact Goes.weak (ih17 (r17, i17 + 1, s22.1, s22.2.1, s22.2.2.1, s22.2.2.2, h22) ⟨hr17, (e17.trans e22), w22, hF⟩ (Nat.lt_succ_self _)) (Sub.cons (Sub.cons (Sub.cons (Sub.cons (Sub.cons (Sub.cons (Sub.cons (Sub.cons (Sub.nil _) rfl) rfl) rfl) rfl) rfl) rfl) rfl) rfl)
            ·
              refine g_cond (b := (eqB z17.Key p2)) (ot rfl) (fun hc21 => ?_) (fun hc21 => ?_)
              ·
                replace hF := ifT hc21 hF
                refine go_seq ?_
                refine go_regions (L := [(0, []), (1, []), (2, []), (3, []), (4, []), (5, []), (6, []), (7, []), (8, []), (9, []), (10, []), (11, []), (12, [])]) (by kernel_rfl) (by kernel_rfl) (fun _ => rfl) ?_
                refine go_sop rfl rfl ?_
                refine gM rfl rfl ?_
                refine go_nil ?_
                refine go_sop rfl rfl ?_
                refine gM rfl rfl ?_
                refine go_nil ?_
                refine go_sop rfl rfl ?_
                refine gM rfl rfl ?_
                refine go_nil ?_
                refine go_sop rfl rfl ?_
                obtain ⟨q23, row23, i23, cl23, rc23, sp23⟩ := ix (ik := .i64) (cap := c1_0) (E := EE) (((f1_0.ext e4.kn).ext e7.kn).ext e17.kn) ((getI_nat _ _).trans hx17) ut_22 sz_40 rfl
                obtain rfl := rc23
                refine gr rfl (r_ia (ot rfl) (ot rfl) i23) ?_
                refine go_nil ?_
                refine go_sop rfl rfl ?_
                refine gr rfl (r_fa (ot rfl) (fs_40_2 sp23)) ?_
                refine go_nil ?_
                refine go_sop rfl rfl ?_
                refine gr rfl (r_load (ot rfl) (v := .string z17.Val) (lo_e (fun hf kn => ld_field (r := [.int .i64 z17.Rev, .string z17.Key, .string z17.Val, .bool z17.Del]) ag_9 (kn.cellsAt cl23) rfl))) ?_
                refine go_nil ?_
                refine go_sop rfl rfl ?_
                refine gM rfl rfl ?_
                refine go_nil ?_
                refine go_sop rfl rfl ?_
                refine gM rfl rfl ?_
                refine go_nil ?_
                refine go_sop rfl rfl ?_
                obtain ⟨q24, row24, i24, cl24, rc24, sp24⟩ := ix (ik := .i64) (cap := c1_0) (E := EE) (((f1_0.ext e4.kn).ext e7.kn).ext e17.kn) ((getI_nat _ _).trans hx17) ut_22 sz_40 rfl
                obtain rfl := rc24
                refine gr rfl (r_ia (ot rfl) (ot rfl) i24) ?_
                refine go_nil ?_
                refine go_sop rfl rfl ?_
                refine gr rfl (r_fa (ot rfl) (fs_40_0 sp24)) ?_
                refine go_nil ?_
                refine go_sop rfl rfl ?_
                refine gr rfl (r_load (ot rfl) (v := .int .i64 z17.Rev) (lo_e (fun hf kn => ld_field (r := [.int .i64 z17.Rev, .string z17.Key, .string z17.Val, .bool z17.Del]) ag_3 (kn.cellsAt cl24) rfl))) ?_
                refine go_nil ?_
                refine go_sop rfl rfl ?_
                refine gr rfl (r_build (op1 (ot rfl) (op1 (ot rfl) (op1 (ot rfl) op0))) rfl) ?_
                refine go_nil ?_
                refine go_sop rfl rfl ?_
                refine gs_store (ot rfl) (ot rfl) sz_44 rfl rfl rfl rfl rfl .z ?_
                refine go_nil ?_
                refine go_snil ?_
                refine go_region ?_
                refine gM rfl rfl ?_
                refine gM rfl rfl ?_
                obtain ⟨q25, row25, i25, cl25, rc25, sp25⟩ := ix (ik := .i64) (cap := c1_0) (E := EE) (((f1_0.ext e4.kn).ext e7.kn).ext e17.kn) ((getI_nat _ _).trans hx17) ut_22 sz_40 rfl
                obtain rfl := rc25
                refine gr rfl (r_ia (ot rfl) (ot rfl) i25) ?_
                refine gr rfl (r_fa (ot rfl) (fs_40_3 sp25)) ?_
                refine gr rfl (r_load (ot rfl) (v := .bool z17.Del) (lo_e (fun hf kn => ld_field (r := [.int .i64 z17.Rev, .string z17.Key, .string z17.Val, .bool z17.Del]) ag_4 (kn.cellsAt cl25) rfl))) ?_
                refine gr rfl (r_un (ot rfl) rfl) ?_
                refine gA rfl rfl ?_
                refine go_nil ?_
                obtain rfl := someI hF
                exact Goes.weak (J22 () _ (HExt.refl _) w17 trivial) (Sub.cons (Sub.cons (Sub.cons (Sub.cons (Sub.cons (Sub.cons (Sub.cons (Sub.cons (Sub.cons (Sub.cons (Sub.cons (Sub.cons (Sub.cons (Sub.cons (Sub.cons (Sub.cons (Sub.cons (Sub.cons (Sub.cons (Sub.nil _) rfl) rfl) rfl) rfl) rfl) rfl) rfl) rfl) rfl) rfl) rfl) rfl) rfl) rfl) rfl) rfl) rfl) rfl) rfl)
              ·
                replace hF := ifF hc21 hF
                refine go_skip ?_
                obtain rfl := someI hF
                exact Goes.weak (J22 () _ (HExt.refl _) w17 trivial) (Sub.cons (Sub.cons (Sub.cons (Sub.cons (Sub.cons (Sub.cons (Sub.cons (Sub.cons (Sub.cons (Sub.cons (Sub.cons (Sub.cons (Sub.cons (Sub.cons (Sub.cons (Sub.cons (Sub.cons (Sub.cons (Sub.cons (Sub.nil _) rfl) rfl) rfl) rfl) rfl) rfl) rfl) rfl) rfl) rfl) rfl) rfl) rfl) rfl) rfl) rfl) rfl) rfl) rfl)
      ·
        refine go_block ?_
        refine go_loop (α := (List TKV) × Nat × Bool × ByteArray × ByteArray × Int × Heap) (fun a => a.1 = List.drop a.2.1 p0 ∧ HExt h4 a.2.2.2.2.2.2 ∧ Wf a.2.2.2.2.2.2 ∧ F_law05_EventKeys_L2 p2 a.1 a.2.1 a.2.2.1 a.2.2.2.1 a.2.2.2.2.1 a.2.2.2.2.2.1 = some s7) (fun a => a.1.length) (fun a => [(0, true, .slice a0_0 p0.length c0_0), (1, true, .slice a1_0 p1.length c1_0), (2, true, .string p2), (6, true, .bool false), (7, true, .bool true), (8, true, .pointer (some ⟨b8_6, 0, none⟩)), (9, true, .bool a.2.2.1), (10, true, .int .i64 (a.2.1 : Int))]) (fun a => (List.flatten [[⟨b8_6, .cells [.string a.2.2.2.1, .string a.2.2.2.2.1, .int .i64 a.2.2.2.2.2.1] 44⟩]] : List Blk)) (fun a => a.2.2.2.2.2.2) ?_ (p0, 0, false, ByteArray.empty, ByteArray.empty, 0, h4) ⟨rfl, HExt.refl _, w4, hF⟩ (Sub.cons (Sub.cons (Sub.cons (Sub.cons (Sub.cons (Sub.cons (Sub.cons (Sub.cons (Sub.nil _) rfl) rfl) rfl) rfl) rfl) rfl) rfl) rfl) rfl rfl
        rintro ⟨r26, i26, y26_0, y26_1, y26_2, y26_3, h26⟩ ⟨hr26, e26, w26, hF⟩ ih26
        rcases r26 with _ | ⟨z26, r26⟩
        ·
          have hi26 := drop_nil hr26
          rw [F_law05_EventKeys_L2.eq_1] at hF
          refine go_seq ?_
          refine go_seq ?_
          refine go_region ?_
          refine gM rfl rfl ?_
          refine gM rfl rfl ?_
          refine gr rfl (r_len rfl (os1 (ot rfl) os0) (fun _ _ => ln_33)) ?_
          refine gr rfl (r_bin (ot rfl) (ot rfl) rfl) ?_
          refine go_cast (.bool false) (congrArg Value.bool (decide_eq_false hi26)) ?_
          refine go_nil ?_
          refine g_cond (b := false) (ot rfl) (fun hc27 => ?_) (fun hc27 => ?_)
          · cases hc27
          refine go_exit rfl ?_
          obtain rfl := someI hF
          exact Goes.weak (J7 () _ e26 w26 trivial) (Sub.cons (Sub.cons (Sub.cons (Sub.cons (Sub.cons (Sub.cons (Sub.cons (Sub.nil _) rfl) rfl) rfl) rfl) rfl) rfl) rfl)
        ·
          obtain ⟨hi26, hx26, hr26⟩ := drop_cons hr26
          have hb26 := ((f0_0.ext e4.kn).ext e26.kn).1
          rw [F_law05_EventKeys_L2.eq_2] at hF
          refine go_seq ?_
          refine go_seq ?_
          refine go_region ?_
          refine gM rfl rfl ?_
          refine gM rfl rfl ?_
          refine gr rfl (r_len rfl (os1 (ot rfl) os0) (fun _ _ => ln_33)) ?_
          refine gr rfl (r_bin (ot rfl) (ot rfl) rfl) ?_
          refine go_cast (.bool true) (congrArg Value.bool (decide_eq_true (Int.ofNat_lt.mpr hi26))) ?_
          refine go_nil ?_
          refine g_cond (b := true) (ot rfl) (fun hc28 => ?_) (fun hc28 => ?_)
          rotate_left
          · cases hc28
          refine go_skip ?_
          refine go_seq ?_
          refine go_block ?_
          refine go_seq ?_
          refine go_region ?_
          refine gM rfl rfl ?_
          refine gM rfl rfl ?_
          obtain ⟨q29, row29, i29, cl29, rc29, sp29⟩ := ix (ik := .i64) (cap := c0_0) (E := EE) ((f0_0.ext e4.kn).ext e26.kn) ((getI_nat _ _).trans hx26) ut_33 sz_44 rfl
          obtain rfl := rc29
          refine gr rfl (r_ia (ot rfl) (ot rfl) i29) ?_
          refine gr rfl (r_fa (ot rfl) (fs_44_0 sp29)) ?_
          refine gr rfl (r_load (ot rfl) (v := .string z26.Key) (lo_e (fun hf kn => ld_field (r := [.string z26.Key, .string z26.Val, .int .i64 z26.Rev]) ag_9 (kn.cellsAt cl29) rfl))) ?_
          refine gM rfl rfl ?_
          refine gr rfl (r_bin (ot rfl) (ot rfl) rfl) ?_
          refine go_nil ?_
          replace hF := obind hF
          obtain ⟨s31, hF, hK31⟩ := hF
          refine go_joinc (β := Unit) (fun s h' => True) (fun s => [(0, true, .slice a0_0 p0.length c0_0), (1, true, .slice a1_0 p1.length c1_0), (2, true, .string p2), (6, true, .bool false), (7, true, .bool true), (8, true, .pointer (some ⟨b8_6, 0, none⟩)), (9, true, .bool s31.1), (10, true, .int .i64 (i26 : Int)), (29, true, .int .i64 (i26 : Int)), (30, true, .slice a0_0 p0.length c0_0), (31, true, .int .i64 (p0.length : Int)), (32, true, .bool true), (35, true, .slice a0_0 p0.length c0_0), (36, true, .int .i64 (i26 : Int)), (37, true, .pointer (some q29)), (38, true, .pointer (some ⟨q29.block, q29.off + 0, q29.spot⟩)), (39, true, .string z26.Key), (40, true, .string p2), (41, true, .bool (eqB z26.Key p2))]) (fun s => (List.flatten [[⟨b8_6, .cells [.string s31.2.1, .string s31.2.2.1, .int .i64 s31.2.2.2] 44⟩]] : List Blk)) ?_ (fun J31 => ?_)
          ·
            rintro _ h31 e31 w31 _
            replace hF := hK31
            refine go_endb ?_
            refine go_region ?_
            refine gM rfl rfl ?_
            refine gr rfl (r_bin (ot rfl) (oc rfl) rfl) ?_
            refine gA rfl rfl ?_
            refine go_nil ?_
            refine go_re 10 (v2 := .int .i64 ((i26 + 1 : Nat) : Int)) rfl (wrap_succ hi26 hb26) ?_
            exact Goes.weak (ih26 (r26, i26 + 1, s31.1, s31.2.1, s31.2.2.1, s31.2.2.2, h31) ⟨hr26, (e26.trans e31), w31, hF⟩ (Nat.lt_succ_self _)) (Sub.cons (Sub.cons (Sub.cons (Sub.cons (Sub.cons (Sub.cons (Sub.cons (Sub.cons (Sub.nil _) rfl) rfl) rfl) rfl) rfl) rfl) rfl) rfl)
          ·
            refine g_cond (b := (eqB z26.Key p2)) (ot rfl) (fun hc30 => ?_) (fun hc30 => ?_)
            ·
              replace hF := ifT hc30 hF
              refine go_seq ?_
              refine go_region ?_
              refine gM rfl rfl ?_
              refine gM rfl rfl ?_
              obtain ⟨q32, row32, i32, cl32, rc32, sp32⟩ := ix (ik := .i64) (cap := c0_0) (E := EE) ((f0_0.ext e4.kn).ext e26.kn) ((getI_nat _ _).trans hx26) ut_33 sz_44 rfl
              obtain rfl := rc32
              refine gr rfl (r_ia (ot rfl) (ot rfl) i32) ?_
              refine gr rfl (r_load (ot rfl) (v := .agg #[.string z26.Key, .string z26.Val, .int .i64 z26.Rev]) (lo_e (fun hf kn => ld_of (r := [.string z26.Key, .string z26.Val, .int .i64 z26.Rev]) ag_44 sz_44 (kn.cellsAt cl32)))) ?_
              refine gs_store (ot rfl) (ot rfl) sz_44 rfl rfl rfl rfl rfl .z ?_
              refine go_nil ?_
              refine go_region ?_
              refine gAc rfl rfl ?_
              refine go_nil ?_
              obtain rfl := someI hF
              exact Goes.weak (J31 () _ (HExt.refl _) w26 trivial) (Sub.cons (Sub.cons (Sub.cons (Sub.cons (Sub.cons (Sub.cons (Sub.cons (Sub.cons (Sub.cons (Sub.cons (Sub.cons (Sub.cons (Sub.cons (Sub.cons (Sub.cons (Sub.cons (Sub.cons (Sub.cons (Sub.cons (Sub.nil _) rfl) rfl) rfl) rfl) rfl) rfl) rfl) rfl) rfl) rfl) rfl) rfl) rfl) rfl) rfl) rfl) rfl) rfl) rfl)
            ·
              replace hF := ifF hc30 hF
              refine go_skip ?_
              obtain rfl := someI hF
              exact Goes.weak (J31 () _ (HExt.refl _) w26 trivial) (Sub.cons (Sub.cons (Sub.cons (Sub.cons (Sub.cons (Sub.cons (Sub.cons (Sub.cons (Sub.cons (Sub.cons (Sub.cons (Sub.cons (Sub.cons (Sub.cons (Sub.cons (Sub.cons (Sub.cons (Sub.cons (Sub.cons (Sub.nil _) rfl) rfl) rfl) rfl) rfl) rfl) rfl) rfl) rfl) rfl) rfl) rfl) rfl) rfl) rfl) rfl) rfl) rfl) rfl)
  ·
    rcases Bool.eq_false_or_eq_true (bif (!x2) then true else (decide ((p0.length : Int) > 60))) with hb3 | hb3
    ·
      replace hF := ifT hb3 hF
      refine go_re 22 (v2 := .bool true) rfl (congrArg Value.bool hb3) ?_
      refine g_no rfl rfl rfl rfl rfl ?_
      refine g_no rfl rfl rfl rfl rfl ?_
      refine g_no rfl rfl rfl rfl rfl ?_
      refine gr rfl (r_pkT (ot rfl) (oc rfl)) ?_
      obtain rfl := someI hF
      exact Goes.weak (J4 () _ (HExt.refl _) hw trivial) (Sub.cons (Sub.cons (Sub.cons (Sub.cons (Sub.cons (Sub.cons (Sub.nil _) rfl) rfl) rfl) rfl) rfl) rfl)
    ·
      replace hF := ifF hb3 hF
      refine go_re 22 (v2 := .bool false) rfl (congrArg Value.bool hb3) ?_
      refine g_do rfl rfl rfl ?_
      refine gM rfl rfl ?_
      refine g_do rfl rfl rfl ?_
      replace hF := obind hF
      obtain ⟨x33, hx33, hF⟩ := hF
      refine g_callp (v := .bool x33) EE_fr rfl of (os1 (ot rfl) os0) hb_18 (fun _ => rfl) (fun hf kn w => by exact s_ref05_Map w p0 (f0_0.ext kn) hx33) ?_
      refine g_do rfl rfl rfl ?_
      refine gr rfl (r_un (ot rfl) rfl) ?_
      refine gr rfl (r_pkF (ot rfl) (ot rfl)) ?_
      obtain rfl := someI hF
      exact Goes.weak (J4 () _ (HExt.refl _) hw trivial) (Sub.cons (Sub.cons (Sub.cons (Sub.cons (Sub.cons (Sub.cons (Sub.nil _) rfl) rfl) rfl) rfl) rfl) rfl)
end Go.Proofs.Ytcjcbcmapjcfnaa.V
