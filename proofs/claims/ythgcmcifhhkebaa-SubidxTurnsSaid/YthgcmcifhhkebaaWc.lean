/- Walks.
   No condition: these are laws of the clean machine and of this program. -/
import Derived.Test.YthgcmcifhhkebaaWb
namespace Go.Proofs.Ythgcmcifhhkebaa.V
open Go
set_option linter.unusedVariables false
set_option linter.unusedSimpArgs false
set_option maxRecDepth 100000
theorem s_law11_SubidxStabs (n : Nat) {h : Heap} (hw : Wf h) (p0 : (List Timpostlaw11_Deed)) (p1 : ByteArray) (p2 : Int) {a0_0 : Option Addr} {c0_0 : Nat} (f0_0 : RL R_Timpostlaw11_Deed h a0_0 c0_0 p0) {r : Bool} (hF : F_law11_SubidxStabs n p0 p1 p2 = some r) :
    Ev EE 5 [.slice a0_0 p0.length c0_0, .string p1, .int .i64 p2] h (fun v _ => v = .bool r) := by
  unfold F_law11_SubidxStabs at hF
  refine ev_of hw rfl at_5 rfl rfl (go_seg0 ?_)
  refine go_seq ?_
  refine go_region ?_
  refine gAc rfl rfl ?_
  refine go_nil ?_
  refine go_seq ?_
  refine go_region ?_
  refine g_callp EE_fr rfl of os0 hb_9 (fun _ => rfl) (fun hf kn w => by exact known_evp rfl hf w) ?_
  refine gA rfl rfl ?_
  refine go_nil ?_
  refine go_seq ?_
  refine go_region ?_
  refine gM rfl rfl ?_
  replace hF := obind hF
  obtain ⟨x2, hx2, hF⟩ := hF
  refine gs_call EE_fr hw .nil (fun _ h => by cases h; rfl) of (os1 (ot rfl) os0) hb_19 (by exact s_law11_ran n hw p0 f0_0 hx2) ?_
  rintro v2 S2 h2 e2 w2 ⟨b2_w0, q2_w0_0, t2_w0_0, rfl, rfl, f2_0⟩
  simp only [List.cons_append, List.nil_append]
  refine gA rfl rfl ?_
  refine go_nil ?_
  refine go_seq ?_
  refine go_region ?_
  refine gM rfl rfl ?_
  replace hF := obind hF
  obtain ⟨x3, hx3, hF⟩ := hF
  refine gs_call EE_fr w2 (.cons .z (.cons .z .nil)) (fun _ h => by cases h; rfl) of (os1 (ot rfl) os0) hb_14 (by exact s_subidx_Index_All w2 x2 f2_0 hx3) ?_
  rintro v3 S3 h3 e3 w3 ⟨q3_y0_0, t3_y0_0, a3_0, c3_0, rfl, rfl, f3_0, f3_1⟩
  simp only [List.cons_append, List.nil_append]
  refine gA rfl rfl ?_
  refine go_nil ?_
  refine go_seq ?_
  refine go_region ?_
  refine gM rfl rfl ?_
  refine gM rfl rfl ?_
  refine gM rfl rfl ?_
  replace hF := obind hF
  obtain ⟨x4, hx4, hF⟩ := hF
  refine gs_call EE_fr w3 (.cons .z (.cons .z .nil)) (fun _ h => by cases h; rfl) of (os1 (ot rfl) (os1 (ot rfl) (os1 (ot rfl) os0))) hb_16 (by exact s_subidx_Index_Stab n w3 (⟨x3.2.l⟩ : Osubidx_Index) p1 p2 f3_0 hx4) ?_
  rintro v4 S4 h4 e4 w4 ⟨q4_y0_0, t4_y0_0, a4_0, c4_0, rfl, rfl, f4_0, f4_1⟩
  simp only [List.cons_append, List.nil_append]
  refine gA rfl rfl ?_
  refine go_nil ?_
  refine go_seq ?_
  refine go_region ?_
  refine gAc rfl rfl ?_
  refine go_nil ?_
  refine go_seq ?_
  refine go_seq ?_
  refine go_region ?_
  refine gAc rfl rfl ?_
  refine go_nil ?_
  replace hF := obind hF
  obtain ⟨s5, hF, hK5⟩ := hF
  refine go_joinc (β := Unit) (fun s h' => True) (fun s => [(1, true, .string p1), (2, true, .int .i64 p2), (6, true, .bool false), (7, true, .bool true), (9, true, .slice a3_0 x3.1.length c3_0), (10, true, .slice a4_0 x4.1.length c4_0), (11, true, .int .i64 s5)]) (fun s => (List.flatten [[⟨b2_w0, .cells [.slice q4_y0_0 x4.2.l.length x4.2.l.length] 55⟩], t4_y0_0] : List Blk)) ?_ (fun J5 => ?_)
  ·
    rintro _ h5 e5 w5 _
    replace hF := hK5
    refine go_seq ?_
    refine go_seq ?_
    refine go_region ?_
    refine gAc rfl rfl ?_
    refine go_nil ?_
    replace hF := obind hF
    obtain ⟨s6, hF, hK6⟩ := hF
    refine go_joinc (β := (Unit)) (fun s h' => s6 = .go s) (fun s => [(6, true, .bool false), (7, true, .bool true), (10, true, .slice a4_0 x4.1.length c4_0), (11, true, .int .i64 s5)]) (fun s => (List.flatten [[⟨b2_w0, .cells [.slice q4_y0_0 x4.2.l.length x4.2.l.length] 55⟩], t4_y0_0] : List Blk)) ?_ (fun J6 => ?_)
    ·
      rintro _ h6 e6 w6 hs6
      subst hs6
      replace hF := lpgo hK6
      refine go_seq ?_
      refine go_region ?_
      refine gM rfl rfl ?_
      refine gM rfl rfl ?_
      refine g_do rfl rfl rfl ?_
      refine gM rfl rfl ?_
      refine g_do rfl rfl rfl ?_
      refine gr rfl (r_len rfl (os1 (ot rfl) os0) (fun _ _ => ln_38)) ?_
      refine g_do rfl rfl rfl ?_
      refine gM rfl rfl ?_
      refine g_do rfl rfl rfl ?_
      refine gr rfl (r_bin (ot rfl) (ot rfl) rfl) ?_
      refine gr rfl (r_pkT (ot rfl) (ot rfl)) ?_
      refine gA rfl rfl ?_
      refine go_nil ?_
      obtain rfl := someI hF
      exact g_ret (rst rfl rs0) (fun h1 hf hs => ⟨(e2.trans (e3.trans (e4.trans (e5.trans (e6.trans hs.hext))))), rfl⟩)
    ·
      refine go_block ?_
      refine go_loop (α := (List Int) × Nat × Heap) (fun a => a.1 = List.drop a.2.1 x4.1 ∧ HExt h5 a.2.2 ∧ Wf a.2.2 ∧ F_law11_SubidxStabs_L1 p1 p2 x3 x4 a.1 a.2.1 = some s6) (fun a => a.1.length) (fun a => [(1, true, .string p1), (2, true, .int .i64 p2), (6, true, .bool false), (7, true, .bool true), (9, true, .slice a3_0 x3.1.length c3_0), (10, true, .slice a4_0 x4.1.length c4_0), (11, true, .int .i64 s5), (13, true, .int .i64 (a.2.1 : Int))]) (fun a => (List.flatten [[⟨b2_w0, .cells [.slice q4_y0_0 x4.2.l.length x4.2.l.length] 55⟩], t4_y0_0] : List Blk)) (fun a => a.2.2) ?_ (x4.1, 0, h5) ⟨rfl, HExt.refl _, w5, hF⟩ (Sub.cons (Sub.cons (Sub.cons (Sub.cons (Sub.cons (Sub.cons (Sub.cons (Sub.cons (Sub.nil _) rfl) rfl) rfl) rfl) rfl) rfl) rfl) rfl) rfl rfl
      rintro ⟨r7, i7, h7⟩ ⟨hr7, e7, w7, hF⟩ ih7
      rcases r7 with _ | ⟨z7, r7⟩
      ·
        have hi7 := drop_nil hr7
        rw [F_law11_SubidxStabs_L1.eq_1] at hF
        refine go_seq ?_
        refine go_seq ?_
        refine go_region ?_
        refine gM rfl rfl ?_
        refine gM rfl rfl ?_
        refine gr rfl (r_len rfl (os1 (ot rfl) os0) (fun _ _ => ln_38)) ?_
        refine gr rfl (r_bin (ot rfl) (ot rfl) rfl) ?_
        refine go_cast (.bool false) (congrArg Value.bool (decide_eq_false hi7)) ?_
        refine go_nil ?_
        refine g_cond (b := false) (ot rfl) (fun hc8 => ?_) (fun hc8 => ?_)
        · cases hc8
        refine go_exit rfl ?_
        obtain rfl := someI hF
        exact Goes.weak (J6 () _ e7 w7 rfl) (Sub.cons (Sub.cons (Sub.cons (Sub.cons (Sub.nil _) rfl) rfl) rfl) rfl)
      ·
        obtain ⟨hi7, hx7, hr7⟩ := drop_cons hr7
        have hb7 := ((f4_1.ext e5.kn).ext e7.kn).1
        rw [F_law11_SubidxStabs_L1.eq_2] at hF
        refine go_seq ?_
        refine go_seq ?_
        refine go_region ?_
        refine gM rfl rfl ?_
        refine gM rfl rfl ?_
        refine gr rfl (r_len rfl (os1 (ot rfl) os0) (fun _ _ => ln_38)) ?_
        refine gr rfl (r_bin (ot rfl) (ot rfl) rfl) ?_
        refine go_cast (.bool true) (congrArg Value.bool (decide_eq_true (Int.ofNat_lt.mpr hi7))) ?_
        refine go_nil ?_
        refine g_cond (b := true) (ot rfl) (fun hc9 => ?_) (fun hc9 => ?_)
        rotate_left
        · cases hc9
        refine go_skip ?_
        refine go_seq ?_
        refine go_block ?_
        refine go_seq ?_
        refine go_region ?_
        refine gAc rfl rfl ?_
        refine go_nil ?_
        refine go_seq ?_
        refine go_seq ?_
        refine go_region ?_
        refine gAc rfl rfl ?_
        refine go_nil ?_
        replace hF := obind hF
        obtain ⟨s10, hF, hK10⟩ := hF
        refine go_joinc (β := Unit) (fun s h' => True) (fun s => [(1, true, .string p1), (2, true, .int .i64 p2), (6, true, .bool false), (7, true, .bool true), (9, true, .slice a3_0 x3.1.length c3_0), (10, true, .slice a4_0 x4.1.length c4_0), (11, true, .int .i64 s5), (13, true, .int .i64 (i7 : Int)), (14, true, .bool s10.1), (15, true, .int .i64 s10.2.1), (49, true, .int .i64 (i7 : Int)), (50, true, .slice a4_0 x4.1.length c4_0), (51, true, .int .i64 (x4.1.length : Int)), (52, true, .bool true), (55, true, .int .i64 s10.2.2), (56, true, .slice a3_0 x3.1.length c3_0), (57, true, .int .i64 (x3.1.length : Int)), (58, true, .bool false)]) (fun s => (List.flatten [[⟨b2_w0, .cells [.slice q4_y0_0 x4.2.l.length x4.2.l.length] 55⟩], t4_y0_0] : List Blk)) ?_ (fun J10 => ?_)
        ·
          rintro _ h10 e10 w10 _
          replace hF := hK10
          refine go_seq ?_
          refine go_regionq (by kernel_rfl) ?_
          refine gM rfl rfl ?_
          refine gr rfl (r_un (ot rfl) rfl) ?_
          refine gM rfl rfl ?_
          replace hF := obind hF
          obtain ⟨s12, hF, hK12⟩ := hF
          refine go_joinr 15 (β := Unit) (fun s h' => True) (fun s => [(1, true, .string p1), (2, true, .int .i64 p2), (6, true, .bool false), (7, true, .bool true), (9, true, .slice a3_0 x3.1.length c3_0), (10, true, .slice a4_0 x4.1.length c4_0), (11, true, .int .i64 s5), (13, true, .int .i64 (i7 : Int)), (14, true, .bool s10.1), (15, true, .int .i64 s10.2.1), (49, true, .int .i64 (i7 : Int)), (50, true, .slice a4_0 x4.1.length c4_0), (51, true, .int .i64 (x4.1.length : Int)), (52, true, .bool true), (55, true, .int .i64 s10.2.2), (56, true, .slice a3_0 x3.1.length c3_0), (57, true, .int .i64 (x3.1.length : Int)), (58, true, .bool false), (92, true, .bool s10.1), (93, true, .bool (!s10.1)), (94, true, .bool s12.1), (109, true, .bool s12.2)]) (fun s => (List.flatten [[⟨b2_w0, .cells [.slice q4_y0_0 x4.2.l.length x4.2.l.length] 55⟩], t4_y0_0] : List Blk)) ?_ (fun J12 => ?_)
          ·
            rintro _ h12 e12 w12 _
            replace hF := hK12
            refine go_nil ?_
            refine g_cond (b := s12.2) (ot rfl) (fun hc13 => ?_) (fun hc13 => ?_)
            ·
              replace hF := ifT hc13 hF
              refine go_seq ?_
              refine go_region ?_
              refine gAc rfl rfl ?_
              refine go_nil ?_
              obtain rfl := someI hF
              obtain rfl := someI hK6
              exact g_ret (rst rfl rs0) (fun h1 hf hs => ⟨(e2.trans (e3.trans (e4.trans (e5.trans (e7.trans (e10.trans (e12.trans hs.hext))))))), rfl⟩)
            ·
              replace hF := ifF hc13 hF
              refine go_skip ?_
              refine go_endb ?_
              refine go_region ?_
              refine gM rfl rfl ?_
              refine gr rfl (r_bin (ot rfl) (oc rfl) rfl) ?_
              refine gA rfl rfl ?_
              refine go_nil ?_
              refine go_re 13 (v2 := .int .i64 ((i7 + 1 : Nat) : Int)) rfl (wrap_succ hi7 hb7) ?_
              exact Goes.weak (ih7 (r7, i7 + 1, h12) ⟨hr7, (e7.trans (e10.trans e12)), w12, hF⟩ (Nat.lt_succ_self _)) (Sub.cons (Sub.cons (Sub.cons (Sub.cons (Sub.cons (Sub.cons (Sub.cons (Sub.cons (Sub.nil _) rfl) rfl) rfl) rfl) rfl) rfl) rfl) rfl)
          ·
            rcases Bool.eq_false_or_eq_true (!s10.1) with hb11 | hb11
            ·
              replace hF := ifT hb11 hF
              refine go_re 94 (v2 := .bool true) rfl (congrArg Value.bool hb11) ?_
              refine g_no rfl rfl rfl rfl rfl ?_
              refine g_no rfl rfl rfl rfl rfl ?_
              refine g_no rfl rfl rfl rfl rfl ?_
              refine g_nu rfl rfl rfl rfl ?_
              refine g_nu rfl rfl rfl rfl ?_
              refine g_nu rfl rfl rfl rfl ?_
              refine g_nu rfl rfl rfl rfl ?_
              refine g_nu rfl rfl rfl rfl ?_
              refine g_nu rfl rfl rfl rfl ?_
              refine g_nu rfl rfl rfl rfl ?_
              refine g_nu rfl rfl rfl rfl ?_
              refine g_nu rfl rfl rfl rfl ?_
              refine g_nu rfl rfl rfl rfl ?_
              refine g_no rfl rfl rfl rfl rfl ?_
              refine gr rfl (r_pkT (ot rfl) (oc rfl)) ?_
              obtain rfl := someI hF
              exact Goes.weak (J12 () _ (HExt.refl _) w10 trivial) (Sub.cons (Sub.cons (Sub.cons (Sub.cons (Sub.cons (Sub.cons (Sub.cons (Sub.cons (Sub.cons (Sub.cons (Sub.cons (Sub.cons (Sub.cons (Sub.cons (Sub.cons (Sub.cons (Sub.cons (Sub.cons (Sub.cons (Sub.cons (Sub.cons (Sub.cons (Sub.nil _) rfl) rfl) rfl) rfl) rfl) rfl) rfl) rfl) rfl) rfl) rfl) rfl) rfl) rfl) rfl) rfl) rfl) rfl) rfl) rfl) rfl) rfl)
            ·
              replace hF := ifF hb11 hF
              refine go_re 94 (v2 := .bool false) rfl (congrArg Value.bool hb11) ?_
              refine g_do rfl rfl rfl ?_
              refine gM rfl rfl ?_
              refine g_do rfl rfl rfl ?_
              refine gr rfl (r_bin (ot rfl) (oc rfl) rfl) ?_
              refine g_do rfl rfl rfl ?_
              refine gM rfl rfl ?_
              replace hF := obind hF
              obtain ⟨s15, hF, hK15⟩ := hF
              refine go_joinr 11 (β := Unit) (fun s h' => True) (fun s => [(1, true, .string p1), (2, true, .int .i64 p2), (6, true, .bool false), (7, true, .bool true), (9, true, .slice a3_0 x3.1.length c3_0), (10, true, .slice a4_0 x4.1.length c4_0), (11, true, .int .i64 s5), (13, true, .int .i64 (i7 : Int)), (14, true, .bool s10.1), (15, true, .int .i64 s10.2.1), (49, true, .int .i64 (i7 : Int)), (50, true, .slice a4_0 x4.1.length c4_0), (51, true, .int .i64 (x4.1.length : Int)), (52, true, .bool true), (55, true, .int .i64 s10.2.2), (56, true, .slice a3_0 x3.1.length c3_0), (57, true, .int .i64 (x3.1.length : Int)), (58, true, .bool false), (92, true, .bool s10.1), (93, true, .bool (!s10.1)), (94, true, .bool false), (95, true, .int .i64 (i7 : Int)), (96, true, .bool (decide ((i7 : Int) > 0))), (97, true, .bool s15.1), (108, true, .bool s15.2)]) (fun s => (List.flatten [[⟨b2_w0, .cells [.slice q4_y0_0 x4.2.l.length x4.2.l.length] 55⟩], t4_y0_0] : List Blk)) ?_ (fun J15 => ?_)
              ·
                rintro _ h15 e15 w15 _
                replace hF := hK15
                refine gr rfl (r_pkF (ot rfl) (ot rfl)) ?_
                obtain rfl := someI hF
                exact Goes.weak (J12 () _ e15 w15 trivial) (Sub.cons (Sub.cons (Sub.cons (Sub.cons (Sub.cons (Sub.cons (Sub.cons (Sub.cons (Sub.cons (Sub.cons (Sub.cons (Sub.cons (Sub.cons (Sub.cons (Sub.cons (Sub.cons (Sub.cons (Sub.cons (Sub.cons (Sub.cons (Sub.cons (Sub.cons (Sub.nil _) rfl) rfl) rfl) rfl) rfl) rfl) rfl) rfl) rfl) rfl) rfl) rfl) rfl) rfl) rfl) rfl) rfl) rfl) rfl) rfl) rfl) rfl)
              ·
                rcases Bool.eq_false_or_eq_true (decide ((i7 : Int) > 0)) with hb14 | hb14
                ·
                  replace hF := ifT hb14 hF
                  refine go_re 97 (v2 := .bool true) rfl (congrArg Value.bool hb14) ?_
                  refine g_do rfl rfl rfl ?_
                  refine gM rfl rfl ?_
                  refine g_do rfl rfl rfl ?_
                  refine gM rfl rfl ?_
                  refine g_do rfl rfl rfl ?_
                  obtain ⟨q16, row16, i16, cl16, rc16, sp16⟩ := ix (ik := .i64) (cap := c4_0) (E := EE) (((f4_1.ext e5.kn).ext e7.kn).ext e10.kn) ((getI_nat _ _).trans hx7) ut_38 sz_3 rfl
                  obtain rfl := rc16
                  refine gr rfl (r_ia (ot rfl) (ot rfl) i16) ?_
                  refine g_do rfl rfl rfl ?_
                  refine gr rfl (r_load (ot rfl) (v := .int .i64 z7) (lo_e (fun hf kn => ld_one ag_3 (kn.cellsAt cl16)))) ?_
                  refine g_do rfl rfl rfl ?_
                  refine gM rfl rfl ?_
                  refine g_do rfl rfl rfl ?_
                  refine gM rfl rfl ?_
                  refine g_do rfl rfl rfl ?_
                  refine gr rfl (r_bin (ot rfl) (oc rfl) rfl) ?_
                  refine g_do rfl rfl rfl ?_
                  replace hF := obind hF
                  obtain ⟨x17, hx17, hF⟩ := hF
                  obtain ⟨q17, row17, i17, cl17, rc17, sp17⟩ := ix (ik := .i64) (cap := c4_0) (E := EE) (((f4_1.ext e5.kn).ext e7.kn).ext e10.kn) hx17 ut_38 sz_3 rfl
                  obtain rfl := rc17
                  refine gr rfl (r_ia (ot rfl) (ot rfl) i17) ?_
                  refine g_do rfl rfl rfl ?_
                  refine gr rfl (r_load (ot rfl) (v := .int .i64 x17) (lo_e (fun hf kn => ld_one ag_3 (kn.cellsAt cl17)))) ?_
                  refine g_do rfl rfl rfl ?_
                  refine gr rfl (r_bin (ot rfl) (ot rfl) rfl) ?_
                  refine g_do rfl rfl rfl ?_
                  refine gr rfl (r_pkT (ot rfl) (ot rfl)) ?_
                  obtain rfl := someI hF
                  exact Goes.weak (J15 () _ (HExt.refl _) w10 trivial) (Sub.cons (Sub.cons (Sub.cons (Sub.cons (Sub.cons (Sub.cons (Sub.cons (Sub.cons (Sub.cons (Sub.cons (Sub.cons (Sub.cons (Sub.cons (Sub.cons (Sub.cons (Sub.cons (Sub.cons (Sub.cons (Sub.cons (Sub.cons (Sub.cons (Sub.cons (Sub.cons (Sub.cons (Sub.cons (Sub.nil _) rfl) rfl) rfl) rfl) rfl) rfl) rfl) rfl) rfl) rfl) rfl) rfl) rfl) rfl) rfl) rfl) rfl) rfl) rfl) rfl) rfl) rfl) rfl) rfl) rfl)
                ·
                  replace hF := ifF hb14 hF
                  refine go_re 97 (v2 := .bool false) rfl (congrArg Value.bool hb14) ?_
                  refine g_no rfl rfl rfl rfl rfl ?_
                  refine g_no rfl rfl rfl rfl rfl ?_
                  refine g_no rfl rfl rfl rfl rfl ?_
                  refine g_no rfl rfl rfl rfl rfl ?_
                  refine g_no rfl rfl rfl rfl rfl ?_
                  refine g_no rfl rfl rfl rfl rfl ?_
                  refine g_no rfl rfl rfl rfl rfl ?_
                  refine g_no rfl rfl rfl rfl rfl ?_
                  refine g_no rfl rfl rfl rfl rfl ?_
                  refine g_no rfl rfl rfl rfl rfl ?_
                  refine g_do rfl rfl rfl ?_
                  refine gr rfl (r_pkF (ot rfl) (oc rfl)) ?_
                  obtain rfl := someI hF
                  exact Goes.weak (J15 () _ (HExt.refl _) w10 trivial) (Sub.cons (Sub.cons (Sub.cons (Sub.cons (Sub.cons (Sub.cons (Sub.cons (Sub.cons (Sub.cons (Sub.cons (Sub.cons (Sub.cons (Sub.cons (Sub.cons (Sub.cons (Sub.cons (Sub.cons (Sub.cons (Sub.cons (Sub.cons (Sub.cons (Sub.cons (Sub.cons (Sub.cons (Sub.cons (Sub.nil _) rfl) rfl) rfl) rfl) rfl) rfl) rfl) rfl) rfl) rfl) rfl) rfl) rfl) rfl) rfl) rfl) rfl) rfl) rfl) rfl) rfl) rfl) rfl) rfl) rfl)
        ·
          refine go_block ?_
          refine go_loop (α := (List Tsubidx_Sub) × Nat × Bool × Heap) (fun a => a.1 = List.drop a.2.1 x3.1 ∧ HExt h7 a.2.2.2 ∧ Wf a.2.2.2 ∧ F_law11_SubidxStabs_L2 p1 p2 z7 a.1 a.2.1 a.2.2.1 = some s10) (fun a => a.1.length) (fun a => [(1, true, .string p1), (2, true, .int .i64 p2), (6, true, .bool false), (7, true, .bool true), (9, true, .slice a3_0 x3.1.length c3_0), (10, true, .slice a4_0 x4.1.length c4_0), (11, true, .int .i64 s5), (13, true, .int .i64 (i7 : Int)), (14, true, .bool a.2.2.1), (15, true, .int .i64 (a.2.1 : Int)), (49, true, .int .i64 (i7 : Int)), (50, true, .slice a4_0 x4.1.length c4_0), (51, true, .int .i64 (x4.1.length : Int)), (52, true, .bool true)]) (fun a => (List.flatten [[⟨b2_w0, .cells [.slice q4_y0_0 x4.2.l.length x4.2.l.length] 55⟩], t4_y0_0] : List Blk)) (fun a => a.2.2.2) ?_ (x3.1, 0, false, h7) ⟨rfl, HExt.refl _, w7, hF⟩ (Sub.cons (Sub.cons (Sub.cons (Sub.cons (Sub.cons (Sub.cons (Sub.cons (Sub.cons (Sub.cons (Sub.cons (Sub.cons (Sub.cons (Sub.cons (Sub.cons (Sub.nil _) rfl) rfl) rfl) rfl) rfl) rfl) rfl) rfl) rfl) rfl) rfl) rfl) rfl) rfl) rfl rfl
          rintro ⟨r18, i18, y18_0, h18⟩ ⟨hr18, e18, w18, hF⟩ ih18
          rcases r18 with _ | ⟨z18, r18⟩
          ·
            have hi18 := drop_nil hr18
            rw [F_law11_SubidxStabs_L2.eq_1] at hF
            refine go_seq ?_
            refine go_seq ?_
            refine go_region ?_
            refine gM rfl rfl ?_
            refine gM rfl rfl ?_
            refine gr rfl (r_len rfl (os1 (ot rfl) os0) (fun _ _ => ln_35)) ?_
            refine gr rfl (r_bin (ot rfl) (ot rfl) rfl) ?_
            refine go_cast (.bool false) (congrArg Value.bool (decide_eq_false hi18)) ?_
            refine go_nil ?_
            refine g_cond (b := false) (ot rfl) (fun hc19 => ?_) (fun hc19 => ?_)
            · cases hc19
            refine go_exit rfl ?_
            obtain rfl := someI hF
            exact Goes.weak (J10 () _ e18 w18 trivial) (Sub.cons (Sub.cons (Sub.cons (Sub.cons (Sub.cons (Sub.cons (Sub.cons (Sub.cons (Sub.cons (Sub.cons (Sub.cons (Sub.cons (Sub.cons (Sub.cons (Sub.cons (Sub.cons (Sub.cons (Sub.cons (Sub.nil _) rfl) rfl) rfl) rfl) rfl) rfl) rfl) rfl) rfl) rfl) rfl) rfl) rfl) rfl) rfl) rfl) rfl) rfl)
          ·
            obtain ⟨hi18, hx18, hr18⟩ := drop_cons hr18
            have hb18 := ((((f3_1.ext e4.kn).ext e5.kn).ext e7.kn).ext e18.kn).1
            rw [F_law11_SubidxStabs_L2.eq_2] at hF
            refine go_seq ?_
            refine go_seq ?_
            refine go_region ?_
            refine gM rfl rfl ?_
            refine gM rfl rfl ?_
            refine gr rfl (r_len rfl (os1 (ot rfl) os0) (fun _ _ => ln_35)) ?_
            refine gr rfl (r_bin (ot rfl) (ot rfl) rfl) ?_
            refine go_cast (.bool true) (congrArg Value.bool (decide_eq_true (Int.ofNat_lt.mpr hi18))) ?_
            refine go_nil ?_
            refine g_cond (b := true) (ot rfl) (fun hc20 => ?_) (fun hc20 => ?_)
            rotate_left
            · cases hc20
            refine go_skip ?_
            refine go_seq ?_
            refine go_block ?_
            replace hF := obind hF
            obtain ⟨s21, hF, hK21⟩ := hF
            refine go_joinc (β := Unit) (fun s h' => True) (fun s => [(1, true, .string p1), (2, true, .int .i64 p2), (6, true, .bool false), (7, true, .bool true), (9, true, .slice a3_0 x3.1.length c3_0), (10, true, .slice a4_0 x4.1.length c4_0), (11, true, .int .i64 s5), (13, true, .int .i64 (i7 : Int)), (14, true, .bool s21.1), (15, true, .int .i64 (i18 : Int)), (49, true, .int .i64 (i7 : Int)), (50, true, .slice a4_0 x4.1.length c4_0), (51, true, .int .i64 (x4.1.length : Int)), (52, true, .bool true), (55, true, .int .i64 (i18 : Int)), (56, true, .slice a3_0 x3.1.length c3_0), (57, true, .int .i64 (x3.1.length : Int)), (58, true, .bool true), (61, true, .bool y18_0), (62, true, .bool s21.2.1), (91, true, .bool s21.2.2)]) (fun s => (List.flatten [[⟨b2_w0, .cells [.slice q4_y0_0 x4.2.l.length x4.2.l.length] 55⟩], t4_y0_0] : List Blk)) ?_ (fun J21 => ?_)
            ·
              rintro _ h21 e21 w21 _
              replace hF := hK21
              refine go_endb ?_
              refine go_region ?_
              refine gM rfl rfl ?_
              refine gr rfl (r_bin (ot rfl) (oc rfl) rfl) ?_
              refine gA rfl rfl ?_
              refine go_nil ?_
              refine go_re 15 (v2 := .int .i64 ((i18 + 1 : Nat) : Int)) rfl (wrap_succ hi18 hb18) ?_
              exact Goes.weak (ih18 (r18, i18 + 1, s21.1, h21) ⟨hr18, (e18.trans e21), w21, hF⟩ (Nat.lt_succ_self _)) (Sub.cons (Sub.cons (Sub.cons (Sub.cons (Sub.cons (Sub.cons (Sub.cons (Sub.cons (Sub.cons (Sub.cons (Sub.cons (Sub.cons (Sub.cons (Sub.cons (Sub.nil _) rfl) rfl) rfl) rfl) rfl) rfl) rfl) rfl) rfl) rfl) rfl) rfl) rfl) rfl)
            ·
              refine go_regions (L := [(0, []), (1, []), (2, []), (3, []), (4, []), (5, []), (6, []), (7, []), (8, []), (9, []), (10, []), (11, []), (12, []), (13, []), (14, []), (15, []), (16, []), (17, []), (18, []), (19, []), (20, []), (21, []), (22, []), (23, []), (24, []), (25, []), (26, []), (27, []), (28, []), (29, []), (30, []), (31, [])]) (by kernel_rfl) (by kernel_rfl) (fun _ => rfl) ?_
              refine go_sop rfl rfl ?_
              refine gM rfl rfl ?_
              refine go_nil ?_
              refine go_sop rfl rfl ?_
              refine gM rfl rfl ?_
              refine go_nil ?_
              rcases Bool.eq_false_or_eq_true y18_0 with hb22 | hb22
              ·
                replace hF := ifT hb22 hF
                refine go_re 62 (v2 := .bool true) rfl (congrArg Value.bool hb22) ?_
                refine go_sskip rfl (w_no rfl rfl rfl rfl rfl) ?_
                refine g_no rfl rfl rfl rfl rfl ?_
                refine go_nil ?_
                refine go_sskip rfl (w_no rfl rfl rfl rfl rfl) ?_
                refine g_no rfl rfl rfl rfl rfl ?_
                refine go_nil ?_
                refine go_sskip rfl (w_no rfl rfl rfl rfl rfl) ?_
                refine g_no rfl rfl rfl rfl rfl ?_
                refine go_nil ?_
                refine go_sskip rfl (w_no rfl rfl rfl rfl rfl) ?_
                refine g_no rfl rfl rfl rfl rfl ?_
                refine go_nil ?_
                refine go_sskip rfl (w_no rfl rfl rfl rfl rfl) ?_
                refine g_no rfl rfl rfl rfl rfl ?_
                refine go_nil ?_
                refine go_sskip rfl (w_no rfl rfl rfl rfl rfl) ?_
                refine g_no rfl rfl rfl rfl rfl ?_
                refine go_nil ?_
                refine go_sskip rfl (w_no rfl rfl rfl rfl rfl) ?_
                refine g_no rfl rfl rfl rfl rfl ?_
                refine go_nil ?_
                refine go_sskip rfl (w_no rfl rfl rfl rfl rfl) ?_
                refine g_no rfl rfl rfl rfl rfl ?_
                refine go_nil ?_
                refine go_sskip rfl (w_no rfl rfl rfl rfl rfl) ?_
                refine g_no rfl rfl rfl rfl rfl ?_
                refine go_nil ?_
                refine go_sskip rfl (w_no rfl rfl rfl rfl rfl) ?_
                refine g_no rfl rfl rfl rfl rfl ?_
                refine go_nil ?_
                refine go_sskip rfl (w_no rfl rfl rfl rfl rfl) ?_
                refine g_no rfl rfl rfl rfl rfl ?_
                refine go_nil ?_
                refine go_sskip rfl (w_nu rfl rfl rfl rfl) ?_
                refine g_nu rfl rfl rfl rfl ?_
                refine go_nil ?_
                refine go_sskip rfl (w_nu rfl rfl rfl rfl) ?_
                refine g_nu rfl rfl rfl rfl ?_
                refine go_nil ?_
                refine go_sskip rfl (w_nu rfl rfl rfl rfl) ?_
                refine g_nu rfl rfl rfl rfl ?_
                refine go_nil ?_
                refine go_sskip rfl (w_nu rfl rfl rfl rfl) ?_
                refine g_nu rfl rfl rfl rfl ?_
                refine go_nil ?_
                refine go_sskip rfl (w_nu rfl rfl rfl rfl) ?_
                refine g_nu rfl rfl rfl rfl ?_
                refine go_nil ?_
                refine go_sskip rfl (w_nu rfl rfl rfl rfl) ?_
                refine g_nu rfl rfl rfl rfl ?_
                refine go_nil ?_
                refine go_sskip rfl (w_nu rfl rfl rfl rfl) ?_
                refine g_nu rfl rfl rfl rfl ?_
                refine go_nil ?_
                refine go_sskip rfl (w_no rfl rfl rfl rfl rfl) ?_
                refine g_no rfl rfl rfl rfl rfl ?_
                refine go_nil ?_
                refine go_sskip rfl (w_no rfl rfl rfl rfl rfl) ?_
                refine g_no rfl rfl rfl rfl rfl ?_
                refine go_nil ?_
                refine go_sskip rfl (w_nu rfl rfl rfl rfl) ?_
                refine g_nu rfl rfl rfl rfl ?_
                refine go_nil ?_
                refine go_sskip rfl (w_nu rfl rfl rfl rfl) ?_
                refine g_nu rfl rfl rfl rfl ?_
                refine go_nil ?_
                refine go_sskip rfl (w_nu rfl rfl rfl rfl) ?_
                refine g_nu rfl rfl rfl rfl ?_
                refine go_nil ?_
                refine go_sskip rfl (w_nu rfl rfl rfl rfl) ?_
                refine g_nu rfl rfl rfl rfl ?_
                refine go_nil ?_
                refine go_sskip rfl (w_nu rfl rfl rfl rfl) ?_
                refine g_nu rfl rfl rfl rfl ?_
                refine go_nil ?_
                refine go_sskip rfl (w_nu rfl rfl rfl rfl) ?_
                refine g_nu rfl rfl rfl rfl ?_
                refine go_nil ?_
                refine go_sskip rfl (w_nu rfl rfl rfl rfl) ?_
                refine g_nu rfl rfl rfl rfl ?_
                refine go_nil ?_
                refine go_sskip rfl (w_no rfl rfl rfl rfl rfl) ?_
                refine g_no rfl rfl rfl rfl rfl ?_
                refine go_nil ?_
                refine go_sop rfl rfl ?_
                refine gr rfl (r_pkT (ot rfl) (oc rfl)) ?_
                refine go_nil ?_
                refine go_sop rfl rfl ?_
                refine gA rfl rfl ?_
                refine go_nil ?_
                refine go_snil ?_
                obtain rfl := someI hF
                exact Goes.weak (J21 () _ (HExt.refl _) w18 trivial) (Sub.cons (Sub.cons (Sub.cons (Sub.cons (Sub.cons (Sub.cons (Sub.cons (Sub.cons (Sub.cons (Sub.cons (Sub.cons (Sub.cons (Sub.cons (Sub.cons (Sub.cons (Sub.cons (Sub.cons (Sub.cons (Sub.cons (Sub.cons (Sub.cons (Sub.nil _) rfl) rfl) rfl) rfl) rfl) rfl) rfl) rfl) rfl) rfl) rfl) rfl) rfl) rfl) rfl) rfl) rfl) rfl) rfl) rfl) rfl)
              ·
                replace hF := ifF hb22 hF
                refine go_re 62 (v2 := .bool false) rfl (congrArg Value.bool hb22) ?_
                refine go_sop rfl rfl ?_
                refine g_do rfl rfl rfl ?_
                refine gM rfl rfl ?_
                refine go_nil ?_
                refine go_sop rfl rfl ?_
                refine g_do rfl rfl rfl ?_
                refine gM rfl rfl ?_
                refine go_nil ?_
                refine go_sop rfl rfl ?_
                refine g_do rfl rfl rfl ?_
                obtain ⟨q23, row23, i23, cl23, rc23, sp23⟩ := ix (ik := .i64) (cap := c3_0) (E := EE) ((((f3_1.ext e4.kn).ext e5.kn).ext e7.kn).ext e18.kn) ((getI_nat _ _).trans hx18) ut_35 sz_32 rfl
                obtain rfl := rc23
                refine gr rfl (r_ia (ot rfl) (ot rfl) i23) ?_
                refine go_nil ?_
                refine go_sop rfl rfl ?_
                refine g_do rfl rfl rfl ?_
                refine gr rfl (r_fa (ot rfl) (fs_32_0 sp23)) ?_
                refine go_nil ?_
                refine go_sop rfl rfl ?_
                refine g_do rfl rfl rfl ?_
                refine gr rfl (r_load (ot rfl) (v := .int .i64 z18.Id) (lo_e (fun hf kn => ld_field (r := [.int .i64 z18.Id, .int .i64 z18.Rev, .string z18.R.From, .string z18.R.To]) ag_3 (kn.cellsAt cl23) rfl))) ?_
                refine go_nil ?_
                refine go_sop rfl rfl ?_
                refine g_do rfl rfl rfl ?_
                refine gM rfl rfl ?_
                refine go_nil ?_
                refine go_sop rfl rfl ?_
                refine g_do rfl rfl rfl ?_
                refine gM rfl rfl ?_
                refine go_nil ?_
                refine go_sop rfl rfl ?_
                refine g_do rfl rfl rfl ?_
                obtain ⟨q24, row24, i24, cl24, rc24, sp24⟩ := ix (ik := .i64) (cap := c4_0) (E := EE) (((f4_1.ext e5.kn).ext e7.kn).ext e18.kn) ((getI_nat _ _).trans hx7) ut_38 sz_3 rfl
                obtain rfl := rc24
                refine gr rfl (r_ia (ot rfl) (ot rfl) i24) ?_
                refine go_nil ?_
                refine go_sop rfl rfl ?_
                refine g_do rfl rfl rfl ?_
                refine gr rfl (r_load (ot rfl) (v := .int .i64 z7) (lo_e (fun hf kn => ld_one ag_3 (kn.cellsAt cl24)))) ?_
                refine go_nil ?_
                refine go_sop rfl rfl ?_
                refine g_do rfl rfl rfl ?_
                refine gr rfl (r_bin (ot rfl) (ot rfl) rfl) ?_
                refine go_nil ?_
                refine go_sop rfl rfl ?_
                refine g_do rfl rfl rfl ?_
                refine gM rfl rfl ?_
                refine go_nil ?_
                rcases Bool.eq_false_or_eq_true (z18.Id == z7) with hb25 | hb25
                ·
                  replace hF := ifT hb25 hF
                  refine go_re 73 (v2 := .bool true) rfl (congrArg Value.bool hb25) ?_
                  refine go_sop rfl rfl ?_
                  refine g_do rfl rfl rfl ?_
                  refine gM rfl rfl ?_
                  refine go_nil ?_
                  refine go_sop rfl rfl ?_
                  refine g_do rfl rfl rfl ?_
                  refine gM rfl rfl ?_
                  refine go_nil ?_
                  refine go_sop rfl rfl ?_
                  refine g_do rfl rfl rfl ?_
                  obtain ⟨q26, row26, i26, cl26, rc26, sp26⟩ := ix (ik := .i64) (cap := c3_0) (E := EE) ((((f3_1.ext e4.kn).ext e5.kn).ext e7.kn).ext e18.kn) ((getI_nat _ _).trans hx18) ut_35 sz_32 rfl
                  obtain rfl := rc26
                  refine gr rfl (r_ia (ot rfl) (ot rfl) i26) ?_
                  refine go_nil ?_
                  refine go_sop rfl rfl ?_
                  refine g_do rfl rfl rfl ?_
                  refine gr rfl (r_fa (ot rfl) (fs_32_2 sp26)) ?_
                  refine go_nil ?_
                  refine go_sop rfl rfl ?_
                  refine g_do rfl rfl rfl ?_
                  refine gr rfl (r_load (ot rfl) (v := .agg #[.string z18.R.From, .string z18.R.To]) (lo_e (fun hf kn => ld_part (r := [.int .i64 z18.Id, .int .i64 z18.Rev, .string z18.R.From, .string z18.R.To]) ag_25 sz_25 (kn.cellsAt cl26) (by decide) rfl))) ?_
                  refine go_nil ?_
                  refine go_sop rfl rfl ?_
                  refine g_do rfl rfl rfl ?_
                  refine gM rfl rfl ?_
                  refine go_nil ?_
                  refine go_sop rfl rfl ?_
                  refine g_do rfl rfl rfl ?_
                  replace hF := obind hF
                  obtain ⟨x27, hx27, hF⟩ := hF
                  refine g_callp (v := .bool x27) EE_fr rfl of (os1 (ot rfl) (os1 (ot rfl) os0)) hb_20 (fun _ => rfl) (fun hf kn w => by exact s_ref04_In w z18.R p1  hx27) ?_
                  refine go_nil ?_
                  refine go_sop rfl rfl ?_
                  refine g_do rfl rfl rfl ?_
                  refine gr rfl (r_pkT (ot rfl) (ot rfl)) ?_
                  refine go_nil ?_
                  refine go_sop rfl rfl ?_
                  refine g_do rfl rfl rfl ?_
                  refine gM rfl rfl ?_
                  refine go_nil ?_
                  rcases Bool.eq_false_or_eq_true x27 with hb28 | hb28
                  ·
                    replace hF := ifT hb28 hF
                    refine go_re 82 (v2 := .bool true) rfl (congrArg Value.bool hb28) ?_
                    refine go_sop rfl rfl ?_
                    refine g_do rfl rfl rfl ?_
                    refine gM rfl rfl ?_
                    refine go_nil ?_
                    refine go_sop rfl rfl ?_
                    refine g_do rfl rfl rfl ?_
                    refine gM rfl rfl ?_
                    refine go_nil ?_
                    refine go_sop rfl rfl ?_
                    refine g_do rfl rfl rfl ?_
                    obtain ⟨q29, row29, i29, cl29, rc29, sp29⟩ := ix (ik := .i64) (cap := c3_0) (E := EE) ((((f3_1.ext e4.kn).ext e5.kn).ext e7.kn).ext e18.kn) ((getI_nat _ _).trans hx18) ut_35 sz_32 rfl
                    obtain rfl := rc29
                    refine gr rfl (r_ia (ot rfl) (ot rfl) i29) ?_
                    refine go_nil ?_
                    refine go_sop rfl rfl ?_
                    refine g_do rfl rfl rfl ?_
                    refine gr rfl (r_fa (ot rfl) (fs_32_1 sp29)) ?_
                    refine go_nil ?_
                    refine go_sop rfl rfl ?_
                    refine g_do rfl rfl rfl ?_
                    refine gr rfl (r_load (ot rfl) (v := .int .i64 z18.Rev) (lo_e (fun hf kn => ld_field (r := [.int .i64 z18.Id, .int .i64 z18.Rev, .string z18.R.From, .string z18.R.To]) ag_3 (kn.cellsAt cl29) rfl))) ?_
                    refine go_nil ?_
                    refine go_sop rfl rfl ?_
                    refine g_do rfl rfl rfl ?_
                    refine gM rfl rfl ?_
                    refine go_nil ?_
                    refine go_sop rfl rfl ?_
                    refine g_do rfl rfl rfl ?_
                    refine gr rfl (r_bin (ot rfl) (ot rfl) rfl) ?_
                    refine go_nil ?_
                    refine go_sop rfl rfl ?_
                    refine g_do rfl rfl rfl ?_
                    refine gr rfl (r_pkT (ot rfl) (ot rfl)) ?_
                    refine go_nil ?_
                    refine go_sop rfl rfl ?_
                    refine gr rfl (r_pkF (ot rfl) (ot rfl)) ?_
                    refine go_nil ?_
                    refine go_sop rfl rfl ?_
                    refine gA rfl rfl ?_
                    refine go_nil ?_
                    refine go_snil ?_
                    obtain rfl := someI hF
                    exact Goes.weak (J21 () _ (HExt.refl _) w18 trivial) (Sub.cons (Sub.cons (Sub.cons (Sub.cons (Sub.cons (Sub.cons (Sub.cons (Sub.cons (Sub.cons (Sub.cons (Sub.cons (Sub.cons (Sub.cons (Sub.cons (Sub.cons (Sub.cons (Sub.cons (Sub.cons (Sub.cons (Sub.cons (Sub.cons (Sub.nil _) rfl) rfl) rfl) rfl) rfl) rfl) rfl) rfl) rfl) rfl) rfl) rfl) rfl) rfl) rfl) rfl) rfl) rfl) rfl) rfl) rfl)
                  ·
                    replace hF := ifF hb28 hF
                    refine go_re 82 (v2 := .bool false) rfl (congrArg Value.bool hb28) ?_
                    refine go_sskip rfl (w_no rfl rfl rfl rfl rfl) ?_
                    refine g_no rfl rfl rfl rfl rfl ?_
                    refine go_nil ?_
                    refine go_sskip rfl (w_no rfl rfl rfl rfl rfl) ?_
                    refine g_no rfl rfl rfl rfl rfl ?_
                    refine go_nil ?_
                    refine go_sskip rfl (w_no rfl rfl rfl rfl rfl) ?_
                    refine g_no rfl rfl rfl rfl rfl ?_
                    refine go_nil ?_
                    refine go_sskip rfl (w_no rfl rfl rfl rfl rfl) ?_
                    refine g_no rfl rfl rfl rfl rfl ?_
                    refine go_nil ?_
                    refine go_sskip rfl (w_no rfl rfl rfl rfl rfl) ?_
                    refine g_no rfl rfl rfl rfl rfl ?_
                    refine go_nil ?_
                    refine go_sskip rfl (w_no rfl rfl rfl rfl rfl) ?_
                    refine g_no rfl rfl rfl rfl rfl ?_
                    refine go_nil ?_
                    refine go_sskip rfl (w_no rfl rfl rfl rfl rfl) ?_
                    refine g_no rfl rfl rfl rfl rfl ?_
                    refine go_nil ?_
                    refine go_sop rfl rfl ?_
                    refine g_do rfl rfl rfl ?_
                    refine gr rfl (r_pkF (ot rfl) (oc rfl)) ?_
                    refine go_nil ?_
                    refine go_sop rfl rfl ?_
                    refine gr rfl (r_pkF (ot rfl) (ot rfl)) ?_
                    refine go_nil ?_
                    refine go_sop rfl rfl ?_
                    refine gA rfl rfl ?_
                    refine go_nil ?_
                    refine go_snil ?_
                    obtain rfl := someI hF
                    exact Goes.weak (J21 () _ (HExt.refl _) w18 trivial) (Sub.cons (Sub.cons (Sub.cons (Sub.cons (Sub.cons (Sub.cons (Sub.cons (Sub.cons (Sub.cons (Sub.cons (Sub.cons (Sub.cons (Sub.cons (Sub.cons (Sub.cons (Sub.cons (Sub.cons (Sub.cons (Sub.cons (Sub.cons (Sub.cons (Sub.nil _) rfl) rfl) rfl) rfl) rfl) rfl) rfl) rfl) rfl) rfl) rfl) rfl) rfl) rfl) rfl) rfl) rfl) rfl) rfl) rfl) rfl)
                ·
                  replace hF := ifF hb25 hF
                  refine go_re 73 (v2 := .bool false) rfl (congrArg Value.bool hb25) ?_
                  refine go_sskip rfl (w_no rfl rfl rfl rfl rfl) ?_
                  refine g_no rfl rfl rfl rfl rfl ?_
                  refine go_nil ?_
                  refine go_sskip rfl (w_no rfl rfl rfl rfl rfl) ?_
                  refine g_no rfl rfl rfl rfl rfl ?_
                  refine go_nil ?_
                  refine go_sskip rfl (w_no rfl rfl rfl rfl rfl) ?_
                  refine g_no rfl rfl rfl rfl rfl ?_
                  refine go_nil ?_
                  refine go_sskip rfl (w_no rfl rfl rfl rfl rfl) ?_
                  refine g_no rfl rfl rfl rfl rfl ?_
                  refine go_nil ?_
                  refine go_sskip rfl (w_no rfl rfl rfl rfl rfl) ?_
                  refine g_no rfl rfl rfl rfl rfl ?_
                  refine go_nil ?_
                  refine go_sskip rfl (w_no rfl rfl rfl rfl rfl) ?_
                  refine g_no rfl rfl rfl rfl rfl ?_
                  refine go_nil ?_
                  refine go_sskip rfl (w_no rfl rfl rfl rfl rfl) ?_
                  refine g_no rfl rfl rfl rfl rfl ?_
                  refine go_nil ?_
                  refine go_sop rfl rfl ?_
                  refine g_do rfl rfl rfl ?_
                  refine gr rfl (r_pkF (ot rfl) (oc rfl)) ?_
                  refine go_nil ?_
                  refine go_sop rfl rfl ?_
                  refine g_do rfl rfl rfl ?_
                  refine gM rfl rfl ?_
                  refine go_nil ?_
                  refine go_sskip rfl (w_no rfl rfl rfl rfl rfl) ?_
                  refine g_no rfl rfl rfl rfl rfl ?_
                  refine go_nil ?_
                  refine go_sskip rfl (w_no rfl rfl rfl rfl rfl) ?_
                  refine g_no rfl rfl rfl rfl rfl ?_
                  refine go_nil ?_
                  refine go_sskip rfl (w_no rfl rfl rfl rfl rfl) ?_
                  refine g_no rfl rfl rfl rfl rfl ?_
                  refine go_nil ?_
                  refine go_sskip rfl (w_no rfl rfl rfl rfl rfl) ?_
                  refine g_no rfl rfl rfl rfl rfl ?_
                  refine go_nil ?_
                  refine go_sskip rfl (w_no rfl rfl rfl rfl rfl) ?_
                  refine g_no rfl rfl rfl rfl rfl ?_
                  refine go_nil ?_
                  refine go_sskip rfl (w_no rfl rfl rfl rfl rfl) ?_
                  refine g_no rfl rfl rfl rfl rfl ?_
                  refine go_nil ?_
                  refine go_sskip rfl (w_no rfl rfl rfl rfl rfl) ?_
                  refine g_no rfl rfl rfl rfl rfl ?_
                  refine go_nil ?_
                  refine go_sop rfl rfl ?_
                  refine g_do rfl rfl rfl ?_
                  refine gr rfl (r_pkF (ot rfl) (oc rfl)) ?_
                  refine go_nil ?_
                  refine go_sop rfl rfl ?_
                  refine gr rfl (r_pkF (ot rfl) (ot rfl)) ?_
                  refine go_nil ?_
                  refine go_sop rfl rfl ?_
                  refine gA rfl rfl ?_
                  refine go_nil ?_
                  refine go_snil ?_
                  obtain rfl := someI hF
                  exact Goes.weak (J21 () _ (HExt.refl _) w18 trivial) (Sub.cons (Sub.cons (Sub.cons (Sub.cons (Sub.cons (Sub.cons (Sub.cons (Sub.cons (Sub.cons (Sub.cons (Sub.cons (Sub.cons (Sub.cons (Sub.cons (Sub.cons (Sub.cons (Sub.cons (Sub.cons (Sub.cons (Sub.cons (Sub.cons (Sub.nil _) rfl) rfl) rfl) rfl) rfl) rfl) rfl) rfl) rfl) rfl) rfl) rfl) rfl) rfl) rfl) rfl) rfl) rfl) rfl) rfl) rfl)
  ·
    refine go_block ?_
    refine go_loop (α := (List Tsubidx_Sub) × Nat × Int × Heap) (fun a => a.1 = List.drop a.2.1 x3.1 ∧ HExt h4 a.2.2.2 ∧ Wf a.2.2.2 ∧ F_law11_SubidxStabs_L3 p1 p2 a.1 a.2.1 a.2.2.1 = some s5) (fun a => a.1.length) (fun a => [(1, true, .string p1), (2, true, .int .i64 p2), (6, true, .bool false), (7, true, .bool true), (9, true, .slice a3_0 x3.1.length c3_0), (10, true, .slice a4_0 x4.1.length c4_0), (11, true, .int .i64 a.2.2.1), (12, true, .int .i64 (a.2.1 : Int))]) (fun a => (List.flatten [[⟨b2_w0, .cells [.slice q4_y0_0 x4.2.l.length x4.2.l.length] 55⟩], t4_y0_0] : List Blk)) (fun a => a.2.2.2) ?_ (x3.1, 0, 0, h4) ⟨rfl, HExt.refl _, w4, hF⟩ (Sub.cons (Sub.cons (Sub.cons (Sub.cons (Sub.cons (Sub.cons (Sub.cons (Sub.cons (Sub.nil _) rfl) rfl) rfl) rfl) rfl) rfl) rfl) rfl) rfl rfl
    rintro ⟨r30, i30, y30_0, h30⟩ ⟨hr30, e30, w30, hF⟩ ih30
    rcases r30 with _ | ⟨z30, r30⟩
    ·
      have hi30 := drop_nil hr30
      rw [F_law11_SubidxStabs_L3.eq_1] at hF
      refine go_seq ?_
      refine go_seq ?_
      refine go_region ?_
      refine gM rfl rfl ?_
      refine gM rfl rfl ?_
      refine gr rfl (r_len rfl (os1 (ot rfl) os0) (fun _ _ => ln_35)) ?_
      refine gr rfl (r_bin (ot rfl) (ot rfl) rfl) ?_
      refine go_cast (.bool false) (congrArg Value.bool (decide_eq_false hi30)) ?_
      refine go_nil ?_
      refine g_cond (b := false) (ot rfl) (fun hc31 => ?_) (fun hc31 => ?_)
      · cases hc31
      refine go_exit rfl ?_
      obtain rfl := someI hF
      exact Goes.weak (J5 () _ e30 w30 trivial) (Sub.cons (Sub.cons (Sub.cons (Sub.cons (Sub.cons (Sub.cons (Sub.cons (Sub.nil _) rfl) rfl) rfl) rfl) rfl) rfl) rfl)
    ·
      obtain ⟨hi30, hx30, hr30⟩ := drop_cons hr30
      have hb30 := ((f3_1.ext e4.kn).ext e30.kn).1
      rw [F_law11_SubidxStabs_L3.eq_2] at hF
      refine go_seq ?_
      refine go_seq ?_
      refine go_region ?_
      refine gM rfl rfl ?_
      refine gM rfl rfl ?_
      refine gr rfl (r_len rfl (os1 (ot rfl) os0) (fun _ _ => ln_35)) ?_
      refine gr rfl (r_bin (ot rfl) (ot rfl) rfl) ?_
      refine go_cast (.bool true) (congrArg Value.bool (decide_eq_true (Int.ofNat_lt.mpr hi30))) ?_
      refine go_nil ?_
      refine g_cond (b := true) (ot rfl) (fun hc32 => ?_) (fun hc32 => ?_)
      rotate_left
      · cases hc32
      refine go_skip ?_
      refine go_seq ?_
      refine go_block ?_
      refine go_seq ?_
      refine go_region ?_
      refine gM rfl rfl ?_
      refine gM rfl rfl ?_
      obtain ⟨q33, row33, i33, cl33, rc33, sp33⟩ := ix (ik := .i64) (cap := c3_0) (E := EE) ((f3_1.ext e4.kn).ext e30.kn) ((getI_nat _ _).trans hx30) ut_35 sz_32 rfl
      obtain rfl := rc33
      refine gr rfl (r_ia (ot rfl) (ot rfl) i33) ?_
      refine gr rfl (r_fa (ot rfl) (fs_32_2 sp33)) ?_
      refine gr rfl (r_load (ot rfl) (v := .agg #[.string z30.R.From, .string z30.R.To]) (lo_e (fun hf kn => ld_part (r := [.int .i64 z30.Id, .int .i64 z30.Rev, .string z30.R.From, .string z30.R.To]) ag_25 sz_25 (kn.cellsAt cl33) (by decide) rfl))) ?_
      refine gM rfl rfl ?_
      replace hF := obind hF
      obtain ⟨x34, hx34, hF⟩ := hF
      refine g_callp (v := .bool x34) EE_fr rfl of (os1 (ot rfl) (os1 (ot rfl) os0)) hb_20 (fun _ => rfl) (fun hf kn w => by exact s_ref04_In w z30.R p1  hx34) ?_
      refine gM rfl rfl ?_
      replace hF := obind hF
      obtain ⟨s36, hF, hK36⟩ := hF
      refine go_joinr 8 (β := Unit) (fun s h' => True) (fun s => [(1, true, .string p1), (2, true, .int .i64 p2), (6, true, .bool false), (7, true, .bool true), (9, true, .slice a3_0 x3.1.length c3_0), (10, true, .slice a4_0 x4.1.length c4_0), (11, true, .int .i64 y30_0), (12, true, .int .i64 (i30 : Int)), (25, true, .int .i64 (i30 : Int)), (26, true, .slice a3_0 x3.1.length c3_0), (27, true, .int .i64 (x3.1.length : Int)), (28, true, .bool true), (31, true, .slice a3_0 x3.1.length c3_0), (32, true, .int .i64 (i30 : Int)), (33, true, .pointer (some q33)), (34, true, .pointer (some ⟨q33.block, q33.off + 2, q33.spot⟩)), (35, true, .agg #[.string z30.R.From, .string z30.R.To]), (36, true, .string p1), (37, true, .bool x34), (38, true, .bool s36.1), (46, true, .bool s36.2)]) (fun s => (List.flatten [[⟨b2_w0, .cells [.slice q4_y0_0 x4.2.l.length x4.2.l.length] 55⟩], t4_y0_0] : List Blk)) ?_ (fun J36 => ?_)
      ·
        rintro _ h36 e36 w36 _
        replace hF := hK36
        refine go_nil ?_
        replace hF := obind hF
        obtain ⟨s38, hF, hK38⟩ := hF
        refine go_joinc (β := Unit) (fun s h' => True) (fun s => [(1, true, .string p1), (2, true, .int .i64 p2), (6, true, .bool false), (7, true, .bool true), (9, true, .slice a3_0 x3.1.length c3_0), (10, true, .slice a4_0 x4.1.length c4_0), (11, true, .int .i64 s38), (12, true, .int .i64 (i30 : Int)), (25, true, .int .i64 (i30 : Int)), (26, true, .slice a3_0 x3.1.length c3_0), (27, true, .int .i64 (x3.1.length : Int)), (28, true, .bool true), (31, true, .slice a3_0 x3.1.length c3_0), (32, true, .int .i64 (i30 : Int)), (33, true, .pointer (some q33)), (34, true, .pointer (some ⟨q33.block, q33.off + 2, q33.spot⟩)), (35, true, .agg #[.string z30.R.From, .string z30.R.To]), (36, true, .string p1), (37, true, .bool x34), (38, true, .bool s36.1), (46, true, .bool s36.2)]) (fun s => (List.flatten [[⟨b2_w0, .cells [.slice q4_y0_0 x4.2.l.length x4.2.l.length] 55⟩], t4_y0_0] : List Blk)) ?_ (fun J38 => ?_)
        ·
          rintro _ h38 e38 w38 _
          replace hF := hK38
          refine go_endb ?_
          refine go_region ?_
          refine gM rfl rfl ?_
          refine gr rfl (r_bin (ot rfl) (oc rfl) rfl) ?_
          refine gA rfl rfl ?_
          refine go_nil ?_
          refine go_re 12 (v2 := .int .i64 ((i30 + 1 : Nat) : Int)) rfl (wrap_succ hi30 hb30) ?_
          exact Goes.weak (ih30 (r30, i30 + 1, s38, h38) ⟨hr30, (e30.trans (e36.trans e38)), w38, hF⟩ (Nat.lt_succ_self _)) (Sub.cons (Sub.cons (Sub.cons (Sub.cons (Sub.cons (Sub.cons (Sub.cons (Sub.cons (Sub.nil _) rfl) rfl) rfl) rfl) rfl) rfl) rfl) rfl)
        ·
          refine g_cond (b := s36.2) (ot rfl) (fun hc37 => ?_) (fun hc37 => ?_)
          ·
            replace hF := ifT hc37 hF
            refine go_region ?_
            refine gM rfl rfl ?_
            refine gr rfl (r_bin (ot rfl) (oc rfl) rfl) ?_
            refine gA rfl rfl ?_
            refine go_nil ?_
            obtain rfl := someI hF
            exact Goes.weak (J38 () _ (HExt.refl _) w36 trivial) (Sub.cons (Sub.cons (Sub.cons (Sub.cons (Sub.cons (Sub.cons (Sub.cons (Sub.cons (Sub.cons (Sub.cons (Sub.cons (Sub.cons (Sub.cons (Sub.cons (Sub.cons (Sub.cons (Sub.cons (Sub.cons (Sub.cons (Sub.cons (Sub.cons (Sub.nil _) rfl) rfl) rfl) rfl) rfl) rfl) rfl) rfl) rfl) rfl) rfl) rfl) rfl) rfl) rfl) rfl) rfl) rfl) rfl) rfl) rfl)
          ·
            replace hF := ifF hc37 hF
            refine go_skip ?_
            obtain rfl := someI hF
            exact Goes.weak (J38 () _ (HExt.refl _) w36 trivial) (Sub.cons (Sub.cons (Sub.cons (Sub.cons (Sub.cons (Sub.cons (Sub.cons (Sub.cons (Sub.cons (Sub.cons (Sub.cons (Sub.cons (Sub.cons (Sub.cons (Sub.cons (Sub.cons (Sub.cons (Sub.cons (Sub.cons (Sub.cons (Sub.cons (Sub.nil _) rfl) rfl) rfl) rfl) rfl) rfl) rfl) rfl) rfl) rfl) rfl) rfl) rfl) rfl) rfl) rfl) rfl) rfl) rfl) rfl) rfl)
      ·
        rcases Bool.eq_false_or_eq_true x34 with hb35 | hb35
        ·
          replace hF := ifT hb35 hF
          refine go_re 38 (v2 := .bool true) rfl (congrArg Value.bool hb35) ?_
          refine g_do rfl rfl rfl ?_
          refine gM rfl rfl ?_
          refine g_do rfl rfl rfl ?_
          refine gM rfl rfl ?_
          refine g_do rfl rfl rfl ?_
          obtain ⟨q39, row39, i39, cl39, rc39, sp39⟩ := ix (ik := .i64) (cap := c3_0) (E := EE) ((f3_1.ext e4.kn).ext e30.kn) ((getI_nat _ _).trans hx30) ut_35 sz_32 rfl
          obtain rfl := rc39
          refine gr rfl (r_ia (ot rfl) (ot rfl) i39) ?_
          refine g_do rfl rfl rfl ?_
          refine gr rfl (r_fa (ot rfl) (fs_32_1 sp39)) ?_
          refine g_do rfl rfl rfl ?_
          refine gr rfl (r_load (ot rfl) (v := .int .i64 z30.Rev) (lo_e (fun hf kn => ld_field (r := [.int .i64 z30.Id, .int .i64 z30.Rev, .string z30.R.From, .string z30.R.To]) ag_3 (kn.cellsAt cl39) rfl))) ?_
          refine g_do rfl rfl rfl ?_
          refine gM rfl rfl ?_
          refine g_do rfl rfl rfl ?_
          refine gr rfl (r_bin (ot rfl) (ot rfl) rfl) ?_
          refine gr rfl (r_pkT (ot rfl) (ot rfl)) ?_
          obtain rfl := someI hF
          exact Goes.weak (J36 () _ (HExt.refl _) w30 trivial) (Sub.cons (Sub.cons (Sub.cons (Sub.cons (Sub.cons (Sub.cons (Sub.cons (Sub.cons (Sub.cons (Sub.cons (Sub.cons (Sub.cons (Sub.cons (Sub.cons (Sub.cons (Sub.cons (Sub.cons (Sub.cons (Sub.cons (Sub.cons (Sub.cons (Sub.nil _) rfl) rfl) rfl) rfl) rfl) rfl) rfl) rfl) rfl) rfl) rfl) rfl) rfl) rfl) rfl) rfl) rfl) rfl) rfl) rfl) rfl)
        ·
          replace hF := ifF hb35 hF
          refine go_re 38 (v2 := .bool false) rfl (congrArg Value.bool hb35) ?_
          refine g_no rfl rfl rfl rfl rfl ?_
          refine g_no rfl rfl rfl rfl rfl ?_
          refine g_no rfl rfl rfl rfl rfl ?_
          refine g_no rfl rfl rfl rfl rfl ?_
          refine g_no rfl rfl rfl rfl rfl ?_
          refine g_no rfl rfl rfl rfl rfl ?_
          refine g_no rfl rfl rfl rfl rfl ?_
          refine gr rfl (r_pkF (ot rfl) (oc rfl)) ?_
          obtain rfl := someI hF
          exact Goes.weak (J36 () _ (HExt.refl _) w30 trivial) (Sub.cons (Sub.cons (Sub.cons (Sub.cons (Sub.cons (Sub.cons (Sub.cons (Sub.cons (Sub.cons (Sub.cons (Sub.cons (Sub.cons (Sub.cons (Sub.cons (Sub.cons (Sub.cons (Sub.cons (Sub.cons (Sub.cons (Sub.cons (Sub.cons (Sub.nil _) rfl) rfl) rfl) rfl) rfl) rfl) rfl) rfl) rfl) rfl) rfl) rfl) rfl) rfl) rfl) rfl) rfl) rfl) rfl) rfl) rfl)
end Go.Proofs.Ythgcmcifhhkebaa.V
