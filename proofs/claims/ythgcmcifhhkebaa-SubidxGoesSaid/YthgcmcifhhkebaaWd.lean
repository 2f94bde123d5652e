/- Walks.
   No condition: these are laws of the clean machine and of this program. -/
import Derived.Test.YthgcmcifhhkebaaWc
namespace Go.Proofs.Ythgcmcifhhkebaa.V
open Go
set_option linter.unusedVariables false
set_option linter.unusedSimpArgs false
set_option maxRecDepth 100000
theorem s_law11_SubidxTurns (n : Nat) {h : Heap} (hw : Wf h) (p0 : (List Timpostref11_Sub)) (p1 : ByteArray) (p2 : Int) {a0_0 : Option Addr} {c0_0 : Nat} (f0_0 : RL R_Timpostref11_Sub h a0_0 c0_0 p0) {r : Bool} (hF : F_law11_SubidxTurns n p0 p1 p2 = some r) :
    Ev EE 3 [.slice a0_0 p0.length c0_0, .string p1, .int .u8 p2] h (fun v _ => v = .bool r) := by
  unfold F_law11_SubidxTurns at hF
  refine ev_of hw rfl at_3 rfl rfl (go_seg0 ?_)
  refine go_seq ?_
  refine go_region ?_
  refine gAc rfl rfl ?_
  refine go_nil ?_
  refine go_seq ?_
  refine go_region ?_
  refine g_callp EE_fr rfl of os0 hb_9 (fun _ => rfl) (fun hf kn w => by exact known_evp rfl hf w) ?_
  refine gA rfl rfl ?_
  refine go_nil ?_
  refine go_seq ?_
  refine go_seq ?_
  refine go_region ?_
  refine gM rfl rfl ?_
  refine gr rfl (r_len rfl (os1 (ot rfl) os0) (fun _ _ => ln_22)) ?_
  refine gr rfl (r_bin (ot rfl) (oc rfl) rfl) ?_
  refine go_nil ?_
  refine g_cond (b := (decide ((p0.length : Int) > 40))) (ot rfl) (fun hc2 => ?_) (fun hc2 => ?_)
  ·
    replace hF := ifT hc2 hF
    refine go_seq ?_
    refine go_region ?_
    refine gM rfl rfl ?_
    refine gA rfl rfl ?_
    refine go_nil ?_
    obtain rfl := someI hF
    exact g_ret (rst rfl rs0) (fun h1 hf hs => ⟨hs.hext, rfl⟩)
  ·
    replace hF := ifF hc2 hF
    refine go_skip ?_
    refine go_seq ?_
    refine go_seq ?_
    refine go_region ?_
    refine gAc rfl rfl ?_
    refine go_nil ?_
    replace hF := obind hF
    obtain ⟨s3, hF, hK3⟩ := hF
    refine go_joinc (β := (Unit)) (fun s h' => s3 = .go s) (fun s => [(0, true, .slice a0_0 p0.length c0_0), (1, true, .string p1), (2, true, .int .u8 p2), (6, true, .bool false), (7, true, .bool true)]) (fun s => (List.flatten [] : List Blk)) ?_ (fun J3 => ?_)
    ·
      rintro _ h3 e3 w3 hs3
      subst hs3
      replace hF := lpgo hK3
      refine go_seq ?_
      refine go_region ?_
      replace hF := obind hF
      obtain ⟨x4, hx4, hF⟩ := hF
      refine gs_call EE_fr w3 .nil (fun _ h => by cases h; rfl) of os0 hb_10 (by exact s_subidx_New w3   hx4) ?_
      rintro v4 S4 h4 e4 w4 ⟨b4_w0, q4_w0_0, t4_w0_0, rfl, rfl, f4_0⟩
      simp only [List.cons_append, List.nil_append]
      refine gA rfl rfl ?_
      refine go_nil ?_
      refine go_seq ?_
      refine go_region ?_
      replace hF := obind hF
      obtain ⟨x5, hx5, hF⟩ := hF
      refine gs_call EE_fr w4 .nil (fun _ h => by cases h; rfl) of os0 hb_10 (by exact s_subidx_New w4   hx5) ?_
      rintro v5 S5 h5 e5 w5 ⟨b5_w0, q5_w0_0, t5_w0_0, rfl, rfl, f5_0⟩
      simp only [List.cons_append, List.nil_append]
      refine gA rfl rfl ?_
      refine go_nil ?_
      refine go_seq ?_
      refine go_seq ?_
      refine go_region ?_
      refine gAc rfl rfl ?_
      refine go_nil ?_
      replace hF := obind hF
      obtain ⟨s6, hF, hK6⟩ := hF
      refine go_joinc (β := ((List Tsubidx_node) × (List Tsubidx_node)) × Option Addr × List Blk × Option Addr × List Blk) (fun s h' => s6 = .go s.1 ∧ AccR R_Tsubidx_node 58 h' s.2.2.1 (.slice s.2.1 s.1.1.length s.1.1.length) s.1.1 ∧ AccR R_Tsubidx_node 58 h' s.2.2.2.2 (.slice s.2.2.2.1 s.1.2.length s.1.2.length) s.1.2) (fun s => [(1, true, .string p1), (6, true, .bool false), (7, true, .bool true), (10, true, .pointer (some ⟨b4_w0, 0, none⟩)), (11, true, .pointer (some ⟨b5_w0, 0, none⟩))]) (fun s => (List.flatten [[⟨b5_w0, .cells [.slice s.2.1 s.1.1.length s.1.1.length] 55⟩], s.2.2.1, [⟨b4_w0, .cells [.slice s.2.2.2.1 s.1.2.length s.1.2.length] 55⟩], s.2.2.2.2] : List Blk)) ?_ (fun J6 => ?_)
      ·
        rintro ⟨⟨x6_0, x6_1⟩, a6_0, a6_1, a6_2, a6_3⟩ h6 e6 w6 ⟨hs6, f6_0, f6_1⟩
        subst hs6
        replace hF := lpgo hK6
        refine go_seq ?_
        refine go_region ?_
        refine gM rfl rfl ?_
        replace hF := obind hF
        obtain ⟨x7, hx7, hF⟩ := hF
        refine gs_call EE_fr w6 (.cons (.s (.s (.z))) (.cons (.s (.s (.z))) .nil)) (fun _ h => by cases h; rfl) of (os1 (ot rfl) os0) hb_14 (by exact s_subidx_Index_All w6 (⟨x6_1⟩ : Osubidx_Index) f6_1 hx7) ?_
        rintro v7 S7 h7 e7 w7 ⟨q7_y0_0, t7_y0_0, a7_0, c7_0, rfl, rfl, f7_0, f7_1⟩
        simp only [List.cons_append, List.nil_append]
        refine gA rfl rfl ?_
        refine go_nil ?_
        refine go_seq ?_
        refine go_region ?_
        refine gM rfl rfl ?_
        replace hF := obind hF
        obtain ⟨x8, hx8, hF⟩ := hF
        refine gs_call EE_fr w7 (.cons (.s (.s (.z))) (.cons (.s (.s (.z))) .nil)) (fun _ h => by cases h; rfl) of (os1 (ot rfl) os0) hb_14 (by exact s_subidx_Index_All w7 (⟨x6_0⟩ : Osubidx_Index) (f6_0.ext e7.kn) hx8) ?_
        rintro v8 S8 h8 e8 w8 ⟨q8_y0_0, t8_y0_0, a8_0, c8_0, rfl, rfl, f8_0, f8_1⟩
        simp only [List.cons_append, List.nil_append]
        refine gA rfl rfl ?_
        refine go_nil ?_
        refine go_seq ?_
        refine go_seq ?_
        refine go_region ?_
        refine gM rfl rfl ?_
        refine gr rfl (r_len rfl (os1 (ot rfl) os0) (fun _ _ => ln_35)) ?_
        refine gM rfl rfl ?_
        refine gr rfl (r_len rfl (os1 (ot rfl) os0) (fun _ _ => ln_35)) ?_
        refine gr rfl (r_bin (ot rfl) (ot rfl) rfl) ?_
        refine go_nil ?_
        refine g_cond (b := ((x7.1.length : Int) != (x8.1.length : Int))) (ot rfl) (fun hc9 => ?_) (fun hc9 => ?_)
        ·
          replace hF := ifT hc9 hF
          refine go_seq ?_
          refine go_region ?_
          refine gAc rfl rfl ?_
          refine go_nil ?_
          obtain rfl := someI hF
          exact g_ret (rst rfl rs0) (fun h1 hf hs => ⟨(e3.trans (e4.trans (e5.trans (e6.trans (e7.trans (e8.trans hs.hext)))))), rfl⟩)
        ·
          replace hF := ifF hc9 hF
          refine go_skip ?_
          refine go_seq ?_
          refine go_seq ?_
          refine go_region ?_
          refine gAc rfl rfl ?_
          refine go_nil ?_
          replace hF := obind hF
          obtain ⟨s10, hF, hK10⟩ := hF
          refine go_joinc (β := (Unit)) (fun s h' => s10 = .go s) (fun s => [(1, true, .string p1), (6, true, .bool false), (7, true, .bool true), (10, true, .pointer (some ⟨b4_w0, 0, none⟩)), (11, true, .pointer (some ⟨b5_w0, 0, none⟩))]) (fun s => (List.flatten [[⟨b5_w0, .cells [.slice q8_y0_0 x8.2.l.length x8.2.l.length] 55⟩], t8_y0_0, [⟨b4_w0, .cells [.slice q7_y0_0 x7.2.l.length x7.2.l.length] 55⟩], t7_y0_0] : List Blk)) ?_ (fun J10 => ?_)
          ·
            rintro _ h10 e10 w10 hs10
            subst hs10
            replace hF := lpgo hK10
            refine go_seq ?_
            refine go_region ?_
            refine gM rfl rfl ?_
            refine gM rfl rfl ?_
            refine g_do rfl rfl rfl ?_
            refine gM rfl rfl ?_
            refine g_do rfl rfl rfl ?_
            refine gM rfl rfl ?_
            refine g_do rfl rfl rfl ?_
            replace hF := obind hF
            obtain ⟨x11, hx11, hF⟩ := hF
            refine gs_call EE_fr w10 (.cons (.s (.s (.z))) (.cons (.s (.s (.z))) .nil)) (fun _ h => by cases h; rfl) of (os1 (ot rfl) (os1 (ot rfl) (os1 (oc rfl) os0))) hb_16 (by exact s_subidx_Index_Stab n w10 (⟨x7.2.l⟩ : Osubidx_Index) p1 5 ((f7_0.ext e8.kn).ext e10.kn) hx11) ?_
            rintro v11 S11 h11 e11 w11 ⟨q11_y0_0, t11_y0_0, a11_0, c11_0, rfl, rfl, f11_0, f11_1⟩
            simp only [List.cons_append, List.nil_append]
            refine g_do rfl rfl rfl ?_
            refine gM rfl rfl ?_
            refine g_do rfl rfl rfl ?_
            refine gM rfl rfl ?_
            refine g_do rfl rfl rfl ?_
            replace hF := obind hF
            obtain ⟨x12, hx12, hF⟩ := hF
            refine gs_call EE_fr w11 (.cons (.s (.s (.z))) (.cons (.s (.s (.z))) .nil)) (fun _ h => by cases h; rfl) of (os1 (ot rfl) (os1 (ot rfl) (os1 (oc rfl) os0))) hb_16 (by exact s_subidx_Index_Stab n w11 (⟨x8.2.l⟩ : Osubidx_Index) p1 5 ((f8_0.ext e10.kn).ext e11.kn) hx12) ?_
            rintro v12 S12 h12 e12 w12 ⟨q12_y0_0, t12_y0_0, a12_0, c12_0, rfl, rfl, f12_0, f12_1⟩
            simp only [List.cons_append, List.nil_append]
            refine g_do rfl rfl rfl ?_
            replace hF := obind hF
            obtain ⟨x13, hx13, hF⟩ := hF
            refine g_callp (v := .bool x13) EE_fr rfl of (os1 (ot rfl) (os1 (ot rfl) os0)) hb_15 (fun _ => rfl) (fun hf kn w => by exact s_ref11_Ints w x11.1 x12.1 ((f11_1.ext e12.kn).ext kn) (f12_1.ext kn) hx13) ?_
            refine gr rfl (r_pkT (ot rfl) (ot rfl)) ?_
            refine gA rfl rfl ?_
            refine go_nil ?_
            obtain rfl := someI hF
            exact g_ret (rst rfl rs0) (fun h1 hf hs => ⟨(e3.trans (e4.trans (e5.trans (e6.trans (e7.trans (e8.trans (e10.trans (e11.trans (e12.trans hs.hext))))))))), rfl⟩)
          ·
            refine go_block ?_
            refine go_loop (α := (List Tsubidx_Sub) × Nat × Heap) (fun a => a.1 = List.drop a.2.1 x7.1 ∧ HExt h8 a.2.2 ∧ Wf a.2.2 ∧ F_law11_SubidxTurns_L1 x8 a.1 a.2.1 = some s10) (fun a => a.1.length) (fun a => [(1, true, .string p1), (6, true, .bool false), (7, true, .bool true), (10, true, .pointer (some ⟨b4_w0, 0, none⟩)), (11, true, .pointer (some ⟨b5_w0, 0, none⟩)), (14, true, .slice a7_0 x7.1.length c7_0), (15, true, .slice a8_0 x8.1.length c8_0), (16, true, .int .i64 (a.2.1 : Int))]) (fun a => (List.flatten [[⟨b5_w0, .cells [.slice q8_y0_0 x8.2.l.length x8.2.l.length] 55⟩], t8_y0_0, [⟨b4_w0, .cells [.slice q7_y0_0 x7.2.l.length x7.2.l.length] 55⟩], t7_y0_0] : List Blk)) (fun a => a.2.2) ?_ (x7.1, 0, h8) ⟨rfl, HExt.refl _, w8, hF⟩ (Sub.cons (Sub.cons (Sub.cons (Sub.cons (Sub.cons (Sub.cons (Sub.cons (Sub.cons (Sub.nil _) rfl) rfl) rfl) rfl) rfl) rfl) rfl) rfl) rfl rfl
            rintro ⟨r14, i14, h14⟩ ⟨hr14, e14, w14, hF⟩ ih14
            rcases r14 with _ | ⟨z14, r14⟩
            ·
              have hi14 := drop_nil hr14
              rw [F_law11_SubidxTurns_L1.eq_1] at hF
              refine go_seq ?_
              refine go_seq ?_
              refine go_region ?_
              refine gM rfl rfl ?_
              refine gM rfl rfl ?_
              refine gr rfl (r_len rfl (os1 (ot rfl) os0) (fun _ _ => ln_35)) ?_
              refine gr rfl (r_bin (ot rfl) (ot rfl) rfl) ?_
              refine go_cast (.bool false) (congrArg Value.bool (decide_eq_false hi14)) ?_
              refine go_nil ?_
              refine g_cond (b := false) (ot rfl) (fun hc15 => ?_) (fun hc15 => ?_)
              · cases hc15
              refine go_exit rfl ?_
              obtain rfl := someI hF
              exact Goes.weak (J10 () _ e14 w14 rfl) (Sub.cons (Sub.cons (Sub.cons (Sub.cons (Sub.cons (Sub.nil _) rfl) rfl) rfl) rfl) rfl)
            ·
              obtain ⟨hi14, hx14, hr14⟩ := drop_cons hr14
              have hb14 := ((f7_1.ext e8.kn).ext e14.kn).1
              rw [F_law11_SubidxTurns_L1.eq_2] at hF
              refine go_seq ?_
              refine go_seq ?_
              refine go_region ?_
              refine gM rfl rfl ?_
              refine gM rfl rfl ?_
              refine gr rfl (r_len rfl (os1 (ot rfl) os0) (fun _ _ => ln_35)) ?_
              refine gr rfl (r_bin (ot rfl) (ot rfl) rfl) ?_
              refine go_cast (.bool true) (congrArg Value.bool (decide_eq_true (Int.ofNat_lt.mpr hi14))) ?_
              refine go_nil ?_
              refine g_cond (b := true) (ot rfl) (fun hc16 => ?_) (fun hc16 => ?_)
              rotate_left
              · cases hc16
              refine go_skip ?_
              refine go_seq ?_
              refine go_block ?_
              refine go_seq ?_
              refine go_regionq (by kernel_rfl) ?_
              refine gM rfl rfl ?_
              refine gM rfl rfl ?_
              obtain ⟨q17, row17, i17, cl17, rc17, sp17⟩ := ix (ik := .i64) (cap := c7_0) (E := EE) ((f7_1.ext e8.kn).ext e14.kn) ((getI_nat _ _).trans hx14) ut_35 sz_32 rfl
              obtain rfl := rc17
              refine gr rfl (r_ia (ot rfl) (ot rfl) i17) ?_
              refine gr rfl (r_load (ot rfl) (v := .agg #[.int .i64 z14.Id, .int .i64 z14.Rev, .string z14.R.From, .string z14.R.To]) (lo_e (fun hf kn => ld_of (r := [.int .i64 z14.Id, .int .i64 z14.Rev, .string z14.R.From, .string z14.R.To]) ag_32 sz_32 (kn.cellsAt cl17)))) ?_
              refine gM rfl rfl ?_
              refine gM rfl rfl ?_
              replace hF := obind hF
              obtain ⟨x18, hx18, hF⟩ := hF
              obtain ⟨q18, row18, i18, cl18, rc18, sp18⟩ := ix (ik := .i64) (cap := c8_0) (E := EE) (f8_1.ext e14.kn) hx18 ut_35 sz_32 rfl
              obtain rfl := rc18
              refine gr rfl (r_ia (ot rfl) (ot rfl) i18) ?_
              refine gr rfl (r_load (ot rfl) (v := .agg #[.int .i64 x18.Id, .int .i64 x18.Rev, .string x18.R.From, .string x18.R.To]) (lo_e (fun hf kn => ld_of (r := [.int .i64 x18.Id, .int .i64 x18.Rev, .string x18.R.From, .string x18.R.To]) ag_32 sz_32 (kn.cellsAt cl18)))) ?_
              refine gr rfl (r_bin (ot rfl) (ot rfl) bn_32) ?_
              refine go_nil ?_
              refine g_cond (b := (!(eq_Tsubidx_Sub z14 x18))) (ot rfl) (fun hc19 => ?_) (fun hc19 => ?_)
              ·
                replace hF := ifT hc19 hF
                refine go_seq ?_
                refine go_region ?_
                refine gAc rfl rfl ?_
                refine go_nil ?_
                obtain rfl := someI hF
                obtain rfl := someI hK10
                exact g_ret (rst rfl rs0) (fun h1 hf hs => ⟨(e3.trans (e4.trans (e5.trans (e6.trans (e7.trans (e8.trans (e14.trans hs.hext))))))), rfl⟩)
              ·
                replace hF := ifF hc19 hF
                refine go_skip ?_
                refine go_endb ?_
                refine go_region ?_
                refine gM rfl rfl ?_
                refine gr rfl (r_bin (ot rfl) (oc rfl) rfl) ?_
                refine gA rfl rfl ?_
                refine go_nil ?_
                refine go_re 16 (v2 := .int .i64 ((i14 + 1 : Nat) : Int)) rfl (wrap_succ hi14 hb14) ?_
                exact Goes.weak (ih14 (r14, i14 + 1, h14) ⟨hr14, e14, w14, hF⟩ (Nat.lt_succ_self _)) (Sub.cons (Sub.cons (Sub.cons (Sub.cons (Sub.cons (Sub.cons (Sub.cons (Sub.cons (Sub.nil _) rfl) rfl) rfl) rfl) rfl) rfl) rfl) rfl)
      ·
        refine go_block ?_
        refine go_loop (α := (List Timpostref11_Sub) × Nat × (List Tsubidx_node) × (List Tsubidx_node) × Option Addr × List Blk × Option Addr × List Blk × Heap) (fun a => a.1 = List.drop a.2.1 p0 ∧ HExt h5 a.2.2.2.2.2.2.2.2 ∧ Wf a.2.2.2.2.2.2.2.2 ∧ F_law11_SubidxTurns_L2 n p0 p2 a.1 a.2.1 a.2.2.1 a.2.2.2.1 = some s6 ∧ AccR R_Tsubidx_node 58 a.2.2.2.2.2.2.2.2 a.2.2.2.2.2.1 (.slice a.2.2.2.2.1 a.2.2.1.length a.2.2.1.length) a.2.2.1 ∧ AccR R_Tsubidx_node 58 a.2.2.2.2.2.2.2.2 a.2.2.2.2.2.2.2.1 (.slice a.2.2.2.2.2.2.1 a.2.2.2.1.length a.2.2.2.1.length) a.2.2.2.1) (fun a => a.1.length) (fun a => [(0, true, .slice a0_0 p0.length c0_0), (1, true, .string p1), (2, true, .int .u8 p2), (6, true, .bool false), (7, true, .bool true), (10, true, .pointer (some ⟨b4_w0, 0, none⟩)), (11, true, .pointer (some ⟨b5_w0, 0, none⟩)), (12, true, .int .i64 (a.2.1 : Int))]) (fun a => (List.flatten [[⟨b5_w0, .cells [.slice a.2.2.2.2.1 a.2.2.1.length a.2.2.1.length] 55⟩], a.2.2.2.2.2.1, [⟨b4_w0, .cells [.slice a.2.2.2.2.2.2.1 a.2.2.2.1.length a.2.2.2.1.length] 55⟩], a.2.2.2.2.2.2.2.1] : List Blk)) (fun a => a.2.2.2.2.2.2.2.2) ?_ (p0, 0, x5.l, x4.l, q5_w0_0, t5_w0_0, q4_w0_0, t4_w0_0, h5) ⟨rfl, HExt.refl _, w5, hF, f5_0, (f4_0.ext e5.kn)⟩ (Sub.cons (Sub.cons (Sub.cons (Sub.cons (Sub.cons (Sub.cons (Sub.cons (Sub.cons (Sub.nil _) rfl) rfl) rfl) rfl) rfl) rfl) rfl) rfl) rfl rfl
        rintro ⟨r20, i20, y20_0, y20_1, a20_0, a20_1, a20_2, a20_3, h20⟩ ⟨hr20, e20, w20, hF, f20_0, f20_1⟩ ih20
        rcases r20 with _ | ⟨z20, r20⟩
        ·
          have hi20 := drop_nil hr20
          rw [F_law11_SubidxTurns_L2.eq_1] at hF
          refine go_seq ?_
          refine go_seq ?_
          refine go_region ?_
          refine gM rfl rfl ?_
          refine gM rfl rfl ?_
          refine gr rfl (r_len rfl (os1 (ot rfl) os0) (fun _ _ => ln_22)) ?_
          refine gr rfl (r_bin (ot rfl) (ot rfl) rfl) ?_
          refine go_cast (.bool false) (congrArg Value.bool (decide_eq_false hi20)) ?_
          refine go_nil ?_
          refine g_cond (b := false) (ot rfl) (fun hc21 => ?_) (fun hc21 => ?_)
          · cases hc21
          refine go_exit rfl ?_
          obtain rfl := someI hF
          exact Goes.weak (J6 ((y20_0, y20_1), a20_0, a20_1, a20_2, a20_3) _ e20 w20 ⟨rfl, f20_0, f20_1⟩) (Sub.cons (Sub.cons (Sub.cons (Sub.cons (Sub.cons (Sub.nil _) rfl) rfl) rfl) rfl) rfl)
        ·
          obtain ⟨hi20, hx20, hr20⟩ := drop_cons hr20
          have hb20 := ((((f0_0.ext e3.kn).ext e4.kn).ext e5.kn).ext e20.kn).1
          rw [F_law11_SubidxTurns_L2.eq_2] at hF
          refine go_seq ?_
          refine go_seq ?_
          refine go_region ?_
          refine gM rfl rfl ?_
          refine gM rfl rfl ?_
          refine gr rfl (r_len rfl (os1 (ot rfl) os0) (fun _ _ => ln_22)) ?_
          refine gr rfl (r_bin (ot rfl) (ot rfl) rfl) ?_
          refine go_cast (.bool true) (congrArg Value.bool (decide_eq_true (Int.ofNat_lt.mpr hi20))) ?_
          refine go_nil ?_
          refine g_cond (b := true) (ot rfl) (fun hc22 => ?_) (fun hc22 => ?_)
          rotate_left
          · cases hc22
          refine go_skip ?_
          refine go_seq ?_
          refine go_block ?_
          refine go_seq ?_
          refine go_region ?_
          refine gM rfl rfl ?_
          refine gM rfl rfl ?_
          refine gM rfl rfl ?_
          obtain ⟨q23, row23, i23, cl23, rc23, sp23⟩ := ix (ik := .i64) (cap := c0_0) (E := EE) ((((f0_0.ext e3.kn).ext e4.kn).ext e5.kn).ext e20.kn) ((getI_nat _ _).trans hx20) ut_22 sz_27 rfl
          obtain rfl := rc23
          refine gr rfl (r_ia (ot rfl) (ot rfl) i23) ?_
          refine gr rfl (r_load (ot rfl) (v := .agg #[.int .i64 z20.Id, .int .i64 z20.Rev, .string z20.R.From, .string z20.R.To]) (lo_e (fun hf kn => ld_of (r := [.int .i64 z20.Id, .int .i64 z20.Rev, .string z20.R.From, .string z20.R.To]) ag_27 sz_27 (kn.cellsAt cl23)))) ?_
          replace hF := obind hF
          obtain ⟨x24, hx24, hF⟩ := hF
          refine g_callp (v := .agg #[.int .i64 x24.Id, .int .i64 x24.Rev, .string x24.R.From, .string x24.R.To]) EE_fr rfl of (os1 (ot rfl) os0) hb_12 (fun _ => rfl) (fun hf kn w => by exact s_law11_made w z20  hx24) ?_
          replace hF := obind hF
          obtain ⟨x25, hx25, hF⟩ := hF
          refine gs_call EE_fr w20 (.cons (.s (.s (.z))) (.cons (.s (.s (.z))) .nil)) (fun _ h => by cases h; rfl) of (os1 (ot rfl) (os1 (ot rfl) os0)) hb_11 (by exact s_subidx_Index_Add n w20 (⟨y20_1⟩ : Osubidx_Index) x24 f20_1 hx25) ?_
          rintro v25 S25 h25 e25 w25 ⟨q25_y0_0, t25_y0_0, rfl, rfl, f25_0⟩
          simp only [List.cons_append, List.nil_append]
          refine gA rfl rfl ?_
          refine go_nil ?_
          refine go_seq ?_
          refine go_region ?_
          refine gM rfl rfl ?_
          refine gM rfl rfl ?_
          refine gM rfl rfl ?_
          refine gr rfl (r_len rfl (os1 (ot rfl) os0) (fun _ _ => ln_22)) ?_
          refine gr rfl (r_bin (ot rfl) (oc rfl) rfl) ?_
          refine gM rfl rfl ?_
          refine gM rfl rfl ?_
          refine gr rfl (r_conv (ot rfl) rfl) ?_
          refine gr rfl (r_bin (ot rfl) (ot rfl) rfl) ?_
          refine gM rfl rfl ?_
          refine gr rfl (r_len rfl (os1 (ot rfl) os0) (fun _ _ => ln_22)) ?_
          replace hF := obind hF
          obtain ⟨x26, hx26, hF⟩ := hF
          refine gr rfl (r_bin (ot rfl) (ot rfl) (remI_bin hx26)) ?_
          refine gr rfl (r_bin (ot rfl) (ot rfl) rfl) ?_
          replace hF := obind hF
          obtain ⟨x27, hx27, hF⟩ := hF
          obtain ⟨q27, row27, i27, cl27, rc27, sp27⟩ := ix (ik := .i64) (cap := c0_0) (E := EE) (((((f0_0.ext e3.kn).ext e4.kn).ext e5.kn).ext e20.kn).ext e25.kn) hx27 ut_22 sz_27 rfl
          obtain rfl := rc27
          refine gr rfl (r_ia (ot rfl) (ot rfl) i27) ?_
          refine gr rfl (r_load (ot rfl) (v := .agg #[.int .i64 x27.Id, .int .i64 x27.Rev, .string x27.R.From, .string x27.R.To]) (lo_e (fun hf kn => ld_of (r := [.int .i64 x27.Id, .int .i64 x27.Rev, .string x27.R.From, .string x27.R.To]) ag_27 sz_27 (kn.cellsAt cl27)))) ?_
          replace hF := obind hF
          obtain ⟨x28, hx28, hF⟩ := hF
          refine g_callp (v := .agg #[.int .i64 x28.Id, .int .i64 x28.Rev, .string x28.R.From, .string x28.R.To]) EE_fr rfl of (os1 (ot rfl) os0) hb_12 (fun _ => rfl) (fun hf kn w => by exact s_law11_made w x27  hx28) ?_
          replace hF := obind hF
          obtain ⟨x29, hx29, hF⟩ := hF
          refine gs_call EE_fr w25 (.cons (.s (.s (.z))) (.cons (.s (.s (.z))) .nil)) (fun _ h => by cases h; rfl) of (os1 (ot rfl) (os1 (ot rfl) os0)) hb_11 (by exact s_subidx_Index_Add n w25 (⟨y20_0⟩ : Osubidx_Index) x28 (f20_0.ext e25.kn) hx29) ?_
          rintro v29 S29 h29 e29 w29 ⟨q29_y0_0, t29_y0_0, rfl, rfl, f29_0⟩
          simp only [List.cons_append, List.nil_append]
          refine go_nil ?_
          refine go_seq ?_
          refine go_region ?_
          refine gM rfl rfl ?_
          refine gr rfl (r_bin (ot rfl) (oc rfl) rfl) ?_
          refine gM rfl rfl ?_
          refine gM rfl rfl ?_
          obtain ⟨q30, row30, i30, cl30, rc30, sp30⟩ := ix (ik := .i64) (cap := c0_0) (E := EE) ((((((f0_0.ext e3.kn).ext e4.kn).ext e5.kn).ext e20.kn).ext e25.kn).ext e29.kn) ((getI_nat _ _).trans hx20) ut_22 sz_27 rfl
          obtain rfl := rc30
          refine gr rfl (r_ia (ot rfl) (ot rfl) i30) ?_
          refine gr rfl (r_fa (ot rfl) (fs_27_2 sp30)) ?_
          refine gr rfl (r_load (ot rfl) (v := .agg #[.string z20.R.From, .string z20.R.To]) (lo_e (fun hf kn => ld_part (r := [.int .i64 z20.Id, .int .i64 z20.Rev, .string z20.R.From, .string z20.R.To]) ag_25 sz_25 (kn.cellsAt cl30) (by decide) rfl))) ?_
          replace hF := obind hF
          obtain ⟨x31, hx31, hF⟩ := hF
          refine g_callp (v := .bool x31) EE_fr rfl of (os1 (ot rfl) os0) hb_13 (fun _ => rfl) (fun hf kn w => by exact s_ref04_Empty w z20.R  hx31) ?_
          refine gr rfl (r_bin (ot rfl) (ot rfl) be_4) ?_
          refine go_nil ?_
          refine g_cond (b := ((x25.1 == 0) == x31)) (ot rfl) (fun hc32 => ?_) (fun hc32 => ?_)
          ·
            replace hF := ifT hc32 hF
            refine go_seq ?_
            refine go_region ?_
            refine gAc rfl rfl ?_
            refine go_nil ?_
            obtain rfl := someI hF
            obtain rfl := someI hK6
            exact g_ret (rst rfl rs0) (fun h1 hf hs => ⟨(e3.trans (e4.trans (e5.trans (e20.trans (e25.trans (e29.trans hs.hext)))))), rfl⟩)
          ·
            replace hF := ifF hc32 hF
            refine go_skip ?_
            refine go_endb ?_
            refine go_region ?_
            refine gM rfl rfl ?_
            refine gr rfl (r_bin (ot rfl) (oc rfl) rfl) ?_
            refine gA rfl rfl ?_
            refine go_nil ?_
            refine go_re 12 (v2 := .int .i64 ((i20 + 1 : Nat) : Int)) rfl (wrap_succ hi20 hb20) ?_
            exact Goes.weak (ih20 (r20, i20 + 1, x29.2.l, x25.2.l, q29_y0_0, t29_y0_0, q25_y0_0, t25_y0_0, h29) ⟨hr20, (e20.trans (e25.trans e29)), w29, hF, f29_0, (f25_0.ext e29.kn)⟩ (Nat.lt_succ_self _)) (Sub.cons (Sub.cons (Sub.cons (Sub.cons (Sub.cons (Sub.cons (Sub.cons (Sub.cons (Sub.nil _) rfl) rfl) rfl) rfl) rfl) rfl) rfl) rfl)
    ·
      refine go_block ?_
      refine go_loop (α := (List Timpostref11_Sub) × Nat × Heap) (fun a => a.1 = List.drop a.2.1 p0 ∧ HExt h a.2.2 ∧ Wf a.2.2 ∧ F_law11_SubidxTurns_L3 n p0 a.1 a.2.1 = some s3) (fun a => a.1.length) (fun a => [(0, true, .slice a0_0 p0.length c0_0), (1, true, .string p1), (2, true, .int .u8 p2), (6, true, .bool false), (7, true, .bool true), (8, true, .int .i64 (a.2.1 : Int))]) (fun a => (List.flatten [] : List Blk)) (fun a => a.2.2) ?_ (p0, 0, h) ⟨rfl, HExt.refl _, hw, hF⟩ (Sub.cons (Sub.cons (Sub.cons (Sub.cons (Sub.cons (Sub.cons (Sub.nil _) rfl) rfl) rfl) rfl) rfl) rfl) rfl rfl
      rintro ⟨r33, i33, h33⟩ ⟨hr33, e33, w33, hF⟩ ih33
      rcases r33 with _ | ⟨z33, r33⟩
      ·
        have hi33 := drop_nil hr33
        rw [F_law11_SubidxTurns_L3.eq_1] at hF
        refine go_seq ?_
        refine go_seq ?_
        refine go_region ?_
        refine gM rfl rfl ?_
        refine gM rfl rfl ?_
        refine gr rfl (r_len rfl (os1 (ot rfl) os0) (fun _ _ => ln_22)) ?_
        refine gr rfl (r_bin (ot rfl) (ot rfl) rfl) ?_
        refine go_cast (.bool false) (congrArg Value.bool (decide_eq_false hi33)) ?_
        refine go_nil ?_
        refine g_cond (b := false) (ot rfl) (fun hc34 => ?_) (fun hc34 => ?_)
        · cases hc34
        refine go_exit rfl ?_
        obtain rfl := someI hF
        exact Goes.weak (J3 () _ e33 w33 rfl) (Sub.cons (Sub.cons (Sub.cons (Sub.cons (Sub.cons (Sub.nil _) rfl) rfl) rfl) rfl) rfl)
      ·
        obtain ⟨hi33, hx33, hr33⟩ := drop_cons hr33
        have hb33 := (f0_0.ext e33.kn).1
        rw [F_law11_SubidxTurns_L3.eq_2] at hF
        refine go_seq ?_
        refine go_seq ?_
        refine go_region ?_
        refine gM rfl rfl ?_
        refine gM rfl rfl ?_
        refine gr rfl (r_len rfl (os1 (ot rfl) os0) (fun _ _ => ln_22)) ?_
        refine gr rfl (r_bin (ot rfl) (ot rfl) rfl) ?_
        refine go_cast (.bool true) (congrArg Value.bool (decide_eq_true (Int.ofNat_lt.mpr hi33))) ?_
        refine go_nil ?_
        refine g_cond (b := true) (ot rfl) (fun hc35 => ?_) (fun hc35 => ?_)
        rotate_left
        · cases hc35
        refine go_skip ?_
        refine go_seq ?_
        refine go_block ?_
        refine go_seq ?_
        refine go_region ?_
        refine gAc rfl rfl ?_
        refine go_nil ?_
        replace hF := obind hF
        obtain ⟨s36, hF, hK36⟩ := hF
        refine go_joinc (β := (Int × Int × Bool)) (fun s h' => s36 = .go s) (fun s => [(0, true, .slice a0_0 p0.length c0_0), (1, true, .string p1), (2, true, .int .u8 p2), (6, true, .bool false), (7, true, .bool true), (8, true, .int .i64 (i33 : Int)), (9, true, .int .i64 s.1), (22, true, .int .i64 (i33 : Int)), (23, true, .slice a0_0 p0.length c0_0), (24, true, .int .i64 (p0.length : Int)), (25, true, .bool true), (28, true, .int .i64 s.2.1), (29, true, .int .i64 (i33 : Int)), (30, true, .bool s.2.2)]) (fun s => (List.flatten [] : List Blk)) ?_ (fun J36 => ?_)
        ·
          rintro ⟨x36_0, x36_1, x36_2⟩ h36 e36 w36 hs36
          subst hs36
          replace hF := lpgo2 hK36
          refine go_endb ?_
          refine go_region ?_
          refine gM rfl rfl ?_
          refine gr rfl (r_bin (ot rfl) (oc rfl) rfl) ?_
          refine gA rfl rfl ?_
          refine go_nil ?_
          refine go_re 8 (v2 := .int .i64 ((i33 + 1 : Nat) : Int)) rfl (wrap_succ hi33 hb33) ?_
          exact Goes.weak (ih33 (r33, i33 + 1, h36) ⟨hr33, (e33.trans e36), w36, hF⟩ (Nat.lt_succ_self _)) (Sub.cons (Sub.cons (Sub.cons (Sub.cons (Sub.cons (Sub.cons (Sub.nil _) rfl) rfl) rfl) rfl) rfl) rfl)
        ·
          refine go_block ?_
          refine go_loop (α := Nat × Int × Heap) (fun a => HExt h33 a.2.2 ∧ Wf a.2.2 ∧ F_law11_SubidxTurns_L4 p0 i33 z33 a.1 a.2.1 = some s36) (fun a => a.1) (fun a => [(0, true, .slice a0_0 p0.length c0_0), (1, true, .string p1), (2, true, .int .u8 p2), (6, true, .bool false), (7, true, .bool true), (8, true, .int .i64 (i33 : Int)), (9, true, .int .i64 a.2.1), (22, true, .int .i64 (i33 : Int)), (23, true, .slice a0_0 p0.length c0_0), (24, true, .int .i64 (p0.length : Int)), (25, true, .bool true)]) (fun a => (List.flatten [] : List Blk)) (fun a => a.2.2) ?_ (n, 0, h33) ⟨HExt.refl _, w33, hF⟩ (Sub.cons (Sub.cons (Sub.cons (Sub.cons (Sub.cons (Sub.cons (Sub.cons (Sub.cons (Sub.cons (Sub.cons (Sub.cons (Sub.nil _) rfl) rfl) rfl) rfl) rfl) rfl) rfl) rfl) rfl) rfl) rfl) rfl rfl
          rintro ⟨m37, y37_0, h37⟩ ⟨e37, w37, hF⟩ ih37
          rcases m37 with _ | m37
          ·
            rw [F_law11_SubidxTurns_L4.eq_1] at hF; cases hF
          ·
            rw [F_law11_SubidxTurns_L4.eq_2] at hF
            refine go_seq ?_
            refine go_seq ?_
            refine go_region ?_
            refine gM rfl rfl ?_
            refine gM rfl rfl ?_
            refine gr rfl (r_bin (ot rfl) (ot rfl) rfl) ?_
            refine go_nil ?_
            refine g_cond (b := (decide (y37_0 < (i33 : Int)))) (ot rfl) (fun hc38 => ?_) (fun hc38 => ?_)
            ·
              replace hF := ifT hc38 hF
              refine go_skip ?_
              refine go_seq ?_
              refine go_block ?_
              refine go_seq ?_
              refine go_regionq (by kernel_rfl) ?_
              refine gM rfl rfl ?_
              refine gM rfl rfl ?_
              obtain ⟨q39, row39, i39, cl39, rc39, sp39⟩ := ix (ik := .i64) (cap := c0_0) (E := EE) ((f0_0.ext e33.kn).ext e37.kn) ((getI_nat _ _).trans hx33) ut_22 sz_27 rfl
              obtain rfl := rc39
              refine gr rfl (r_ia (ot rfl) (ot rfl) i39) ?_
              refine gr rfl (r_fa (ot rfl) (fs_27_0 sp39)) ?_
              refine gr rfl (r_load (ot rfl) (v := .int .i64 z33.Id) (lo_e (fun hf kn => ld_field (r := [.int .i64 z33.Id, .int .i64 z33.Rev, .string z33.R.From, .string z33.R.To]) ag_3 (kn.cellsAt cl39) rfl))) ?_
              refine gM rfl rfl ?_
              refine gM rfl rfl ?_
              replace hF := obind hF
              obtain ⟨x40, hx40, hF⟩ := hF
              obtain ⟨q40, row40, i40, cl40, rc40, sp40⟩ := ix (ik := .i64) (cap := c0_0) (E := EE) ((f0_0.ext e33.kn).ext e37.kn) hx40 ut_22 sz_27 rfl
              obtain rfl := rc40
              refine gr rfl (r_ia (ot rfl) (ot rfl) i40) ?_
              refine gr rfl (r_fa (ot rfl) (fs_27_0 sp40)) ?_
              refine gr rfl (r_load (ot rfl) (v := .int .i64 x40.Id) (lo_e (fun hf kn => ld_field (r := [.int .i64 x40.Id, .int .i64 x40.Rev, .string x40.R.From, .string x40.R.To]) ag_3 (kn.cellsAt cl40) rfl))) ?_
              refine gr rfl (r_bin (ot rfl) (ot rfl) rfl) ?_
              refine go_nil ?_
              refine g_cond (b := (z33.Id == x40.Id)) (ot rfl) (fun hc41 => ?_) (fun hc41 => ?_)
              ·
                replace hF := ifT hc41 hF
                refine go_seq ?_
                refine go_region ?_
                refine gM rfl rfl ?_
                refine gA rfl rfl ?_
                refine go_nil ?_
                obtain rfl := someI hF
                obtain rfl := someI hK36
                obtain rfl := someI hK3
                exact g_ret (rst rfl rs0) (fun h1 hf hs => ⟨(e33.trans (e37.trans hs.hext)), rfl⟩)
              ·
                replace hF := ifF hc41 hF
                refine go_skip ?_
                refine go_endb ?_
                refine go_region ?_
                refine gM rfl rfl ?_
                refine gr rfl (r_bin (ot rfl) (oc rfl) rfl) ?_
                refine gA rfl rfl ?_
                refine go_nil ?_
                exact Goes.weak (ih37 (m37, (IntKind.i64.wrap (y37_0 + 1)), h37) ⟨e37, w37, hF⟩ (Nat.lt_succ_self _)) (Sub.cons (Sub.cons (Sub.cons (Sub.cons (Sub.cons (Sub.cons (Sub.cons (Sub.cons (Sub.cons (Sub.cons (Sub.cons (Sub.nil _) rfl) rfl) rfl) rfl) rfl) rfl) rfl) rfl) rfl) rfl) rfl)
            ·
              replace hF := ifF hc38 hF
              refine go_exit rfl ?_
              obtain rfl := someI hF
              exact Goes.weak (J36 (y37_0, y37_0, (decide (y37_0 < (i33 : Int)))) _ e37 w37 rfl) (Sub.cons (Sub.cons (Sub.cons (Sub.cons (Sub.cons (Sub.cons (Sub.cons (Sub.cons (Sub.cons (Sub.cons (Sub.cons (Sub.cons (Sub.cons (Sub.cons (Sub.nil _) rfl) rfl) rfl) rfl) rfl) rfl) rfl) rfl) rfl) rfl) rfl) rfl) rfl) rfl)
end Go.Proofs.Ythgcmcifhhkebaa.V
