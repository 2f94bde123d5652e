/- Walks.
   No condition: these are laws of the clean machine and of this program. -/
import Derived.Test.YthgcmcifhhkebaaWe
namespace Go.Proofs.Ythgcmcifhhkebaa.V
open Go
set_option linter.unusedVariables false
set_option linter.unusedSimpArgs false
set_option maxRecDepth 100000
theorem s_law11_SubidxMore (n : Nat) {h : Heap} (hw : Wf h) (p0 : (List Timpostlaw11_Deed)) (p1 : Timpostref11_Sub) (p2 : ByteArray) {a0_0 : Option Addr} {c0_0 : Nat} (f0_0 : RL R_Timpostlaw11_Deed h a0_0 c0_0 p0) {r : Bool} (hF : F_law11_SubidxMore n p0 p1 p2 = some r) :
    Ev EE 7 [.slice a0_0 p0.length c0_0, .agg #[.int .i64 p1.Id, .int .i64 p1.Rev, .string p1.R.From, .string p1.R.To], .string p2] h (fun v _ => v = .bool r) := by
  unfold F_law11_SubidxMore at hF
  refine ev_of hw rfl at_7 rfl rfl (go_seg0 ?_)
  refine go_seq ?_
  refine go_region ?_
  refine gs_box rfl (ot rfl) rfl ?_; intro b4_1
  refine gAc rfl rfl ?_
  refine go_nil ?_
  refine go_seq ?_
  refine go_region ?_
  refine g_callp EE_fr rfl of os0 hb_9 (fun _ => rfl) (fun hf kn w => by exact known_evp rfl hf w) ?_
  refine gA rfl rfl ?_
  refine go_nil ?_
  refine go_seq ?_
  refine go_region ?_
  refine gM rfl rfl ?_
  replace hF := obind hF
  obtain ⟨x3, hx3, hF⟩ := hF
  refine gs_call EE_fr hw .nil (fun _ h => by cases h; rfl) of (os1 (ot rfl) os0) hb_19 (by exact s_law11_ran n hw p0 f0_0 hx3) ?_
  rintro v3 S3 h3 e3 w3 ⟨b3_w0, q3_w0_0, t3_w0_0, rfl, rfl, f3_0⟩
  simp only [List.cons_append, List.nil_append]
  refine gA rfl rfl ?_
  refine go_nil ?_
  refine go_seq ?_
  refine go_region ?_
  refine gM rfl rfl ?_
  refine gM rfl rfl ?_
  replace hF := obind hF
  obtain ⟨x4, hx4, hF⟩ := hF
  refine gs_call EE_fr w3 (.cons .z (.cons .z .nil)) (fun _ h => by cases h; rfl) of (os1 (ot rfl) (os1 (ot rfl) (os1 (oc rfl) os0))) hb_16 (by exact s_subidx_Index_Stab n w3 x3 p2 9 f3_0 hx4) ?_
  rintro v4 S4 h4 e4 w4 ⟨q4_y0_0, t4_y0_0, a4_0, c4_0, rfl, rfl, f4_0, f4_1⟩
  simp only [List.cons_append, List.nil_append]
  refine gA rfl rfl ?_
  refine go_nil ?_
  refine go_seq ?_
  refine go_seq ?_
  refine go_region ?_
  refine gM rfl rfl ?_
  refine gr rfl (r_load (ot rfl) (lm_w (mem_seg 2 rfl) ag_27 sz_27 rfl)) ?_
  replace hF := obind hF
  obtain ⟨x5, hx5, hF⟩ := hF
  refine g_callp (v := .agg #[.int .i64 x5.Id, .int .i64 x5.Rev, .string x5.R.From, .string x5.R.To]) EE_fr rfl of (os1 (ot rfl) os0) hb_12 (fun _ => rfl) (fun hf kn w => by exact s_law11_made w p1  hx5) ?_
  replace hF := obind hF
  obtain ⟨x6, hx6, hF⟩ := hF
  refine gs_call EE_fr w4 (.cons .z (.cons .z .nil)) (fun _ h => by cases h; rfl) of (os1 (ot rfl) (os1 (ot rfl) os0)) hb_11 (by exact s_subidx_Index_Add n w4 (⟨x4.2.l⟩ : Osubidx_Index) x5 f4_0 hx6) ?_
  rintro v6 S6 h6 e6 w6 ⟨q6_y0_0, t6_y0_0, rfl, rfl, f6_0⟩
  simp only [List.cons_append, List.nil_append]
  refine gr rfl (r_bin (ot rfl) (oc rfl) rfl) ?_
  refine go_nil ?_
  refine g_cond (b := (x6.1 != 0)) (ot rfl) (fun hc7 => ?_) (fun hc7 => ?_)
  ·
    replace hF := ifT hc7 hF
    refine go_seq ?_
    refine go_region ?_
    refine gM rfl rfl ?_
    refine gA rfl rfl ?_
    refine go_nil ?_
    obtain rfl := someI hF
    exact g_ret (rst rfl rs0) (fun h1 hf hs => ⟨(e3.trans (e4.trans (e6.trans hs.hext))), rfl⟩)
  ·
    replace hF := ifF hc7 hF
    refine go_skip ?_
    refine go_seq ?_
    refine go_region ?_
    refine gAc rfl rfl ?_
    refine go_nil ?_
    refine go_seq ?_
    refine go_region ?_
    refine gM rfl rfl ?_
    refine gM rfl rfl ?_
    replace hF := obind hF
    obtain ⟨x8, hx8, hF⟩ := hF
    refine gs_call EE_fr w6 (.cons .z (.cons .z .nil)) (fun _ h => by cases h; rfl) of (os1 (ot rfl) (os1 (ot rfl) (os1 (oc rfl) os0))) hb_16 (by exact s_subidx_Index_Stab n w6 (⟨x6.2.l⟩ : Osubidx_Index) p2 9 f6_0 hx8) ?_
    rintro v8 S8 h8 e8 w8 ⟨q8_y0_0, t8_y0_0, a8_0, c8_0, rfl, rfl, f8_0, f8_1⟩
    simp only [List.cons_append, List.nil_append]
    refine gA rfl rfl ?_
    refine go_nil ?_
    refine go_seq ?_
    refine go_region ?_
    refine gAc rfl rfl ?_
    refine go_nil ?_
    refine go_seq ?_
    refine go_seq ?_
    refine go_region ?_
    refine gAc rfl rfl ?_
    refine go_nil ?_
    replace hF := obind hF
    obtain ⟨s9, hF, hK9⟩ := hF
    refine go_joinc (β := Option Addr × List Blk) (fun s h' => AccR (RI_ .i64 3) 3 h' s.2 (.slice s.1 s9.1.length s9.1.length) s9.1) (fun s => [(2, true, .string p2), (4, true, .pointer (some ⟨b4_1, 0, none⟩)), (6, true, .bool false), (7, true, .bool true), (9, true, .slice a4_0 x4.1.length c4_0), (10, true, .slice s.1 s9.1.length s9.1.length), (12, true, .bool s9.2)]) (fun s => (List.flatten [s.2, [⟨b3_w0, .cells [.slice q8_y0_0 x8.2.l.length x8.2.l.length] 55⟩], t8_y0_0, [⟨b4_1, .cells [.int .i64 p1.Id, .int .i64 p1.Rev, .string p1.R.From, .string p1.R.To] 27⟩]] : List Blk)) ?_ (fun J9 => ?_)
    ·
      rintro ⟨a9_0, a9_1⟩ h9 e9 w9 f9_0
      replace hF := hK9
      refine go_seq ?_
      refine go_region ?_
      refine gM rfl rfl ?_
      refine gM rfl rfl ?_
      refine g_do rfl rfl rfl ?_
      refine gM rfl rfl ?_
      refine g_do rfl rfl rfl ?_
      refine gM rfl rfl ?_
      refine g_do rfl rfl rfl ?_
      replace hF := obind hF
      obtain ⟨x10, hx10, hF⟩ := hF
      refine gs_callb (v := .bool x10) EE_fr rfl .z f9_0 rfl of (os1 (ot rfl) (os1 (ot rfl) os0)) hb_15 (fun hf kn w fb10 => by exact s_ref11_Ints w s9.1 x4.1 fb10 ((((f4_1.ext e6.kn).ext e8.kn).ext e9.kn).ext kn) hx10) ?_
      refine gr rfl (r_pkT (ot rfl) (ot rfl)) ?_
      refine gM rfl rfl ?_
      replace hF := obind hF
      obtain ⟨s12, hF, hK12⟩ := hF
      refine go_joinr 12 (β := Unit) (fun s h' => True) (fun s => [(6, true, .bool false), (67, true, .bool s12)]) (fun s => (List.flatten [a9_1, [⟨b3_w0, .cells [.slice q8_y0_0 x8.2.l.length x8.2.l.length] 55⟩], t8_y0_0, [⟨b4_1, .cells [.int .i64 p1.Id, .int .i64 p1.Rev, .string p1.R.From, .string p1.R.To] 27⟩]] : List Blk)) ?_ (fun J12 => ?_)
      ·
        rintro _ h12 e12 w12 _
        replace hF := hK12
        refine gA rfl rfl ?_
        refine go_nil ?_
        obtain rfl := someI hF
        exact g_ret (rst rfl rs0) (fun h1 hf hs => ⟨(e3.trans (e4.trans (e6.trans (e8.trans (e9.trans (e12.trans hs.hext)))))), rfl⟩)
      ·
        rcases Bool.eq_false_or_eq_true x10 with hb11 | hb11
        ·
          replace hF := ifT hb11 hF
          refine go_re 55 (v2 := .bool true) rfl (congrArg Value.bool hb11) ?_
          refine g_do rfl rfl rfl ?_
          refine gM rfl rfl ?_
          refine g_do rfl rfl rfl ?_
          refine gr rfl (r_fa (ot rfl) (fa_27_2 _ _)) ?_
          refine g_do rfl rfl rfl ?_
          refine gr rfl (r_load (ot rfl) (lm_a (vs := [_, _]) (mem_seg 3 rfl) ag_25 sz_25 rfl rfl)) ?_
          refine g_do rfl rfl rfl ?_
          refine gM rfl rfl ?_
          refine g_do rfl rfl rfl ?_
          replace hF := obind hF
          obtain ⟨x13, hx13, hF⟩ := hF
          refine g_callp (v := .bool x13) EE_fr rfl of (os1 (ot rfl) (os1 (ot rfl) os0)) hb_20 (fun _ => rfl) (fun hf kn w => by exact s_ref04_In w p1.R p2  hx13) ?_
          refine g_do rfl rfl rfl ?_
          refine gM rfl rfl ?_
          refine grt rfl rfl rfl rfl (r_fa (ot rfl) (fa_27_1 _ _)) ?_
          refine grt rfl rfl rfl rfl (r_load (og rfl id) (lm_s (mem_seg 3 rfl) ag_3 rfl)) ?_
          refine grt rfl rfl rfl rfl (r_bin (og rfl id) (oc rfl) rfl) ?_
          refine g_do rfl rfl rfl ?_
          refine gr rfl (r_pickb (ot rfl) (og rfl id) (oc rfl)) ?_
          refine g_do rfl rfl rfl ?_
          refine gr rfl (r_bin (ot rfl) (ot rfl) be_4) ?_
          refine gr rfl (r_pkT (ot rfl) (ot rfl)) ?_
          obtain rfl := someI hF
          exact Goes.weak (J12 () _ (HExt.refl _) w9 trivial) (Sub.cons (Sub.cons (Sub.nil _) rfl) rfl)
        ·
          replace hF := ifF hb11 hF
          refine go_re 55 (v2 := .bool false) rfl (congrArg Value.bool hb11) ?_
          refine g_no rfl rfl rfl rfl rfl ?_
          refine g_no rfl rfl rfl rfl rfl ?_
          refine g_no rfl rfl rfl rfl rfl ?_
          refine g_no rfl rfl rfl rfl rfl ?_
          refine g_no rfl rfl rfl rfl rfl ?_
          refine g_no rfl rfl rfl rfl rfl ?_
          refine g_nu rfl rfl rfl rfl ?_
          refine g_nu rfl rfl rfl rfl ?_
          refine g_nu rfl rfl rfl rfl ?_
          refine g_no rfl rfl rfl rfl rfl ?_
          refine g_no rfl rfl rfl rfl rfl ?_
          refine gr rfl (r_pkF (ot rfl) (oc rfl)) ?_
          obtain rfl := someI hF
          exact Goes.weak (J12 () _ (HExt.refl _) w9 trivial) (Sub.cons (Sub.cons (Sub.nil _) rfl) rfl)
    ·
      refine go_block ?_
      refine go_loop (α := (List Int) × Nat × (List Int) × Bool × Option Addr × List Blk × Heap) (fun a => a.1 = List.drop a.2.1 x8.1 ∧ HExt h8 a.2.2.2.2.2.2 ∧ Wf a.2.2.2.2.2.2 ∧ F_law11_SubidxMore_L1 p1 a.1 a.2.1 a.2.2.1 a.2.2.2.1 = some s9 ∧ AccR (RI_ .i64 3) 3 a.2.2.2.2.2.2 a.2.2.2.2.2.1 (.slice a.2.2.2.2.1 a.2.2.1.length a.2.2.1.length) a.2.2.1) (fun a => a.1.length) (fun a => [(2, true, .string p2), (4, true, .pointer (some ⟨b4_1, 0, none⟩)), (6, true, .bool false), (7, true, .bool true), (9, true, .slice a4_0 x4.1.length c4_0), (10, true, .slice a.2.2.2.2.1 a.2.2.1.length a.2.2.1.length), (11, true, .slice a8_0 x8.1.length c8_0), (12, true, .bool a.2.2.2.1), (13, true, .int .i64 (a.2.1 : Int))]) (fun a => (List.flatten [a.2.2.2.2.2.1, [⟨b3_w0, .cells [.slice q8_y0_0 x8.2.l.length x8.2.l.length] 55⟩], t8_y0_0, [⟨b4_1, .cells [.int .i64 p1.Id, .int .i64 p1.Rev, .string p1.R.From, .string p1.R.To] 27⟩]] : List Blk)) (fun a => a.2.2.2.2.2.2) ?_ (x8.1, 0, ([] : List Int), false, none, [], h8) ⟨rfl, HExt.refl _, w8, hF, (AccR.nil _ _ _)⟩ (Sub.cons (Sub.cons (Sub.cons (Sub.cons (Sub.cons (Sub.cons (Sub.cons (Sub.cons (Sub.cons (Sub.nil _) rfl) rfl) rfl) rfl) rfl) rfl) rfl) rfl) rfl) rfl rfl
      rintro ⟨r14, i14, y14_0, y14_1, a14_0, a14_1, h14⟩ ⟨hr14, e14, w14, hF, f14_0⟩ ih14
      rcases r14 with _ | ⟨z14, r14⟩
      ·
        have hi14 := drop_nil hr14
        rw [F_law11_SubidxMore_L1.eq_1] at hF
        refine go_seq ?_
        refine go_seq ?_
        refine go_region ?_
        refine gM rfl rfl ?_
        refine gM rfl rfl ?_
        refine gr rfl (r_len rfl (os1 (ot rfl) os0) (fun _ _ => ln_38)) ?_
        refine gr rfl (r_bin (ot rfl) (ot rfl) rfl) ?_
        refine go_cast (.bool false) (congrArg Value.bool (decide_eq_false hi14)) ?_
        refine go_nil ?_
        refine g_cond (b := false) (ot rfl) (fun hc15 => ?_) (fun hc15 => ?_)
        · cases hc15
        refine go_exit rfl ?_
        obtain rfl := someI hF
        exact Goes.weak (J9 (a14_0, a14_1) _ e14 w14 f14_0) (Sub.cons (Sub.cons (Sub.cons (Sub.cons (Sub.cons (Sub.cons (Sub.cons (Sub.nil _) rfl) rfl) rfl) rfl) rfl) rfl) rfl)
      ·
        obtain ⟨hi14, hx14, hr14⟩ := drop_cons hr14
        have hb14 := (f8_1.ext e14.kn).1
        rw [F_law11_SubidxMore_L1.eq_2] at hF
        refine go_seq ?_
        refine go_seq ?_
        refine go_region ?_
        refine gM rfl rfl ?_
        refine gM rfl rfl ?_
        refine gr rfl (r_len rfl (os1 (ot rfl) os0) (fun _ _ => ln_38)) ?_
        refine gr rfl (r_bin (ot rfl) (ot rfl) rfl) ?_
        refine go_cast (.bool true) (congrArg Value.bool (decide_eq_true (Int.ofNat_lt.mpr hi14))) ?_
        refine go_nil ?_
        refine g_cond (b := true) (ot rfl) (fun hc16 => ?_) (fun hc16 => ?_)
        rotate_left
        · cases hc16
        refine go_skip ?_
        refine go_seq ?_
        refine go_block ?_
        refine go_seq ?_
        refine go_regionq (by kernel_rfl) ?_
        refine gM rfl rfl ?_
        refine gM rfl rfl ?_
        obtain ⟨q17, row17, i17, cl17, rc17, sp17⟩ := ix (ik := .i64) (cap := c8_0) (E := EE) (f8_1.ext e14.kn) ((getI_nat _ _).trans hx14) ut_38 sz_3 rfl
        obtain rfl := rc17
        refine gr rfl (r_ia (ot rfl) (ot rfl) i17) ?_
        refine gr rfl (r_load (ot rfl) (v := .int .i64 z14) (lo_e (fun hf kn => ld_one ag_3 (kn.cellsAt cl17)))) ?_
        refine gr rfl (r_fa (ot rfl) (fa_27_0 _ _)) ?_
        refine gr rfl (r_load (ot rfl) (lm_s (mem_seg 3 rfl) ag_3 rfl)) ?_
        refine gr rfl (r_bin (ot rfl) (ot rfl) rfl) ?_
        refine go_nil ?_
        replace hF := obind hF
        obtain ⟨s19, hF, hK19⟩ := hF
        refine go_joinc (β := Option Addr × List Blk) (fun s h' => AccR (RI_ .i64 3) 3 h' s.2 (.slice s.1 s19.1.length s19.1.length) s19.1) (fun s => [(2, true, .string p2), (4, true, .pointer (some ⟨b4_1, 0, none⟩)), (6, true, .bool false), (7, true, .bool true), (9, true, .slice a4_0 x4.1.length c4_0), (10, true, .slice s.1 s19.1.length s19.1.length), (11, true, .slice a8_0 x8.1.length c8_0), (12, true, .bool s19.2), (13, true, .int .i64 (i14 : Int)), (29, true, .int .i64 (i14 : Int)), (30, true, .slice a8_0 x8.1.length c8_0), (31, true, .int .i64 (x8.1.length : Int)), (32, true, .bool true), (35, true, .slice a8_0 x8.1.length c8_0), (36, true, .int .i64 (i14 : Int)), (37, true, .pointer (some q17)), (38, true, .int .i64 z14), (39, true, .pointer (some ⟨b4_1, 0, none⟩)), (40, true, .int .i64 p1.Id), (41, true, .bool (z14 == p1.Id))]) (fun s => (List.flatten [s.2, [⟨b3_w0, .cells [.slice q8_y0_0 x8.2.l.length x8.2.l.length] 55⟩], t8_y0_0, [⟨b4_1, .cells [.int .i64 p1.Id, .int .i64 p1.Rev, .string p1.R.From, .string p1.R.To] 27⟩]] : List Blk)) ?_ (fun J19 => ?_)
        ·
          rintro ⟨a19_0, a19_1⟩ h19 e19 w19 f19_0
          replace hF := hK19
          refine go_endb ?_
          refine go_region ?_
          refine gM rfl rfl ?_
          refine gr rfl (r_bin (ot rfl) (oc rfl) rfl) ?_
          refine gA rfl rfl ?_
          refine go_nil ?_
          refine go_re 13 (v2 := .int .i64 ((i14 + 1 : Nat) : Int)) rfl (wrap_succ hi14 hb14) ?_
          exact Goes.weak (ih14 (r14, i14 + 1, s19.1, s19.2, a19_0, a19_1, h19) ⟨hr14, (e14.trans e19), w19, hF, f19_0⟩ (Nat.lt_succ_self _)) (Sub.cons (Sub.cons (Sub.cons (Sub.cons (Sub.cons (Sub.cons (Sub.cons (Sub.cons (Sub.cons (Sub.nil _) rfl) rfl) rfl) rfl) rfl) rfl) rfl) rfl) rfl)
        ·
          refine g_cond (b := (z14 == p1.Id)) (ot rfl) (fun hc18 => ?_) (fun hc18 => ?_)
          ·
            replace hF := ifT hc18 hF
            refine go_region ?_
            refine gAc rfl rfl ?_
            refine go_nil ?_
            obtain rfl := someI hF
            exact Goes.weak (J19 (a14_0, a14_1) _ (HExt.refl _) w14 f14_0) (Sub.cons (Sub.cons (Sub.cons (Sub.cons (Sub.cons (Sub.cons (Sub.cons (Sub.cons (Sub.cons (Sub.cons (Sub.cons (Sub.cons (Sub.cons (Sub.cons (Sub.cons (Sub.cons (Sub.cons (Sub.cons (Sub.cons (Sub.cons (Sub.nil _) rfl) rfl) rfl) rfl) rfl) rfl) rfl) rfl) rfl) rfl) rfl) rfl) rfl) rfl) rfl) rfl) rfl) rfl) rfl) rfl)
          ·
            replace hF := ifF hc18 hF
            refine go_region ?_
            refine gM rfl rfl ?_
            refine gM rfl rfl ?_
            refine gM rfl rfl ?_
            obtain ⟨q20, row20, i20, cl20, rc20, sp20⟩ := ix (ik := .i64) (cap := c8_0) (E := EE) (f8_1.ext e14.kn) ((getI_nat _ _).trans hx14) ut_38 sz_3 rfl
            obtain rfl := rc20
            refine gr rfl (r_ia (ot rfl) (ot rfl) i20) ?_
            refine gr rfl (r_load (ot rfl) (v := .int .i64 z14) (lo_e (fun hf kn => ld_one ag_3 (kn.cellsAt cl20)))) ?_
            refine gs_bslice (cs := [.int .i64 z14]) rfl (op1 (ot rfl) op0) ut_38 sz_3 zo_3 rfl rfl ?_; intro b47_21
            replace hF := obind hF
            obtain ⟨x22, hx22, hF⟩ := hF
            obtain ⟨hr22, rfl⟩ := appL_some hx22
            refine gs_front (.s (.z)) ?_
            refine gs_app (rows2 := [[.int .i64 z14]]) (R := (RI_ .i64 3)) rfl (os1 (ot rfl) (os1 (ot rfl) os0)) rfl ut_38 sz_3 rfl (by decide) by_3 zo_3 rfl zs_38_38 rfl rfl (first_m (mem_seg 1 rfl) rfl (by decide)) (Rws.one (x := z14) rfl) f14_0 hr22 (fun p22_ tl22 f22_ => ?_)
            refine gA rfl rfl ?_
            refine go_nil ?_
            obtain rfl := someI hF
            refine gs_sub (.cons_cons _ (.cons _ (.cons_cons _ (.cons_cons _ (.cons_cons _ (.refl _)))))) ?_
            exact Goes.weak (J19 (p22_, tl22) _ (HExt.refl _) w14 f22_) (Sub.cons (Sub.cons (Sub.cons (Sub.cons (Sub.cons (Sub.cons (Sub.cons (Sub.cons (Sub.cons (Sub.cons (Sub.cons (Sub.cons (Sub.cons (Sub.cons (Sub.cons (Sub.cons (Sub.cons (Sub.cons (Sub.cons (Sub.cons (Sub.nil _) rfl) rfl) rfl) rfl) rfl) rfl) rfl) rfl) rfl) rfl) rfl) rfl) rfl) rfl) rfl) rfl) rfl) rfl) rfl) rfl)
end Go.Proofs.Ythgcmcifhhkebaa.V
